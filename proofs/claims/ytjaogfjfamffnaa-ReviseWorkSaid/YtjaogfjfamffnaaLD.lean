/- Part 4 of 7 of the proof: lemmas about the model and the program's functions, with no condition beyond those that each states. -/
import Derived.Test.YtjaogfjfamffnaaLC
import Derived.Shelf.Sort.Plain
import Derived.Shelf.Slices.In.SortNone
import Derived.Test.YtjaogfjfamffnaaProg
import Derived.Shelf.Lays
import Derived.KernelRfl
section
namespace Go.AI
variable {P:Program} {nt:Slt} {o:Oper} {st:St}
variable {Γ:Cx} {C:Code} {p:List Nat} {Q:Ex->St->Prop} {s s':St} {i:Nat} {α:Type}
theorem Jgp (k sz n:Nat) {l h m:Int} {y:Unit} (hg:Jbq n l h m=some y):Gv s (Bi (.osl k sz (0+l.toNat) (h.toNat-l.toNat)) (0≤l∧l≤h∧h≤m∧m≤(n:Int)∧sz=sz)) (.osl k sz (0+l.toNat) (h.toNat-l.toNat)) [] [] none:=by
 unfold Jbq Bm at hg
 split at hg
 ·rename_i hc
  simp only [Bool.and_eq_true,decide_eq_true_eq] at hc
  exact .of rfl ⟨hc.1.1.1,hc.1.1.2,hc.1.2,hc.2,rfl⟩
 ·cases hg
theorem Jbr {n:Nat} {i:Int} {y:Unit} (h:inB n i=some y):0≤i∧i<n:=by
 unfold inB Bm at h
 split at h
 ·rename_i hc
  simpa using hc
 ·cases h
theorem E4 (k esz lo n:Nat) {i:Int} {y:Unit} (h:inB n i=some y):Gv s (Bi (.eptr k esz (lo+i.toNat) 0) (0≤i∧i<(n:Nat)∧esz=esz)) (.eptr k esz (lo+i.toNat) 0) [] [] none:=
 .of rfl ⟨(Jbr h).1,(Jbr h).2,rfl⟩
def GU (k sz:Nat) (x:Nat×Nat):List AV:=[.osl k sz x.1 x.2]
theorem PA {xs:List (Nat×Nat)} {x:Nat×Nat} {n:Int} (k kb sz:Nat) {t:Ty} (h:idx xs n=some x) (hk:obA s.objs k=some (.narr 1 (xs.map (GU kb sz))):=by kernel_rfl) (hv:B2 (GU kb sz x) 0 t=some (.osl kb sz x.1 x.2):=by kernel_rfl) (hl:Nat.ble (0+t.size) 1=true:=by kernel_rfl) :
  Gv s (Dx t s.objs (.eptr k 1 (0+n.toNat) 0)) (.osl kb sz x.1 x.2) [] [] none:=by
 have e:xs.map (GU kb sz)=(xs.map (GU kb sz)).set n.toNat (GU kb sz x):=by
  obtain ⟨h0,h1,h2⟩:=D9 h
  apply List.ext_getElem?
  intro j
  rw [List.getElem?_set]
  split
  ·rename_i e;subst e
   split
   ·rw [List.getElem?_map,h2];rfl
   ·rename_i hl;rw [List.getElem?_eq_none (by omega)]
  ·rfl
 rw [e] at hk
 exact Ch (encN:=GU kb sz) h hk hv rfl hl
theorem Jgq {xs zs:List (Nat×Nat)} {n:Int} (k kb sz lo m:Nat) {t:Ty} (hz:put xs n (lo,m)=some zs) (hk:obA s.objs k=some (.narr 1 (xs.map (GU kb sz))):=by kernel_rfl) (hl:Nat.beq t.size 1=true:=by kernel_rfl) :
  Gv s (EF t s.objs (.eptr k 1 (0+n.toNat) 0) (.osl kb sz lo m)) .top [] [] (some (k,.narr 1 (zs.map (GU kb sz)))):=by
 unfold put at hz
 split at hz
 ·rename_i h0
  cases hz
  have hg:xs[n.toNat]? = some (xs[n.toNat]'(by omega)):=List.getElem?_eq_getElem (by omega)
  have hi:idx xs n=some (xs[n.toNat]'(by omega)):=by unfold idx;rw [if_pos h0.1,hg]
  have e:xs.map (GU kb sz)=(xs.map (GU kb sz)).set n.toNat (GU kb sz (xs[n.toNat]'(by omega))):=by
   apply List.ext_getElem?
   intro j
   rw [List.getElem?_set]
   split
   ·rename_i e;subst e
    split
    ·rw [List.getElem?_map,hg];rfl
    ·rename_i hl;rw [List.getElem?_eq_none (by omega)]
   ·rfl
  rw [e] at hk
  have hs:=Nat.eq_of_beq_eq_true hl
  have:=LQ (s:=s) (row':=GU kb sz (lo,m)) (t:=t) (off:=0) (v:=.osl kb sz lo m) hi hk rfl rfl (by rw [hs];rfl)
  rwa [← List.map_set] at this
 ·cases hz
theorem LS (e:α->List D) (k off:Nat) (t:Ty) {xs:List α} {j:Nat} {x:α} (h:idx xs (j:Int)=some x) (hk:obA s.objs k=some (.arr (e x).length (xs.map e)):=by kernel_rfl) (hv:(B2 ((e x).map .d) off t).isSome=true:=by kernel_rfl) (hl:Nat.ble (off+t.size) (e x).length=true:=by kernel_rfl) :
  Gv s (Dx t s.objs (.eptr k (e x).length j off)) (ldV (e x) off t) [] [] none:=by
 have:=CK e k off t h hk hv hl
 rwa [Nat.zero_add,Int.toNat_natCast] at this
theorem stP (e:α->List D) (k off j:Nat) (t:Ty) {xs zs:List α} {x y:α} (h:idx xs (j:Int)=some x) (hz:put xs (j:Int) y=some zs) (hk:RF Γ C p (i+1) Q ((Nh Γ (nav p C) i .top [] [] (some (k,.arr (e x).length (zs.map e))) s).getD s))
  (h1:obA s.objs k=some (.arr (e x).length (xs.map e)):=by kernel_rfl) (h2:xDs s.objs (An (stV (nav p C) i s))=some (stR (nav p C) i s,[],[]):=by kernel_rfl) (h3:(BA (stV (nav p C) i s)&&(An (stV (nav p C) i s)).all D4)=true:=by kernel_rfl) (h4:FK (e x) off (stR (nav p C) i s)=e y:=by kernel_rfl) (h5:(Nat.beq (stR (nav p C) i s).length t.size&&Nat.ble (off+t.size) (e x).length)=true:=by kernel_rfl)
  (hx:Ow Γ (nav p C) i s=EF t s.objs (.eptr k (e x).length j off) (stV (nav p C) i s):=by kernel_rfl) (hn:(Nh Γ (nav p C) i .top [] [] (some (k,.arr (e x).length (zs.map e))) s).isSome=true:=by kernel_rfl):RF Γ C p i Q s:=
 stA e k off t h hz hk h1 h2 h3 h4 h5 (by rw [Nat.zero_add,Int.toNat_natCast];exact hx) hn
section
variable {N:Nat->Prop} {H0 F0 F:Nat->Option Obj} {ρ:Nat->Option Loc} {O:List (Option Ob)} {nk:Nat}
theorem OE {h:Array Obj} (hS:Sim N H0 F0 F ρ O h) {k sz:Nat} {es es':List (List AV)} (ho:obA O k=some (.narr sz es)) (hl:es.length=es'.length)
  (hr:∀ (i:Nat) (e e':List AV),es[i]? = some e->es'[i]? = some e'->e.length=e'.length∧∀ (j:Nat) (a a':AV),e[j]? = some a->e'[j]? = some a'->KS a'=false∧∀ v,(KS a=false->Ah F ρ a v)->(a=.own 0 []->∃ ad,v=.slice ad 0 0)->Ah F ρ a' v):Sim N H0 F0 F ρ (O.set k (some (.narr sz es'))) h:=by
 have hget:∀ (i:Nat) (e':List AV),es'[i]? = some e'->∃ e,es[i]? = some e∧e.length=e'.length:=λ i e' hi=>by
  have:=Ag hi
  have hi0:es[i]? = some es[i]:=List.getElem?_eq_getElem (by omega)
  exact ⟨_,hi0,(hr i _ e' hi0 hi).1⟩
 have hgetc:∀ (i:Nat) (e':List AV) (j:Nat) (a':AV),es'[i]? = some e'->e'[j]? = some a'->∃ e a,es[i]? = some e∧e[j]? = some a∧KS a'=false∧∀ v,(KS a=false->Ah F ρ a v)->(a=.own 0 []->∃ ad,v=.slice ad 0 0)->Ah F ρ a' v:=λ i e' j a' hi hj=>by
  obtain ⟨e,h1,h2⟩:=hget i e' hi
  have:=Ag hj
  have hj0:e[j]? = some e[j]:=List.getElem?_eq_getElem (by omega)
  exact ⟨e,_,h1,hj0,(hr i e e' h1 hi).2 j _ a' hj0 hj⟩
 obtain ⟨σ,hσ⟩:=hS.inn
 refine hS.retable (by simp) (λ q L ob hq hob=>?_) ⟨σ,hσ.new,λ k' c M q L ob hM hq hob=>?_,hσ.sep,λ q L sz' es2 hq hob i e' j isz xs hi hj cs t fr v hb hv=>?_⟩
 ·by_cases e1:q=k
  ·subst e1
   rw [AN ho] at hob
   cases hob
   refine ⟨_,ho,.inr ?_⟩
   obtain ⟨p1,p2,cs,t,fr,p3,p4,p5,p6⟩:=(hS.obj q L _ hq ho).1
   refine ⟨λ e' he=>?_,by rw [← hl];exact p2,cs,t,fr,p3,p4,p5,λ i e' hi j a' ha=>?_⟩
   ·obtain ⟨i,hi⟩:=List.mem_iff_getElem?.1 he
    obtain ⟨e,h1,h2⟩:=hget i e' hi
    rw [← h2];exact p1 e (List.mem_of_getElem? h1)
   ·obtain ⟨e,a,h1,h2,_,h4⟩:=hgetc i e' j a' hi ha
    obtain ⟨v,hv,hd⟩:=p6 i e h1 j a h2
    refine ⟨v,hv,λ _=>h4 v hd λ ea=>?_⟩
    subst ea
    rcases hσ.rep q L sz es hq ho i e j 0 [] h1 h2 cs t fr v p3 hv with h5|⟨_,_,_,_,_,_,h6,_⟩
    ·exact h5.2
    ·omega
  ·rw [AG e1] at hob;exact ⟨ob,hob,.inl rfl⟩
 ·by_cases e1:q=k
  ·subst e1;exact hσ.obj k' c M q L _ hM hq ho
  ·rw [AG e1] at hob;exact hσ.obj k' c M q L ob hM hq hob
 ·by_cases e1:q=k
  ·subst e1
   rw [AN ho] at hob
   cases hob
   obtain ⟨_,_,_,_,h3,_⟩:=hgetc i e' j _ hi hj
   cases h3
  ·rw [AG e1] at hob;exact hσ.rep q L sz' es2 hq hob i e' j isz xs hi hj cs t fr v hb hv
theorem U1 {h:Array Obj} (hS:Sim N H0 F0 F ρ O h) {k sz:Nat} {es:List (List D)} (ho:obA O k=some (.arr sz es)) :
  ∃ F',FLe F F'∧Sim N H0 F0 F' ρ (O.set k none) h∧∀ lo n,lo+n≤es.length->∀ v,Ah F ρ (.osl k sz lo n) v->Bv F' (.sl ((es.drop lo).take n)) v:=by
 refine ⟨Jv F ρ h [k],E2 hS _,?_,λ lo n hn v hv=>?_⟩
 ·rw [← YC]
  exact hS.freeze [k] λ k' hk'=>by simp at hk';subst hk';exact ⟨_,ho⟩
 ·refine HM (objs:=O) (r:=⟨.sl ((es.drop lo).take n),[k],lo+n≤es.length⟩) hS (λ _ _ h=>h) (E2 hS _) (λ k' L hk' hL=>?_) ?_ hn hv
  ·exact Mt hk' hL
  ·simp [Jp,ho]
end
theorem Jgr (k kb sz:Nat) {β:Type} {x:β} {n:Int} {zs:List β} {nk:Nat} (hm:List.replicate n.toNat x=zs) (h:OB s k=some (1,List.replicate n.toNat [.nil])):As nk s ⟨s.env,s.objs.set k (some (.narr 1 ((List.replicate zs.length (0,0)).map (GU kb sz))))⟩:=by
 have ho:=LP h
 have a:=As.toN (nk:=nk) (st:=s) k 1 _ ho
 refine As.trans a (As.sem λ _ _ _ _ _ _ _ _ hI=>?_)
 obtain ⟨F,ρ,hS,hSl,hn,hdf⟩:=hI
 refine ⟨F,ρ,?_,hSl,hn,hdf⟩
 have hlen:zs.length=n.toNat:=by rw [← hm];simp
 have:=OE (es':=(List.replicate zs.length (0,0)).map (GU kb sz)) hS (AN ho) (by simp [hlen]) λ i e e' hi hi'=>by
  simp only [List.map_replicate,List.getElem?_replicate] at hi hi'
  rw [hlen] at hi'
  split at hi
  ·rename_i hl
   rw [if_pos hl] at hi'
   cases hi;cases hi'
   refine ⟨rfl,λ j a a' ha ha'=>?_⟩
   cases j with
   | zero=>
    simp only [GU,List.map_cons,List.getElem?_cons_zero,Option.some.injEq] at ha ha'
    subst ha;subst ha'
    refine ⟨rfl,λ v _ h2=>?_⟩
    obtain ⟨ad,rfl⟩:=h2 rfl
    exact .osl0 _ _ _ _
   | succ j=>simp [GU] at ha'
  ·cases hi
 simpa using this
def JeK (enc:α->List D) (l:List α):List AV:=[.d (.sl (l.map enc))]
theorem WF (kb k sz:Nat) {nk:Nat} {xs:List (Nat×Nat)} {ys:List α} {enc:α->List D} {u:Unit} (hg:ZF ys xs=some u) (hk:OB s kb=some (sz,ys.map enc)) (h:Do s k=some (1,xs.map (GU kb sz))) :
  As nk s ⟨s.env,(s.objs.set kb none).set k (some (.narr 1 ((Pz ys xs).map (JeK enc))))⟩:=by
 have ha:=LP hk
 have ho:=CU h
 have hb:∀ x∈xs,x.1+x.2≤ys.length:=by
  unfold ZF Bm at hg
  split at hg
  ·rename_i hc
   intro x hx
   simpa using List.all_eq_true.1 hc x hx
  ·cases hg
 refine As.sem λ _ _ _ _ _ _ _ _ hI=>?_
 obtain ⟨F,ρ,hS,hSl,hn,hdf⟩:=hI
 obtain ⟨F',h1,h2,h3⟩:=U1 hS ha
 have hne:k≠kb:=λ e=>by subst e;rw [ha] at ho;cases ho
 refine ⟨F',ρ,?_,hSl.mono h1 (RLe.refl _),hn,hdf.1.mono h1,hdf.2⟩
 refine OE h2 (by rw [AG hne];exact ho) (by simp [Pz]) λ i e e' hi hi'=>?_
 simp only [Pz,List.map_map,List.getElem?_map,Option.map_eq_some_iff] at hi hi'
 obtain ⟨x,hx,rfl⟩:=hi
 obtain ⟨x',hx',rfl⟩:=hi'
 rw [hx] at hx'
 cases hx'
 refine ⟨rfl,λ j a a' hj hj'=>?_⟩
 cases j with
 | zero=>
  simp only [GU,JeK,Function.comp_apply,List.getElem?_cons_zero,Option.some.injEq] at hj hj'
  subst hj;subst hj'
  refine ⟨rfl,λ v hv _=>?_⟩
  have hv:=hv rfl
  have hv0:Ah F ρ (.osl kb sz x.1 x.2) v:=by
   generalize x.2=m at hv ⊢
   cases hv with
   | osl _ _ _ _ cap L a b c d=>exact .osl _ _ _ _ cap L a b c d
   | osl0 _ _ _ a=>exact .osl0 _ _ _ _
  have:=h3 x.1 x.2 (by rw [List.length_map];exact hb x (List.mem_of_getElem? hx)) v hv0
  rw [← List.map_drop,← List.map_take] at this
  exact .d _ _ this
 | succ j=>simp [GU] at hj
theorem JeL {β:Type} {es ys:List β} {lo:Nat} (h:lo+ys.length≤es.length):(spl es lo ys).length=es.length:=by
 unfold spl;simp;omega
theorem JeM {β:Type} {es ys:List β} {lo:Nat} (h:lo+ys.length≤es.length) (i:Nat):(spl es lo ys)[i]? = if i<lo then es[i]? else if i<lo+ys.length then ys[i-lo]? else es[i]? := by
 unfold spl
 have hl:(es.take lo).length=lo:=by simp;omega
 rw [List.append_assoc]
 split
 ·rw [List.getElem?_append_left (by omega),List.getElem?_take_of_lt (by omega)]
 ·rw [List.getElem?_append_right (by omega),hl]
  split
  ·rw [List.getElem?_append_left (by omega)]
  ·rw [List.getElem?_append_right (by omega),List.getElem?_drop]
   congr 1;omega
theorem YM {β:Type} {es ys:List β} {lo:Nat} {x:β} (h:x∈spl es lo ys):x∈es∨x∈ys:=by
 unfold spl at h
 rcases List.mem_append.1 h with h|h
 ·rcases List.mem_append.1 h with h|h
  ·exact .inl (List.mem_of_mem_take h)
  ·exact .inr h
 ·exact .inl (List.mem_of_mem_drop h)
theorem JeN {β γ:Type} (f:β->γ) (es ys:List β) (lo:Nat):(spl es lo ys).map f=spl (es.map f) lo (ys.map f):=by
 unfold spl;simp [List.map_take,List.map_drop]
theorem ZG {Γ:Nat->Ty} (hΓ:J0 P Γ) {d s:Operand} {t t':TypeId} {k sz eb lo n:Nat} {ez:List D} {es ys:List (List D)} {ob:Prop} (hop:o.op=.call ⟨.builtin .copy,#[d,s],#[t,t']⟩) (hok:(Γ t).ok=true) (hkind:(Γ t).kind=.slice sz eb ez) (h1:1≤sz)
  (hd:Ak st.env d=.osl k sz lo n) (ho:obA st.objs k=some (.arr sz es)) (hnl:lo+n≤es.length) (hs:I6 st.objs (Ak st.env s)=some (ys,ob)) (hob:ob) (hys:∀ e∈ys,e.length=sz) (hle:ys.length≤n) :
  UD P nt o true st ⟨putA o.dst false true (.d (.int .i64 (ys.length:Int))) st.env,st.objs.set k (some (.arr sz (spl es lo ys)))⟩:=by
 intro N H0 F0 w0 a w _ hI hdst K Qw hK
 obtain ⟨F,ρ,hS,hSl,hn,hdf⟩:=hI
 obtain ⟨desc,hde,_,hk⟩:=(hΓ t hok).desc
 rw [hkind] at hk
 obtain ⟨elem,i,z,rfl,p1,p2,p3,p4,p5,p6,p7⟩:=hk
 have hdr:=A0 hSl d
 have hsr:=A0 hSl s
 rw [hd] at hdr
 obtain ⟨cs,hrun,hER,hcs⟩:=Fm (P:=P) h1 hS (λ _ _ h=>h) hs hob hsr hys
 obtain ⟨hl1,hf1⟩:=hrun w rfl
 generalize hxs:a.eval s=xs at hl1 hf1
 generalize hxd:a.eval d=xd at hdr
 have hfit:lo+ys.length≤es.length:=by omega
 have hcopy:∀ (base:Option Addr) (cap:Nat) (w':World),xd=.slice base n cap->(match base with|some b=>(storeCells b cs.toList).run P w=.ok () w'|none=>w'=w) ->
   (execOp a.eval o).run P w=.ok (.value (.int .i64 (ys.length:Int))) w':=by
  intro base cap w' hxd' hst
  have hmin:Nat.min ys.length n=ys.length:=Nat.min_eq_left (by omega)
  have hr:(Builtin.copy_ #[t,t'] o.type #[xd,xs]).run P w=.ok (.int .i64 (ys.length:Int)) w':=by
   rw [hxd']
   simp only [Builtin.copy_,List.getElem?_toArray,List.getElem?_cons_zero,List.getElem?_cons_succ,Sem.run_bind,run_underlying hde,Result.andThen_ok,hl1,hmin,AT w p1,p2,hf1]
   cases base with
   | none=>simp only at hst;subst hst;rfl
   | some b=>simp only [Sem.run_bind,hst,Result.andThen_ok];rfl
  simp only [execOp,hop,resolve,invoke,builtin,Sem.run_bind,Sem.run_pure,Result.andThen_ok,List.map_toArray,List.map_cons,List.map_nil,hxd,hxs,hr]
 have fin:∀ w',Sim N H0 F0 F ρ (st.objs.set k (some (.arr sz (spl es lo ys)))) w'.heap->Mu w w'->(execOp a.eval o).run P w=.ok (.value (.int .i64 (ys.length:Int))) w'->o.wp P a w K Qw:=by
  intro w' hS' hmu hr
  unfold Oper.wp
  rw [hr,Oper.upon_value]
  exact hK _ _ ⟨F,ρ,hS',hSl.putA hn hdst (.mkInt _ _),hn.put hdst,by rw [BB];exact ⟨hdf.1,hdf.2.1.trans hmu,hdf.2.2⟩⟩
 have hstay:ys=[]->Sim N H0 F0 F ρ (st.objs.set k (some (.arr sz (spl es lo ys)))) w.heap:=λ h=>by
  subst h
  refine hS.table (by simp) λ j L ob' hj hob'=>?_
  by_cases e:j=k
  ·subst e;rw [Bu,if_pos ⟨rfl,AS ho⟩] at hob';cases hob';simpa [spl] using ho
  ·rw [Bu,if_neg (λ hh=>e hh.1)] at hob';exact hob'
 cases hdr with
 | osl0 _ _ _ ad=>
  have hy:ys=[]:=List.length_eq_zero_iff.1 (by omega)
  have hcs0:cs.toList=[]:=by
   have:cs.size=0:=by rw [hcs,hy];simp
   simpa using this
  refine fin w (hstay hy) (Mu.refl w) (hcopy ad 0 w rfl ?_)
  cases ad with
  | none=>rfl
  | some b=>simp only;rw [hcs0];rfl
 | osl _ _ _ _ cap L hL hc hss hz=>
  obtain ⟨⟨g1,g2,cur,t0,fr,g3,g4,g5,g6⟩,gN,gF⟩:=hS.obj k L _ hL ho
  have hin:L.base+lo*sz+ys.length*sz≤cur.size:=by
   have:(lo+ys.length)*sz≤es.length*sz:=Nat.mul_le_mul_right _ hfit
   rw [Nat.add_mul] at this
   omega
  have hst:=BM P L.b (L.base+lo*sz) t0 fr cs.toList 0 cur w g3 (by simp [hcs];omega) (by rw [g4];exact g5) (hER.ones hcs)
  simp only [Nat.add_zero] at hst
  refine fin { w with heap:=w.heap.setIfInBounds L.b (.cells (Bz cur (L.base+lo*sz) cs.toList) t0 fr) } ?_ (Mu.set g3) (hcopy (some ⟨L.b,L.base+lo*sz,none⟩) cap _ rfl hst)
  have:=hS.rewrite (k':=k) (L':=L) (x:=.cells (Bz cur (L.base+lo*sz) cs.toList) t0 fr) (O':=st.objs.set k (some (.arr sz (spl es lo ys)))) hL ho (by rw [Ce hL];exact RLe.refl _) rfl (λ j ob' hj hob'=>by
    rw [Bu,if_neg (λ hh=>hj hh.1)] at hob';exact ⟨hob',hj⟩) (by simp) (by simpa using AS ho) (λ ob' hob'=>by
    rw [Bu,if_pos ⟨rfl,AS ho⟩] at hob'
    cases hob'
    have hps:(Bz cur (L.base+lo*sz) cs.toList).size=L.size:=by rw [Bq,g4]
    refine ⟨λ e he=>?_,by rw [JeL hfit];exact g2,_,t0,fr,by rw [CP,if_pos ⟨rfl,Ao g3⟩],hps,g5,λ i e hi j x hx=>?_⟩
    ·rcases YM he with h|h
     ·exact g1 e h
     ·exact hys e h
    ·have hjs:j<sz:=by
      have:=Ag hx
      have he:e.length=sz:=by
       rcases YM (List.mem_of_getElem? hi) with h|h
       ·exact g1 e h
       ·exact hys e h
      omega
     rw [El _ _ _ _ (by simp [hcs];omega)]
     simp only [Array.length_toList,hcs]
     rw [JeM hfit] at hi
     by_cases hlo:i<lo
     ·rw [if_pos hlo] at hi
      obtain ⟨u,hu,hdu⟩:=g6 i e hi j x hx
      have hb:(i+1)*sz≤lo*sz:=Nat.mul_le_mul_right _ hlo
      rw [Nat.add_mul,Nat.one_mul] at hb
      exact ⟨u,by rw [if_neg (by omega)];exact hu,hdu⟩
     ·rw [if_neg hlo] at hi
      have hb0:lo*sz≤i*sz:=Nat.mul_le_mul_right _ (by omega)
      by_cases hlt:i<lo+ys.length
      ·rw [if_pos hlt] at hi
       obtain ⟨u,hu,hdu⟩:=hER.2.2 (i-lo) e hi j x hx
       have hb:(i+1)*sz≤(lo+ys.length)*sz:=Nat.mul_le_mul_right _ hlt
       rw [Nat.add_mul,Nat.one_mul,Nat.add_mul] at hb
       refine ⟨u,?_,hdu⟩
       have e1:L.base+i*sz+j-(L.base+lo*sz)=0+(i-lo)*sz+j:=by
        rw [Nat.sub_mul];omega
       rw [if_pos (by omega),e1]
       simpa using hu
      ·rw [if_neg hlt] at hi
       obtain ⟨u,hu,hdu⟩:=g6 i e hi j x hx
       have hb:(lo+ys.length)*sz≤i*sz:=Nat.mul_le_mul_right _ (by omega)
       rw [Nat.add_mul] at hb
       exact ⟨u,by rw [if_neg (by omega)];exact hu,hdu⟩) (λ ob' hob'=>by
    rw [Bu,if_pos ⟨rfl,AS ho⟩] at hob'
    cases hob';rfl)
  rw [Ce hL] at this
  exact this
theorem xpP (hX:XOK P Γ) (enc:α->List D) {xs ys zs:List α} (k sz lo n:Nat) {v:AV} (h:ZE xs ys lo n=some zs) (hs:Jfv s.objs v (ys.map enc)) (hl:∀ y,(enc y).length=sz) (hk:RF Γ C p (i+1) Q ((JeI Γ (nav p C) i k sz (zs.map enc) ys.length s).getD s))
  (hv:(cpV (nav p C) i s).2=v:=by kernel_rfl) (hd:(cpV (nav p C) i s).1=.osl k sz lo n:=by kernel_rfl) (ho:obA s.objs k=some (.arr sz (xs.map enc)):=by kernel_rfl) (hn:(JeI Γ (nav p C) i k sz (zs.map enc) ys.length s).isSome=true:=by kernel_rfl):RF Γ C p i Q s:=by
 subst hv
 have hn:=BJ (d:=s) hn
 generalize (JeI Γ (nav p C) i k sz (zs.map enc) ys.length s).getD s=s' at hn hk
 unfold ZE at h
 split at h
 ·rename_i hb
  cases h
  unfold JeI at hn
  split at hn
  ·rename_i o d x t hoo hcp
   obtain ⟨h0,hn⟩:=AL hn
   simp only [Bool.and_eq_true] at h0
   obtain ⟨⟨⟨h1,h2⟩,h3⟩,h4⟩:=h0
   cases hn
   unfold cpV at hs hd
   rw [hcp] at hs hd
   simp only at hs hd
   obtain ⟨ob,e1,e2⟩:=hs
   unfold Jgo at hcp
   rw [hoo] at hcp
   simp only at hcp
   split at hcp
   ·rename_i args ts hop
    split at hcp
    ·rename_i d' x' t1 t2 ha ht
     cases hcp
     have ha:args=#[d,x]:=by rw [← Array.toArray_toList (xs:=args),ha]
     have ht:ts=#[t,t2]:=by rw [← Array.toArray_toList (xs:=ts),ht]
     subst ha;subst ht
     split at h3
     ·rename_i z eb ez hkd
      have:=Nat.eq_of_beq_eq_true h3
      subst this
      have hx:=ZG (nt:=Γ.nt) hX.ty hop h2 hkd (Nat.le_of_ble_eq_true h4) hd ho (by rw [List.length_map];exact hb.1) e1 e2 (by simp [hl]) (by simpa using hb.2)
      rw [List.length_map,← JeN] at hx
      exact LR hX hoo h1 hx hk
     ·cases h3
    ·cases hcp
   ·cases hcp
  ·cases hn
 ·cases h
section
variable {N:Nat->Prop} {H0 F0 F:Nat->Option Obj} {ρ:Nat->Option Loc} {O:List (Option Ob)} {nk:Nat}
theorem WG {h:Array Obj} {L:Loc} {k sz:Nat} {xs:List (Nat×Nat)}:BH F ρ h L (.cut k sz xs)↔BH F ρ h L (.narr 1 (xs.map (GU k sz))):=by
 constructor
 ·rintro ⟨h2,cs,t,fr,h3,h4,h5,h6⟩
  refine ⟨λ e he=>?_,by simpa using h2,cs,t,fr,h3,h4,h5,λ i e hi j a ha=>?_⟩
  ·simp only [List.mem_map] at he
   obtain ⟨_,_,rfl⟩:=he;rfl
  ·simp only [List.getElem?_map,Option.map_eq_some_iff] at hi
   obtain ⟨x,hx,rfl⟩:=hi
   cases j with
   | zero=>
    simp only [GU,List.getElem?_cons_zero,Option.some.injEq] at ha
    subst ha
    obtain ⟨v,hv,hd⟩:=h6 i x hx
    exact ⟨v,hv,λ _=>hd⟩
   | succ j=>simp [GU] at ha
 ·rintro ⟨_,h2,cs,t,fr,h3,h4,h5,h6⟩
  refine ⟨by simpa using h2,cs,t,fr,h3,h4,h5,λ i x hx=>?_⟩
  obtain ⟨v,hv,hd⟩:=h6 i (GU k sz x) (by rw [List.getElem?_map,hx];rfl) 0 _ rfl
  exact ⟨v,hv,hd rfl⟩
theorem Sim.reob {h:Array Obj} (hS:Sim N H0 F0 F ρ O h) {k:Nat} {ob ob':Ob} (ho:obA O k=some ob) (hr:∀ L,BH F ρ h L ob->BH F ρ h L ob') (hn:∀ sz es,ob'=.narr sz es->∀ (i:Nat) (e:List AV) (j isz:Nat) (xs:List (List D)),es[i]? = some e->¬ e[j]? = some (.own isz xs)):Sim N H0 F0 F ρ (O.set k (some ob')) h:=by
 obtain ⟨σ,hσ⟩:=hS.inn
 refine hS.retable (by simp) (λ q L ob1 hq hob=>?_) ⟨σ,hσ.new,λ k' c M q L ob1 hM hq hob=>?_,hσ.sep,λ q L sz' es2 hq hob i e' j isz xs hi hj cs t fr v hb hv=>?_⟩
 ·by_cases e1:q=k
  ·subst e1
   rw [AN ho] at hob
   cases hob
   exact ⟨_,ho,.inr (hr L (hS.obj q L _ hq ho).1)⟩
  ·rw [AG e1] at hob;exact ⟨ob1,hob,.inl rfl⟩
 ·by_cases e1:q=k
  ·subst e1;exact hσ.obj k' c M q L _ hM hq ho
  ·rw [AG e1] at hob;exact hσ.obj k' c M q L ob1 hM hq hob
 ·by_cases e1:q=k
  ·subst e1
   rw [AN ho] at hob
   cases hob
   exact absurd hj (hn _ _ rfl i e' j isz xs hi)
  ·rw [AG e1] at hob;exact hσ.rep q L sz' es2 hq hob i e' j isz xs hi hj cs t fr v hb hv
end
def Jbs (s:St) (k:Nat):Option (Nat×Nat×List (Nat×Nat)):=match obA s.objs k with
 | some (.cut kb sz xs)=>some (kb,sz,xs)
 | _=>none
theorem Jbt {k kb sz:Nat} {xs:List (Nat×Nat)} (h:Jbs s k=some (kb,sz,xs)):obA s.objs k=some (.cut kb sz xs):=by
 unfold Jbs at h
 split at h
 ·rename_i ho;cases h;exact ho
 ·cases h
theorem OF (k kb sz:Nat) {nk:Nat} {xs:List (Nat×Nat)} (h:Jbs s k=some (kb,sz,xs)):As nk s ⟨s.env,s.objs.set k (some (.narr 1 (xs.map (GU kb sz))))⟩:=by
 have ho:=Jbt h
 refine As.sem λ _ _ _ _ _ _ _ _ hI=>?_
 obtain ⟨F,ρ,hS,hSl,hn,hdf⟩:=hI
 refine ⟨F,ρ,hS.reob ho (λ L=>WG.1) (λ sz' es he i e j isz ys hi=>?_),hSl,hn,hdf⟩
 cases he
 simp only [List.getElem?_map,Option.map_eq_some_iff] at hi
 obtain ⟨x,hx,rfl⟩:=hi
 cases j<;>simp [GU]
theorem Nj (k kb sz:Nat) {nk:Nat} {xs:List (Nat×Nat)} (h:Do s k=some (1,xs.map (GU kb sz))):As nk s ⟨s.env,s.objs.set k (some (.cut kb sz xs))⟩:=by
 have ho:=CU h
 refine As.sem λ _ _ _ _ _ _ _ _ hI=>?_
 obtain ⟨F,ρ,hS,hSl,hn,hdf⟩:=hI
 exact ⟨F,ρ,hS.reob ho (λ L=>WG.2) (λ sz' es he=>by cases he),hSl,hn,hdf⟩
theorem Gw {xs:List α} {e:Nat×Nat} {i:Int} {x:α} (h:ixP xs e i=some x):inB e.2 i=some ():=by
 unfold ixP at h
 cases hq:inB e.2 i with
 | none=>rw [hq] at h;cases h
 | some u=>rfl
theorem E5 {xs:List α} {e:Nat×Nat} {i:Int} {x:α} (h:ixP xs e i=some x):idx xs ((e.1+i.toNat:Nat):Int)=some x:=by
 unfold ixP at h
 rw [Gw h] at h
 exact h
theorem WH {ys:List α} {xs:List (Nat×Nat)}:xs.length=(Pz ys xs).length:=by simp [Pz]
theorem lrN {β:Type} {n:Nat} {x:β}:n=(List.replicate n x).length:=by simp
theorem Ue (kb i k:Nat) {nk sz:Nat} {β:Type} {xss:List β} {encN:β->List AV} {encD:β->List D} {n:Nat} (e0:n=xss.length) (h0:(Ni s kb,(FN s kb)[i]?)=(true,some (.osl k sz 0 n))) (h:Do s k=some (sz,xss.map encN)) (hd:∀ x,(encN x).map ofN=encD x) (hN:∀ x,(encN x).all isN=true) :
  As nk s ⟨s.env,(s.objs.set k none).set kb (some (.box ((FN s kb).set i (.d (.sl (xss.map encD))))))⟩:=by
 subst e0
 exact OD kb i k h0 h hd hN
end Go.AI
end
section
namespace Go.AI
variable {P:Program} {Γ:Cx} {C:Code} {p:List Nat} {Q:Ex->St->Prop} {s s':St} {K:St->Prop} {i nk:Nat}
variable {α β ζ:Type}
def gY (c:Code) (i:Nat) (s:St):Option Bool:=match (Bl c)[i]? with
 | some o=>BL (Bl c) s.env o.guard
 | none=>none
theorem Jgs {nt:Slt} {o:Oper} {st:St} {v:AV} {O1:List (Option Ob)} {g:Bool} (h:TT P nt o true st ⟨putA o.dst false true v st.env,O1⟩):TT P nt o g st ⟨putA o.dst o.guard.isSome g v st.env,O1⟩:=by
 intro N H0 F0 w0 a w hg hI hdst rd n K Qw hK
 subst hg
 refine h N H0 F0 w0 a w rfl hI hdst rd n K Qw λ a' w' hI'=>hK a' w' ?_
 obtain ⟨F,ρ,hS,hSl,hrest⟩:=hI'
 refine ⟨F,ρ,hS,?_,hrest⟩
 cases hgs:o.guard.isSome with
 | false=>exact hSl
 | true=>
  cases hd:o.dst with
  | none=>rw [hd] at hSl;exact hSl
  | some d=>
   rw [hd] at hSl
   intro t
   have:=hSl t
   simp only [putA,cond_true,cond_false,Bt] at this ⊢
   split
   ·rename_i e;rw [if_pos e] at this;exact .gvT _ _ this
   ·rename_i e;rw [if_neg e] at this;exact this
theorem gsp (g:Bool) {x y:Option ζ} {r:ζ} (H:(if g=true then x else y)=some r) (h1:g=true->x=some r->RF Γ C p i Q s) (h2:g=false->y=some r->RF Γ C p i Q s):RF Γ C p i Q s:=by
 split at H
 ·rename_i h;exact h1 h H
 ·rename_i h;exact h2 (by simpa using h) H
def nxK (Γ:Cx) (c:Code) (i:Nat) (g:Bool) (v:AV) (s:St):Option St:=
 match (Bl c)[i]? with
 | some o=>bif BX Γ.nt o.dst&&o.guard.isSome then some ⟨putA o.dst true g v s.env,s.objs⟩ else none
 | none=>none
theorem gsk {g:Bool} (hgf:g=false) (v:AV) (hk:RF Γ C p (i+1) Q ((nxK Γ (nav p C) i g v s).getD s)) (hg:gY (nav p C) i s=some g:=by kernel_rfl) (hn:(nxK Γ (nav p C) i g v s).isSome=true:=by kernel_rfl):RF Γ C p i Q s:=by
 have hn:=BJ (d:=s) hn
 generalize (nxK Γ (nav p C) i g v s).getD s=s' at hn hk
 subst hgf
 refine ⟨?_⟩
 have hk:=hk.out
 unfold A3 at hk ⊢
 unfold nxK at hn
 split at hn
 ·rename_i o ho
  obtain ⟨h0,hn⟩:=AL hn
  simp only [Bool.and_eq_true] at h0
  cases hn
  rw [CT ho]
  show AX _ _ _ _ _ _
  unfold AX
  have hga:BL (Bl (nav p C)) s.env o.guard=some false:=by
   unfold gY at hg
   rw [ho] at hg
   exact hg
  rw [hga]
  simp only [h0.1,Bool.not_true,cond_false]
  exact ⟨(by intro h;cases h),λ _=>⟨v,[],λ _=>rfl,by rw [h0.2];simpa using hk⟩⟩
 ·cases hn
def MW:Code->Code
 | .region id ops _=>.region id ops.toList.dropLast.toArray false
 | c=>c
def Jkz:Code->Code
 | .region id ops _=>.region id ops false
 | c=>c
def Jjv (Γ:Cx) (c:Code) (x:Nat) (s0:St) (Q:Ex->St->Prop):Ex->St->Prop:=λ _ s=>JfL Γ.ty (EA c) x s0.env s.env s0.objs s.objs∧∃ F,(EA c)[(EA c).size-1]? = some F∧AX Γ false (EA c).toList F (Q .normal) s
theorem rx (x:Nat) (hs:As Γ.nt.nk s s') (hk:RF (cxX Γ (EA (nav p C)) x) (MW (nav p C)) [] 0 (Jjv Γ (nav p C) x s' Q) s') (h:(Qu (nav p C)&&R6 (nav p C))=true:=by kernel_rfl) (hb:Rr (EA (nav p C)) x=true:=by kernel_rfl):WP Γ C p Q s:=by
 refine ⟨?_⟩
 have hk:=hk.out
 generalize nav p C=c at *
 cases c with
 | region id ops d=>
  simp only [Qu,R6,Bool.true_and] at h
  subst h
  exact ⟨s',hs,.inr ⟨rfl,x,hb,hk⟩⟩
 | _=>cases h
theorem mx {c:Code} {x:Nat} {s0:St} (m:Nat) (hk:RF Γ (Jkz c) [] m Q s) (hi:Nat.ble (Bl (MW c)).length i=true:=by kernel_rfl) (hm:Nat.beq (EA c).size (m+1)=true:=by kernel_rfl) (h:Qu c=true:=by kernel_rfl)
  (h1:ldL Γ.ty (EA c) x s0.env s.env s0.objs=ldL Γ.ty (EA c) x s0.env s.env s.objs:=by kernel_rfl) (h2:(ldL Γ.ty (EA c) x s0.env s.env s0.objs).all Option.isSome=true:=by kernel_rfl):RF (cxX Γ (EA c) x) (MW c) [] i (Jjv Γ c x s0 Q) s:=by
 refine ⟨UT i hi ⟨⟨h1,h2⟩,?_⟩⟩
 have hk:=hk.out
 have hm:=Nat.eq_of_beq_eq_true hm
 cases c with
 | region id ops d=>
  simp only [EA] at hm ⊢
  have hg:=Array.getElem?_eq_getElem (show m<ops.size by omega)
  refine ⟨ops[m],by rw [show ops.size-1=m by omega];exact hg,?_⟩
  have hk:Oe Γ false ops.toList (ops.toList.drop m) (Q .normal) s:=hk
  rw [show ops.toList.drop m=[ops[m]] by
   rw [List.drop_eq_getElem_cons (by simp;omega)]
   simp
   omega] at hk
  exact hk
 | _=>cases h
theorem ax (hk:PQ Q .normal s) (h:Nat.ble (Bl (nav p C)).length i=true:=by kernel_rfl):RF Γ C p i Q s:=⟨UT i h hk.out⟩
def IB (ev:Operand->AV):Op->Option FuncId×List AV
 | .call ⟨.value (.func f),args,_⟩=>(some f,args.toList.map ev)
 | .call ⟨.value x,args,_⟩=>match ev x with
  | .clo f l=>(some f,args.toList.map ev++l)
  | _=>(none,[])
 | _=>(none,[])
theorem Th {ev ev':Operand->AV} {op:Op} (h:∀ y∈op.operands.toList,ev y=ev' y):IB ev op=IB ev' op:=by
 cases op with
 | call c=>
  obtain ⟨callee,args,ts⟩:=c
  cases callee with
  | value x=>
   have ha:args.toList.map ev=args.toList.map ev':=List.map_congr_left λ y hy=>h y (by simp [Op.operands,Call.operands];exact .inr (by simpa using hy))
   have hx:=h x (by simp [Op.operands,Call.operands])
   cases x<;>simp only [IB,ha,hx]
  | _=>rfl
 | _=>rfl
theorem ZH {nt:Slt} {o:Oper} {st:St} {f:FuncId} {xs:List AV} {nb:Nat} {r:AV} {O1:List (Option Ob)} (hgob:Hp true (o.op.operands.toList.map (Ak st.env))) (hc:IB (λ y=>unG (Ak st.env y)) o.op=(some f,xs))
  (hcall:BC P f (xs.map (MQ (AW st.objs xs))) (GO st.objs (AW st.objs xs)) nb r O1) (hnb:nb≤(AW st.objs xs).length) (hnb1:nb≤O1.length) (hord:∀ k∈AW st.objs xs,k<st.objs.length) :
  UD P nt o true st ⟨putA o.dst false true (QH (Ct (AW st.objs xs) st.objs.length nb) r) st.env,Fl st.objs (AW st.objs xs) nb O1⟩:=by
 intro N H0 F0 w0 a w _ hI hdst K Qw hK
 obtain ⟨F,ρ,hS,hSl,hn,hdf⟩:=hI
 have hk:∀ v w' F' ρ'',FLe F F'->RLe ρ ρ''->Sim N H0 F0 F' ρ'' (Fl st.objs (AW st.objs xs) nb O1) w'.heap->Ah F' ρ'' (QH (Ct (AW st.objs xs) st.objs.length nb) r) v->Mu w w'->K (a.put o.dst v) w':=
  λ v w' F' ρ'' hF hρ hS' hv hmu=>hK _ _ ⟨F',ρ'',hS',(hSl.mono hF hρ).putA hn hdst hv,hn.put hdst,by rw [BB];exact ⟨hdf.1.mono hF,hdf.2.1.trans hmu,hdf.2.2.mono hρ⟩⟩
 have hev:∀ y∈o.op.operands.toList,Ah F ρ (unG (Ak st.env y)) (a.eval y):=λ y hy=>Co rfl _ hgob _ (List.mem_map_of_mem hy) _ (A0 hSl y)
 unfold IB at hc
 split at hc
 ·rename_i f' args ts hop
  cases hc
  exact We (ev:=λ y=>unG (Ak st.env y)) hop hS (λ y hy=>hev y (by rw [hop];simp [Op.operands,Call.operands];exact .inr (by simpa using hy))) hcall hnb hnb1 hord hk
 ·rename_i x args ts _ hop
  split at hc
  ·rename_i f' l hx
   have hx:unG (Ak st.env x)=.clo f' l:=hx
   cases hc
   have hxr:=hev x (by rw [hop];simp [Op.operands,Call.operands])
   rw [hx] at hxr
   generalize hxv:a.eval x=xv at hxr
   cases hxr with
   | clo _ _ vs hl hr=>
    have hcr0:=LD (args:=args) (a:=a) (ev:=λ y=>unG (Ak st.env y)) (λ y hy=>hev y (by rw [hop];simp [Op.operands,Call.operands];exact .inr (by simpa using hy)))
    refine J5 (vs:=args.map a.eval++vs) (λ fn c hf hb hnm=>?_) hS ⟨by simp [hl],λ i y v hy hv=>?_⟩ hcall hnb hnb1 hord hk
    ·simp only [execOp,hop,resolve,hxv,Deferred.ofValue,Sem.run_bind,Sem.run_pure,Result.andThen_ok,invoke,callFunc,run_program,hf,hnm,hb,Bool.false_eq_true,if_false,Option.isNone_some,Array.empty_append,Array.append_empty]
    ·rw [Array.toList_append] at hv
     have hl0:=hcr0.1
     by_cases hi:i<(args.toList.map (λ y=>unG (Ak st.env y))).length
     ·rw [List.getElem?_append_left hi] at hy
      rw [List.getElem?_append_left (by omega)] at hv
      exact hcr0.2 i y v hy hv
     ·rw [List.getElem?_append_right (by omega)] at hy
      rw [List.getElem?_append_right (by omega)] at hv
      rw [← hl0] at hv
      exact hr _ y v hy (by simpa using hv)
  ·cases hc
 ·cases hc
def Jbu (c:Code) (i:Nat) (s:St):Option ((Option FuncId×List AV)×List Nat):=
 match (Bl c)[i]? with
 | some o=>some (IB (λ y=>unG (Ak s.env y)) o.op,AW s.objs (IB (λ y=>unG (Ak s.env y)) o.op).2)
 | none=>none
def nxS (Γ:Cx) (ops:Array Oper) (x:Nat) (c:Code) (i:Nat) (g:Bool) (ord:List Nat) (nb:Nat) (r:AV) (O1:List (Option Ob)) (s:St):Option St:=
 match (Bl c)[i]? with
 | some o=>bif !R6 c&&Nat.beq i x&&Nat.blt x ops.size.pred&&BX Γ.nt o.dst&&Nat.ble nb ord.length&&Nat.ble nb O1.length&&ord.all (λ k=>Nat.blt k s.objs.length) then
   some ⟨putA o.dst o.guard.isSome g (QH (Ct ord s.objs.length nb) r) s.env,Fl s.objs ord nb O1⟩ else none
 | none=>none
theorem xs {c:Code} {x:Nat} (hX:XOK P Γ) {g:Bool} (hgt:g=true) {gs:List Bool} (hi:Gt g gs) (ord:List Nat) {f:FuncId} {ys:List AV} {O0 O1 raw0:List (Option Ob)} {nb:Nat} {r:AV} (hr:BC P f ys O0 nb r O1) (hp0:raw0=O0)
  (hk:RF (cxX Γ (EA c) x) (MW c) [] (i+1) Q ((nxS Γ (EA c) x (MW c) i g ord nb r O1 s).getD s)) (hreg:Qu c=true:=by kernel_rfl) (hg:gY (MW c) i s=some g:=by kernel_rfl) (hgs:IA (MW c) i s=gs:=by kernel_rfl)
  (hc:Jbu (MW c) i s=some ((some f,((Jbu (MW c) i s).getD ((none,[]),[])).1.2),ord):=by kernel_rfl) (hxs:((Jbu (MW c) i s).getD ((none,[]),[])).1.2.map (MQ ord)=ys:=by kernel_rfl) (hO:GO s.objs ord=raw0:=by kernel_rfl)
  (hn:(nxS Γ (EA c) x (MW c) i g ord nb r O1 s).isSome=true:=by kernel_rfl):RF (cxX Γ (EA c) x) (MW c) [] i Q s:=by
 generalize ((Jbu (MW c) i s).getD ((none,[]),[])).1.2=zs at hc hxs
 have hn:=BJ (d:=s) hn
 generalize (nxS Γ (EA c) x (MW c) i g ord nb r O1 s).getD s=s' at hn hk
 subst hp0
 unfold Jbu at hc
 unfold nxS at hn
 split at hn
 ·rename_i o ho
  rw [ho] at hc
  simp only [Option.some.injEq,Prod.mk.injEq] at hc
  obtain ⟨hc,hord⟩:=hc
  rw [hc] at hord
  simp only at hord
  obtain ⟨h0,hn⟩:=AL hn
  simp only [Bool.and_eq_true] at h0
  obtain ⟨⟨⟨⟨⟨⟨h1,h2⟩,h3⟩,h4⟩,h5⟩,h6⟩,h7⟩:=h0
  cases hn
  subst hord
  subst hxs
  subst hO
  have hix:=Nat.eq_of_beq_eq_true h2
  subst hix
  have hox:(EA c)[i]? = some o:=by
   cases c with
   | region id ops d=>
    simp only [MW,Bl,List.getElem?_dropLast] at ho
    split at ho
    ·show ops[i]? = some o
     simpa using ho
    ·cases ho
   | _=>cases hreg
  have hgob:Hp true (o.op.operands.toList.map (Ak s.env)):=by
   subst hgs
   unfold IA at hi
   rw [ho] at hi
   rw [← hgt]
   exact Sb hi
  refine ⟨?_⟩
  have hk:=hk.out
  unfold A3 at hk ⊢
  simp only [nav] at hk ⊢
  rw [CT ho]
  show AX _ _ _ _ _ _
  unfold AX
  have hga:BL (Bl (MW c)) s.env o.guard=some g:=by
   unfold gY at hg
   rw [ho] at hg
   exact hg
  rw [hga]
  have h4:BX (cxX Γ (EA c) i).nt o.dst=true:=h4
  simp only [h4,Bool.not_true,cond_false]
  refine ⟨λ _=>.inr (.inr ⟨by simpa using h1,.inl ⟨_,⟨hox,_,_,rfl,λ env he=>?_⟩,hk⟩⟩),λ h=>by rw [hgt] at h;cases h⟩
  rw [hX.ext]
  have hgob':Hp true (o.op.operands.toList.map (Ak env)):=by
   rw [List.map_congr_left he];exact hgob
  have hc':IB (λ y=>unG (Ak env y)) o.op=(some f,zs):=by
   rw [Th (ev':=λ y=>unG (Ak s.env y)) λ y hy=>by rw [he y hy]]
   exact hc
  have hnd:ndB o.op=true:=by
   cases hop:o.op with
   | defer d=>rw [hop] at hc;cases hc
   | _=>rfl
  exact Jgs (st:=⟨env,s.objs⟩) ((ZH (st:=⟨env,s.objs⟩) hgob' hc' hr (Nat.le_of_ble_eq_true h5) (Nat.le_of_ble_eq_true h6) λ k hk=>by
   exact Nat.le_of_ble_eq_true (List.all_eq_true.1 h7 k hk)).ok hnd)
 ·cases hn
end Go.AI
end
section
namespace Go.AI
variable {Γ:Cx} {C:Code} {p:List Nat} {Q:Ex->St->Prop} {s s':St} {K:St->Prop} {i:Nat} {nk:Nat}
variable {α β ζ:Type}
def xX {σ:Type} (nk k:Nat) (st:σ->St):σ->Ex->St->Prop:=λ y e s=>e=Ex.exit k∧As nk s (st y)
def xR {σ:Type} (ty:Nat->Ty) (fn:Func) (r:σ->AV):σ->Ex->St->Prop:=λ y e s=>e=Ex.ret∧RA ty fn.results.toList (r y) s
def xL {σ:Type} (nk:Nat) (ty:Nat->Ty) (fn:Func) (r:σ->AV) (O:σ->List (Option Ob)):σ->Ex->St->Prop:=λ y e s=>e=Ex.ret∧RL nk ty fn.results.toList (r y) (O y) s
def xS {σ τ:Type} (a:σ->Ex->St->Prop) (b:τ->Ex->St->Prop):σ⊕τ->Ex->St->Prop
 | .inl y=>a y
 | .inr y=>b y
variable {σ ρ τ:Type} {st:σ->St} {E:ρ->Ex->St->Prop}
theorem xo {r:ρ} {k nk':Nat} {st':τ->St} {y:τ} (hE:E r=xX nk' k st' y) (h:As nk' s (st' y)):PQ (Av nk st E (.inr r)) (.exit k) s:=oe (by rw [hE];exact ⟨rfl,h⟩)
theorem ro {r:ρ} {ty:Nat->Ty} {fn:Func} {f:τ->AV} {y:τ} (hE:E r=xR ty fn f y) (h:RA ty fn.results.toList (f y) s):PQ (Av nk st E (.inr r)) .ret s:=or (by rw [hE];exact ⟨rfl,h⟩)
theorem lo {r:ρ} {nk':Nat} {ty:Nat->Ty} {fn:Func} {f:τ->AV} {O:τ->List (Option Ob)} {y:τ} (hE:E r=xL nk' ty fn f O y) (h:RL nk' ty fn.results.toList (f y) (O y) s):PQ (Av nk st E (.inr r)) .ret s:=or (by rw [hE];exact ⟨rfl,h⟩)
theorem lX {body:σ->Option (σ⊕ρ)} {n:Nat} {x:σ} {r:ρ} {k nk':Nat} {st':τ->St} {y:τ} (hb:∀ x z,body x=some z->WP Γ C (p++[0]) (Av nk' st E z) (st x)) (hr:whl body n x=some r) (hs:As nk' s (st x)) (hE:E r=xX nk' k st' y)
  (hk:∀ s,As nk' s (st' y)->PQ Q (.exit k) s) (hn:Γ.nt.nk=nk':=by rfl) (h:Sj (nav p C)=true:=by kernel_rfl):WP Γ C p Q s:=by
 subst hn
 exact lp st E hr hs hb (λ e s he=>by rw [hE] at he;obtain ⟨rfl,he⟩:=he;exact hk s he) h
theorem lR {body:σ->Option (σ⊕ρ)} {n:Nat} {x:σ} {r:ρ} {nk':Nat} {ty:Nat->Ty} {fn:Func} {f:τ->AV} {y:τ} (hb:∀ x z,body x=some z->WP Γ C (p++[0]) (Av nk' st E z) (st x)) (hr:whl body n x=some r) (hs:As nk' s (st x)) (hE:E r=xR ty fn f y)
  (hk:∀ s,RA ty fn.results.toList (f y) s->PQ Q .ret s) (hn:Γ.nt.nk=nk':=by rfl) (h:Sj (nav p C)=true:=by kernel_rfl):WP Γ C p Q s:=by
 subst hn
 exact lp st E hr hs hb (λ e s he=>by rw [hE] at he;obtain ⟨rfl,he⟩:=he;exact hk s he) h
theorem lL {body:σ->Option (σ⊕ρ)} {n:Nat} {x:σ} {r:ρ} {nk' nk2:Nat} {ty:Nat->Ty} {fn:Func} {f:τ->AV} {O:τ->List (Option Ob)} {y:τ} (hb:∀ x z,body x=some z->WP Γ C (p++[0]) (Av nk' st E z) (st x)) (hr:whl body n x=some r) (hs:As nk' s (st x)) (hE:E r=xL nk2 ty fn f O y)
  (hk:∀ s,RL nk2 ty fn.results.toList (f y) (O y) s->PQ Q .ret s) (hn:Γ.nt.nk=nk':=by rfl) (h:Sj (nav p C)=true:=by kernel_rfl):WP Γ C p Q s:=by
 subst hn
 exact lp st E hr hs hb (λ e s he=>by rw [hE] at he;obtain ⟨rfl,he⟩:=he;exact hk s he) h
def g0 (c:Code) (i:Nat) (s:St):Bool:=(gAt c i s).getD false
theorem sE {g:Bool} {v:AV} {obs:List Ob} {x:Option Eff} (ho:g=true->Gv s x v obs [] none) (hk:RF Γ C p (i+1) Q ((LJ Γ (nav p C) i g v obs s).getD s)) (hg:gAt (nav p C) i s=some g:=by kernel_rfl) (hx:Ow Γ (nav p C) i s=x:=by kernel_rfl) (hgs:IA (nav p C) i s=List.replicate (IA (nav p C) i s).length g:=by kernel_rfl) (hn:(LJ Γ (nav p C) i g v obs s).isSome=true:=by kernel_rfl):RF Γ C p i Q s:=
 sG (gs:=IA (nav p C) i s) ho (Ub λ b hb=>by rw [hgs] at hb;exact List.eq_of_mem_replicate hb) hk hg hx rfl hn
theorem oi {a z:ζ} (h:some a=some z):a=z:=Option.some.inj h
theorem lsS (xs:List α) (n:Nat) (y:α):xs.length=(xs.set n y).length:=List.length_set.symm
theorem lrS (n:Nat) (z:α):n=(List.replicate n z).length:=List.length_replicate.symm
theorem tr {s1 s2 s3:St} (h:As nk s1 s2) (h':As nk s2 s3):As nk s1 s3:=As.trans h h'
theorem sg (ts:List Nat) (h:gcA nk ts s=s':=by kernel_rfl):As nk s s':=Jfq ts h
theorem gP (ts ord:List Nat) {raw:List (Option Ob)} (hp:Pl (Od ord) raw s'.objs) (h:gcA nk ts s=⟨s'.env,raw⟩:=by kernel_rfl):As nk s s':=Jgg ts ord hp h
theorem sn (t k sz:Nat) {n m:Nat} (e:n=m) (h:lkA s.env t=.osl k sz 0 n:=by kernel_rfl):As nk s ⟨(t,.osl k sz 0 m)::s.env,s.objs⟩:=Jf3 t k sz 0 n m h e
theorem snc (b i k sz:Nat) {n m:Nat} (e:n=m) (h:(Ni s b,(FN s b)[i]?)=(true,some (.osl k sz 0 n)):=by kernel_rfl):As nk s ⟨s.env,s.objs.set b (some (.box ((FN s b).set i (.osl k sz 0 m))))⟩:=JeB b i k sz n m h e
theorem so1 {encN:α->List AV} (k sz:Nat) {xss:List α} {x:α} {n:Int} (hx:idx xss n=some x) (h:Do s k=some (sz,xss.map encN):=by kernel_rfl):As nk s ⟨s.env,s.objs.set k (some (.narr sz ((xss.map encN).set n.toNat (encN x))))⟩:=Jjo k h hx
theorem fz {enc:α->List D} {xs:List α} (t k sz:Nat) (h:Sd s (lkA s.env t)=some (k,sz,0,xs.length,xs.map enc):=by kernel_rfl):As nk s ⟨(t,.d (.sl (xs.map enc)))::s.env,s.objs.set k none⟩:=Jf2 t _ h Oy (by simp)
theorem fzc {enc:α->List D} {xs:List α} (kb i k sz:Nat) (h:(Ni s kb,((FN s kb)[i]?).bind (Sd s))=(true,some (k,sz,0,xs.length,xs.map enc)):=by kernel_rfl):As nk s ⟨s.env,(s.objs.set k none).set kb (some (.box ((FN s kb).set i (.d (.sl (xs.map enc))))))⟩:=Jel kb i _ h Oy (by simp)
theorem snr {encN:α->List AV} {xs:List α} {n:Int} (row:List AV) (sz k j m isz:Nat) {n1 n2:Nat} (e:n1=n2) (h:Do s k=some (sz,(xs.map encN).set n.toNat row):=by kernel_rfl) (hj:row[j]? = some (.osl m isz 0 n1):=by kernel_rfl):As nk s ⟨s.env,s.objs.set k (some (.narr sz ((xs.map encN).set n.toNat (row.set j (.osl m isz 0 n2)))))⟩:=JeC k j m isz n1 n2 _ h hj e rfl
theorem sni {encN:α->List AV} {xs:List α} {n:Int} {enc:β->List D} (row:List AV) (zs:List β) (sz k j m isz:Nat) (h:(Do s k,OB s m)=(some (sz,(xs.map encN).set n.toNat row),some (isz,zs.map enc)):=by kernel_rfl) (hj:row[j]? = some (.osl m isz 0 zs.length):=by kernel_rfl) :
  As nk s ⟨s.env,(s.objs.set m none).set k (some (.narr sz ((xs.map encN).set n.toNat (row.set j (.own isz (zs.map enc))))))⟩:=JeA k j m isz _ h hj rfl
theorem sno {encN:α->List AV} {xss:List α} {x:α} {n:Int} {enc:β->List D} (hx:idx xss n=some x) (row:List AV) (ys:List β) (sz k j isz:Nat) (h:Do s k=some (sz,(xss.map encN).set n.toNat row):=by kernel_rfl) (hj:row[j]? = some (.own isz (ys.map enc)):=by kernel_rfl) :
  As nk s ⟨s.env,s.objs.set k (some (.narr sz ((xss.map encN).set n.toNat (row.set j (.osl s.objs.length isz 0 ys.length)))))++[some (.arr isz (ys.map enc))]⟩:=YJ k j isz _ (ltN hx) h hj rfl
theorem scl {encN:α->List AV} {xss:List α} (n:Int) (row:List AV) (sz k:Nat) (y:α) (h:Do s k=some (sz,(xss.map encN).set n.toNat row):=by kernel_rfl) (hy:row=encN y:=by kernel_rfl):As nk s ⟨s.env,s.objs.set k (some (.narr sz ((xss.set n.toNat y).map encN)))⟩:=Jgh k y h hy
theorem so0 {encN:α->List AV} {xss:List α} (k sz:Nat) (n:Int) (d:α) (h:Do s k=some (sz,xss.map encN):=by kernel_rfl):As nk s ⟨s.env,s.objs.set k (some (.narr sz ((xss.map encN).set n.toNat (encN (xss.getD n.toNat d)))))⟩:=by
 have ho:=CU h
 have e:(xss.map encN).set n.toNat (encN (xss.getD n.toNat d))=xss.map encN:=by
  apply List.ext_getElem?
  intro i
  rw [List.getElem?_set]
  split
  ·rename_i e;subst e
   split
   ·rename_i hl
    rw [List.length_map] at hl
    rw [List.getElem?_map,List.getD_eq_getElem?_getD,List.getElem?_eq_getElem hl];rfl
   ·rename_i hl;rw [List.getElem?_eq_none (by simpa using hl)]
  ·rfl
 rw [e,HP ho]
 exact As.sem λ _ _ _ _ _ _ _ _ h=>h
theorem snT {encN:α->List AV} {xss:List α} {n:Int} {d:α} {enc:β->List D} (f:α->List β) (row:List AV) (sz k j isz:Nat) (hd:f d=[]:=by rfl) (h:Do s k=some (sz,(xss.map encN).set n.toNat row):=by kernel_rfl) (hj:row[j]? = some (.own isz ((f (xss.getD n.toNat d)).map enc)):=by kernel_rfl) :
  As nk s ⟨s.env,s.objs.set k (some (.narr sz ((xss.map encN).set n.toNat (row.set j (.osl s.objs.length isz 0 (f (xss.getD n.toNat d)).length)))))++[some (.arr isz ((f (xss.getD n.toNat d)).map enc))]⟩:=by
 rcases Nat.lt_or_ge n.toNat (xss.map encN).length with hl|hl
 ·exact YJ k j isz _ hl h hj rfl
 ·have ho:=CU h
  have e0:∀ r,(xss.map encN).set n.toNat r=xss.map encN:=λ r=>List.set_eq_of_length_le hl
  have e1:xss.getD n.toNat d=d:=by rw [List.getD_eq_getElem?_getD,List.getElem?_eq_none (by simpa using hl)];rfl
  rw [e0] at ho
  rw [e0,e1,hd,HP ho]
  refine As.sem λ _ _ _ _ _ _ _ _ hI=>?_
  obtain ⟨F,ρ,hS,hSl,hn,hdf⟩:=hI
  refine ⟨F,ρ,hS.table (by simp) λ i L ob hi hob=>?_,hSl,hn,hdf⟩
  have:=hS.dom i L hi
  rw [AJ,if_pos this] at hob;exact hob
theorem po1 {f:AV->AV} {o:Option Ob} {l m:List (Option Ob)} (h:Pl f l m):Pl f (o::l) (o::m):=Pl.o o h
theorem pn1 {f:AV->AV} (encN:α->List AV) (xss:List α) {sz:Nat} {l m:List (Option Ob)} (h:Pl f l m) (hc:∀ x,(encN x).map f=encN x:=by intro _;rfl):Pl f (some (.narr sz ((xss.map encN).map λ e=>e.map f))::l) (some (.narr sz (xss.map encN))::m):=Pl.n sz (nrM hc) h
attribute [irreducible] xL
end Go.AI
end
section
namespace Go.AI
theorem PC (x:Int):∀ l:List Int,(XW x l).Perm (x::l)
 | []=>.refl _
 | y::l=>by
  unfold XW
  split
  ·exact .refl _
  ·exact ((PC x l).cons y).trans (.swap x y l)
theorem Qx:∀ l:List Int,(R4 l).Perm l
 | []=>.refl _
 | x::l=>(PC x _).trans ((Qx l).cons x)
theorem Qy {x:Int}:∀ {l:List Int},l.Pairwise (·≤·)->(XW x l).Pairwise (·≤·)
 | [],_=>by simp [XW]
 | y::l,h=>by
  unfold XW
  rw [List.pairwise_cons] at h
  split
  ·rename_i hxy
   refine List.pairwise_cons.2 ⟨λ z hz=>?_,List.pairwise_cons.2 h⟩
   rcases List.mem_cons.1 hz with rfl|hz
   ·exact hxy
   ·have:=h.1 z hz;omega
  ·rename_i hxy
   refine List.pairwise_cons.2 ⟨λ z hz=>?_,Qy h.2⟩
   rcases List.mem_cons.1 ((PC x l).mem_iff.1 hz) with rfl|hz
   ·omega
   ·exact h.1 z hz
theorem Nk:∀ l:List Int,(R4 l).Pairwise (·≤·)
 | []=>.nil
 | x::l=>Qy (Nk l)
theorem U2 (l:List Int):R4 l=l.mergeSort λ x y=>decide (x≤y):=by
 refine List.Perm.eq_of_pairwise (le:=(·≤·)) (λ a b _ _ h1 h2=>by omega) (Nk l) ?_ ((Qx l).trans (List.mergeSort_perm _ _).symm)
 have:=List.pairwise_mergeSort (le:=λ x y:Int=>decide (x≤y)) (λ a b c h1 h2=>by simp at *;omega) (λ a b=>by simp;omega) l
 exact this.imp λ h=>by simpa using h
end Go.AI
end
section
namespace Go.AI
open Go.Sort Go.Shelf Go.Proofs
variable {P:Program} {ρs:Ren}
theorem Sim.more {N:Nat->Prop} {H0 F0 F:Nat->Option Obj} {ρ:Nat->Option Loc} {O:List (Option Ob)} {h:Array Obj} (hS:Sim N H0 F0 F ρ O h) (os:Array Obj):Sim N H0 F0 F ρ O (h++os):=by
 have hl:∀ b,b<h.size->(h++os)[b]? = h[b]? := λ b hb=>Array.getElem?_append_left hb
 have hg:∀ b o,h[b]? = some o->(h++os)[b]? = some o:=λ b o hb=>by rw [hl b (Ao hb)];exact hb
 obtain ⟨σ,hσ⟩:=hS.inn
 have hM:∀ k c M,σ k c=some M->(h++os)[M.b]? = h[M.b]? := λ k c M hM=>hl _ (hσ.new k c M hM).2.1
 refine { hS with size:=λ b hb=>hS.size b (by simp at hb;omega),old:=λ b hb=>?_,frz:=λ b o hb=>hg b o (hS.frz b o hb),loc:=λ k L hk=>?_,obj:=λ k L ob hk ho=>?_,inn:=⟨σ,λ k c M hM=>?_,hσ.obj,hσ.sep,λ k L sz es hk ho i e j isz xs hi hj cs t fr v hb hv=>?_⟩ }
 ·have:b<h.size:=by
   apply Classical.byContradiction;intro hn
   exact hb (hS.size b (by omega))
  rw [hl b this];exact hS.old b hb
 ·have:=hS.loc k L hk;simp;omega
 ·obtain ⟨g1,g2,g3⟩:=hS.obj k L ob hk ho
  exact ⟨g1.mono (FLe.refl _) (RLe.refl _) (hl _ (hS.loc k L hk)),g2,g3⟩
 ·obtain ⟨g1,g2,g3⟩:=hσ.new k c M hM
  exact ⟨g1,by simp;omega,g3⟩
 ·rw [hl _ (hS.loc k L hk)] at hb
  exact (hσ.rep k L sz es hk ho i e j isz xs hi hj cs t fr v hb hv).mono (FLe.refl _) λ L' hL'=>hM _ _ _ hL'
theorem ZI (L:Lays.n189 P ρs) (hf:∃ fn c,P.funcs[ρs.f 189]? = some fn∧fn.body=some c∧(fn.name == "runtime.NumGoroutine")=false) {xs zs:List Int} (h:JaR xs=some zs) :
  BC P (ρs.f 189) [.osl 0 1 0 xs.length] [some (.arr 1 (xs.map Ae))] 1 (.tup []) [some (.arr 1 (zs.map Ae))]:=by
 have hz:xs.length<4611686018427387904∧zs=xs.mergeSort λ x y=>decide (x≤y):=by
  unfold JaR at h
  split at h
  ·rename_i h1;exact ⟨h1,by rw [← U2];exact (Option.some.inj h).symm⟩
  ·cases h
 obtain ⟨hlt,hzs⟩:=hz
 refine ⟨hf,λ N F ρ w vs hS hcr=>?_⟩
 obtain ⟨v,rfl⟩:∃ v,vs=#[v]:=by
  have:=hcr.1
  have h1:vs.size=1:=by simpa using this.symm
  exact ⟨vs[0],by apply Array.ext;simp [h1];intro i h1' h2;simp at h2;subst h2;rfl⟩
 have hv:=hcr.2 0 _ v rfl rfl
 have hlen:zs.length=xs.length:=by rw [hzs];exact List.length_mergeSort _
 have htup:∀ F' ρ',Ah F' ρ' (.tup []) (.tuple #[]):=λ F' ρ'=>.tup [] #[] rfl λ i a v h=>by simp at h
 generalize hn:xs.length=n at hv
 cases hv with
 | osl0 _ _ _ a=>
  have hx:xs=[]:=List.length_eq_zero_iff.1 hn
  have hz0:zs=[]:=List.length_eq_zero_iff.1 (by omega)
  refine (Any.slices_Sort_int_none L a 0 w).mono λ e w' he=>?_
  obtain ⟨rfl,rfl⟩:=he
  subst hx;subst hz0
  exact ⟨_,F,ρ,rfl,hS,λ j _ L h=>h,htup _ _,Mu.refl _⟩
 | osl _ _ _ _ cap Lo hL hc hs hz=>
  obtain ⟨⟨g1,g2,cs,t,fr,g3,g4,g5,g6⟩,gN,gF⟩:=hS.obj 0 Lo _ hL rfl
  simp only [List.length_map,Nat.mul_one] at g2
  have hcell:∀ j,j<xs.length->cs[Lo.base+j]? = some (.int .i64 (xs.toArray[j]!)):=λ j hj=>by
   obtain ⟨u,hu,hd⟩:=g6 j (Ae xs[j]) (by rw [List.getElem?_map,List.getElem?_eq_getElem hj];rfl) 0 (.int .i64 xs[j]) rfl
   cases hd
   have e:xs.toArray[j]! = xs[j]:=by rw [getElem!_pos _ j (by simpa using hj)];simp
   rw [e]
   simpa using hu
  have hH:Holds (Value.int .i64) w Lo.b (Lo.base+0*1) xs.toArray:=λ j hj=>by
   have hj:j<xs.length:=by simpa using hj
   have:=hcell j hj
   refine ⟨by simp only [World.cell?,g3,Option.isSome_none,Bool.false_eq_true,if_false,Nat.zero_mul,Nat.add_zero];exact this,Rs g3 (g5 _ (by simp;omega))⟩
  refine ((hn▸Any.slices_Sort_int L Lo.b (Lo.base+0*1) cap xs w hH (Ao g3) hlt)).mono λ e w' he=>?_
  obtain ⟨rfl,m,os,rfl⟩:=he
  rw [← hzs]
  have hheap:(grow (putRow (Value.int .i64) (Sort.ahead w m) Lo.b (Lo.base+0*1) zs.toArray) os).heap=w.heap.setIfInBounds Lo.b (.cells (putCells (Value.int .i64) Lo.base zs.toArray cs) t fr)++os:=by
   simp only [grow,putRow,mapBlock,Sort.ahead,Nat.zero_mul,Nat.add_zero]
   congr 1
   apply Array.ext_getElem?
   intro i
   rw [Array.getElem?_modify,Array.getElem?_setIfInBounds]
   split
   ·rename_i e;subst e
    rw [if_pos (Ao g3),g3];rfl
   ·rfl
  have hS1:=hS.rewrite (k':=0) (L':=Lo) (x:=.cells (putCells (Value.int .i64) Lo.base zs.toArray cs) t fr) (O':=[some (.arr 1 (zs.map Ae))]) hL rfl (by rw [Ce hL];exact RLe.refl _) rfl (λ j ob' hj hob'=>by
    have:=AS hob';simp at this;omega) (by simp) (by simp) (λ ob' hob'=>by
    cases hob'
    refine ⟨λ e he=>?_,by simp;omega,_,t,fr,by rw [Array.getElem?_setIfInBounds_self_of_lt (Ao g3)],by simp [putCells,g4],g5,λ i e hi j x hx=>?_⟩
    ·simp only [List.mem_map] at he;obtain ⟨y,_,rfl⟩:=he;rfl
    ·simp only [List.getElem?_map,Option.map_eq_some_iff] at hi
     obtain ⟨y,hy,rfl⟩:=hi
     have hj:j=0:=by have:=Ag hx;simpa [Ae] using this
     subst hj
     have hx:x=.int .i64 y:=by simpa [Ae] using hx.symm
     subst hx
     have hil:=Ag hy
     refine ⟨.int .i64 y,?_,.int _ _⟩
     have hin:Lo.base+i<cs.size:=by omega
     have e:zs.toArray[i]! = y:=by
      rw [getElem!_pos _ i (by simpa using hil)]
      simpa [List.getElem?_eq_getElem hil] using hy
     simp only [putCells,Array.getElem?_mapIdx,Nat.mul_one,Nat.add_zero,Array.getElem?_eq_getElem hin,Option.map_some]
     rw [if_pos ⟨by omega,by simp;omega⟩,show Lo.base+i-Lo.base=i by omega,e]) (λ ob' hob'=>by cases hob';rfl)
  rw [Ce hL] at hS1
  refine ⟨_,F,ρ,rfl,by rw [hheap];exact hS1.more os,λ j _ L h=>h,htup _ _,rfl,rfl,by rw [hheap];simp⟩
end Go.AI
end
section
namespace Go.Proofs
open Go.Shelf
def Try.laysSort_ren:Go.Shelf.Ren:=⟨λ|189=>74|125=>82|257=>81|128=>96|129=>97|294=>87|295=>88|296=>89|297=>90|298=>91|299=>92|216=>93|300=>94|301=>95|328=>99|329=>100|330=>101|331=>102|332=>103|215=>104|343=>105|n=>n,λ|28=>32|3=>3|46=>148|0=>0|51=>160|53=>162|4=>4|183=>153|182=>152|131=>97|5=>5|9=>9|218=>164|222=>168|228=>170|229=>171|n=>n,λ|n=>n⟩
theorem Try.laysSort:Go.Proofs.Lays.n189 Try.prog Try.laysSort_ren:={
 mixed:=by kernel_rfl
 f125:=Try.func82.trans (congrArg some (by kernel_rfl))
 f128:=Try.func96.trans (congrArg some (by kernel_rfl))
 f129:=Try.func97.trans (congrArg some (by kernel_rfl))
 f189:=Try.func74.trans (congrArg some (by kernel_rfl))
 f215:=Try.func104.trans (congrArg some (by kernel_rfl))
 f216:=Try.func93.trans (congrArg some (by kernel_rfl))
 f257:=Try.func81.trans (congrArg some (by kernel_rfl))
 f294:=Try.func87.trans (congrArg some (by kernel_rfl))
 f295:=Try.func88.trans (congrArg some (by kernel_rfl))
 f296:=Try.func89.trans (congrArg some (by kernel_rfl))
 f297:=Try.func90.trans (congrArg some (by kernel_rfl))
 f298:=Try.func91.trans (congrArg some (by kernel_rfl))
 f299:=Try.func92.trans (congrArg some (by kernel_rfl))
 f300:=Try.func94.trans (congrArg some (by kernel_rfl))
 f301:=Try.func95.trans (congrArg some (by kernel_rfl))
 f328:=Try.func99.trans (congrArg some (by kernel_rfl))
 f329:=Try.func100.trans (congrArg some (by kernel_rfl))
 f330:=Try.func101.trans (congrArg some (by kernel_rfl))
 f331:=Try.func102.trans (congrArg some (by kernel_rfl))
 f332:=Try.func103.trans (congrArg some (by kernel_rfl))
 f343:=Try.func105.trans (congrArg some (by kernel_rfl))
 t0:=Try.underlying0
 a0:=Try.isAgg0
 z0:=Try.sizeOf0
 v0:=Try.zeroValue0
 t3:=Try.underlying3
 a3:=Try.isAgg3
 z3:=Try.sizeOf3
 v3:=Try.zeroValue3
 t4:=Try.underlying4
 a4:=Try.isAgg4
 z4:=Try.sizeOf4
 v4:=Try.zeroValue4
 t5:=Try.underlying5
 a5:=Try.isAgg5
 z5:=Try.sizeOf5
 v5:=Try.zeroValue5
 t9:=Try.underlying9
 a9:=Try.isAgg9
 z9:=Try.sizeOf9
 v9:=Try.zeroValue9
 t28:=Try.underlying32
 a28:=Try.isAgg32
 z28:=Try.sizeOf32
 v28:=Try.zeroValue32
 t46:=Try.underlying148
 a46:=Try.isAgg148
 z46:=Try.sizeOf148
 v46:=Try.zeroValue148
 t51:=Try.underlying160
 a51:=Try.isAgg160
 z51:=Try.sizeOf160
 v51:=Try.zeroValue160
 t53:=Try.underlying162
 a53:=Try.isAgg162
 z53:=Try.sizeOf162
 v53:=Try.zeroValue162
 t131:=Try.underlying97
 a131:=Try.isAgg97
 z131:=Try.sizeOf97
 v131:=Try.zeroValue97
 t182:=Try.underlying152
 a182:=Try.isAgg152
 z182:=Try.sizeOf152
 v182:=Try.zeroValue152
 t183:=Try.underlying153
 a183:=Try.isAgg153
 z183:=Try.sizeOf153
 v183:=Try.zeroValue153
 t218:=Try.underlying164
 a218:=Try.isAgg164
 z218:=Try.sizeOf164
 v218:=Try.zeroValue164
 t222:=Try.underlying168
 a222:=Try.isAgg168
 z222:=Try.sizeOf168
 v222:=Try.zeroValue168
 t228:=Try.underlying170
 a228:=Try.isAgg170
 z228:=Try.sizeOf170
 v228:=Try.zeroValue170
 t229:=Try.underlying171
 a229:=Try.isAgg171
 z229:=Try.sizeOf171
 v229:=Try.zeroValue171 }
end Go.Proofs
end
section
namespace Go.AI
open Go.Proofs
set_option maxRecDepth 100000
theorem Lh:Inf Try.prog 3 1 8 (.int .i64 0):=AO (by kernel_rfl)
theorem Jjw:Inf Try.prog 4 1 1 (.bool false):=AO (by kernel_rfl)
theorem PD:Inf Try.prog 5 1 1 (.int .u8 0):=AO (by kernel_rfl)
theorem WI:Inf Try.prog 9 1 16 (.string ⟨#[]⟩):=AO (by kernel_rfl)
theorem Jfw:Inf Try.prog 22 1 24 (.slice none 0 0):=AO (by kernel_rfl)
theorem Jjx:Inf Try.prog 24 3 32 (.agg #[.int .u8 0,.int .u8 0,.slice none 0 0]):=AO (by kernel_rfl)
theorem YN:Inf Try.prog 25 1 24 (.slice none 0 0):=AO (by kernel_rfl)
theorem Jfx:Inf Try.prog 27 1 24 (.slice none 0 0):=AO (by kernel_rfl)
theorem Jfy:Inf Try.prog 29 3 40 (.agg #[.int .i64 0,.int .u8 0,.slice none 0 0]):=AO (by kernel_rfl)
theorem Jfz:Inf Try.prog 31 1 24 (.slice none 0 0):=AO (by kernel_rfl)
theorem Uf:Inf Try.prog 32 1 24 (.slice none 0 0):=AO (by kernel_rfl)
theorem Jjy:Inf Try.prog 34 3 64 (.agg #[.string ⟨#[]⟩,.slice none 0 0,.slice none 0 0]):=AO (by kernel_rfl)
theorem JfA:Inf Try.prog 35 1 8 (.int .i64 0):=AO (by kernel_rfl)
theorem Jbv:Inf Try.prog 43 1 24 (.slice none 0 0):=AO (by kernel_rfl)
theorem JfB:Inf Try.prog 45 2 48 (.agg #[.slice none 0 0,.slice none 0 0]):=AO (by kernel_rfl)
theorem Jjz:Inf Try.prog 49 4 64 (.agg #[.slice none 0 0,.slice none 0 0,.int .i64 0,.int .i64 0]):=AO (by kernel_rfl)
theorem JjA:Inf Try.prog 54 3 32 (.agg #[.int .u8 0,.int .u8 0,.slice none 0 0]):=AO (by kernel_rfl)
theorem JjB:Inf Try.prog 56 3 32 (.agg #[.int .i64 0,.int .i64 0,.string ⟨#[]⟩]):=AO (by kernel_rfl)
theorem JfC:Inf Try.prog 64 1 1 (.int .u8 0):=AO (by kernel_rfl)
theorem JfD:Inf Try.prog 67 6 64 (.agg #[.string ⟨#[]⟩,.slice none 0 0,.int .u8 0,.int .u8 0,.int .i64 0,.int .i64 0]):=AO (by kernel_rfl)
theorem JfE:Inf Try.prog 69 2 2 (.agg #[.int .u8 0,.int .u8 0]):=AO (by kernel_rfl)
theorem JfF:Inf Try.prog 71 6 56 (.agg #[.slice none 0 0,.slice none 0 0,.int .u8 0,.int .u8 0,.int .u8 0,.int .u8 0]):=AO (by kernel_rfl)
theorem JjC:Inf Try.prog 75 1 8 (.pointer none):=AO (by kernel_rfl)
theorem Jbw:Inf Try.prog 84 1 24 (.slice none 0 0):=AO (by kernel_rfl)
theorem Jbx:Inf Try.prog 87 3 24 (.agg #[.int .i64 0,.int .i64 0,.int .u8 0]):=AO (by kernel_rfl)
theorem JjD:Inf Try.prog 90 6 72 (.agg #[.string ⟨#[]⟩,.int .i64 0,.int .i64 0,.int .i64 0,.int .u8 0,.slice none 0 0]):=AO (by kernel_rfl)
theorem JjE:Inf Try.prog 99 1 24 (.slice none 0 0):=AO (by kernel_rfl)
theorem Jgt:Inf Try.prog 101 2 16 (.agg #[.int .i64 0,.int .i64 0]):=AO (by kernel_rfl)
theorem Jgu:Inf Try.prog 106 1 8 (.map none):=AO (by kernel_rfl)
theorem Jby:Inf Try.prog 107 1 24 (.slice none 0 0):=AO (by kernel_rfl)
theorem U3:Inf Try.prog 108 1 24 (.slice none 0 0):=AO (by kernel_rfl)
theorem Jgv:Inf Try.prog 110 2 48 (.agg #[.slice none 0 0,.slice none 0 0]):=AO (by kernel_rfl)
theorem Jbz:Inf Try.prog 112 1 24 (.slice none 0 0):=AO (by kernel_rfl)
theorem JbA:Inf Try.prog 114 3 32 (.agg #[.string ⟨#[]⟩,.int .i64 0,.int .i64 0]):=AO (by kernel_rfl)
theorem Jgw:Inf Try.prog 120 1 8 (.pointer none):=AO (by kernel_rfl)
theorem JbB:Inf Try.prog 123 2 48 (.agg #[.slice none 0 0,.slice none 0 0]):=AO (by kernel_rfl)
theorem JbC:Inf Try.prog 124 1 24 (.slice none 0 0):=AO (by kernel_rfl)
theorem JbD:Inf Try.prog 125 1 24 (.slice none 0 0):=AO (by kernel_rfl)
theorem Jgx:Inf Try.prog 127 8 136 (.agg #[.int .i64 0,.int .u8 0,.slice none 0 0,.string ⟨#[]⟩,.slice none 0 0,.slice none 0 0,.slice none 0 0,.int .i64 0]):=AO (by kernel_rfl)
theorem Jgy:Inf Try.prog 129 1 24 (.slice none 0 0):=AO (by kernel_rfl)
theorem JbE:Inf Try.prog 137 1 24 (.slice none 0 0):=AO (by kernel_rfl)
theorem JbF:Inf Try.prog 139 2 16 (.agg #[.int .i64 0,.int .i64 0]):=AO (by kernel_rfl)
theorem Jgz:Inf Try.prog 140 5 120 (.agg #[.slice none 0 0,.slice none 0 0,.slice none 0 0,.slice none 0 0,.slice none 0 0]):=AO (by kernel_rfl)
theorem JgA:Inf Try.prog 144 1 8 (.pointer none):=AO (by kernel_rfl)
theorem JgB:Inf Try.prog 148 1 8 (.int .u64 0):=AO (by kernel_rfl)
theorem JgC:Inf Try.prog 152 1 8 (.int .i64 0):=AO (by kernel_rfl)
theorem JgD:Inf Try.prog 160 1 4 (.int .u32 0):=AO (by kernel_rfl)
theorem JgE:Inf Try.prog 162 1 8 (.int .u64 0):=AO (by kernel_rfl)
theorem JgF:Inf Try.prog 164 1 8 (.int .u64 0):=AO (by kernel_rfl)
theorem JgG:Inf Try.prog 168 1 8 (.pointer none):=AO (by kernel_rfl)
def ty:Nat->Ty
 | 3=>⟨true,[],1,false,[.int .i64 0],.int .i64⟩
 | 4=>⟨true,[],1,false,[.bool false],.bool⟩
 | 5=>⟨true,[],1,false,[.int .u8 0],.int .u8⟩
 | 9=>⟨true,[],1,false,[.str []],.string⟩
 | 22=>⟨true,[],1,false,[.nil],.slice 6 56 [.nil,.nil,.int .u8 0,.int .u8 0,.int .u8 0,.int .u8 0]⟩
 | 24=>⟨true,[],3,true,[.int .u8 0,.int .u8 0,.nil],.struct [(0,1),(1,1),(2,1)]⟩
 | 25=>⟨true,[],1,false,[.nil],.slice 1 1 [.int .u8 0]⟩
 | 27=>⟨true,[],1,false,[.nil],.slice 6 64 [.str [],.nil,.int .u8 0,.int .u8 0,.int .i64 0,.int .i64 0]⟩
 | 29=>⟨true,[],3,true,[.int .i64 0,.int .u8 0,.nil],.struct [(0,1),(1,1),(2,1)]⟩
 | 31=>⟨true,[],1,false,[.nil],.slice 1 24 [.nil]⟩
 | 32=>⟨true,[],1,false,[.nil],.slice 1 8 [.int .i64 0]⟩
 | 34=>⟨true,[],3,true,[.str [],.nil,.nil],.struct [(0,1),(1,1),(2,1)]⟩
 | 35=>⟨true,[],1,false,[.int .i64 0],.int .i64⟩
 | 43=>⟨true,[],1,false,[.nil],.slice 1 1 [.int .u8 0]⟩
 | 45=>⟨true,[],2,true,[.nil,.nil],.struct [(0,1),(1,1)]⟩
 | 49=>⟨true,[],4,true,[.nil,.nil,.int .i64 0,.int .i64 0],.struct [(0,2),(2,1),(3,1)]⟩
 | 54=>⟨true,[],3,true,[.int .u8 0,.int .u8 0,.nil],.struct [(0,1),(1,1),(2,1)]⟩
 | 56=>⟨true,[.int .i64,.int .i64,.string],3,true,[.int .i64 0,.int .i64 0,.str []],.struct [(0,1),(1,1),(2,1)]⟩
 | 64=>⟨true,[],1,false,[.int .u8 0],.int .u8⟩
 | 67=>⟨true,[],6,true,[.str [],.nil,.int .u8 0,.int .u8 0,.int .i64 0,.int .i64 0],.struct [(0,1),(1,1),(2,1),(3,1),(4,1),(5,1)]⟩
 | 69=>⟨true,[],2,true,[.int .u8 0,.int .u8 0],.array 2 1⟩
 | 71=>⟨true,[],6,true,[.nil,.nil,.int .u8 0,.int .u8 0,.int .u8 0,.int .u8 0],.struct [(0,1),(1,1),(2,1),(3,1),(4,2)]⟩
 | 75=>⟨true,[],1,false,[.nilp],.other⟩
 | 84=>⟨true,[],1,false,[.nil],.slice 3 24 [.int .i64 0,.int .i64 0,.int .u8 0]⟩
 | 87=>⟨true,[.int .i64,.int .i64,.int .u8],3,true,[.int .i64 0,.int .i64 0,.int .u8 0],.struct [(0,1),(1,1),(2,1)]⟩
 | 90=>⟨true,[],6,true,[.str [],.int .i64 0,.int .i64 0,.int .i64 0,.int .u8 0,.nil],.struct [(0,1),(1,1),(2,3),(5,1)]⟩
 | 99=>⟨true,[],1,false,[.nil],.slice 1 16 [.str []]⟩
 | 101=>⟨true,[],2,true,[.int .i64 0,.int .i64 0],.array 2 1⟩
 | 106=>⟨true,[],1,false,[.nilm],.map [.int .i64,.int .i64,.int .u8] true false [.int .i64 0]⟩
 | 107=>⟨true,[],1,false,[.nil],.slice 1 24 [.nil]⟩
 | 108=>⟨true,[],1,false,[.nil],.slice 1 1 [.bool false]⟩
 | 110=>⟨true,[],2,true,[.nil,.nil],.struct [(0,1),(1,1)]⟩
 | 112=>⟨true,[],1,false,[.nil],.slice 3 32 [.str [],.int .i64 0,.int .i64 0]⟩
 | 114=>⟨true,[.string,.int .i64,.int .i64],3,true,[.str [],.int .i64 0,.int .i64 0],.struct [(0,1),(1,1),(2,1)]⟩
 | 120=>⟨true,[],1,false,[.nilp],.other⟩
 | 123=>⟨true,[],2,true,[.nil,.nil],.struct [(0,1),(1,1)]⟩
 | 124=>⟨true,[],1,false,[.nil],.slice 1 24 [.nil]⟩
 | 125=>⟨true,[],1,false,[.nil],.slice 2 48 [.nil,.nil]⟩
 | 127=>⟨true,[],8,true,[.int .i64 0,.int .u8 0,.nil,.str [],.nil,.nil,.nil,.int .i64 0],.struct [(0,3),(3,1),(4,1),(5,1),(6,1),(7,1)]⟩
 | 129=>⟨true,[],1,false,[.nil],.slice 1 24 [.nil]⟩
 | 137=>⟨true,[],1,false,[.nil],.slice 2 16 [.int .i64 0,.int .i64 0]⟩
 | 139=>⟨true,[.int .i64,.int .i64],2,true,[.int .i64 0,.int .i64 0],.struct [(0,1),(1,1)]⟩
 | 140=>⟨true,[],5,true,[.nil,.nil,.nil,.nil,.nil],.array 5 1⟩
 | 144=>⟨true,[],1,false,[.nilp],.other⟩
 | 148=>⟨true,[],1,false,[.int .u64 0],.int .u64⟩
 | 152=>⟨true,[],1,false,[.int .i64 0],.int .i64⟩
 | 160=>⟨true,[],1,false,[.int .u32 0],.int .u32⟩
 | 162=>⟨true,[],1,false,[.int .u64 0],.int .u64⟩
 | 164=>⟨true,[],1,false,[.int .u64 0],.int .u64⟩
 | 168=>⟨true,[],1,false,[.nilp],.other⟩
 | _=>⟨false,[],0,false,[],.other⟩
theorem tf3:Aw Try.prog 3 (ty 3):=tfM Lh Try.underlying3 rfl
theorem tf4:Aw Try.prog 4 (ty 4):=tfM Jjw Try.underlying4 rfl
theorem tf5:Aw Try.prog 5 (ty 5):=tfM PD Try.underlying5 rfl
theorem tf9:Aw Try.prog 9 (ty 9):=tfM WI Try.underlying9 rfl
theorem JkA:Aw Try.prog 22 (ty 22):=tfM Jfw Try.underlying22 (slK JfF)
theorem JkB:Aw Try.prog 24 (ty 24):=tfM Jjx Try.underlying24 (stF (AY (Cf PD Try.underlying5) (AY (Cf PD Try.underlying5) (AY (Cf Jfw Try.underlying22) Hh))))
theorem JkC:Aw Try.prog 25 (ty 25):=tfM YN Try.underlying25 (slK PD (λ _=>Try.underlying5))
theorem JkD:Aw Try.prog 27 (ty 27):=tfM Jfx Try.underlying27 (slK JfD)
theorem JkE:Aw Try.prog 29 (ty 29):=tfM Jfy Try.underlying29 (stF (AY (Cf Lh Try.underlying3) (AY (Cf PD Try.underlying5) (AY (Cf Jfx Try.underlying27) Hh))))
theorem JkF:Aw Try.prog 31 (ty 31):=tfM Jfz Try.underlying31 (slK Uf)
theorem JkG:Aw Try.prog 32 (ty 32):=tfM Uf Try.underlying32 (slK Lh)
theorem JkH:Aw Try.prog 34 (ty 34):=tfM Jjy Try.underlying34 (stF (AY (Cf WI Try.underlying9) (AY (Cf Jfz Try.underlying31) (AY (Cf Uf Try.underlying32) Hh))))
theorem JkI:Aw Try.prog 35 (ty 35):=tfM JfA Try.underlying35 rfl
theorem JkJ:Aw Try.prog 43 (ty 43):=tfM Jbv Try.underlying43 (slK JfC (λ _=>Try.underlying64))
theorem JkK:Aw Try.prog 45 (ty 45):=tfM JfB Try.underlying45 (stF (AY (Cf Jbv Try.underlying43) (AY (Cf Uf Try.underlying32) Hh)))
theorem JkL:Aw Try.prog 49 (ty 49):=tfM Jjz Try.underlying49 (stF (AY (Cf JfB Try.underlying45) (AY (Cf Lh Try.underlying3) (AY (Cf JfA Try.underlying35) Hh))))
theorem JkM:Aw Try.prog 54 (ty 54):=tfM JjA Try.underlying54 (stF (AY (Cf PD Try.underlying5) (AY (Cf PD Try.underlying5) (AY (Cf YN Try.underlying25) Hh))))
theorem JkN:Aw Try.prog 56 (ty 56):=tfM JjB Try.underlying56 (stF (AY (Cf Lh Try.underlying3) (AY (Cf Lh Try.underlying3) (AY (Cf WI Try.underlying9) Hh)))) (λ _=>Q8 Try.underlying56 (by kernel_rfl) (by kernel_rfl) rfl λ j f k h1 h2=>match j,h1,h2 with|0,h1,h2=>(by cases h1;cases h2;exact ⟨by decide,rfl,⟨_,Try.underlying3⟩⟩)|1,h1,h2=>(by cases h1;cases h2;exact ⟨by decide,rfl,⟨_,Try.underlying3⟩⟩)|2,h1,h2=>(by cases h1;cases h2;exact ⟨by decide,rfl,Try.underlying9⟩)|n+3,h1,_=>by simp at h1)
theorem JkO:Aw Try.prog 64 (ty 64):=tfM JfC Try.underlying64 rfl
theorem JkP:Aw Try.prog 67 (ty 67):=tfM JfD Try.underlying67 (stF (AY (Cf WI Try.underlying9) (AY (Cf Jbv Try.underlying43) (AY (Cf PD Try.underlying5) (AY (Cf PD Try.underlying5) (AY (Cf Lh Try.underlying3) (AY (Cf Lh Try.underlying3) Hh)))))))
theorem JkQ:Aw Try.prog 69 (ty 69):=tfM JfE Try.underlying69 (arK PD)
theorem JkR:Aw Try.prog 71 (ty 71):=tfM JfF Try.underlying71 (stF (AY (Cf YN Try.underlying25) (AY (Cf YN Try.underlying25) (AY (Cf PD Try.underlying5) (AY (Cf PD Try.underlying5) (AY (Cf JfE Try.underlying69) Hh))))))
theorem JkS:Aw Try.prog 75 (ty 75):=tfM JjC Try.underlying75 trivial
theorem JkT:Aw Try.prog 84 (ty 84):=tfM Jbw Try.underlying84 (slK Jbx)
theorem JkU:Aw Try.prog 87 (ty 87):=tfM Jbx Try.underlying87 (stF (AY (Cf Lh Try.underlying3) (AY (Cf Lh Try.underlying3) (AY (Cf PD Try.underlying5) Hh)))) (λ _=>Q8 Try.underlying87 (by kernel_rfl) (by kernel_rfl) rfl λ j f k h1 h2=>match j,h1,h2 with|0,h1,h2=>(by cases h1;cases h2;exact ⟨by decide,rfl,⟨_,Try.underlying3⟩⟩)|1,h1,h2=>(by cases h1;cases h2;exact ⟨by decide,rfl,⟨_,Try.underlying3⟩⟩)|2,h1,h2=>(by cases h1;cases h2;exact ⟨by decide,rfl,⟨_,Try.underlying5⟩⟩)|n+3,h1,_=>by simp at h1)
theorem JkV:Aw Try.prog 90 (ty 90):=tfM JjD Try.underlying90 (stF (AY (Cf WI Try.underlying9) (AY (Cf Lh Try.underlying3) (AY (Cf Jbx Try.underlying87) (AY (Cf Jbw Try.underlying84) Hh)))))
theorem JkW:Aw Try.prog 99 (ty 99):=tfM JjE Try.underlying99 (slK WI)
theorem JjF:Aw Try.prog 101 (ty 101):=tfM Jgt Try.underlying101 (arK Lh)
theorem JjG:Aw Try.prog 106 (ty 106):=tfM Jgu Try.underlying106 (by obtain ⟨j,h1,h2,h3,h4⟩:=Lh;exact ⟨_,_,j,_,rfl,(Te Try.underlying87 (by kernel_rfl) rfl λ j f k h1 h2=>match j,h1,h2 with|0,h1,h2=>(by cases h1;cases h2;exact ⟨by decide,rfl,⟨_,Try.underlying3⟩⟩)|1,h1,h2=>(by cases h1;cases h2;exact ⟨by decide,rfl,⟨_,Try.underlying3⟩⟩)|2,h1,h2=>(by cases h1;cases h2;exact ⟨by decide,rfl,⟨_,Try.underlying5⟩⟩)|n+3,h1,_=>by simp at h1),h1,h4,rfl,(λ h=>by cases h),(λ _=>⟨_,rfl,rfl⟩)⟩)
theorem JjH:Aw Try.prog 107 (ty 107):=tfM Jby Try.underlying107 (slK Jbz)
theorem JjI:Aw Try.prog 108 (ty 108):=tfM U3 Try.underlying108 (slK Jjw)
theorem JjJ:Aw Try.prog 110 (ty 110):=tfM Jgv Try.underlying110 (stF (AY (Cf Jby Try.underlying107) (AY (Cf U3 Try.underlying108) Hh)))
theorem JjK:Aw Try.prog 112 (ty 112):=tfM Jbz Try.underlying112 (slK JbA)
theorem JjL:Aw Try.prog 114 (ty 114):=tfM JbA Try.underlying114 (stF (AY (Cf WI Try.underlying9) (AY (Cf Lh Try.underlying3) (AY (Cf Lh Try.underlying3) Hh)))) (λ _=>Q8 Try.underlying114 (by kernel_rfl) (by kernel_rfl) rfl λ j f k h1 h2=>match j,h1,h2 with|0,h1,h2=>(by cases h1;cases h2;exact ⟨by decide,rfl,Try.underlying9⟩)|1,h1,h2=>(by cases h1;cases h2;exact ⟨by decide,rfl,⟨_,Try.underlying3⟩⟩)|2,h1,h2=>(by cases h1;cases h2;exact ⟨by decide,rfl,⟨_,Try.underlying3⟩⟩)|n+3,h1,_=>by simp at h1)
theorem JjM:Aw Try.prog 120 (ty 120):=tfM Jgw Try.underlying120 trivial
theorem JjN:Aw Try.prog 123 (ty 123):=tfM JbB Try.underlying123 (stF (AY (Cf Uf Try.underlying32) (AY (Cf Uf Try.underlying32) Hh)))
theorem JjO:Aw Try.prog 124 (ty 124):=tfM JbC Try.underlying124 (slK JbE)
theorem JjP:Aw Try.prog 125 (ty 125):=tfM JbD Try.underlying125 (slK JbB)
theorem JjQ:Aw Try.prog 127 (ty 127):=tfM Jgx Try.underlying127 (stF (AY (Cf Jfy Try.underlying29) (AY (Cf WI Try.underlying9) (AY (Cf Jbw Try.underlying84) (AY (Cf JbC Try.underlying124) (AY (Cf JbD Try.underlying125) (AY (Cf Lh Try.underlying3) Hh)))))))
theorem JjR:Aw Try.prog 129 (ty 129):=tfM Jgy Try.underlying129 (slK U3)
theorem JjS:Aw Try.prog 137 (ty 137):=tfM JbE Try.underlying137 (slK JbF)
theorem JjT:Aw Try.prog 139 (ty 139):=tfM JbF Try.underlying139 (stF (AY (Cf Lh Try.underlying3) (AY (Cf Lh Try.underlying3) Hh))) (λ _=>Q8 Try.underlying139 (by kernel_rfl) (by kernel_rfl) rfl λ j f k h1 h2=>match j,h1,h2 with|0,h1,h2=>(by cases h1;cases h2;exact ⟨by decide,rfl,⟨_,Try.underlying3⟩⟩)|1,h1,h2=>(by cases h1;cases h2;exact ⟨by decide,rfl,⟨_,Try.underlying3⟩⟩)|n+2,h1,_=>by simp at h1)
theorem JjU:Aw Try.prog 140 (ty 140):=tfM Jgz Try.underlying140 (arK U3)
theorem JjV:Aw Try.prog 144 (ty 144):=tfM JgA Try.underlying144 trivial
theorem JjW:Aw Try.prog 148 (ty 148):=tfM JgB Try.underlying148 rfl
theorem JjX:Aw Try.prog 152 (ty 152):=tfM JgC Try.underlying152 rfl
theorem JjY:Aw Try.prog 160 (ty 160):=tfM JgD Try.underlying160 rfl
theorem JjZ:Aw Try.prog 162 (ty 162):=tfM JgE Try.underlying162 rfl
theorem Jj0:Aw Try.prog 164 (ty 164):=tfM JgF Try.underlying164 rfl
theorem Jj1:Aw Try.prog 168 (ty 168):=tfM JgG Try.underlying168 trivial
theorem tyOK:J0 Try.prog ty:=by
 intro t h
 unfold ty at h
 split at h
 ·exact tf3
 ·exact tf4
 ·exact tf5
 ·exact tf9
 ·exact JkA
 ·exact JkB
 ·exact JkC
 ·exact JkD
 ·exact JkE
 ·exact JkF
 ·exact JkG
 ·exact JkH
 ·exact JkI
 ·exact JkJ
 ·exact JkK
 ·exact JkL
 ·exact JkM
 ·exact JkN
 ·exact JkO
 ·exact JkP
 ·exact JkQ
 ·exact JkR
 ·exact JkS
 ·exact JkT
 ·exact JkU
 ·exact JkV
 ·exact JkW
 ·exact JjF
 ·exact JjG
 ·exact JjH
 ·exact JjI
 ·exact JjJ
 ·exact JjK
 ·exact JjL
 ·exact JjM
 ·exact JjN
 ·exact JjO
 ·exact JjP
 ·exact JjQ
 ·exact JjR
 ·exact JjS
 ·exact JjT
 ·exact JjU
 ·exact JjV
 ·exact JjW
 ·exact JjX
 ·exact JjY
 ·exact JjZ
 ·exact Jj0
 ·exact Jj1
 ·cases h
theorem follows:Try.prog.follows .mixedOrders=true:=by kernel_rfl
def cxk (n nk:Nat):Cx:=⟨ty,⟨n,[],nk⟩,AF Try.prog,BC Try.prog,TT Try.prog,false⟩
def cx (n:Nat):Cx:=cxk n 0
theorem JfG (n nk:Nat):Jx Try.prog (cxk n nk):=⟨tyOK,λ _ _ _ h=>h,λ _ _ _ _ _ _ h=>h,λ _ _ _ _ _ h=>h⟩
end Go.AI
end
section
namespace Go.AI
structure Ax where
 Print:(List UInt8)
 Cells:(List Int)
 Left:Int
 Right:Int
 From:Int
 To:Int
 deriving DecidableEq,Inhabited
structure Ad where
 Modes:Int
 Accept:Int
 Rules:(List Ax)
 deriving DecidableEq,Inhabited
structure Ab where
 Mode:Int
 Last:Int
 Need:Int
 deriving DecidableEq,Inhabited
structure NL where
 Print:(List UInt8)
 Cells:Int
 To:Int
 deriving DecidableEq,Inhabited
structure AM where
 Arcs:(List (List NL))
 Accepts:(List Bool)
 deriving DecidableEq,Inhabited
structure Bj where
 Text:(List UInt8)
 Costs:(List (List Int))
 Least:(List Int)
 deriving DecidableEq,Inhabited
structure B4 where
 At:Int
 Cut:Int
 Put:(List UInt8)
 deriving DecidableEq,Inhabited
structure AD where
 States:(List Int)
 Costs:(List Int)
 deriving DecidableEq,Inhabited
structure A7 where
 Rule:Int
 To:Int
 deriving DecidableEq,Inhabited
structure Af where
 T:Ad
 S:(List UInt8)
 States:(List Ab)
 Arcs:(List (List A7))
 Columns:(List AD)
 Last:Int
 deriving DecidableEq,Inhabited
structure AU where
 Cells:(List Int)
 Path:(List Int)
 deriving DecidableEq,Inhabited
structure FJ (α:Type) where
 a0:α
 a1:α
 deriving DecidableEq,Inhabited
structure Dp where
 P:(List Int)
 C:(List Int)
 L:Int
 R:Int
 W:(FJ Int)
 deriving DecidableEq,Inhabited
structure MX where
 Base:Int
 Drop:Int
 More:(List Dp)
 deriving DecidableEq,Inhabited
structure Sn where
 S:(List UInt8)
 I:Int
 State:Ab
 L:(List Ab)
 deriving DecidableEq,Inhabited
structure Jkt where
 W:AU
 At:Int
 E:Int
 deriving DecidableEq,Inhabited
structure BK where
 At:Int
 Cut:Int
 L:(List Int)
 deriving DecidableEq,Inhabited
def GJ (_:Nat) (t_1:Ad) (i_1:Int):Option ((Ad×Int)⊕Ad):=
 if decide (i_1<3)=true then
  (idx ([[97],[98],[97,98]]) i_1).bind λ x1=>
  (idx [1,3,7] i_1).bind λ x2=>
  (app 64 t_1.Rules ([({ Print:=x1,Cells:=[x2],Left:=63,Right:=63,From:=0,To:=0 }:Ax)])).bind λ l1=>
  some (Sum.inl (({ Modes:=t_1.Modes,Accept:=t_1.Accept,Rules:=l1 }:Ad),(Au .i64 i_1 1)))
 else
  some (Sum.inr t_1)
def Kc (n:Nat) :Option Ad:=
 (whl (λ (x:(Ad×Int))=>GJ n x.1 x.2) n (({ Modes:=1,Accept:=1,Rules:=([]:List Ax) }:Ad),0)).bind λ y1=>
 some y1
def DL (_:Nat) (p0_:Int):Option Bool:=
 some ((decide (32≤Cg .u8 p0_ 127))&&(decide (Cg .u8 p0_ 127≤126)))
def Fq (n:Nat) (p0_:(List UInt8)) (x_1:Int):Option (Int⊕(Unit⊕(Int×Int))):=
 if decide (x_1<((List.length p0_:Nat):Int))=true then
  (NI p0_ x_1).bind λ b1=>
  (DL n b1).bind λ r1=>
  if (!r1)=true then
   some (Sum.inr (Sum.inr (x_1,60)))
  else
   some (Sum.inl (Au .i64 x_1 1))
 else
  some (Sum.inr (Sum.inl ()))
def FO (n:Nat) (p0_:(List UInt8)):Option (Int×Int):=
 (whl (λ (x:Int)=>Fq n p0_ x) n 0).bind λ y2=>
 match y2 with
 | Sum.inl _=>
  some (((List.length p0_:Nat):Int),0)
 | Sum.inr y4=>
  some y4
def JA (_:Nat) :Option Ab:=
 some ({ Mode:=0,Last:=0,Need:=63 }:Ab)
def Hr (_:Nat) (p0_:Int) (p1_:Int):Option Bool:=
 (if ((decide (0≤p1_))&&(decide (p1_<8)))=true then Bm (decide (0≤p1_)) else some default).bind λ _=>
 some (((decide (0≤p1_))&&(decide (p1_<8)))&&((Cg .u8 (WB .u8 p0_ p1_) 1)==1))
def Eo (_:Nat) (p0_:Int):Option Int:=
 if ((decide (97≤Cg .u8 p0_ 127))&&(decide (Cg .u8 p0_ 127≤122)))=true then
  some 1
 else
  if ((decide (65≤Cg .u8 p0_ 127))&&(decide (Cg .u8 p0_ 127≤90)))=true then
   some 2
  else
   if ((decide (48≤Cg .u8 p0_ 127))&&(decide (Cg .u8 p0_ 127≤57)))=true then
    some 3
   else
    if ((Cg .u8 p0_ 127)==32)=true then
     some 4
    else
     some 5
def GV (n:Nat) (p0_:Ad) (p1_:Ab) (p2_:Int):Option (Ab×Bool):=
 if ((decide (p2_<0))||(decide (p2_≥((List.length p0_.Rules:Nat):Int))))=true then
  some (({ Mode:=0,Last:=0,Need:=0 }:Ab),false)
 else
  (idx p0_.Rules p2_).bind λ x3=>
  (if (!(x3.From != p1_.Mode))=true then Hr n x3.Left p1_.Last else some default).bind λ r2=>
  if ((x3.From != p1_.Mode)||(!r2))=true then
   some (({ Mode:=0,Last:=0,Need:=0 }:Ab),false)
  else
   if (x3.Print==[])=true then
    if ((Cg .u8 p1_.Need x3.Right)==0)=true then
     some (({ Mode:=0,Last:=0,Need:=0 }:Ab),false)
    else
     some (({ Mode:=x3.To,Last:=p1_.Last,Need:=Cg .u8 p1_.Need x3.Right }:Ab),true)
   else
    (NI x3.Print 0).bind λ b2=>
    (Eo n b2).bind λ r3=>
    (Hr n p1_.Need r3).bind λ r4=>
    if (!r4)=true then
     some (({ Mode:=0,Last:=0,Need:=0 }:Ab),false)
    else
     (NI x3.Print (Dw .i64 ((List.length x3.Print:Nat):Int) 1)).bind λ b3=>
     (Eo n b3).bind λ r5=>
     some (({ Mode:=x3.To,Last:=r5,Need:=x3.Right }:Ab),true)
def Ci (_:Nat) (x_2:Int) (states_5:(List Ab)) (from_5:(List (List Int))) (number_4:(List (Ab×Int))):Option (((List Ab)×(List (List Int))×(List (Ab×Int))×Int)⊕((List Ab)×(List (List Int))×(List (Ab×Int)))):=
 some (Sum.inl (states_5,from_5,number_4,(Au .i64 x_2 1)))
def CL (n:Nat) (k_1:Int) (x_2:Int) (states_6:(List Ab)) (from_6:(List (List Int))) (number_5:(List (Ab×Int))) (n_1:Int):Option (((List Ab)×(List (List Int))×(List (Ab×Int))×Int)⊕((List Ab)×(List (List Int))×(List (Ab×Int)))):=
 (idx from_6 n_1).bind λ x5=>
 (app 8 x5 [k_1]).bind λ l2=>
 Ci n x_2 states_6 (List.set from_6 (Int.toNat n_1) l2) number_5
def Bx (n:Nat) (p0_:Ad) (k_1:Int) (states_3:(List Ab)) (from_3:(List (List Int))) (number_2:(List (Ab×Int))) (x_2:Int):Option (((List Ab)×(List (List Int))×(List (Ab×Int))×Int)⊕((List Ab)×(List (List Int))×(List (Ab×Int)))):=
 if decide (x_2<((List.length p0_.Rules:Nat):Int))=true then
  (idx states_3 k_1).bind λ x4=>
  (GV n p0_ x4 x_2).bind λ r7=>
  if (!r7.2)=true then
   Ci n x_2 states_3 from_3 number_2
  else
   if (!(Option.isSome (F5 r7.1 number_2)))=true then
    (app 24 states_3 [r7.1]).bind λ l3=>
    (app 24 from_3 [([]:(List Int))]).bind λ l4=>
    CL n k_1 x_2 l3 l4 (LI r7.1 ((List.length states_3:Nat):Int) number_2) ((List.length states_3:Nat):Int)
   else
    CL n k_1 x_2 states_3 from_3 number_2 (Option.getD (F5 r7.1 number_2) 0)
 else
  some (Sum.inr (states_3,from_3,number_2))
def Cj (n:Nat) (p0_:Ad) (states_1:(List Ab)) (from_1:(List (List Int))) (number_1:(List (Ab×Int))) (k_1:Int):Option (((List Ab)×(List (List Int))×(List (Ab×Int))×Int)⊕((List Ab)×(List (List Int)))):=
 if decide (k_1<((List.length states_1:Nat):Int))=true then
  (whl (λ (x:((List Ab)×(List (List Int))×(List (Ab×Int))×Int))=>Bx n p0_ k_1 x.1 x.2.1 x.2.2.1 x.2.2.2) n (states_1,from_1,number_1,0)).bind λ y5=>
  some (Sum.inl (y5.1,y5.2.1,y5.2.2,(Au .i64 k_1 1)))
 else
  some (Sum.inr (states_1,from_1))
def Fr (n:Nat) (p0_:Ad):Option ((List Ab)×(List (List Int))):=
 (JA n).bind λ r6=>
 (whl (λ (x:((List Ab)×(List (List Int))×(List (Ab×Int))×Int))=>Cj n p0_ x.1 x.2.1 x.2.2.1 x.2.2.2) n ([r6],([[]]:List (List Int)),(LI r6 0 []),0)).bind λ y6=>
 some (y6.1,y6.2)
def Gx (n:Nat) (p0_:Ad):Option (List Ab):=
 (Fr n p0_).bind λ r8=>
 some r8.1
def Ea (n:Nat) (p0_:Ad) (p1_:Ab):Option Bool:=
 (if decide (p1_.Mode<p0_.Modes)=true then Hr n p0_.Accept p1_.Mode else some default).bind λ r9=>
 (if ((decide (p1_.Mode<p0_.Modes))&&r9)=true then Hr n p1_.Need 0 else some default).bind λ r10=>
 some (((decide (p1_.Mode<p0_.Modes))&&r9)&&r10)
def EK (_:Nat) (p0_:(List UInt8)) (p1_:(List UInt8)):Option Bool:=
 (if decide (((List.length p0_:Nat):Int)≥((List.length p1_:Nat):Int))=true then sub p0_ 0 ((List.length p1_:Nat):Int) else some default).bind λ s1=>
 some ((decide (((List.length p0_:Nat):Int)≥((List.length p1_:Nat):Int)))&&(s1==p1_))
def DS (n:Nat) (p0_:(List UInt8)) (p1_:(List UInt8)):Option Bool:=
 (EK n p0_ p1_).bind λ r11=>
 some r11
def BY (_:Nat) (_:Ad) (r12:(List Ab)) (number_6:(List (Ab×Int))) (x_5:Int):Option (((List (Ab×Int))×Int)⊕(List (Ab×Int))):=
 if decide (x_5<((List.length r12:Nat):Int))=true then
  (idx r12 x_5).bind λ x12=>
  some (Sum.inl ((LI x12 x_5 number_6),(Au .i64 x_5 1)))
 else
  some (Sum.inr number_6)
def Cp (_:Nat) (x_7:Int) (g_5:AM):Option ((AM×Int)⊕AM):=
 some (Sum.inl (g_5,(Au .i64 x_7 1)))
def BZ (n:Nat) (p0_:Ad) (_:(List Ab)) (y8:(List (Ab×Int))) (x_6:Int) (x13:Ab) (g_3:AM) (x_7:Int):Option ((AM×Int)⊕AM):=
 if decide (x_7<((List.length p0_.Rules:Nat):Int))=true then
  (idx p0_.Rules x_7).bind λ x15=>
  (GV n p0_ x13 x_7).bind λ r14=>
  if r14.2=true then
   (idx g_3.Arcs x_6).bind λ x16=>
   (app 32 x16 [({ Print:=x15.Print,Cells:=((List.length x15.Cells:Nat):Int),To:=(Option.getD (F5 r14.1 y8) 0) }:NL)]).bind λ l12=>
   Cp n x_7 ({ Arcs:=List.set g_3.Arcs (Int.toNat x_6) l12,Accepts:=g_3.Accepts }:AM)
  else
   Cp n x_7 g_3
 else
  some (Sum.inr g_3)
def Cq (n:Nat) (p0_:Ad) (r12:(List Ab)) (y8:(List (Ab×Int))) (g_1:AM) (x_6:Int):Option ((AM×Int)⊕AM):=
 if decide (x_6<((List.length r12:Nat):Int))=true then
  (idx r12 x_6).bind λ x13=>
  (Ea n p0_ x13).bind λ r13=>
  (idx g_1.Accepts x_6).bind λ _=>
  (put g_1.Accepts x_6 r13).bind λ l11=>
  (whl (λ (x:(AM×Int))=>BZ n p0_ r12 y8 x_6 x13 x.1 x.2) n (({ Arcs:=g_1.Arcs,Accepts:=l11 }:AM),0)).bind λ y9=>
  some (Sum.inl (y9,(Au .i64 x_6 1)))
 else
  some (Sum.inr g_1)
def DD (n:Nat) (p0_:Ad):Option AM:=
 (Gx n p0_).bind λ r12=>
 (whl (λ (x:((List (Ab×Int))×Int))=>BY n p0_ r12 x.1 x.2) n ([],0)).bind λ y8=>
 (mkl 24 ((List.length r12:Nat):Int) ([]:(List NL))).bind λ l9=>
 (mkl 1 ((List.length r12:Nat):Int) (false:Bool)).bind λ l10=>
 (whl (λ (x:(AM×Int))=>Cq n p0_ r12 y8 x.1 x.2) n (({ Arcs:=l9,Accepts:=l10 }:AM),0)).bind λ y10=>
 some y10
def BD (_:Nat) (p1_:(List UInt8)) (b0_:AM) (_:(List Int)) (l15:(List Int)) (m_3:(List (Nat×Nat))) (x_11:Int):Option (((List (Nat×Nat))×Int)⊕(List (Nat×Nat))):=
 if decide (x_11<Au .i64 ((List.length p1_:Nat):Int) 1)=true then
  (Jbq (List.length l15) (Kb .i64 x_11 ((List.length b0_.Arcs:Nat):Int)) (Kb .i64 (Au .i64 x_11 1) ((List.length b0_.Arcs:Nat):Int)) (Kb .i64 (Au .i64 x_11 1) ((List.length b0_.Arcs:Nat):Int))).bind λ _=>
  (idx m_3 x_11).bind λ _=>
  (put m_3 x_11 ((0+Int.toNat (Kb .i64 x_11 ((List.length b0_.Arcs:Nat):Int)),Int.toNat (Kb .i64 (Au .i64 x_11 1) ((List.length b0_.Arcs:Nat):Int))-Int.toNat (Kb .i64 x_11 ((List.length b0_.Arcs:Nat):Int))):Nat×Nat)).bind λ l16=>
  some (Sum.inl (l16,(Au .i64 x_11 1)))
 else
  some (Sum.inr m_3)
def B7 (n:Nat) (p1_:(List UInt8)) (b0_:AM):Option ((List (Nat×Nat))×(List Int)×(List Int)):=
 (mkl 24 (Au .i64 ((List.length p1_:Nat):Int) 1) ([]:(List Int))).bind λ l13=>
 (mkl 8 (Au .i64 ((List.length p1_:Nat):Int) 1) (0:Int)).bind λ l14=>
 (mkl 8 (Kb .i64 ((List.length b0_.Arcs:Nat):Int) (Au .i64 ((List.length p1_:Nat):Int) 1)) (0:Int)).bind λ l15=>
 (whl (λ (x:((List (Nat×Nat))×Int))=>BD n p1_ b0_ l14 l15 x.1 x.2) n ((List.replicate (List.length l13) ((0,0):Nat×Nat)),0)).bind λ y11=>
 some (y11,l14,l15)
def C3 (_:Nat) (_:(List UInt8)) (_:AM) (_:(List (Nat×Nat))) (_:(List Int)) (_:(List Int)):Option Unit:=
 some ()
def Fs (_:Nat) (_:(List UInt8)) (p1_:Int) (p2_:Int) (o0_:(List (Nat×Nat))) (o1_:(List Int)) (o2_:(List Int)):Option Int:=
 (idx o0_ p1_).bind λ x18=>
 (ixP o2_ x18 p2_).bind λ x19=>
 if decide (x19<0)=true then
  some (-1)
 else
  (idx o1_ p1_).bind λ x20=>
  (idx o0_ p1_).bind λ x21=>
  (ixP o2_ x21 p2_).bind λ x22=>
  some (Au .i64 x20 x22)
def Br (_:Nat) (p0_:Int) (p1_:Int) (p2_:Int) (b0_0_:(Nat×Nat)) (o1_:(List Int)):Option ((List Int)×Bool):=
 (if (!(decide (p1_<0)))=true then ixP o1_ b0_0_ p0_ else some default).bind λ x23=>
 (if ((!(decide (p1_<0)))&&(decide (x23≥0)))=true then ixP o1_ b0_0_ p0_ else some default).bind λ x24=>
 if ((decide (p1_<0))||((decide (x23≥0))&&(decide (x24≤Au .i64 p1_ p2_))))=true then
  some (o1_,false)
 else
  (ixP o1_ b0_0_ p0_).bind λ _=>
  (put o1_ ((b0_0_.1+Int.toNat p0_:Nat):Int) (Au .i64 p1_ p2_)).bind λ l17=>
  some (l17,true)
def C6 (_:Nat) (x_17:Int) (least_3:Int):Option ((Int×Int)⊕Int):=
 some (Sum.inl (least_3,(Au .i64 x_17 1)))
def CD (n:Nat) (p0_:(Nat×Nat)) (o0_:(List Int)) (least_1:Int) (x_17:Int):Option ((Int×Int)⊕Int):=
 if decide (x_17<((p0_.2:Nat):Int))=true then
  (ixP o0_ p0_ x_17).bind λ x26=>
  if ((decide (x26≥0))&&((decide (least_1<0))||(decide (x26<least_1))))=true then
   C6 n x_17 x26
  else
   C6 n x_17 least_1
 else
  some (Sum.inr least_1)
def C7 (_:Nat) (x_18:Int) (column_2:(List Int)):Option (((List Int)×Int)⊕(List Int)):=
 some (Sum.inl (column_2,(Au .i64 x_18 1)))
def CE (n:Nat) (p0_:(Nat×Nat)) (y12:Int) (column_1:(List Int)) (x_18:Int):Option (((List Int)×Int)⊕(List Int)):=
 if decide (x_18<((p0_.2:Nat):Int))=true then
  (ixP column_1 p0_ x_18).bind λ x27=>
  if decide (x27≥0)=true then
   (ixP column_1 p0_ x_18).bind λ _=>
   (put column_1 ((p0_.1+Int.toNat x_18:Nat):Int) (Dw .i64 x27 y12)).bind λ l18=>
   C7 n x_18 l18
  else
   C7 n x_18 column_1
 else
  some (Sum.inr column_1)
def HR (n:Nat) (p0_:(Nat×Nat)) (o0_:(List Int)):Option ((List Int)×Int):=
 (whl (λ (x:(Int×Int))=>CD n p0_ o0_ x.1 x.2) n ((-1),0)).bind λ y12=>
 (whl (λ (x:((List Int)×Int))=>CE n p0_ y12 x.1 x.2) n (o0_,0)).bind λ y13=>
 some (y13,y12)
def Bn (_:Nat) (x_22:Int) (column_5:(List Int)):Option (((List Int)×Int)⊕(List Int)):=
 some (Sum.inl (column_5,(Au .i64 x_22 1)))
def A9 (n:Nat) (p0_:Int) (b0_0_:(List UInt8)) (b4_:AM) (_:(List (Nat×Nat))) (_:(List Int)) (x29:(Nat×Nat)) (column_3:(List Int)) (x_22:Int):Option (((List Int)×Int)⊕(List Int)):=
 if decide (x_22<((x29.2:Nat):Int))=true then
  (ixP column_3 x29 x_22).bind λ _=>
  (put column_3 ((x29.1+Int.toNat x_22:Nat):Int) (-1)).bind λ l19=>
  (if (p0_==((List.length b0_0_:Nat):Int))=true then idx b4_.Accepts x_22 else some default).bind λ x31=>
  if ((p0_==((List.length b0_0_:Nat):Int))&&x31)=true then
   (ixP l19 x29 x_22).bind λ _=>
   (put l19 ((x29.1+Int.toNat x_22:Nat):Int) 0).bind λ l20=>
   Bn n x_22 l20
  else
   Bn n x_22 l19
 else
  some (Sum.inr column_3)
def Bo (_:Nat) (x_24:Int) (column_10:(List Int)):Option (((List Int)×Int)⊕(List Int)):=
 some (Sum.inl (column_10,(Au .i64 x_24 1)))
def Ba (n:Nat) (p0_:Int) (b0_0_:(List UInt8)) (_:AM) (o2_:(List (Nat×Nat))) (o3_:(List Int)) (x29:(Nat×Nat)) (x_23:Int) (x33:(List NL)) (column_8:(List Int)) (x_24:Int):Option (((List Int)×Int)⊕(List Int)):=
 if decide (x_24<((List.length x33:Nat):Int))=true then
  (idx x33 x_24).bind λ x34=>
  (if (!(x34.Print==[]))=true then sub b0_0_ p0_ ((List.length b0_0_:Nat):Int) else some default).bind λ s2=>
  (if (!(x34.Print==[]))=true then DS n s2 x34.Print else some default).bind λ r15=>
  if ((!(x34.Print==[]))&&r15)=true then
   (Fs n b0_0_ (Au .i64 p0_ ((List.length x34.Print:Nat):Int)) x34.To o2_ o3_ column_8).bind λ r16=>
   (Br n x_23 r16 x34.Cells x29 column_8).bind λ r17=>
   Bo n x_24 r17.1
  else
   Bo n x_24 column_8
 else
  some (Sum.inr column_8)
def Bb (n:Nat) (p0_:Int) (b0_0_:(List UInt8)) (b4_:AM) (o2_:(List (Nat×Nat))) (o3_:(List Int)) (x29:(Nat×Nat)) (column_6:(List Int)) (x_23:Int):Option (((List Int)×Int)⊕(List Int)):=
 if decide (x_23<((List.length b4_.Arcs:Nat):Int))=true then
  (idx b4_.Arcs x_23).bind λ x33=>
  (whl (λ (x:((List Int)×Int))=>Ba n p0_ b0_0_ b4_ o2_ o3_ x29 x_23 x33 x.1 x.2) n (column_6,0)).bind λ y15=>
  some (Sum.inl (y15,(Au .i64 x_23 1)))
 else
  some (Sum.inr column_6)
def A5 (_:Nat) (x_26:Int) (column_17:(List Int)) (better_6:Bool):Option (((List Int)×Bool×Int)⊕((List Int)×Bool)):=
 some (Sum.inl (column_17,better_6,(Au .i64 x_26 1)))
def Bc (n:Nat) (_:(List UInt8)) (_:AM) (_:(List (Nat×Nat))) (_:(List Int)) (x29:(Nat×Nat)) (x_25:Int) (x35:(List NL)) (column_15:(List Int)) (better_4:Bool) (x_26:Int):Option (((List Int)×Bool×Int)⊕((List Int)×Bool)):=
 if decide (x_26<((List.length x35:Nat):Int))=true then
  (idx x35 x_26).bind λ x36=>
  (if (x36.Print==[])=true then ixP column_15 x29 x36.To else some default).bind λ x37=>
  if (x36.Print==[])=true then
   (Br n x_25 x37 x36.Cells x29 column_15).bind λ r18=>
   if ((x36.Print==[])&&r18.2)=true then
    A5 n x_26 r18.1 true
   else
    A5 n x_26 r18.1 better_4
  else
   if ((x36.Print==[])&&false)=true then
    A5 n x_26 column_15 true
   else
    A5 n x_26 column_15 better_4
 else
  some (Sum.inr (column_15,better_4))
def Bd (n:Nat) (b0_0_:(List UInt8)) (b4_:AM) (o2_:(List (Nat×Nat))) (o3_:(List Int)) (x29:(Nat×Nat)) (column_13:(List Int)) (better_2:Bool) (x_25:Int):Option (((List Int)×Bool×Int)⊕((List Int)×Bool)):=
 if decide (x_25<((List.length b4_.Arcs:Nat):Int))=true then
  (idx b4_.Arcs x_25).bind λ x35=>
  (whl (λ (x:((List Int)×Bool×Int))=>Bc n b0_0_ b4_ o2_ o3_ x29 x_25 x35 x.1 x.2.1 x.2.2) n (column_13,better_2,0)).bind λ y17=>
  some (Sum.inl (y17.1,y17.2,(Au .i64 x_25 1)))
 else
  some (Sum.inr (column_13,better_2))
def Bp (n:Nat) (b0_0_:(List UInt8)) (b4_:AM) (o2_:(List (Nat×Nat))) (o3_:(List Int)) (x29:(Nat×Nat)) (column_11:(List Int)) (better_1:Bool):Option (((List Int)×Bool)⊕(List Int)):=
 if better_1=true then
  (whl (λ (x:((List Int)×Bool×Int))=>Bd n b0_0_ b4_ o2_ o3_ x29 x.1 x.2.1 x.2.2) n (column_11,false,0)).bind λ y18=>
  some (Sum.inl (y18.1,y18.2))
 else
  some (Sum.inr column_11)
def BE (n:Nat) (p0_:Int) (b0_0_:(List UInt8)) (b4_:AM) (o2_:(List (Nat×Nat))) (o3_:(List Int)) (o5_:(List Int)):Option ((List Int)×Int):=
 (idx o2_ p0_).bind λ x29=>
 (whl (λ (x:((List Int)×Int))=>A9 n p0_ b0_0_ b4_ o2_ o3_ x29 x.1 x.2) n (o5_,0)).bind λ y14=>
 (whl (λ (x:((List Int)×Int))=>Bb n p0_ b0_0_ b4_ o2_ o3_ x29 x.1 x.2) n (y14,0)).bind λ y16=>
 (whl (λ (x:((List Int)×Bool))=>Bp n b0_0_ b4_ o2_ o3_ x29 x.1 x.2) n (y16,true)).bind λ y19=>
 (HR n x29 y19).bind λ r19=>
 some (r19.1,r19.2)
def Hs (n:Nat) (p1_:(List UInt8)) (r21:AM) (r22:((List (Nat×Nat))×(List Int)×(List Int))) (m_5:(List Int)) (x_27:(List Int)) (i_2:Int):Option (((List Int)×(List Int)×Int)⊕((List Int)×(List Int))):=
 if decide (i_2≥0)=true then
  (BE n i_2 p1_ r21 r22.1 m_5 x_27).bind λ r24=>
  (idx m_5 i_2).bind λ _=>
  (put m_5 i_2 r24.2).bind λ l21=>
  some (Sum.inl (l21,r24.1,(Dw .i64 i_2 1)))
 else
  some (Sum.inr (m_5,x_27))
def HI (n:Nat) (p0_:Ad) (p1_:(List UInt8)):Option (Bj×Int):=
 (FO n p1_).bind λ r20=>
 if (r20.2 != 0)=true then
  some (({ Text:=[],Costs:=[],Least:=[] }:Bj),r20.2)
 else
  (DD n p0_).bind λ r21=>
  (B7 n p1_ r21).bind λ r22=>
  (C3 n p1_ r21 r22.1 r22.2.1 r22.2.2).bind λ _=>
  (whl (λ (x:((List Int)×(List Int)×Int))=>Hs n p1_ r21 r22 x.1 x.2.1 x.2.2) n (r22.2.1,r22.2.2,((List.length p1_:Nat):Int))).bind λ y20=>
  (ZF y20.2 r22.1).bind λ _=>
  some (({ Text:=p1_,Costs:=Pz y20.2 r22.1,Least:=y20.1 }:Bj),0)
def BV (_:Nat) (p1_:Bj) (b0_:AM) (x_32:Int):Option (Int⊕(Unit⊕Bool)):=
 if decide (x_32<((List.length p1_.Costs:Nat):Int))=true then
  (idx p1_.Costs x_32).bind λ x48=>
  if (((List.length x48:Nat):Int) != ((List.length b0_.Arcs:Nat):Int))=true then
   some (Sum.inr (Sum.inr false))
  else
   some (Sum.inl (Au .i64 x_32 1))
 else
  some (Sum.inr (Sum.inl ()))
def Dq (n:Nat) (p1_:Bj) (b0_:AM):Option Bool:=
 if ((((List.length p1_.Costs:Nat):Int) != (Au .i64 ((List.length p1_.Text:Nat):Int) 1))||(((List.length p1_.Least:Nat):Int) != (Au .i64 ((List.length p1_.Text:Nat):Int) 1)))=true then
  some false
 else
  (whl (λ (x:Int)=>BV n p1_ b0_ x) n 0).bind λ y30=>
  match y30 with
  | Sum.inl _=>
   some true
  | Sum.inr y32=>
   some y32
def Bs (_:Nat) (p0_:(List Int)) (p1_:(Nat×Nat)) (o0_:(List Int)) (x_34:Int):Option (Int⊕(Unit⊕Bool)):=
 if decide (x_34<((List.length p0_:Nat):Int))=true then
  (idx p0_ x_34).bind λ x49=>
  (ixP o0_ p1_ x_34).bind λ x50=>
  if (x49 != x50)=true then
   some (Sum.inr (Sum.inr false))
  else
   some (Sum.inl (Au .i64 x_34 1))
 else
  some (Sum.inr (Sum.inl ()))
def B8 (n:Nat) (p0_:(List Int)) (p1_:(Nat×Nat)) (o0_:(List Int)):Option Bool:=
 if (((List.length p0_:Nat):Int) != ((p1_.2:Nat):Int))=true then
  some false
 else
  (whl (λ (x:Int)=>Bs n p0_ p1_ o0_ x) n 0).bind λ y33=>
  match y33 with
  | Sum.inl _=>
   some true
  | Sum.inr y35=>
   some y35
def Cr (_:Nat) (j_2:Int) (shift_6:Int) (known_4:Bool):Option ((Int×Bool×Int)⊕(Int⊕(Int×Bool))):=
 some (Sum.inl (shift_6,known_4,(Au .i64 j_2 1)))
def Cs (n:Nat) (p0_:Bj) (_:(List UInt8)) (p2_:Int) (o0_:(List (Nat×Nat))) (o1_:(List Int)) (o2_:(List Int)) (shift_4:Int) (known_3:Bool) (j_2:Int):Option ((Int×Bool×Int)⊕(Int⊕(Int×Bool))):=
 if decide (j_2≤Au .i64 p2_ 3)=true then
  (idx p0_.Costs j_2).bind λ x51=>
  (idx o0_ j_2).bind λ x52=>
  (B8 n x51 x52 o2_).bind λ r26=>
  if (!r26)=true then
   some (Sum.inr (Sum.inr (0,false)))
  else
   (idx p0_.Least j_2).bind λ x53=>
   (if (!(decide (x53<0)))=true then idx o1_ j_2 else some default).bind λ x54=>
   if ((decide (x53<0))||(decide (x54<0)))=true then
    Cr n j_2 shift_4 known_3
   else
    (idx o1_ j_2).bind λ x55=>
    (idx p0_.Least j_2).bind λ x56=>
    if (known_3&&((Dw .i64 x55 x56) != shift_4))=true then
     some (Sum.inr (Sum.inr (0,false)))
    else
     Cr n j_2 (Dw .i64 x55 x56) true
 else
  some (Sum.inr (Sum.inl shift_4))
def Ep (n:Nat) (p0_:Bj) (p1_0_:(List UInt8)) (p2_:Int) (o0_:(List (Nat×Nat))) (o1_:(List Int)) (o2_:(List Int)):Option (Int×Bool):=
 (whl (λ (x:(Int×Bool×Int))=>Cs n p0_ p1_0_ p2_ o0_ o1_ o2_ x.1 x.2.1 x.2.2) n (0,false,p2_)).bind λ y36=>
 match y36 with
 | Sum.inl y37=>
  some (y37,true)
 | Sum.inr y38=>
  some y38
def CF (_:Nat) (p1_:Bj) (p2_:B4) (s6:(List UInt8)) (_:AM) (r30:((List (Nat×Nat))×(List Int)×(List Int))) (result_1:(List Int)) (x_37:(List Int)) (i_3:Int):Option (((List Int)×(List Int)×Int)⊕((List Int)×(List Int))):=
 if decide (i_3≤((List.length s6:Nat):Int))=true then
  (idx r30.1 i_3).bind λ x57=>
  (idx p1_.Costs (Au .i64 (Dw .i64 i_3 ((List.length p2_.Put:Nat):Int)) p2_.Cut)).bind λ x58=>
  (ZE x_37 x58 x57.1 x57.2).bind λ l22=>
  (idx p1_.Least (Au .i64 (Dw .i64 i_3 ((List.length p2_.Put:Nat):Int)) p2_.Cut)).bind λ x59=>
  (idx result_1 i_3).bind λ _=>
  (put result_1 i_3 x59).bind λ l23=>
  some (Sum.inl (l23,l22,(Au .i64 i_3 1)))
 else
  some (Sum.inr (result_1,x_37))
def C8 (_:Nat) (count_1:Int) (i_4:Int) (result_5:(List Int)) (x_41:(List Int)):Option (((List Int)×(List Int)×Int×Int)⊕((List Int)×(List Int)×Int×Int×Int)):=
 some (Sum.inl (result_5,x_41,(Au .i64 count_1 1),(Dw .i64 i_4 1)))
def C9 (n:Nat) (p1_:Bj) (p2_:B4) (s6:(List UInt8)) (r28:AM) (r30:((List (Nat×Nat))×(List Int)×(List Int))) (result_3:(List Int)) (x_39:(List Int)) (count_1:Int) (i_4:Int):Option (((List Int)×(List Int)×Int×Int)⊕((List Int)×(List Int)×Int×Int×Int)):=
 if decide (i_4≥0)=true then
  (BE n i_4 s6 r28 r30.1 result_3 x_39).bind λ r32=>
  (idx result_3 i_4).bind λ _=>
  (put result_3 i_4 r32.2).bind λ l24=>
  if decide (Au .i64 i_4 3>p2_.At)=true then
   C8 n count_1 i_4 l24 r32.1
  else
   (Ep n p1_ s6 i_4 r30.1 l24 r32.1).bind λ r33=>
   if r33.2=true then
    some (Sum.inr (l24,r32.1,(Au .i64 count_1 1),i_4,r33.1))
   else
    C8 n count_1 i_4 l24 r32.1
 else
  some (Sum.inr (result_3,x_39,count_1,0,0))
def Da (_:Nat) (x_43:Int) (result_8:(List Int)) (x_45:(List Int)):Option (((List Int)×(List Int)×Int)⊕((List Int)×(List Int))):=
 some (Sum.inl (result_8,x_45,(Au .i64 x_43 1)))
def CG (n:Nat) (p1_:Bj) (_:(List UInt8)) (r30:((List (Nat×Nat))×(List Int)×(List Int))) (y40:((List Int)×(List Int)×Int×Int×Int)) (result_6:(List Int)) (x_42:(List Int)) (x_43:Int):Option (((List Int)×(List Int)×Int)⊕((List Int)×(List Int))):=
 if decide (x_43<y40.2.2.2.1)=true then
  (idx r30.1 x_43).bind λ x62=>
  (idx p1_.Costs x_43).bind λ x63=>
  (ZE x_42 x63 x62.1 x62.2).bind λ l25=>
  (idx p1_.Least x_43).bind λ x64=>
  (idx result_6 x_43).bind λ _=>
  (put result_6 x_43 x64).bind λ l26=>
  (idx p1_.Least x_43).bind λ x66=>
  if decide (x66≥0)=true then
   (idx l26 x_43).bind λ x67=>
   (idx l26 x_43).bind λ _=>
   (put l26 x_43 (Au .i64 x67 y40.2.2.2.2)).bind λ l27=>
   Da n x_43 l27 l25
  else
   Da n x_43 l26 l25
 else
  some (Sum.inr (result_6,x_42))
def CM (n:Nat) (p0_:Ad) (p1_:Bj) (p2_:B4):Option (Bj×Int×Int):=
 if ((((decide (p2_.At<0))||(decide (p2_.Cut<0)))||(decide (p2_.At>((List.length p1_.Text:Nat):Int))))||(decide (p2_.Cut>Dw .i64 ((List.length p1_.Text:Nat):Int) p2_.At)))=true then
  some (({ Text:=[],Costs:=[],Least:=[] }:Bj),0,1)
 else
  (sub p1_.Text 0 p2_.At).bind λ s3=>
  (cat s3 p2_.Put).bind λ s4=>
  (sub p1_.Text (Au .i64 p2_.At p2_.Cut) ((List.length p1_.Text:Nat):Int)).bind λ s5=>
  (cat s4 s5).bind λ s6=>
  (FO n s6).bind λ r27=>
  if (r27.2 != 0)=true then
   some (({ Text:=[],Costs:=[],Least:=[] }:Bj),0,r27.2)
  else
   (DD n p0_).bind λ r28=>
   (Dq n p1_ r28).bind λ r29=>
   if (!r29)=true then
    some (({ Text:=[],Costs:=[],Least:=[] }:Bj),0,1)
   else
    (B7 n s6 r28).bind λ r30=>
    (whl (λ (x:((List Int)×(List Int)×Int))=>CF n p1_ p2_ s6 r28 r30 x.1 x.2.1 x.2.2) n (r30.2.1,r30.2.2,(Au .i64 p2_.At ((List.length p2_.Put:Nat):Int)))).bind λ y39=>
    (C3 n s6 r28 r30.1 y39.1 y39.2).bind λ _=>
    (whl (λ (x:((List Int)×(List Int)×Int×Int))=>C9 n p1_ p2_ s6 r28 r30 x.1 x.2.1 x.2.2.1 x.2.2.2) n (y39.1,y39.2,0,(Dw .i64 (Au .i64 p2_.At ((List.length p2_.Put:Nat):Int)) 1))).bind λ y40=>
    (whl (λ (x:((List Int)×(List Int)×Int))=>CG n p1_ s6 r30 y40 x.1 x.2.1 x.2.2) n (y40.1,y40.2.1,0)).bind λ y41=>
    (ZF y41.2 r30.1).bind λ _=>
    some (({ Text:=s6,Costs:=Pz y41.2 r30.1,Least:=y41.1 }:Bj),y40.2.2.1,0)
def E6 (n:Nat) (p0_:(List UInt8)) (x_46:Int):Option (Int⊕(Unit⊕Bool)):=
 if decide (x_46<((List.length p0_:Nat):Int))=true then
  (NI p0_ x_46).bind λ b4=>
  (Eo n b4).bind λ r34=>
  if (r34==4)=true then
   some (Sum.inr (Sum.inr true))
  else
   some (Sum.inl (Au .i64 x_46 1))
 else
  some (Sum.inr (Sum.inl ()))
def Ht (n:Nat) (p0_:(List UInt8)):Option Bool:=
 (whl (λ (x:Int)=>E6 n p0_ x) n 0).bind λ y42=>
 match y42 with
 | Sum.inl _=>
  some false
 | Sum.inr y44=>
  some y44
def Mz (_:Nat) (p0_:Int):Option Bool:=
 some (decide (p0_<64))
def Hu (n:Nat) (p0_:Ax) (x_47:Int):Option (Int⊕(Unit⊕Bool)):=
 if decide (x_47<((List.length p0_.Cells:Nat):Int))=true then
  (idx p0_.Cells x_47).bind λ x70=>
  (Mz n x70).bind λ r37=>
  if (((!r37)||(x70==63))||(x70==0))=true then
   some (Sum.inr (Sum.inr false))
  else
   some (Sum.inl (Au .i64 x_47 1))
 else
  some (Sum.inr (Sum.inl ()))
def MA (n:Nat) (p0_:Ax) (p1_:Int):Option Bool:=
 if (((decide (((List.length p0_.Print:Nat):Int)>4))||(decide (((List.length p0_.Cells:Nat):Int)<1)))||(decide (((List.length p0_.Cells:Nat):Int)>4)))=true then
  some false
 else
  (FO n p0_.Print).bind λ r35=>
  if (r35.2 != 0)=true then
   some false
  else
   if ((((decide (p0_.Left<1))||(decide (p0_.Left>63)))||(decide (p0_.Right<1)))||(decide (p0_.Right>63)))=true then
    some false
   else
    if ((((decide (p0_.From<0))||(decide (p0_.From≥p1_)))||(decide (p0_.To<0)))||(decide (p0_.To≥p1_)))=true then
     some false
    else
     (Ht n p0_.Print).bind λ r36=>
     if r36=true then
      (if ((((List.length p0_.Print:Nat):Int)==1)&&(((List.length p0_.Cells:Nat):Int)==1))=true then idx p0_.Cells 0 else some default).bind λ x69=>
      some (((((List.length p0_.Print:Nat):Int)==1)&&(((List.length p0_.Cells:Nat):Int)==1))&&(x69==0))
     else
      (whl (λ (x:Int)=>Hu n p0_ x) n 0).bind λ y45=>
      match y45 with
      | Sum.inl _=>
       some true
      | Sum.inr y47=>
       some y47
def Hv (_:Nat) (p0_:(List Int)) (p1_:(List Int)) (x_48:Int):Option (Int⊕(Unit⊕Bool)):=
 if decide (x_48<((List.length p0_:Nat):Int))=true then
  (idx p0_ x_48).bind λ x71=>
  (idx p1_ x_48).bind λ x72=>
  if (x71 != x72)=true then
   some (Sum.inr (Sum.inr false))
  else
   some (Sum.inl (Au .i64 x_48 1))
 else
  some (Sum.inr (Sum.inl ()))
def MB (n:Nat) (p0_:(List Int)) (p1_:(List Int)):Option Bool:=
 if (((List.length p0_:Nat):Int) != ((List.length p1_:Nat):Int))=true then
  some false
 else
  (whl (λ (x:Int)=>Hv n p0_ p1_ x) n 0).bind λ y48=>
  match y48 with
  | Sum.inl _=>
   some true
  | Sum.inr y50=>
   some y50
def MC (n:Nat) (p0_:Ax) (p1_:Ax):Option Bool:=
 (if (((((p0_.From==p1_.From)&&(p0_.To==p1_.To))&&(p0_.Left==p1_.Left))&&(p0_.Right==p1_.Right))&&(p0_.Print==p1_.Print))=true then MB n p0_.Cells p1_.Cells else some default).bind λ r38=>
 some ((((((p0_.From==p1_.From)&&(p0_.To==p1_.To))&&(p0_.Left==p1_.Left))&&(p0_.Right==p1_.Right))&&(p0_.Print==p1_.Print))&&r38)
def Hw (n:Nat) (_:Ad) (x_49:Int) (x73:Ax) (l28:(List Ax)) (x_50:Int):Option (Int⊕(Unit⊕(Int×Int))):=
 if decide (x_50<((List.length l28:Nat):Int))=true then
  (idx l28 x_50).bind λ x74=>
  (MC n x74 x73).bind λ r40=>
  if r40=true then
   some (Sum.inr (Sum.inr (x_49,20)))
  else
   some (Sum.inl (Au .i64 x_50 1))
 else
  some (Sum.inr (Sum.inl ()))
def Hx (n:Nat) (p0_:Ad) (x_49:Int):Option (Int⊕(Unit⊕(Int×Int))):=
 if decide (x_49<((List.length p0_.Rules:Nat):Int))=true then
  (idx p0_.Rules x_49).bind λ x73=>
  (MA n x73 p0_.Modes).bind λ r39=>
  if (!r39)=true then
   some (Sum.inr (Sum.inr (x_49,20)))
  else
   (sub p0_.Rules 0 x_49).bind λ l28=>
   (whl (λ (x:Int)=>Hw n p0_ x_49 x73 l28 x) n 0).bind λ y51=>
   match y51 with
   | Sum.inl _=>
    some (Sum.inl (Au .i64 x_49 1))
   | Sum.inr y53=>
    some (Sum.inr (Sum.inr y53))
 else
  some (Sum.inr (Sum.inl ()))
def MD (n:Nat) (p0_:Ad):Option (Int×Int):=
 if ((decide (p0_.Modes<1))||(decide (p0_.Modes>8)))=true then
  some ((-1),1)
 else
  (if (!(p0_.Accept==0))=true then Bm (decide (0≤p0_.Modes)) else some default).bind λ _=>
  if ((p0_.Accept==0)||(decide (IntKind.i64.wrap p0_.Accept≥Tf .i64 1 p0_.Modes)))=true then
   some ((-1),1)
  else
   if ((decide (((List.length p0_.Rules:Nat):Int)<1))||(decide (((List.length p0_.Rules:Nat):Int)>64)))=true then
    some ((-1),1)
   else
    (whl (λ (x:Int)=>Hx n p0_ x) n 0).bind λ y54=>
    match y54 with
    | Sum.inl _=>
     some (0,0)
    | Sum.inr y56=>
     some y56
def ME (n:Nat) (p0_:Ad):Option Bool:=
 (MD n p0_).bind λ r41=>
 some (r41.2==0)
def Eb (_:Nat) (p0_:Int):Option Bool:=
 some (p0_ != p0_)
def GK (n:Nat) (p0_:Int) (p1_:Int):Option Bool:=
 (Eb n p0_).bind λ r43=>
 (if r43=true then Eb n p1_ else some default).bind λ r44=>
 some ((r43&&(!r44))||(decide (p0_<p1_)))
def EL (_:Nat) (p0_:Int):Option Bool:=
 some (p0_ != p0_)
def BQ (n:Nat) (p0_:(List Int)) (p1_:Int) (i_5:Int) (j_3:Int):Option ((Int×Int)⊕Int):=
 if decide (i_5<j_3)=true then
  (idx p0_ (IntKind.i64.wrap (WB .u64 (IntKind.u64.wrap (Au .i64 i_5 j_3)) 1))).bind λ x76=>
  (GK n x76 p1_).bind λ r45=>
  if r45=true then
   some (Sum.inl ((Au .i64 (IntKind.i64.wrap (WB .u64 (IntKind.u64.wrap (Au .i64 i_5 j_3)) 1)) 1),j_3))
  else
   some (Sum.inl (i_5,(IntKind.i64.wrap (WB .u64 (IntKind.u64.wrap (Au .i64 i_5 j_3)) 1))))
 else
  some (Sum.inr i_5)
def Cc (n:Nat) (p0_:(List Int)) (p1_:Int):Option (Int×Bool):=
 (whl (λ (x:(Int×Int))=>BQ n p0_ p1_ x.1 x.2) n (0,((List.length p0_:Nat):Int))).bind λ y57=>
 (if decide (y57<((List.length p0_:Nat):Int))=true then idx p0_ y57 else some default).bind λ x77=>
 (if ((decide (y57<((List.length p0_:Nat):Int)))&&!(x77==p1_))=true then idx p0_ y57 else some default).bind λ x78=>
 (if ((decide (y57<((List.length p0_:Nat):Int)))&&!(x77==p1_))=true then EL n x78 else some default).bind λ r46=>
 (if (((decide (y57<((List.length p0_:Nat):Int)))&&!(x77==p1_))&&r46)=true then EL n p1_ else some default).bind λ r47=>
 some (y57,((decide (y57<((List.length p0_:Nat):Int)))&&((x77==p1_)||(r46&&r47))))
def CV (n:Nat) (p0_:AD) (p1_:Int):Option Int:=
 (Cc n p0_.States p1_).bind λ r48=>
 if (!r48.2)=true then
  some (-1)
 else
  (idx p0_.Costs r48.1).bind λ x79=>
  some x79
def Er (_:Nat) (_:Ad) (_:(List UInt8)) (r52:(List Ab)) (_:(List AD)) (number_8:(List (Ab×Int))) (x_53:Int):Option (((List (Ab×Int))×Int)⊕(List (Ab×Int))):=
 if decide (x_53<((List.length r52:Nat):Int))=true then
  (idx r52 x_53).bind λ x85=>
  some (Sum.inl ((LI x85 x_53 number_8),(Au .i64 x_53 1)))
 else
  some (Sum.inr number_8)
def Dr (_:Nat) (x_55:Int) (w_5:Af):Option ((Af×Int)⊕Af):=
 some (Sum.inl (w_5,(Au .i64 x_55 1)))
def Es (n:Nat) (p0_:Ad) (_:(List Ab)) (y62:(List (Ab×Int))) (x_54:Int) (x86:Ab) (w_3:Af) (x_55:Int):Option ((Af×Int)⊕Af):=
 if decide (x_55<((List.length p0_.Rules:Nat):Int))=true then
  (GV n p0_ x86 x_55).bind λ r53=>
  if r53.2=true then
   (idx w_3.Arcs x_54).bind λ x87=>
   (app 16 x87 [({ Rule:=x_55,To:=(Option.getD (F5 r53.1 y62) 0) }:A7)]).bind λ l33=>
   Dr n x_55 ({ T:=w_3.T,S:=w_3.S,States:=w_3.States,Arcs:=List.set w_3.Arcs (Int.toNat x_54) l33,Columns:=w_3.Columns,Last:=w_3.Last }:Af)
  else
   Dr n x_55 w_3
 else
  some (Sum.inr w_3)
def Et (n:Nat) (p0_:Ad) (r52:(List Ab)) (y62:(List (Ab×Int))) (w_1:Af) (x_54:Int):Option ((Af×Int)⊕Af):=
 if decide (x_54<((List.length r52:Nat):Int))=true then
  (idx r52 x_54).bind λ x86=>
  (whl (λ (x:(Af×Int))=>Es n p0_ r52 y62 x_54 x86 x.1 x.2) n (w_1,0)).bind λ y63=>
  some (Sum.inl (y63,(Au .i64 x_54 1)))
 else
  some (Sum.inr w_1)
def GL (n:Nat) (p0_:Ad) (p1_:(List UInt8)):Option Af:=
 (Gx n p0_).bind λ r52=>
 (mkl 48 (Au .i64 ((List.length p1_:Nat):Int) 1) (⟨[],[]⟩:AD)).bind λ l31=>
 (whl (λ (x:((List (Ab×Int))×Int))=>Er n p0_ p1_ r52 l31 x.1 x.2) n ([],0)).bind λ y62=>
 (mkl 24 ((List.length r52:Nat):Int) ([]:(List A7))).bind λ l32=>
 (whl (λ (x:(Af×Int))=>Et n p0_ r52 y62 x.1 x.2) n (({ T:=p0_,S:=p1_,States:=r52,Arcs:=l32,Columns:=l31,Last:=0 }:Af),0)).bind λ y64=>
 some y64
def CN (_:Nat) (p0_:Int) (p1_:Int) (b2_:Af) (o0_:(List (List Bool))):Option (Af×(List (List Bool))):=
 (idx o0_ (A8 p0_ 5)).bind λ x88=>
 (Bm (decide (0≤A8 p0_ 5∧A8 p0_ 5<((5:Nat):Int)))).bind λ _=>
 (idx x88 p1_).bind λ x89=>
 if (!x89)=true then
  (idx x88 p1_).bind λ _=>
  (put x88 p1_ true).bind λ l34=>
  (idx b2_.Columns p0_).bind λ x91=>
  (app 8 x91.States [p1_]).bind λ l35=>
  some (({ T:=b2_.T,S:=b2_.S,States:=b2_.States,Arcs:=b2_.Arcs,Columns:=List.set b2_.Columns (Int.toNat p0_) ({ States:=l35,Costs:=x91.Costs }:AD),Last:=b2_.Last }:Af),(List.set o0_ (Int.toNat (A8 p0_ 5)) l34))
 else
  some (b2_,(List.set o0_ (Int.toNat (A8 p0_ 5)) x88))
def B9 (n:Nat) (p1_:Int) (p2_:Int) (b0_:Af):Option (Int×Bool):=
 (idx b0_.T.Rules p2_).bind λ x92=>
 (sub b0_.S p1_ ((List.length b0_.S:Nat):Int)).bind λ s8=>
 (DS n s8 x92.Print).bind λ r54=>
 some ((Au .i64 p1_ ((List.length x92.Print:Nat):Int)),r54)
def YO (_:Nat) (o0_:(List Int)):Option (List Int):=
 JaR o0_
def De (_:Nat) (b0_:Af) (known_5:(List (List Bool))) (x_61:Int):Option (((List (List Bool))×Int)⊕(List (List Bool))):=
 if decide (x_61<5)=true then
  (idx known_5 x_61).bind λ _=>
  (mkl 1 ((List.length b0_.States:Nat):Int) (false:Bool)).bind λ l36=>
  (Bm (decide (0≤x_61∧x_61<((5:Nat):Int)))).bind λ _=>
  some (Sum.inl ((List.set known_5 (Int.toNat x_61) l36),(Au .i64 x_61 1)))
 else
  some (Sum.inr known_5)
def Cu (_:Nat) (x_64:Int) (w_12:Af) (known_12:(List (List Bool))):Option ((Af×(List (List Bool))×Int)⊕(Af×(List (List Bool)))):=
 some (Sum.inl (w_12,known_12,(Au .i64 x_64 1)))
def Df (n:Nat) (_:(Af×(List (List Bool)))) (x_62:Int) (_:Int) (_:Int) (x97:(List A7)) (w_10:Af) (known_10:(List (List Bool))) (x_64:Int):Option ((Af×(List (List Bool))×Int)⊕(Af×(List (List Bool)))):=
 if decide (x_64<((List.length x97:Nat):Int))=true then
  (idx x97 x_64).bind λ x98=>
  (B9 n x_62 x98.Rule w_10).bind λ r56=>
  if r56.2=true then
   (CN n r56.1 x98.To w_10 known_10).bind λ r57=>
   Cu n x_64 r57.1 r57.2
  else
   Cu n x_64 w_10 known_10
 else
  some (Sum.inr (w_10,known_10))
def Cv (n:Nat) (r55:(Af×(List (List Bool)))) (x_62:Int) (class_1:Int) (known_8:(List (List Bool))) (i_7:Int) (x96:Int) (w_9:Af):Option ((Af×(List (List Bool))×Int)⊕(Af×(List (List Bool)))):=
 (idx w_9.Arcs x96).bind λ x97=>
 (whl (λ (x:(Af×(List (List Bool))×Int))=>Df n r55 x_62 class_1 i_7 x97 x.1 x.2.1 x.2.2) n (w_9,known_8,0)).bind λ y66=>
 some (Sum.inl (y66.1,y66.2,(Au .i64 i_7 1)))
def Dg (n:Nat) (r55:(Af×(List (List Bool)))) (x_62:Int) (class_1:Int) (w_7:Af) (known_8:(List (List Bool))) (i_7:Int):Option ((Af×(List (List Bool))×Int)⊕(Af×(List (List Bool)))):=
 (idx w_7.Columns x_62).bind λ x94=>
 if decide (i_7<((List.length x94.States:Nat):Int))=true then
  (idx (List.set w_7.Columns (Int.toNat x_62) x94) x_62).bind λ x95=>
  (idx x95.States i_7).bind λ x96=>
  (idx w_7.States x96).bind λ x99=>
  (Bm (decide (0≤class_1))).bind λ _=>
  if ((Cg .u8 (WB .u8 x99.Need class_1) 1)==1)=true then
   Cv n r55 x_62 class_1 known_8 i_7 x96 ({ T:=w_7.T,S:=w_7.S,States:=w_7.States,Arcs:=w_7.Arcs,Columns:=List.set (List.set w_7.Columns (Int.toNat x_62) x94) (Int.toNat x_62) x95,Last:=x_62 }:Af)
  else
   Cv n r55 x_62 class_1 known_8 i_7 x96 ({ T:=w_7.T,S:=w_7.S,States:=w_7.States,Arcs:=w_7.Arcs,Columns:=List.set (List.set w_7.Columns (Int.toNat x_62) x94) (Int.toNat x_62) x95,Last:=w_7.Last }:Af)
 else
  some (Sum.inr (({ T:=w_7.T,S:=w_7.S,States:=w_7.States,Arcs:=w_7.Arcs,Columns:=List.set w_7.Columns (Int.toNat x_62) x94,Last:=w_7.Last }:Af),known_8))
def Cw (n:Nat) (r55:(Af×(List (List Bool)))) (w_6:Af) (known_7:(List (List Bool))) (x_62:Int) (class_1:Int):Option ((Af×(List (List Bool))×Int)⊕Af):=
 (whl (λ (x:(Af×(List (List Bool))×Int))=>Dg n r55 x_62 class_1 x.1 x.2.1 x.2.2) n (w_6,known_7,0)).bind λ y67=>
 (idx y67.1.Columns x_62).bind λ x100=>
 (YO n x100.States).bind λ r58=>
 (Bm (decide (List.length x100.States=List.length r58))).bind λ _=>
 (idx y67.2 (A8 x_62 5)).bind λ x101=>
 (Bm (decide (0≤A8 x_62 5∧A8 x_62 5<((5:Nat):Int)))).bind λ _=>
 some (Sum.inl (({ T:=y67.1.T,S:=y67.1.S,States:=y67.1.States,Arcs:=y67.1.Arcs,Columns:=List.set y67.1.Columns (Int.toNat x_62) ({ States:=r58,Costs:=x100.Costs }:AD),Last:=y67.1.Last }:Af),(List.set y67.2 (Int.toNat (A8 x_62 5)) (List.replicate (List.length x101) (false:Bool))),(Au .i64 x_62 1)))
def Dh (n:Nat) (r55:(Af×(List (List Bool)))) (w_6:Af) (known_7:(List (List Bool))) (x_62:Int):Option ((Af×(List (List Bool))×Int)⊕Af):=
 if decide (x_62<((List.length r55.1.Columns:Nat):Int))=true then
  if decide (x_62<((List.length w_6.S:Nat):Int))=true then
   (NI w_6.S x_62).bind λ b5=>
   (Eo n b5).bind λ r59=>
   Cw n r55 w_6 known_7 x_62 r59
  else
   Cw n r55 w_6 known_7 x_62 0
 else
  some (Sum.inr w_6)
def Eu (n:Nat) (b0_:Af):Option Af:=
 (whl (λ (x:((List (List Bool))×Int))=>De n b0_ x.1 x.2) n (([[],[],[],[],[]]:List (List Bool)),0)).bind λ y65=>
 (CN n 0 0 b0_ y65).bind λ r55=>
 (whl (λ (x:(Af×(List (List Bool))×Int))=>Dh n r55 x.1 x.2.1 x.2.2) n (r55.1,r55.2,0)).bind λ y68=>
 some y68
def BG (_:Nat) (x_68:Int) (x_70:Af) (better_9:Bool):Option ((Af×Bool×Int)⊕(Af×Bool)):=
 some (Sum.inl (x_70,better_9,(Au .i64 x_68 1)))
def CQ (n:Nat) (p0_:Int) (p1_:Bool) (b1_0_:Int) (b2_0_:Int) (x104:(List A7)) (x_67:Af) (better_7:Bool) (x_68:Int):Option ((Af×Bool×Int)⊕(Af×Bool)):=
 if decide (x_68<((List.length x104:Nat):Int))=true then
  (idx x104 x_68).bind λ x105=>
  (B9 n b2_0_ x105.Rule x_67).bind λ r60=>
  if ((!r60.2)||(!((r60.1==b2_0_)==p1_)))=true then
   BG n x_68 x_67 better_7
  else
   (idx x_67.Columns r60.1).bind λ x106=>
   (CV n x106 x105.To).bind λ r61=>
   (idx x_67.T.Rules x105.Rule).bind λ x107=>
   (idx x_67.Columns b1_0_).bind λ x108=>
   (if decide (r61≥0)=true then idx x108.Costs p0_ else some default).bind λ x109=>
   (if ((decide (r61≥0))&&!(decide (x109<0)))=true then idx x108.Costs p0_ else some default).bind λ x110=>
   if ((decide (r61≥0))&&((decide (x109<0))||(decide (Au .i64 r61 ((List.length x107.Cells:Nat):Int)<x110))))=true then
    (idx (List.set x_67.Columns (Int.toNat b1_0_) x108) b1_0_).bind λ x111=>
    (idx x111.Costs p0_).bind λ _=>
    (put x111.Costs p0_ (Au .i64 r61 ((List.length x107.Cells:Nat):Int))).bind λ l37=>
    BG n x_68 ({ T:=x_67.T,S:=x_67.S,States:=x_67.States,Arcs:=x_67.Arcs,Columns:=List.set (List.set x_67.Columns (Int.toNat b1_0_) x108) (Int.toNat b1_0_) ({ States:=x111.States,Costs:=l37 }:AD),Last:=x_67.Last }:Af) true
   else
    BG n x_68 ({ T:=x_67.T,S:=x_67.S,States:=x_67.States,Arcs:=x_67.Arcs,Columns:=List.set x_67.Columns (Int.toNat b1_0_) x108,Last:=x_67.Last }:Af) better_7
 else
  some (Sum.inr (x_67,better_7))
def CO (n:Nat) (p0_:Int) (p1_:Bool) (b1_0_:Int) (b2_0_:Int) (b3_:Af):Option (Af×Bool):=
 (idx b3_.Columns b1_0_).bind λ x102=>
 (idx x102.States p0_).bind λ x103=>
 (idx b3_.Arcs x103).bind λ x104=>
 (whl (λ (x:(Af×Bool×Int))=>CQ n p0_ p1_ b1_0_ b2_0_ x104 x.1 x.2.1 x.2.2) n (({ T:=b3_.T,S:=b3_.S,States:=b3_.States,Arcs:=b3_.Arcs,Columns:=List.set b3_.Columns (Int.toNat b1_0_) x102,Last:=b3_.Last }:Af),false,0)).bind λ y69=>
 some (y69.1,y69.2)
def Cy (_:Nat) (x_73:Int) (r_2:(List Int)):Option (((List Int)×Int)⊕Af):=
 some (Sum.inl (r_2,(Au .i64 x_73 1)))
def Di (n:Nat) (w_13:Af) (place_3:Int) (x114:AD) (l38:(List Int)) (x115:AD) (r_1:(List Int)) (x_73:Int):Option (((List Int)×Int)⊕Af):=
 if decide (x_73<((List.length x115.States:Nat):Int))=true then
  (idx x115.States x_73).bind λ x116=>
  (idx (List.set w_13.Columns (Int.toNat place_3) ({ States:=x114.States,Costs:=l38 }:AD)) place_3).bind λ _=>
  (idx r_1 x_73).bind λ _=>
  (put r_1 x_73 (-1)).bind λ l39=>
  (if (place_3==((List.length w_13.S:Nat):Int))=true then idx w_13.States x116 else some default).bind λ x119=>
  (if (place_3==((List.length w_13.S:Nat):Int))=true then Ea n w_13.T x119 else some default).bind λ r62=>
  if ((place_3==((List.length w_13.S:Nat):Int))&&r62)=true then
   (idx l39 x_73).bind λ _=>
   (put l39 x_73 0).bind λ l40=>
   Cy n x_73 l40
  else
   Cy n x_73 l39
 else
  some (Sum.inr ({ T:=w_13.T,S:=w_13.S,States:=w_13.States,Arcs:=w_13.Arcs,Columns:=List.set (List.set w_13.Columns (Int.toNat place_3) ({ States:=x114.States,Costs:=l38 }:AD)) (Int.toNat place_3) ({ States:=x115.States,Costs:=r_1 }:AD),Last:=w_13.Last }:Af))
def Dj (n:Nat) (place_3:Int) (x121:AD) (w_15:Af) (x_74:Int):Option ((Af×Int)⊕Af):=
 if decide (x_74<((List.length x121.States:Nat):Int))=true then
  (CO n x_74 false place_3 place_3 w_15).bind λ r63=>
  some (Sum.inl (r63.1,(Au .i64 x_74 1)))
 else
  some (Sum.inr w_15)
def Dk (n:Nat) (place_3:Int) (x122:AD) (w_19:Af) (better_10:Bool) (x_75:Int):Option ((Af×Bool×Int)⊕(Af×Bool)):=
 if decide (x_75<((List.length x122.States:Nat):Int))=true then
  (CO n x_75 true place_3 place_3 w_19).bind λ r64=>
  some (Sum.inl (r64.1,(r64.2||better_10),(Au .i64 x_75 1)))
 else
  some (Sum.inr (w_19,better_10))
def Dl (n:Nat) (place_3:Int) (w_17:Af):Option (Af⊕Af):=
 (idx w_17.Columns place_3).bind λ x122=>
 (whl (λ (x:(Af×Bool×Int))=>Dk n place_3 x122 x.1 x.2.1 x.2.2) n (({ T:=w_17.T,S:=w_17.S,States:=w_17.States,Arcs:=w_17.Arcs,Columns:=List.set w_17.Columns (Int.toNat place_3) x122,Last:=w_17.Last }:Af),false,0)).bind λ y72=>
 if (!y72.2)=true then
  some (Sum.inr y72.1)
 else
  some (Sum.inl y72.1)
def Dm (n:Nat) (w_13:Af) (place_3:Int):Option ((Af×Int)⊕Af):=
 if decide (place_3≥0)=true then
  (idx w_13.Columns place_3).bind λ _=>
  (idx w_13.Columns place_3).bind λ x114=>
  (mkl 8 ((List.length x114.States:Nat):Int) (0:Int)).bind λ l38=>
  (idx (List.set w_13.Columns (Int.toNat place_3) ({ States:=x114.States,Costs:=l38 }:AD)) place_3).bind λ x115=>
  (whl (λ (x:((List Int)×Int))=>Di n w_13 place_3 x114 l38 x115 x.1 x.2) n (x115.Costs,0)).bind λ y70=>
  (idx y70.Columns place_3).bind λ x121=>
  (whl (λ (x:(Af×Int))=>Dj n place_3 x121 x.1 x.2) n (({ T:=y70.T,S:=y70.S,States:=y70.States,Arcs:=y70.Arcs,Columns:=List.set y70.Columns (Int.toNat place_3) x121,Last:=y70.Last }:Af),0)).bind λ y71=>
  (whl (λ (x:Af)=>Dl n place_3 x) n y71).bind λ y73=>
  some (Sum.inl (y73,(Dw .i64 place_3 1)))
 else
  some (Sum.inr w_13)
def Ew (n:Nat) (b0_:Af):Option Af:=
 (whl (λ (x:(Af×Int))=>Dm n x.1 x.2) n (b0_,((List.length b0_.S:Nat):Int))).bind λ y74=>
 some y74
def BW (_:Nat) (x_77:Int):Option (Int⊕((AU×Int×Int×Int)⊕Unit)):=
 some (Sum.inl (Au .i64 x_77 1))
def CA (n:Nat) (b0_:Af) (result_12:AU) (place_4:Int) (cost_3:Int) (x124:(List A7)) (x_77:Int):Option (Int⊕((AU×Int×Int×Int)⊕Unit)):=
 if decide (x_77<((List.length x124:Nat):Int))=true then
  (idx x124 x_77).bind λ x125=>
  (B9 n place_4 x125.Rule b0_).bind λ r66=>
  if (!r66.2)=true then
   BW n x_77
  else
   (idx b0_.T.Rules x125.Rule).bind λ x126=>
   (idx b0_.Columns r66.1).bind λ x127=>
   (CV n x127 x125.To).bind λ r67=>
   if ((decide (r67<0))||(r67 != (Dw .i64 cost_3 ((List.length x126.Cells:Nat):Int))))=true then
    BW n x_77
   else
    (app 1 result_12.Cells x126.Cells).bind λ l41=>
    (app 8 result_12.Path [x125.Rule]).bind λ l42=>
    some (Sum.inr (Sum.inl (({ Cells:=l41,Path:=l42 }:AU),r66.1,x125.To,(Dw .i64 cost_3 ((List.length x126.Cells:Nat):Int)))))
 else
  some (Sum.inr (Sum.inr ()))
def CB (n:Nat) (b0_:Af) (result_12:AU) (place_4:Int) (state_3:Int) (cost_3:Int):Option ((AU×Int×Int×Int)⊕AU):=
 if decide (cost_3>0)=true then
  (idx b0_.Arcs state_3).bind λ x124=>
  (whl (λ (x:Int)=>CA n b0_ result_12 place_4 cost_3 x124 x) n 0).bind λ y75=>
  match y75 with
  | Sum.inl y76=>
   some (Sum.inl (y76.1,y76.2.1,y76.2.2.1,y76.2.2.2))
  | Sum.inr _=>
   some (Sum.inr result_12)
 else
  some (Sum.inr result_12)
def Dn (n:Nat) (b0_:Af):Option AU:=
 (idx b0_.Columns 0).bind λ x123=>
 (CV n x123 0).bind λ r65=>
 (whl (λ (x:(AU×Int×Int×Int))=>CB n b0_ x.1 x.2.1 x.2.2.1 x.2.2.2) n (({ Cells:=([]:List Int),Path:=([]:List Int) }:AU),0,0,r65)).bind λ y78=>
 some y78
def MF (n:Nat) (p0_:Ad) (p1_:(List UInt8)):Option (AU×Int×Int):=
 (FO n p1_).bind λ r68=>
 if (r68.2 != 0)=true then
  some (({ Cells:=[],Path:=[] }:AU),r68.1,r68.2)
 else
  (ME n p0_).bind λ r69=>
  if (!r69)=true then
   some (({ Cells:=[],Path:=[] }:AU),0,61)
  else
   (GL n p0_ p1_).bind λ r70=>
   (Eu n r70).bind λ r71=>
   (Ew n r71).bind λ r72=>
   (idx r72.Columns 0).bind λ x128=>
   (idx x128.Costs 0).bind λ x129=>
   if decide (x129<0)=true then
    some (({ Cells:=[],Path:=[] }:AU),r72.Last,61)
   else
    (Dn n ({ T:=r72.T,S:=r72.S,States:=r72.States,Arcs:=r72.Arcs,Columns:=List.set r72.Columns (Int.toNat 0) x128,Last:=r72.Last }:Af)).bind λ r73=>
    some (r73,((List.length p1_:Nat):Int),0)
def HS (n:Nat) (p0_:Ad) (p1_:Bj):Option (AU×Int):=
 (MF n p0_ p1_.Text).bind λ r74=>
 if (r74.2.2 != 0)=true then
  some (({ Cells:=[],Path:=[] }:AU),61)
 else
  some (r74.1,0)
def Ft (_:Nat) (p0_:(List Int)) (p1_:(List Int)) (i_8:Int):Option (Int⊕(Unit⊕Bool)):=
 if decide (i_8<((List.length p0_:Nat):Int))=true then
  (idx p0_ i_8).bind λ x130=>
  (idx p1_ i_8).bind λ x131=>
  if (x130 != x131)=true then
   some (Sum.inr (Sum.inr false))
  else
   some (Sum.inl (Au .i64 i_8 1))
 else
  some (Sum.inr (Sum.inl ()))
def Ec (n:Nat) (p0_:(List Int)) (p1_:(List Int)):Option Bool:=
 if (((List.length p0_:Nat):Int) != ((List.length p1_:Nat):Int))=true then
  some false
 else
  (whl (λ (x:Int)=>Ft n p0_ p1_ x) n 0).bind λ y79=>
  match y79 with
  | Sum.inl _=>
   some true
  | Sum.inr y81=>
   some y81
def CI (_:Nat) (p0_:(List Int)) (p1_:(List Int)) (i_9:Int):Option (Int⊕(Unit⊕Bool)):=
 if decide (i_9<((List.length p0_:Nat):Int))=true then
  (idx p0_ i_9).bind λ x132=>
  (idx p1_ i_9).bind λ x133=>
  if (x132 != x133)=true then
   some (Sum.inr (Sum.inr false))
  else
   some (Sum.inl (Au .i64 i_9 1))
 else
  some (Sum.inr (Sum.inl ()))
def Db (n:Nat) (p0_:(List Int)) (p1_:(List Int)):Option Bool:=
 if (((List.length p0_:Nat):Int) != ((List.length p1_:Nat):Int))=true then
  some false
 else
  (whl (λ (x:Int)=>CI n p0_ p1_ x) n 0).bind λ y82=>
  match y82 with
  | Sum.inl _=>
   some true
  | Sum.inr y84=>
   some y84
def OG (n:Nat) (p0_:AU) (p1_:AU):Option Bool:=
 (Db n p0_.Cells p1_.Cells).bind λ r75=>
 (if r75=true then Ec n p0_.Path p1_.Path else some default).bind λ r76=>
 some (r75&&r76)
def HT (n:Nat) :Option Bool:=
 (Kc n).bind λ r77=>
 (HI n r77 [97,97,98]).bind λ r78=>
 (HI n r77 [97,9]).bind λ r79=>
 (CM n r77 r78.1 ({ At:=0,Cut:=1,Put:=[98] }:B4)).bind λ r80=>
 (CM n r77 r78.1 ({ At:=2,Cut:=2,Put:=[] }:B4)).bind λ r81=>
 (CM n r77 r78.1 ({ At:=3,Cut:=0,Put:=[10] }:B4)).bind λ r82=>
 (HS n r77 r78.1).bind λ r83=>
 (HI n r77 [99]).bind λ r84=>
 (HS n r77 r84.1).bind λ r85=>
 (if ((((((((r78.2==0)&&(r79.2==60))&&(r80.2.2==0))&&(r81.2.2==1))&&(r82.2.2==60))&&(r83.2==0))&&(r84.2==0))&&(r85.2==61))=true then Ec n r78.1.Least [2,1,1,0] else some default).bind λ r86=>
 (if (((((((((((r78.2==0)&&(r79.2==60))&&(r80.2.2==0))&&(r81.2.2==1))&&(r82.2.2==60))&&(r83.2==0))&&(r84.2==0))&&(r85.2==61))&&r86)&&(r80.2.1==1))&&(r80.1.Text==[98,97,98]))=true then Ec n r80.1.Least [2,1,1,0] else some default).bind λ r87=>
 (if ((((((((((((r78.2==0)&&(r79.2==60))&&(r80.2.2==0))&&(r81.2.2==1))&&(r82.2.2==60))&&(r83.2==0))&&(r84.2==0))&&(r85.2==61))&&r86)&&(r80.2.1==1))&&(r80.1.Text==[98,97,98]))&&r87)=true then OG n r83.1 ({ Cells:=[1,7],Path:=[0,2] }:AU) else some default).bind λ r88=>
 (if (((((((((((((r78.2==0)&&(r79.2==60))&&(r80.2.2==0))&&(r81.2.2==1))&&(r82.2.2==60))&&(r83.2==0))&&(r84.2==0))&&(r85.2==61))&&r86)&&(r80.2.1==1))&&(r80.1.Text==[98,97,98]))&&r87)&&r88)=true then Ec n r84.1.Least [(-1),0] else some default).bind λ r89=>
 some ((((((((((((((r78.2==0)&&(r79.2==60))&&(r80.2.2==0))&&(r81.2.2==1))&&(r82.2.2==60))&&(r83.2==0))&&(r84.2==0))&&(r85.2==61))&&r86)&&(r80.2.1==1))&&(r80.1.Text==[98,97,98]))&&r87)&&r88)&&r89)
def A6 (_:Nat) (p0_:(List UInt8)) (p1_:(List Int)) (p2_:(FJ Int)):Option Ax:=
 some ({ Print:=p0_,Cells:=p1_,Left:=63,Right:=63,From:=p2_.a0,To:=p2_.a1 }:Ax)
def Qz (n:Nat) :Option (List Ax):=
 (A6 n [97] [1] ({ a0:=0,a1:=0 }:(FJ Int))).bind λ r90=>
 (A6 n [98] [3] ({ a0:=0,a1:=0 }:(FJ Int))).bind λ r91=>
 (A6 n [99] [9] ({ a0:=0,a1:=0 }:(FJ Int))).bind λ r92=>
 (A6 n [32] [0] ({ a0:=0,a1:=0 }:(FJ Int))).bind λ r93=>
 some [r90,r91,r92,r93]
def GM (n:Nat) (p0_:Int) (p1_:Int) (p2_:(FJ Int)):Option Ax:=
 (A6 n [] [p0_] p2_).bind λ r94=>
 (Bm (decide (0≤p1_))).bind λ _=>
 some ({ Print:=r94.Print,Cells:=r94.Cells,Left:=r94.Left,Right:=Tf .u8 1 p1_,From:=r94.From,To:=r94.To }:Ax)
def Fu (_:Nat) (l_1:(List Ax)):Option Ad:=
 some ({ Modes:=1,Accept:=1,Rules:=l_1 }:Ad)
def JB (n:Nat) (p0_:Int):Option Ad:=
 (Qz n).bind λ r95=>
 if ((A8 p0_ 8)==1)=true then
  (GM n 60 3 ({ a0:=0,a1:=1 }:(FJ Int))).bind λ r96=>
  (A6 n [49] [1] ({ a0:=1,a1:=1 }:(FJ Int))).bind λ r97=>
  (A6 n [50] [3] ({ a0:=1,a1:=1 }:(FJ Int))).bind λ r98=>
  (A6 n [32] [0] ({ a0:=1,a1:=0 }:(FJ Int))).bind λ r99=>
  (app 64 r95 [r96,r97,r98,r99]).bind λ l43=>
  some ({ Modes:=2,Accept:=3,Rules:=l43 }:Ad)
 else
  if ((A8 p0_ 8)==2)=true then
   (GM n 32 2 ({ a0:=0,a1:=1 }:(FJ Int))).bind λ r100=>
   (A6 n [65] [1] ({ a0:=1,a1:=0 }:(FJ Int))).bind λ r101=>
   (A6 n [66] [3] ({ a0:=1,a1:=0 }:(FJ Int))).bind λ r102=>
   (app 64 r95 [r100,r101,r102]).bind λ l44=>
   some ({ Modes:=2,Accept:=1,Rules:=l44 }:Ad)
  else
   if ((A8 p0_ 8)==3)=true then
    (A6 n [97,98] [7] ({ a0:=0,a1:=0 }:(FJ Int))).bind λ r103=>
    (A6 n [97,98,99] [15] ({ a0:=0,a1:=0 }:(FJ Int))).bind λ r104=>
    (A6 n [99,97] [4,4] ({ a0:=0,a1:=0 }:(FJ Int))).bind λ r105=>
    (app 64 r95 [r103,r104,r105]).bind λ l45=>
    Fu n l45
   else
    if ((A8 p0_ 8)==4)=true then
     (A6 n [45] [1,3] ({ a0:=0,a1:=0 }:(FJ Int))).bind λ r106=>
     (app 64 r95 [r106]).bind λ l46=>
     Fu n l46
    else
     if ((A8 p0_ 8)==5)=true then
      (A6 n [98] [44] ({ a0:=0,a1:=0 }:(FJ Int))).bind λ r107=>
      (A6 n [99,97,98] [44] ({ a0:=0,a1:=0 }:(FJ Int))).bind λ r108=>
      (A6 n [45] [36] ({ a0:=0,a1:=0 }:(FJ Int))).bind λ r109=>
      (app 64 r95 [({ Print:=r107.Print,Cells:=r107.Cells,Left:=17,Right:=r107.Right,From:=r107.From,To:=r107.To }:Ax),({ Print:=r108.Print,Cells:=r108.Cells,Left:=2,Right:=r108.Right,From:=r108.From,To:=r108.To }:Ax),r109]).bind λ l47=>
      Fu n l47
     else
      if ((A8 p0_ 8)==6)=true then
       (GM n 40 1 ({ a0:=0,a1:=1 }:(FJ Int))).bind λ r110=>
       (A6 n [225] [1] ({ a0:=1,a1:=0 }:(FJ Int))).bind λ r111=>
       (A6 n [226] [3] ({ a0:=1,a1:=0 }:(FJ Int))).bind λ r112=>
       (app 64 r95 [r110,r111,r112]).bind λ l48=>
       some ({ Modes:=2,Accept:=1,Rules:=l48 }:Ad)
      else
       if ((A8 p0_ 8)==7)=true then
        (A6 n [45] [1,5] ({ a0:=0,a1:=0 }:(FJ Int))).bind λ r113=>
        (A6 n [49] [5,5] ({ a0:=0,a1:=0 }:(FJ Int))).bind λ r114=>
        (A6 n [50] [5,9] ({ a0:=0,a1:=0 }:(FJ Int))).bind λ r115=>
        (app 64 r95 [r113,r114,r115]).bind λ l49=>
        Fu n l49
       else
        Fu n r95
def Fv (_:Nat) (p0_:Dp) (out_1:Ax) (i_10:Int):Option ((Ax×Int)⊕Ax):=
 if ((decide (i_10<((List.length p0_.P:Nat):Int)))&&(decide (i_10<3)))=true then
  (idx p0_.P i_10).bind λ x136=>
  (sub [97,98,99,65,66,49,50,45,46] (IntKind.i64.wrap (A8 x136 9)) (Au .i64 (IntKind.i64.wrap (A8 x136 9)) 1)).bind λ s9=>
  (cat out_1.Print s9).bind λ s10=>
  some (Sum.inl (({ Print:=s10,Cells:=out_1.Cells,Left:=out_1.Left,Right:=out_1.Right,From:=out_1.From,To:=out_1.To }:Ax),(Au .i64 i_10 1)))
 else
  some (Sum.inr out_1)
def Fw (_:Nat) (p0_:Dp) (out_3:Ax) (i_11:Int):Option ((Ax×Int)⊕Ax):=
 if ((decide (i_11<((List.length p0_.C:Nat):Int)))&&(decide (i_11<2)))=true then
  (idx p0_.C i_11).bind λ x138=>
  (idx [1,3,9,5,7,32,44,60] (A8 x138 8)).bind λ x139=>
  (app 1 out_3.Cells [x139]).bind λ l50=>
  some (Sum.inl (({ Print:=out_3.Print,Cells:=l50,Left:=out_3.Left,Right:=out_3.Right,From:=out_3.From,To:=out_3.To }:Ax),(Au .i64 i_11 1)))
 else
  some (Sum.inr out_3)
def OH (n:Nat) (p0_:Dp) (p1_:Int):Option Ax:=
 (idx [63,63,2,8,17,62,4,1] (A8 p0_.L 8)).bind λ x134=>
 (idx [63,63,2,8,17,62,4,1] (A8 p0_.R 8)).bind λ x135=>
 (Bm (!(p1_==0))).bind λ _=>
 (Bm (!(p1_==0))).bind λ _=>
 (whl (λ (x:(Ax×Int))=>Fv n p0_ x.1 x.2) n (({ Print:=[],Cells:=([]:List Int),Left:=x134,Right:=x135,From:=A8 (IntKind.i64.wrap p0_.W.a0) p1_,To:=A8 (IntKind.i64.wrap p0_.W.a1) p1_ }:Ax),0)).bind λ y85=>
 (idx [1,3,9,5,7,32,44,60] (A8 (Jd9 .u8 p0_.L 8) 8)).bind λ x137=>
 (whl (λ (x:(Ax×Int))=>Fw n p0_ x.1 x.2) n (({ Print:=y85.Print,Cells:=[x137],Left:=y85.Left,Right:=y85.Right,From:=y85.From,To:=y85.To }:Ax),0)).bind λ y86=>
 some y86
def I8 (_:Nat) (p0_:Int):Option Bool:=
 some ((decide (Cg .u8 p0_ 127≥32))&&(decide (Cg .u8 p0_ 127≤126)))
def IC (n:Nat) (p0_:(List UInt8)) (i_12:Int):Option (Int⊕(Unit⊕(Int×Int))):=
 if decide (i_12<((List.length p0_:Nat):Int))=true then
  (NI p0_ i_12).bind λ b6=>
  (I8 n b6).bind λ r116=>
  if (!r116)=true then
   some (Sum.inr (Sum.inr (i_12,60)))
  else
   some (Sum.inl (Au .i64 i_12 1))
 else
  some (Sum.inr (Sum.inl ()))
def OI (n:Nat) (p0_:(List UInt8)):Option (Int×Int):=
 (whl (λ (x:Int)=>IC n p0_ x) n 0).bind λ y87=>
 match y87 with
 | Sum.inl _=>
  some (((List.length p0_:Nat):Int),0)
 | Sum.inr y89=>
  some y89
def Kd (n:Nat) (p0_:(List UInt8)):Option Bool:=
 (OI n p0_).bind λ r117=>
 some (r117.2==0)
def PE (_:Nat) (p0_:Int):Option Bool:=
 some ((Cg .u8 p0_ 127)==32)
def Ey (n:Nat) (p0_:Ax) (space_1:Bool) (i_13:Int):Option ((Bool×Int)⊕Bool):=
 if decide (i_13<((List.length p0_.Print:Nat):Int))=true then
  (if (!space_1)=true then NI p0_.Print i_13 else some default).bind λ b7=>
  (if (!space_1)=true then PE n b7 else some default).bind λ r119=>
  some (Sum.inl ((space_1||r119),(Au .i64 i_13 1)))
 else
  some (Sum.inr space_1)
def DE (_:Nat) (p0_:Ax) (_:Bool) (blank_1:Bool) (i_14:Int):Option ((Bool×Int)⊕(Bool⊕Bool)):=
 if decide (i_14<((List.length p0_.Cells:Nat):Int))=true then
  (idx p0_.Cells i_14).bind λ x140=>
  if decide (x140≥63)=true then
   some (Sum.inr (Sum.inr false))
  else
   (if (!blank_1)=true then idx p0_.Cells i_14 else some default).bind λ x141=>
   some (Sum.inl ((blank_1||(x141==0)),(Au .i64 i_14 1)))
 else
  some (Sum.inr (Sum.inl blank_1))
def MG (n:Nat) (p0_:Ax) (p1_:Int):Option Bool:=
 (Kd n p0_.Print).bind λ r118=>
 if ((((!r118)||(decide (((List.length p0_.Print:Nat):Int)>4)))||(decide (((List.length p0_.Cells:Nat):Int)<1)))||(decide (((List.length p0_.Cells:Nat):Int)>4)))=true then
  some false
 else
  if ((((((((decide (p0_.Left<1))||(decide (p0_.Left>63)))||(decide (p0_.Right<1)))||(decide (p0_.Right>63)))||(decide (p0_.From<0)))||(decide (p0_.From≥p1_)))||(decide (p0_.To<0)))||(decide (p0_.To≥p1_)))=true then
   some false
  else
   (whl (λ (x:(Bool×Int))=>Ey n p0_ x.1 x.2) n (false,0)).bind λ y90=>
   (whl (λ (x:(Bool×Int))=>DE n p0_ y90 x.1 x.2) n (false,0)).bind λ y91=>
   match y91 with
   | Sum.inl y92=>
    if (!y90)=true then
     some (!y92)
    else
     some (((((List.length p0_.Print:Nat):Int)==1)&&(((List.length p0_.Cells:Nat):Int)==1))&&y92)
   | Sum.inr y93=>
    some y93
def Hy (n:Nat) (p0_:Ax) (p1_:Ax):Option Bool:=
 (if (p0_.Print==p1_.Print)=true then Db n p0_.Cells p1_.Cells else some default).bind λ r120=>
 some ((((((p0_.Print==p1_.Print)&&r120)&&(p0_.Left==p1_.Left))&&(p0_.Right==p1_.Right))&&(p0_.From==p1_.From))&&(p0_.To==p1_.To))
def FP (n:Nat) (p0_:Ad) (i_15:Int) (k_2:Int):Option (Int⊕(Unit⊕(Int×Int))):=
 if decide (k_2<i_15)=true then
  (idx p0_.Rules k_2).bind λ x143=>
  (idx p0_.Rules i_15).bind λ x144=>
  (Hy n x143 x144).bind λ r122=>
  if r122=true then
   some (Sum.inr (Sum.inr (i_15,20)))
  else
   some (Sum.inl (Au .i64 k_2 1))
 else
  some (Sum.inr (Sum.inl ()))
def FQ (n:Nat) (p0_:Ad) (i_15:Int):Option (Int⊕(Unit⊕(Int×Int))):=
 if decide (i_15<((List.length p0_.Rules:Nat):Int))=true then
  (idx p0_.Rules i_15).bind λ x142=>
  (MG n x142 p0_.Modes).bind λ r121=>
  if (!r121)=true then
   some (Sum.inr (Sum.inr (i_15,20)))
  else
   (whl (λ (x:Int)=>FP n p0_ i_15 x) n 0).bind λ y94=>
   match y94 with
   | Sum.inl _=>
    some (Sum.inl (Au .i64 i_15 1))
   | Sum.inr y96=>
    some (Sum.inr (Sum.inr y96))
 else
  some (Sum.inr (Sum.inl ()))
def MH (n:Nat) (p0_:Ad):Option (Int×Int):=
 (if (!(((decide (p0_.Modes<1))||(decide (p0_.Modes>8)))||(p0_.Accept==0)))=true then Bm (decide (0≤p0_.Modes)) else some default).bind λ _=>
 if ((((((decide (p0_.Modes<1))||(decide (p0_.Modes>8)))||(p0_.Accept==0))||(decide (IntKind.i64.wrap p0_.Accept≥Tf .i64 1 p0_.Modes)))||(decide (((List.length p0_.Rules:Nat):Int)<1)))||(decide (((List.length p0_.Rules:Nat):Int)>64)))=true then
  some ((-1),1)
 else
  (whl (λ (x:Int)=>FQ n p0_ x) n 0).bind λ y97=>
  match y97 with
  | Sum.inl _=>
   some (0,0)
  | Sum.inr y99=>
   some y99
def PF (n:Nat) (p0_:Ad):Option Bool:=
 (MH n p0_).bind λ r123=>
 some (r123.2==0)
def GW (_:Nat) (i_16:Int) (t_5:Ad):Option ((Ad×Int)⊕Ad):=
 some (Sum.inl (t_5,(Au .i64 i_16 1)))
def Fx (n:Nat) (p0_:MX) (r124:Ad) (t_3:Ad) (i_16:Int):Option ((Ad×Int)⊕Ad):=
 if decide (i_16<((List.length r124.Rules:Nat):Int))=true then
  (Bm (decide (0≤i_16))).bind λ _=>
  if ((Cg .u8 (WB .u8 p0_.Drop i_16) 1)==0)=true then
   (idx r124.Rules i_16).bind λ x145=>
   (app 64 t_3.Rules [x145]).bind λ l51=>
   GW n i_16 ({ Modes:=t_3.Modes,Accept:=t_3.Accept,Rules:=l51 }:Ad)
  else
   GW n i_16 t_3
 else
  some (Sum.inr t_3)
def GX (_:Nat) (i_17:Int) (t_8:Ad):Option ((Ad×Int)⊕Ad):=
 some (Sum.inl (t_8,(Au .i64 i_17 1)))
def Fy (n:Nat) (p0_:MX) (_:Ad) (t_6:Ad) (i_17:Int):Option ((Ad×Int)⊕Ad):=
 if ((decide (i_17<((List.length p0_.More:Nat):Int)))&&(decide (i_17<2)))=true then
  (idx p0_.More i_17).bind λ x146=>
  (OH n x146 t_6.Modes).bind λ r125=>
  (app 64 t_6.Rules [r125]).bind λ l52=>
  (PF n ({ Modes:=t_6.Modes,Accept:=t_6.Accept,Rules:=l52 }:Ad)).bind λ r126=>
  if (!r126)=true then
   (sub l52 0 (Dw .i64 ((List.length l52:Nat):Int) 1)).bind λ l53=>
   GX n i_17 ({ Modes:=t_6.Modes,Accept:=t_6.Accept,Rules:=l53 }:Ad)
  else
   GX n i_17 ({ Modes:=t_6.Modes,Accept:=t_6.Accept,Rules:=l52 }:Ad)
 else
  some (Sum.inr t_6)
def GY (_:Nat) (t_9:Ad):Option Ad:=
 some t_9
def JC (n:Nat) (p0_:MX):Option Ad:=
 (JB n p0_.Base).bind λ r124=>
 (whl (λ (x:(Ad×Int))=>Fx n p0_ r124 x.1 x.2) n (({ Modes:=r124.Modes,Accept:=r124.Accept,Rules:=([]:List Ax) }:Ad),0)).bind λ y100=>
 (whl (λ (x:(Ad×Int))=>Fy n p0_ r124 x.1 x.2) n (y100,0)).bind λ y101=>
 if (((List.length y101.Rules:Nat):Int)==0)=true then
  GY n ({ Modes:=y101.Modes,Accept:=y101.Accept,Rules:=r124.Rules }:Ad)
 else
  GY n y101
def Ed (_:Nat) (i_18:Int) (out_7:(List UInt8)):Option (((List UInt8)×Int)⊕(List UInt8)):=
 some (Sum.inl (out_7,(Au .i64 i_18 1)))
def Ee (n:Nat) (p0_:Ad) (p1_:(List Int)) (out_5:(List UInt8)) (i_18:Int):Option (((List UInt8)×Int)⊕(List UInt8)):=
 if (((decide (i_18<((List.length p1_:Nat):Int)))&&(decide (i_18<12)))&&(decide (((List.length p0_.Rules:Nat):Int)>0)))=true then
  (idx p1_ i_18).bind λ x147=>
  (Bm (!(((List.length p0_.Rules:Nat):Int)==0))).bind λ _=>
  (idx p0_.Rules (A8 (IntKind.i64.wrap x147) ((List.length p0_.Rules:Nat):Int))).bind λ x148=>
  if decide (Au .i64 ((List.length out_5:Nat):Int) ((List.length x148.Print:Nat):Int)≤12)=true then
   (cat out_5 x148.Print).bind λ s11=>
   Ed n i_18 s11
  else
   Ed n i_18 out_5
 else
  some (Sum.inr out_5)
def GZ (n:Nat) (p0_:Ad) (p1_:(List Int)):Option (List UInt8):=
 (whl (λ (x:((List UInt8)×Int))=>Ee n p0_ p1_ x.1 x.2) n ([],0)).bind λ y102=>
 some y102
def Ug (_:Nat) :Option Ab:=
 some ({ Mode:=0,Last:=0,Need:=63 }:Ab)
def Ke (_:Nat) (p0_:Int) (p1_:Int):Option Bool:=
 (if ((decide (p1_≥0))&&(decide (p1_<8)))=true then Bm (decide (0≤p1_)) else some default).bind λ _=>
 some (((decide (p1_≥0))&&(decide (p1_<8)))&&((Cg .u8 (WB .u8 p0_ p1_) 1)==1))
def JD (_:Nat) (p0_:Int):Option Int:=
 if ((decide (Cg .u8 p0_ 127≥97))&&(decide (Cg .u8 p0_ 127≤122)))=true then
  some 1
 else
  if ((decide (Cg .u8 p0_ 127≥65))&&(decide (Cg .u8 p0_ 127≤90)))=true then
   some 2
  else
   if ((decide (Cg .u8 p0_ 127≥48))&&(decide (Cg .u8 p0_ 127≤57)))=true then
    some 3
   else
    if ((Cg .u8 p0_ 127)==32)=true then
     some 4
    else
     some 5
def LT (n:Nat) (p0_:Ad) (p1_:Ab) (p2_:Int):Option (Ab×Bool):=
 if ((decide (p2_<0))||(decide (p2_≥((List.length p0_.Rules:Nat):Int))))=true then
  some (({ Mode:=0,Last:=0,Need:=0 }:Ab),false)
 else
  (idx p0_.Rules p2_).bind λ x149=>
  (if (!(x149.From != p1_.Mode))=true then Ke n x149.Left p1_.Last else some default).bind λ r127=>
  if ((x149.From != p1_.Mode)||(!r127))=true then
   some (({ Mode:=0,Last:=0,Need:=0 }:Ab),false)
  else
   if ((((List.length x149.Print:Nat):Int)==0)&&((Cg .u8 p1_.Need x149.Right)==0))=true then
    some (({ Mode:=0,Last:=0,Need:=0 }:Ab),false)
   else
    if (((List.length x149.Print:Nat):Int)==0)=true then
     some (({ Mode:=x149.To,Last:=p1_.Last,Need:=Cg .u8 p1_.Need x149.Right }:Ab),true)
    else
     (NI x149.Print 0).bind λ b8=>
     (JD n b8).bind λ r128=>
     (Ke n p1_.Need r128).bind λ r129=>
     if (!r129)=true then
      some (({ Mode:=0,Last:=0,Need:=0 }:Ab),false)
     else
      (NI x149.Print (Dw .i64 ((List.length x149.Print:Nat):Int) 1)).bind λ b9=>
      (JD n b9).bind λ r130=>
      some (({ Mode:=x149.To,Last:=r130,Need:=x149.Right }:Ab),true)
def DF (_:Nat) (p0_:(List Ab)) (p1_:Ab) (i_19:Int):Option (Int⊕(Unit⊕Int)):=
 if decide (i_19<((List.length p0_:Nat):Int))=true then
  (idx p0_ i_19).bind λ x150=>
  if ((x150.Mode==p1_.Mode)&&((x150.Last==p1_.Last)&&((x150.Need==p1_.Need)&&true)))=true then
   some (Sum.inr (Sum.inr i_19))
  else
   some (Sum.inl (Au .i64 i_19 1))
 else
  some (Sum.inr (Sum.inl ()))
def MI (n:Nat) (p0_:(List Ab)) (p1_:Ab):Option Int:=
 (whl (λ (x:Int)=>DF n p0_ p1_ x) n 0).bind λ y103=>
 match y103 with
 | Sum.inl _=>
  some (-1)
 | Sum.inr y105=>
  some y105
def EM (_:Nat) (k_3:Int) (out_12:(List Ab)):Option (((List Ab)×Int)⊕(List Ab)):=
 some (Sum.inl (out_12,(Au .i64 k_3 1)))
def DT (n:Nat) (p0_:Ad) (i_20:Int) (out_10:(List Ab)) (k_3:Int):Option (((List Ab)×Int)⊕(List Ab)):=
 if decide (k_3<((List.length p0_.Rules:Nat):Int))=true then
  (idx out_10 i_20).bind λ x151=>
  (LT n p0_ x151 k_3).bind λ r132=>
  (if r132.2=true then MI n out_10 r132.1 else some default).bind λ r133=>
  if (r132.2&&(decide (r133<0)))=true then
   (app 24 out_10 [r132.1]).bind λ l54=>
   EM n k_3 l54
  else
   EM n k_3 out_10
 else
  some (Sum.inr out_10)
def EN (n:Nat) (p0_:Ad) (out_8:(List Ab)) (i_20:Int):Option (((List Ab)×Int)⊕(List Ab)):=
 if decide (i_20<((List.length out_8:Nat):Int))=true then
  (whl (λ (x:((List Ab)×Int))=>DT n p0_ i_20 x.1 x.2) n (out_8,0)).bind λ y106=>
  some (Sum.inl (y106,(Au .i64 i_20 1)))
 else
  some (Sum.inr out_8)
def Kf (n:Nat) (p0_:Ad):Option (List Ab):=
 (Ug n).bind λ r131=>
 (whl (λ (x:((List Ab)×Int))=>EN n p0_ x.1 x.2) n ([r131],0)).bind λ y107=>
 some y107
def ID (n:Nat) (p0_:Ad) (p1_:Ab):Option Bool:=
 (if ((decide (p1_.Mode≥0))&&(decide (p1_.Mode<p0_.Modes)))=true then Ke n p0_.Accept p1_.Mode else some default).bind λ r134=>
 (if (((decide (p1_.Mode≥0))&&(decide (p1_.Mode<p0_.Modes)))&&r134)=true then Ke n p1_.Need 0 else some default).bind λ r135=>
 some ((((decide (p1_.Mode≥0))&&(decide (p1_.Mode<p0_.Modes)))&&r134)&&r135)
def Kg (_:Nat) (p0_:(List UInt8)) (p1_:Int) (p2_:(List UInt8)):Option Bool:=
 (if decide (Au .i64 p1_ ((List.length p2_:Nat):Int)≤((List.length p0_:Nat):Int))=true then sub p0_ p1_ (Au .i64 p1_ ((List.length p2_:Nat):Int)) else some default).bind λ s12=>
 some ((decide (Au .i64 p1_ ((List.length p2_:Nat):Int)≤((List.length p0_:Nat):Int)))&&(s12==p2_))
def JE (n:Nat) (p0_:Ad) (p1_:Sn) (p2_:Int) (p3_:(List (List Int))):Option Int:=
 (LT n p0_ p1_.State p2_).bind λ r136=>
 (if (!(!r136.2))=true then idx p0_.Rules p2_ else some default).bind λ x152=>
 (if (!(!r136.2))=true then Kg n p1_.S p1_.I x152.Print else some default).bind λ r137=>
 if ((!r136.2)||(!r137))=true then
  some (-1)
 else
  (idx p0_.Rules p2_).bind λ x153=>
  (idx p3_ (Au .i64 p1_.I ((List.length x153.Print:Nat):Int))).bind λ x154=>
  (MI n p1_.L r136.1).bind λ r138=>
  (idx x154 r138).bind λ x155=>
  if decide (x155<0)=true then
   some (-1)
  else
   (idx p0_.Rules p2_).bind λ x156=>
   some (Au .i64 x155 ((List.length x156.Cells:Nat):Int))
def MJ (_:Nat) (p0_:Int) (p1_:Int):Option Int:=
 if ((decide (p0_<0))||((decide (p1_≥0))&&(decide (p1_<p0_))))=true then
  some p1_
 else
  some p0_
def DM (_:Nat) (k_4:Int) (out_17:(List (List Int))):Option (((List (List Int))×Int)⊕(List (List Int))):=
 some (Sum.inl (out_17,(Au .i64 k_4 1)))
def CW (n:Nat) (p0_:Ad) (p1_:(List UInt8)) (r139:(List Ab)) (i_21:Int) (out_15:(List (List Int))) (k_4:Int):Option (((List (List Int))×Int)⊕(List (List Int))):=
 if decide (k_4<((List.length r139:Nat):Int))=true then
  (idx out_15 i_21).bind λ x158=>
  (idx x158 k_4).bind λ _=>
  (put x158 k_4 (-1)).bind λ l57=>
  (if (i_21==((List.length p1_:Nat):Int))=true then idx r139 k_4 else some default).bind λ x160=>
  (if (i_21==((List.length p1_:Nat):Int))=true then ID n p0_ x160 else some default).bind λ r140=>
  if ((i_21==((List.length p1_:Nat):Int))&&r140)=true then
   (idx (List.set out_15 (Int.toNat i_21) l57) i_21).bind λ x161=>
   (idx x161 k_4).bind λ _=>
   (put x161 k_4 0).bind λ l58=>
   DM n k_4 (List.set (List.set out_15 (Int.toNat i_21) l57) (Int.toNat i_21) l58)
  else
   DM n k_4 (List.set out_15 (Int.toNat i_21) l57)
 else
  some (Sum.inr out_15)
def DN (_:Nat) (r_3:Int) (out_24:(List (List Int))) (changed_6:Bool):Option (((List (List Int))×Bool×Int)⊕((List (List Int))×Bool)):=
 some (Sum.inl (out_24,changed_6,(Au .i64 r_3 1)))
def CX (n:Nat) (p0_:Ad) (p1_:(List UInt8)) (r139:(List Ab)) (i_21:Int) (k_5:Int) (out_22:(List (List Int))) (changed_4:Bool) (r_3:Int):Option (((List (List Int))×Bool×Int)⊕((List (List Int))×Bool)):=
 if decide (r_3<((List.length p0_.Rules:Nat):Int))=true then
  (idx r139 k_5).bind λ x163=>
  (JE n p0_ ({ S:=p1_,I:=i_21,State:=x163,L:=r139 }:Sn) r_3 out_22).bind λ r141=>
  (if decide (r141≥0)=true then idx out_22 i_21 else some default).bind λ _=>
  (if decide (r141≥0)=true then idx (List.getD out_22 (Int.toNat i_21) []) k_5 else some default).bind λ x165=>
  (if decide (r141≥0)=true then MJ n x165 r141 else some default).bind λ r142=>
  (if decide (r141≥0)=true then idx out_22 i_21 else some default).bind λ _=>
  (if decide (r141≥0)=true then idx (List.getD out_22 (Int.toNat i_21) []) k_5 else some default).bind λ x167=>
  if ((decide (r141≥0))&&(r142 != x167))=true then
   (idx (List.set out_22 (Int.toNat i_21) (List.getD out_22 (Int.toNat i_21) [])) i_21).bind λ x168=>
   (idx x168 k_5).bind λ _=>
   (put x168 k_5 r141).bind λ l59=>
   DN n r_3 (List.set (List.set out_22 (Int.toNat i_21) (List.getD out_22 (Int.toNat i_21) [])) (Int.toNat i_21) l59) true
  else
   DN n r_3 (List.set out_22 (Int.toNat i_21) (List.getD out_22 (Int.toNat i_21) [])) changed_4
 else
  some (Sum.inr (out_22,changed_4))
def CY (n:Nat) (p0_:Ad) (p1_:(List UInt8)) (r139:(List Ab)) (i_21:Int) (out_20:(List (List Int))) (changed_2:Bool) (k_5:Int):Option (((List (List Int))×Bool×Int)⊕((List (List Int))×Bool)):=
 if decide (k_5<((List.length r139:Nat):Int))=true then
  (whl (λ (x:((List (List Int))×Bool×Int))=>CX n p0_ p1_ r139 i_21 k_5 x.1 x.2.1 x.2.2) n (out_20,changed_2,0)).bind λ y109=>
  some (Sum.inl (y109.1,y109.2,(Au .i64 k_5 1)))
 else
  some (Sum.inr (out_20,changed_2))
def DO (n:Nat) (p0_:Ad) (p1_:(List UInt8)) (r139:(List Ab)) (i_21:Int) (out_18:(List (List Int))) (changed_1:Bool):Option (((List (List Int))×Bool)⊕(List (List Int))):=
 if changed_1=true then
  (whl (λ (x:((List (List Int))×Bool×Int))=>CY n p0_ p1_ r139 i_21 x.1 x.2.1 x.2.2) n (out_18,false,0)).bind λ y110=>
  some (Sum.inl (y110.1,y110.2))
 else
  some (Sum.inr out_18)
def E7 (n:Nat) (p0_:Ad) (p1_:(List UInt8)) (r139:(List Ab)) (out_13:(List (List Int))) (i_21:Int):Option (((List (List Int))×Int)⊕(List (List Int))):=
 if decide (i_21≥0)=true then
  (idx out_13 i_21).bind λ _=>
  (mkl 8 ((List.length r139:Nat):Int) (0:Int)).bind λ l56=>
  (whl (λ (x:((List (List Int))×Int))=>CW n p0_ p1_ r139 i_21 x.1 x.2) n ((List.set out_13 (Int.toNat i_21) l56),0)).bind λ y108=>
  (whl (λ (x:((List (List Int))×Bool))=>DO n p0_ p1_ r139 i_21 x.1 x.2) n (y108,true)).bind λ y111=>
  some (Sum.inl (y111,(Dw .i64 i_21 1)))
 else
  some (Sum.inr out_13)
def Hz (n:Nat) (p0_:Ad) (p1_:(List UInt8)):Option (List (List Int)):=
 (Kf n p0_).bind λ r139=>
 (mkl 24 (Au .i64 ((List.length p1_:Nat):Int) 1) ([]:(List Int))).bind λ l55=>
 (whl (λ (x:((List (List Int))×Int))=>E7 n p0_ p1_ r139 x.1 x.2) n (l55,((List.length p1_:Nat):Int))).bind λ y112=>
 some y112
def G0 (_:Nat) (k_6:Int) (least_6:Int):Option ((Int×Int)⊕Int):=
 some (Sum.inl (least_6,(Au .i64 k_6 1)))
end Go.AI
end
section
namespace Go.AI
def Fz (n:Nat) (r143:(List (List Int))) (_:Bj) (i_22:Int) (least_4:Int) (k_6:Int):Option ((Int×Int)⊕Int):=
 (idx r143 i_22).bind λ x170=>
 if decide (k_6<((List.length x170:Nat):Int))=true then
  (idx r143 i_22).bind λ x171=>
  (idx x171 k_6).bind λ x172=>
  (if ((decide (x172≥0))&&!(decide (least_4<0)))=true then idx r143 i_22 else some default).bind λ x173=>
  (if ((decide (x172≥0))&&!(decide (least_4<0)))=true then idx x173 k_6 else some default).bind λ x174=>
  if ((decide (x172≥0))&&((decide (least_4<0))||(decide (x174<least_4))))=true then
   (idx r143 i_22).bind λ x175=>
   (idx x175 k_6).bind λ x176=>
   G0 n k_6 x176
  else
   G0 n k_6 least_4
 else
  some (Sum.inr least_4)
def G1 (_:Nat) (k_7:Int) (column_20:(List Int)):Option (((List Int)×Int)⊕(List Int)):=
 some (Sum.inl (column_20,(Au .i64 k_7 1)))
def FA (n:Nat) (r143:(List (List Int))) (_:Bj) (i_22:Int) (y113:Int) (column_18:(List Int)) (k_7:Int):Option (((List Int)×Int)⊕(List Int)):=
 (idx r143 i_22).bind λ x177=>
 if decide (k_7<((List.length x177:Nat):Int))=true then
  (idx r143 i_22).bind λ x178=>
  (idx x178 k_7).bind λ x179=>
  if decide (x179<0)=true then
   (app 8 column_18 [(-1)]).bind λ l60=>
   G1 n k_7 l60
  else
   (idx r143 i_22).bind λ x180=>
   (idx x180 k_7).bind λ x181=>
   (app 8 column_18 [Dw .i64 x181 y113]).bind λ l61=>
   G1 n k_7 l61
 else
  some (Sum.inr column_18)
def G2 (n:Nat) (r143:(List (List Int))) (out_25:Bj) (i_22:Int):Option ((Bj×Int)⊕Bj):=
 if decide (i_22<((List.length r143:Nat):Int))=true then
  (whl (λ (x:(Int×Int))=>Fz n r143 out_25 i_22 x.1 x.2) n ((-1),0)).bind λ y113=>
  (whl (λ (x:((List Int)×Int))=>FA n r143 out_25 i_22 y113 x.1 x.2) n (([]:List Int),0)).bind λ y114=>
  (app 24 out_25.Costs [y114]).bind λ l62=>
  (app 8 out_25.Least [y113]).bind λ l63=>
  some (Sum.inl (({ Text:=out_25.Text,Costs:=l62,Least:=l63 }:Bj),(Au .i64 i_22 1)))
 else
  some (Sum.inr out_25)
def LU (n:Nat) (p0_:Ad) (p1_:(List UInt8)):Option Bj:=
 (Hz n p0_ p1_).bind λ r143=>
 (whl (λ (x:(Bj×Int))=>G2 n r143 x.1 x.2) n (({ Text:=p1_,Costs:=([]:List (List Int)),Least:=([]:List Int) }:Bj),0)).bind λ y115=>
 some y115
def G3 (n:Nat) (p0_:Bj) (p1_:Bj) (i_23:Int):Option (Int⊕(Unit⊕Bool)):=
 if decide (i_23<((List.length p0_.Costs:Nat):Int))=true then
  (idx p0_.Costs i_23).bind λ x182=>
  (idx p1_.Costs i_23).bind λ x183=>
  (Ec n x182 x183).bind λ r145=>
  if (!r145)=true then
   some (Sum.inr (Sum.inr false))
  else
   some (Sum.inl (Au .i64 i_23 1))
 else
  some (Sum.inr (Sum.inl ()))
def JF (n:Nat) (p0_:Bj) (p1_:Bj):Option Bool:=
 (if (!((!(p0_.Text==p1_.Text))||(((List.length p0_.Costs:Nat):Int) != ((List.length p1_.Costs:Nat):Int))))=true then Ec n p0_.Least p1_.Least else some default).bind λ r144=>
 if (((!(p0_.Text==p1_.Text))||(((List.length p0_.Costs:Nat):Int) != ((List.length p1_.Costs:Nat):Int)))||(!r144))=true then
  some false
 else
  (whl (λ (x:Int)=>G3 n p0_ p1_ x) n 0).bind λ y116=>
  match y116 with
  | Sum.inl _=>
   some true
  | Sum.inr y118=>
   some y118
def IE (_:Nat) (out_34:B4):Option B4:=
 some out_34
def OJ (n:Nat) (p0_:Ad) (p1_:(List UInt8)) (p2_:BK):Option B4:=
 (Bm (!((Au .i64 ((List.length p1_:Nat):Int) 1)==0))).bind λ _=>
 (sub p2_.L 0 (if 3<((List.length p2_.L:Nat):Int) then 3 else ((List.length p2_.L:Nat):Int))).bind λ l70=>
 (Bm (!((Au .i64 (if 5<Dw .i64 ((List.length p1_:Nat):Int) (A8 (IntKind.i64.wrap p2_.At) (Au .i64 ((List.length p1_:Nat):Int) 1)) then 5 else Dw .i64 ((List.length p1_:Nat):Int) (A8 (IntKind.i64.wrap p2_.At) (Au .i64 ((List.length p1_:Nat):Int) 1))) 1)==0))).bind λ _=>
 (GZ n p0_ l70).bind λ r180=>
 if decide (Au .i64 ((List.length p1_:Nat):Int) ((List.length r180:Nat):Int)>40)=true then
  IE n ({ At:=A8 (IntKind.i64.wrap p2_.At) (Au .i64 ((List.length p1_:Nat):Int) 1),Cut:=A8 (IntKind.i64.wrap p2_.Cut) (Au .i64 (if 5<Dw .i64 ((List.length p1_:Nat):Int) (A8 (IntKind.i64.wrap p2_.At) (Au .i64 ((List.length p1_:Nat):Int) 1)) then 5 else Dw .i64 ((List.length p1_:Nat):Int) (A8 (IntKind.i64.wrap p2_.At) (Au .i64 ((List.length p1_:Nat):Int) 1))) 1),Put:=[] }:B4)
 else
  IE n ({ At:=A8 (IntKind.i64.wrap p2_.At) (Au .i64 ((List.length p1_:Nat):Int) 1),Cut:=A8 (IntKind.i64.wrap p2_.Cut) (Au .i64 (if 5<Dw .i64 ((List.length p1_:Nat):Int) (A8 (IntKind.i64.wrap p2_.At) (Au .i64 ((List.length p1_:Nat):Int) 1)) then 5 else Dw .i64 ((List.length p1_:Nat):Int) (A8 (IntKind.i64.wrap p2_.At) (Au .i64 ((List.length p1_:Nat):Int) 1))) 1),Put:=r180 }:B4)
def IF (_:Nat) (p0_:(List UInt8)) (p1_:B4):Option (List UInt8):=
 (sub p0_ 0 p1_.At).bind λ s13=>
 (cat s13 p1_.Put).bind λ s14=>
 (sub p0_ (Au .i64 p1_.At p1_.Cut) ((List.length p0_:Nat):Int)).bind λ s15=>
 (cat s14 s15).bind λ s16=>
 some s16
def FR (n:Nat) (p0_:MX) (p1_:(List Int)) (p2_:BK):Option Bool:=
 (HT n).bind λ r181=>
 (JC n p0_).bind λ r182=>
 (GZ n r182 p1_).bind λ r183=>
 (LU n r182 r183).bind λ r184=>
 (OJ n r182 r183 p2_).bind λ r185=>
 (CM n r182 r184 r185).bind λ r186=>
 (CM n r182 r184 ({ At:=r185.At,Cut:=0,Put:=[] }:B4)).bind λ r187=>
 if (((((r186.2.2 != 0)||(r187.2.2 != 0))||(decide (r186.2.1<((List.length r185.Put:Nat):Int))))||(decide (r186.2.1>Au .i64 r185.At ((List.length r185.Put:Nat):Int))))||(r187.2.1 != (if 3<r185.At then 3 else r185.At)))=true then
  some false
 else
  (IF n r183 r185).bind λ r188=>
  (LU n r182 r188).bind λ r189=>
  (JF n r186.1 r189).bind λ r190=>
  if (!r190)=true then
   some false
  else
   (sub r183 r185.At (Au .i64 r185.At r185.Cut)).bind λ s17=>
   (CM n r182 r186.1 ({ At:=r185.At,Cut:=((List.length r185.Put:Nat):Int),Put:=s17 }:B4)).bind λ r191=>
   (if (r181&&(r191.2.2==0))=true then JF n r191.1 r184 else some default).bind λ r192=>
   some ((r181&&(r191.2.2==0))&&r192)
end Go.AI
end
