/- Part 4 of 6 of the proof: lemmas about the model and the program's functions, with no condition beyond those that each states. -/
import Derived.Test.YtjaogfjfamffnaaGreatLC
import Derived.Shelf.Sort.Plain
import Derived.Shelf.Slices.In.SortNone
import Derived.Test.YtjaogfjfamffnaaGreatProg
import Derived.Shelf.Lays
import Derived.KernelRfl
section
namespace Go.AI
variable {P:Program} {nt:Slt} {o:Oper} {st:St}
variable {Γ:Cx} {C:Code} {p:List Nat} {Q:Ex->St->Prop} {s s':St} {i:Nat} {α:Type}
theorem JgF (k sz n:Nat) {l h m:Int} {y:Unit} (hg:JbI n l h m=some y):Gz s (Bj (.osl k sz (0+l.toNat) (h.toNat-l.toNat)) (0<=l/\l<=h/\h<=m/\m<=(n:Int)/\sz=sz)) (.osl k sz (0+l.toNat) (h.toNat-l.toNat)) [] [] none:=by
 unfold JbI BE at hg
 split at hg
 ·rename_i hc
  simp only [Jlt,decide_eq_true_eq] at hc
  exact .of rfl ⟨hc.1.1.1,hc.1.1.2,hc.1.2,hc.2,rfl⟩
 ·cases hg
theorem JbJ {n:Nat} {i:Int} {y:Unit} (h:inB n i=some y):0<=i/\i<n:=by
 unfold inB BE at h
 split at h
 ·rename_i hc
  simpa using hc
 ·cases h
theorem E9 (k esz lo n:Nat) {i:Int} {y:Unit} (h:inB n i=some y):Gz s (Bj (.eptr k esz (lo+i.toNat) 0) (0<=i/\i<(n:Nat)/\esz=esz)) (.eptr k esz (lo+i.toNat) 0) [] [] none:=
 .of rfl ⟨(JbJ h).1,(JbJ h).2,rfl⟩
def GX (k sz:Nat) (x:Nat×Nat):List AV:=[.osl k sz x.1 x.2]
theorem PH {xs:List (Nat×Nat)} {x:Nat×Nat} {n:Int} (k kb sz:Nat) {t:Ty} (h:idx xs n=some x) (hk:obA s.objs k=some (.narr 1 (xs.map (GX kb sz))):=by kernel_rfl) (hv:B4 (GX kb sz x) 0 t=some (.osl kb sz x.1 x.2):=by kernel_rfl) (hl:Nat.ble (0+t.size) 1=true:=by kernel_rfl) :
  Gz s (Dx t s.objs (.eptr k 1 (0+n.toNat) 0)) (.osl kb sz x.1 x.2) [] [] none:=by
 have e:xs.map (GX kb sz)=(xs.map (GX kb sz)).set n.toNat (GX kb sz x):=by
  obtain ⟨h0,h1,h2⟩:=Ea h
  apply List.ext_getElem?
  intro j
  rw [List.getElem?_set]
  split
  ·rename_i e;subst e
   split
   ·rw [Jlw,h2];rfl
   ·rename_i hl;rw [JlO (by omega)]
  ·rfl
 rw [e] at hk
 exact Ci (encN:=GX kb sz) h hk hv rfl hl
theorem JgG {xs zs:List (Nat×Nat)} {n:Int} (k kb sz lo m:Nat) {t:Ty} (hz:put xs n (lo,m)=some zs) (hk:obA s.objs k=some (.narr 1 (xs.map (GX kb sz))):=by kernel_rfl) (hl:Nat.beq t.size 1=true:=by kernel_rfl) :
  Gz s (EK t s.objs (.eptr k 1 (0+n.toNat) 0) (.osl kb sz lo m)) .top [] [] (some (k,.narr 1 (zs.map (GX kb sz)))):=by
 unfold put at hz
 split at hz
 ·rename_i h0
  cases hz
  have hg:xs[n.toNat]? = some (xs[n.toNat]'(by omega)):=Jls (by omega)
  have hi:idx xs n=some (xs[n.toNat]'(by omega)):=by unfold idx;rw [if_pos h0.1,hg]
  have e:xs.map (GX kb sz)=(xs.map (GX kb sz)).set n.toNat (GX kb sz (xs[n.toNat]'(by omega))):=by
   apply List.ext_getElem?
   intro j
   rw [List.getElem?_set]
   split
   ·rename_i e;subst e
    split
    ·rw [Jlw,hg];rfl
    ·rename_i hl;rw [JlO (by omega)]
   ·rfl
  rw [e] at hk
  have hs:=Jlz hl
  have:=LU (s:=s) (row':=GX kb sz (lo,m)) (t:=t) (off:=0) (v:=.osl kb sz lo m) hi hk rfl rfl (by rw [hs];rfl)
  rwa [← List.map_set] at this
 ·cases hz
theorem LW (e:α->List D) (k off:Nat) (t:Ty) {xs:List α} {j:Nat} {x:α} (h:idx xs (j:Int)=some x) (hk:obA s.objs k=some (.arr (e x).length (xs.map e)):=by kernel_rfl) (hv:(B4 ((e x).map .d) off t).isSome=true:=by kernel_rfl) (hl:Nat.ble (off+t.size) (e x).length=true:=by kernel_rfl) :
  Gz s (Dx t s.objs (.eptr k (e x).length j off)) (ldV (e x) off t) [] [] none:=by
 have:=CJ e k off t h hk hv hl
 rwa [JlH,JlC] at this
theorem stP (e:α->List D) (k off j:Nat) (t:Ty) {xs zs:List α} {x y:α} (h:idx xs (j:Int)=some x) (hz:put xs (j:Int) y=some zs) (hk:RF Γ C p (i+1) Q ((Nr Γ (nav p C) i .top [] [] (some (k,.arr (e x).length (zs.map e))) s).getD s))
  (h1:obA s.objs k=some (.arr (e x).length (xs.map e)):=by kernel_rfl) (h2:xDs s.objs (Ao (stV (nav p C) i s))=some (stR (nav p C) i s,[],[]):=by kernel_rfl) (h3:(BA (stV (nav p C) i s)&&(Ao (stV (nav p C) i s)).all D5)=true:=by kernel_rfl) (h4:FM (e x) off (stR (nav p C) i s)=e y:=by kernel_rfl) (h5:(Nat.beq (stR (nav p C) i s).length t.size&&Nat.ble (off+t.size) (e x).length)=true:=by kernel_rfl)
  (hx:OI Γ (nav p C) i s=EK t s.objs (.eptr k (e x).length j off) (stV (nav p C) i s):=by kernel_rfl) (hn:(Nr Γ (nav p C) i .top [] [] (some (k,.arr (e x).length (zs.map e))) s).isSome=true:=by kernel_rfl):RF Γ C p i Q s:=
 stA e k off t h hz hk h1 h2 h3 h4 h5 (by rw [JlH,JlC];exact hx) hn
section
variable {N:Nat->Prop} {H0 F0 F:Nat->Option Obj} {ρ:Nat->Option Loc} {O:List (Option Ob)} {nk:Nat}
theorem OO {h:Array Obj} (hS:Sim N H0 F0 F ρ O h) {k sz:Nat} {es es':List (List AV)} (ho:obA O k=some (.narr sz es)) (hl:es.length=es'.length)
  (hr:∀ (i:Nat) (e e':List AV),es[i]? = some e->es'[i]? = some e'->e.length=e'.length/\∀ (j:Nat) (a a':AV),e[j]? = some a->e'[j]? = some a'->KX a'=false/\∀ v,(KX a=false->Ah F ρ a v)->(a=.own 0 []->∃ ad,v=.slice ad 0 0)->Ah F ρ a' v):Sim N H0 F0 F ρ (O.set k (some (.narr sz es'))) h:=by
 have hget:∀ (i:Nat) (e':List AV),es'[i]? = some e'->∃ e,es[i]? = some e/\e.length=e'.length:=λ i e' hi=>by
  have:=Ag hi
  have hi0:es[i]? = some es[i]:=Jls (by omega)
  exact ⟨_,hi0,(hr i _ e' hi0 hi).1⟩
 have hgetc:∀ (i:Nat) (e':List AV) (j:Nat) (a':AV),es'[i]? = some e'->e'[j]? = some a'->∃ e a,es[i]? = some e/\e[j]? = some a/\KX a'=false/\∀ v,(KX a=false->Ah F ρ a v)->(a=.own 0 []->∃ ad,v=.slice ad 0 0)->Ah F ρ a' v:=λ i e' j a' hi hj=>by
  obtain ⟨e,h1,h2⟩:=hget i e' hi
  have:=Ag hj
  have hj0:e[j]? = some e[j]:=Jls (by omega)
  exact ⟨e,_,h1,hj0,(hr i e e' h1 hi).2 j _ a' hj0 hj⟩
 obtain ⟨σ,hσ⟩:=hS.inn
 refine hS.retable (by simp) (λ q L ob hq hob=>?_) ⟨σ,hσ.new,λ k' c M q L ob hM hq hob=>?_,hσ.sep,λ q L sz' es2 hq hob i e' j isz xs hi hj cs t fr v hb hv=>?_⟩
 ·by_cases e1:q=k
  ·subst e1
   rw [AN ho] at hob
   cases hob
   refine ⟨_,ho,.inr ?_⟩
   obtain ⟨p1,p2,cs,t,fr,p3,p4,p5,p6⟩:=(hS.obj q L _ hq ho).1
   refine ⟨λ e' he=>?_,by rw [← hl];exact p2,cs,t,fr,p3,p4,p5,λ i e' hi j a' ha=>?_⟩
   ·obtain ⟨i,hi⟩:=List.mem_iff_getElem?.1 he
    obtain ⟨e,h1,h2⟩:=hget i e' hi
    rw [← h2];exact p1 e (Jlu h1)
   ·obtain ⟨e,a,h1,h2,_,h4⟩:=hgetc i e' j a' hi ha
    obtain ⟨v,hv,hd⟩:=p6 i e h1 j a h2
    refine ⟨v,hv,λ _=>h4 v hd λ ea=>?_⟩
    subst ea
    rcases hσ.rep q L sz es hq ho i e j 0 [] h1 h2 cs t fr v p3 hv with h5|⟨_,_,_,_,_,_,h6,_⟩
    ·exact h5.2
    ·omega
  ·rw [AG e1] at hob;exact ⟨ob,hob,.inl rfl⟩
 ·by_cases e1:q=k
  ·subst e1;exact hσ.obj k' c M q L _ hM hq ho
  ·rw [AG e1] at hob;exact hσ.obj k' c M q L ob hM hq hob
 ·by_cases e1:q=k
  ·subst e1
   rw [AN ho] at hob
   cases hob
   obtain ⟨_,_,_,_,h3,_⟩:=hgetc i e' j _ hi hj
   cases h3
  ·rw [AG e1] at hob;exact hσ.rep q L sz' es2 hq hob i e' j isz xs hi hj cs t fr v hb hv
theorem Va {h:Array Obj} (hS:Sim N H0 F0 F ρ O h) {k sz:Nat} {es:List (List D)} (ho:obA O k=some (.arr sz es)) :
  ∃ F',FLe F F'/\Sim N H0 F0 F' ρ (O.set k none) h/\∀ lo n,lo+n<=es.length->∀ v,Ah F ρ (.osl k sz lo n) v->Bv F' (.sl ((es.drop lo).take n)) v:=by
 refine ⟨Jy F ρ h [k],E7 hS _,?_,λ lo n hn v hv=>?_⟩
 ·rw [← YS]
  exact hS.freeze [k] λ k' hk'=>by simp at hk';subst hk';exact ⟨_,ho⟩
 ·refine HS (objs:=O) (r:=⟨.sl ((es.drop lo).take n),[k],lo+n<=es.length⟩) hS (λ _ _ h=>h) (E7 hS _) (λ k' L hk' hL=>?_) ?_ hn hv
  ·exact MC hk' hL
  ·simp [Js,ho]
end
theorem JgH (k kb sz:Nat) {β:Type} {x:β} {n:Int} {zs:List β} {nk:Nat} (hm:List.replicate n.toNat x=zs) (h:OM s k=some (1,List.replicate n.toNat [.nil])):As nk s ⟨s.env,s.objs.set k (some (.narr 1 ((List.replicate zs.length (0,0)).map (GX kb sz))))⟩:=by
 have ho:=LT h
 have a:=As.toN (nk:=nk) (st:=s) k 1 _ ho
 refine As.trans a (As.sem λ _ _ _ _ _ _ _ _ hI=>?_)
 obtain ⟨F,ρ,hS,hSl,hn,hdf⟩:=hI
 refine ⟨F,ρ,?_,hSl,hn,hdf⟩
 have hlen:zs.length=n.toNat:=by rw [← hm];simp
 have:=OO (es':=(List.replicate zs.length (0,0)).map (GX kb sz)) hS (AN ho) (by simp [hlen]) λ i e e' hi hi'=>by
  simp only [List.map_replicate,List.getElem?_replicate] at hi hi'
  rw [hlen] at hi'
  split at hi
  ·rename_i hl
   rw [if_pos hl] at hi'
   cases hi;cases hi'
   refine ⟨rfl,λ j a a' ha ha'=>?_⟩
   cases j with
   | zero=>
    simp only [GX,List.map_cons,List.getElem?_cons_zero,JlD] at ha ha'
    subst ha;subst ha'
    refine ⟨rfl,λ v _ h2=>?_⟩
    obtain ⟨ad,rfl⟩:=h2 rfl
    exact .osl0 _ _ _ _
   | succ j=>simp [GX] at ha'
  ·cases hi
 simpa using this
def Je0 (enc:α->List D) (l:List α):List AV:=[.d (.sl (l.map enc))]
theorem WR (kb k sz:Nat) {nk:Nat} {xs:List (Nat×Nat)} {ys:List α} {enc:α->List D} {u:Unit} (hg:ZX ys xs=some u) (hk:OM s kb=some (sz,ys.map enc)) (h:Do s k=some (1,xs.map (GX kb sz))) :
  As nk s ⟨s.env,(s.objs.set kb none).set k (some (.narr 1 ((PG ys xs).map (Je0 enc))))⟩:=by
 have ha:=LT hk
 have ho:=CU h
 have hb:∀ x∈xs,x.1+x.2<=ys.length:=by
  unfold ZX BE at hg
  split at hg
  ·rename_i hc
   intro x hx
   simpa using List.all_eq_true.1 hc x hx
  ·cases hg
 refine As.sem λ _ _ _ _ _ _ _ _ hI=>?_
 obtain ⟨F,ρ,hS,hSl,hn,hdf⟩:=hI
 obtain ⟨F',h1,h2,h3⟩:=Va hS ha
 have hne:k≠kb:=λ e=>by subst e;rw [ha] at ho;cases ho
 refine ⟨F',ρ,?_,hSl.mono h1 (RLe.refl _),hn,hdf.1.mono h1,hdf.2⟩
 refine OO h2 (by rw [AG hne];exact ho) (by simp [PG]) λ i e e' hi hi'=>?_
 simp only [PG,List.map_map,Jlw,Jlv] at hi hi'
 obtain ⟨x,hx,rfl⟩:=hi
 obtain ⟨x',hx',rfl⟩:=hi'
 rw [hx] at hx'
 cases hx'
 refine ⟨rfl,λ j a a' hj hj'=>?_⟩
 cases j with
 | zero=>
  simp only [GX,Je0,Function.comp_apply,List.getElem?_cons_zero,JlD] at hj hj'
  subst hj;subst hj'
  refine ⟨rfl,λ v hv _=>?_⟩
  have hv:=hv rfl
  have hv0:Ah F ρ (.osl kb sz x.1 x.2) v:=by
   generalize x.2=m at hv ⊢
   cases hv with
   | osl _ _ _ _ cap L a b c d=>exact .osl _ _ _ _ cap L a b c d
   | osl0 _ _ _ a=>exact .osl0 _ _ _ _
  have:=h3 x.1 x.2 (by rw [List.length_map];exact hb x (Jlu hx)) v hv0
  rw [← List.map_drop,← List.map_take] at this
  exact .d _ _ this
 | succ j=>simp [GX] at hj
theorem Je1 {β:Type} {es ys:List β} {lo:Nat} (h:lo+ys.length<=es.length):(spl es lo ys).length=es.length:=by
 unfold spl;simp;omega
theorem Je2 {β:Type} {es ys:List β} {lo:Nat} (h:lo+ys.length<=es.length) (i:Nat):(spl es lo ys)[i]? = if i<lo then es[i]? else if i<lo+ys.length then ys[i-lo]? else es[i]? := by
 unfold spl
 have hl:(es.take lo).length=lo:=by simp;omega
 rw [List.append_assoc]
 split
 ·rw [JlA (by omega),JlN (by omega)]
 ·rw [JlL (by omega),hl]
  split
  ·rw [JlA (by omega)]
  ·rw [JlL (by omega),List.getElem?_drop]
   congr 1;omega
theorem Y2 {β:Type} {es ys:List β} {lo:Nat} {x:β} (h:x∈spl es lo ys):x∈es\/x∈ys:=by
 unfold spl at h
 rcases List.mem_append.1 h with h|h
 ·rcases List.mem_append.1 h with h|h
  ·exact .inl (List.mem_of_mem_take h)
  ·exact .inr h
 ·exact .inl (List.mem_of_mem_drop h)
theorem Je3 {β γ:Type} (f:β->γ) (es ys:List β) (lo:Nat):(spl es lo ys).map f=spl (es.map f) lo (ys.map f):=by
 unfold spl;simp [List.map_take,List.map_drop]
theorem ZY {Γ:Nat->Ty} (hΓ:J2 P Γ) {d s:Operand} {t t':TypeId} {k sz eb lo n:Nat} {ez:List D} {es ys:List (List D)} {ob:Prop} (hop:o.op=.call ⟨.builtin .copy,#[d,s],#[t,t']⟩) (hok:(Γ t).ok=true) (hkind:(Γ t).kind=.slice sz eb ez) (h1:1<=sz)
  (hd:Ak st.env d=.osl k sz lo n) (ho:obA st.objs k=some (.arr sz es)) (hnl:lo+n<=es.length) (hs:Jb st.objs (Ak st.env s)=some (ys,ob)) (hob:ob) (hys:∀ e∈ys,e.length=sz) (hle:ys.length<=n) :
  UL P nt o true st ⟨putA o.dst false true (.d (.int .i64 (ys.length:Int))) st.env,st.objs.set k (some (.arr sz (spl es lo ys)))⟩:=by
 intro N H0 F0 w0 a w _ hI hdst K Qw hK
 obtain ⟨F,ρ,hS,hSl,hn,hdf⟩:=hI
 obtain ⟨desc,hde,_,hk⟩:=(hΓ t hok).desc
 rw [hkind] at hk
 obtain ⟨elem,i,z,rfl,p1,p2,p3,p4,p5,p6,p7⟩:=hk
 have hdr:=A4 hSl d
 have hsr:=A4 hSl s
 rw [hd] at hdr
 obtain ⟨cs,hrun,hER,hcs⟩:=Fs (P:=P) h1 hS (λ _ _ h=>h) hs hob hsr hys
 obtain ⟨hl1,hf1⟩:=hrun w rfl
 generalize hxs:a.eval s=xs at hl1 hf1
 generalize hxd:a.eval d=xd at hdr
 have hfit:lo+ys.length<=es.length:=by omega
 have hcopy:∀ (base:Option Addr) (cap:Nat) (w':World),xd=.slice base n cap->(match base with|some b=>(storeCells b cs.toList).run P w=.ok () w'|none=>w'=w) ->
   (execOp a.eval o).run P w=.ok (.value (.int .i64 (ys.length:Int))) w':=by
  intro base cap w' hxd' hst
  have hmin:Nat.min ys.length n=ys.length:=Nat.min_eq_left (by omega)
  have hr:(Builtin.copy_ #[t,t'] o.type #[xd,xs]).run P w=.ok (.int .i64 (ys.length:Int)) w':=by
   rw [hxd']
   simp only [Builtin.copy_,List.getElem?_toArray,List.getElem?_cons_zero,List.getElem?_cons_succ,Sem.run_bind,run_underlying hde,Result.andThen_ok,hl1,hmin,AU w p1,p2,hf1]
   cases base with
   | none=>simp only at hst;subst hst;rfl
   | some b=>simp only [Sem.run_bind,hst,Result.andThen_ok];rfl
  simp only [execOp,hop,resolve,invoke,builtin,Sem.run_bind,Sem.run_pure,Result.andThen_ok,List.map_toArray,List.map_cons,List.map_nil,hxd,hxs,hr]
 have fin:∀ w',Sim N H0 F0 F ρ (st.objs.set k (some (.arr sz (spl es lo ys)))) w'.heap->Mu w w'->(execOp a.eval o).run P w=.ok (.value (.int .i64 (ys.length:Int))) w'->o.wp P a w K Qw:=by
  intro w' hS' hmu hr
  unfold Oper.wp
  rw [hr,Oper.upon_value]
  exact hK _ _ ⟨F,ρ,hS',hSl.putA hn hdst (.mkInt _ _),hn.put hdst,by rw [BC];exact ⟨hdf.1,hdf.2.1.trans hmu,hdf.2.2⟩⟩
 have hstay:ys=[]->Sim N H0 F0 F ρ (st.objs.set k (some (.arr sz (spl es lo ys)))) w.heap:=λ h=>by
  subst h
  refine hS.table (by simp) λ j L ob' hj hob'=>?_
  by_cases e:j=k
  ·subst e;rw [Bu,if_pos ⟨rfl,AS ho⟩] at hob';cases hob';simpa [spl] using ho
  ·rw [Bu,if_neg (λ hh=>e hh.1)] at hob';exact hob'
 cases hdr with
 | osl0 _ _ _ ad=>
  have hy:ys=[]:=List.length_eq_zero_iff.1 (by omega)
  have hcs0:cs.toList=[]:=by
   have:cs.size=0:=by rw [hcs,hy];simp
   simpa using this
  refine fin w (hstay hy) (Mu.refl w) (hcopy ad 0 w rfl ?_)
  cases ad with
  | none=>rfl
  | some b=>simp only;rw [hcs0];rfl
 | osl _ _ _ _ cap L hL hc hss hz=>
  obtain ⟨⟨g1,g2,cur,t0,fr,g3,g4,g5,g6⟩,gN,gF⟩:=hS.obj k L _ hL ho
  have hin:L.base+lo*sz+ys.length*sz<=cur.size:=by
   have:(lo+ys.length)*sz<=es.length*sz:=Nat.mul_le_mul_right _ hfit
   rw [JlG] at this
   omega
  have hst:=BO P L.b (L.base+lo*sz) t0 fr cs.toList 0 cur w g3 (by simp [hcs];omega) (by rw [g4];exact g5) (hER.ones hcs)
  simp only [Nat.add_zero] at hst
  refine fin { w with heap:=w.heap.setIfInBounds L.b (.cells (Bz cur (L.base+lo*sz) cs.toList) t0 fr) } ?_ (Mu.set g3) (hcopy (some ⟨L.b,L.base+lo*sz,none⟩) cap _ rfl hst)
  have:=hS.rewrite (k':=k) (L':=L) (x:=.cells (Bz cur (L.base+lo*sz) cs.toList) t0 fr) (O':=st.objs.set k (some (.arr sz (spl es lo ys)))) hL ho (by rw [Cf hL];exact RLe.refl _) rfl (λ j ob' hj hob'=>by
    rw [Bu,if_neg (λ hh=>hj hh.1)] at hob';exact ⟨hob',hj⟩) (by simp) (by simpa using AS ho) (λ ob' hob'=>by
    rw [Bu,if_pos ⟨rfl,AS ho⟩] at hob'
    cases hob'
    have hps:(Bz cur (L.base+lo*sz) cs.toList).size=L.size:=by rw [Bq,g4]
    refine ⟨λ e he=>?_,by rw [Je1 hfit];exact g2,_,t0,fr,by rw [CO,if_pos ⟨rfl,Ap g3⟩],hps,g5,λ i e hi j x hx=>?_⟩
    ·rcases Y2 he with h|h
     ·exact g1 e h
     ·exact hys e h
    ·have hjs:j<sz:=by
      have:=Ag hx
      have he:e.length=sz:=by
       rcases Y2 (Jlu hi) with h|h
       ·exact g1 e h
       ·exact hys e h
      omega
     rw [Ep _ _ _ _ (by simp [hcs];omega)]
     simp only [Array.length_toList,hcs]
     rw [Je2 hfit] at hi
     by_cases hlo:i<lo
     ·rw [if_pos hlo] at hi
      obtain ⟨u,hu,hdu⟩:=g6 i e hi j x hx
      have hb:(i+1)*sz<=lo*sz:=Nat.mul_le_mul_right _ hlo
      rw [JlG,Nat.one_mul] at hb
      exact ⟨u,by rw [if_neg (by omega)];exact hu,hdu⟩
     ·rw [if_neg hlo] at hi
      have hb0:lo*sz<=i*sz:=Nat.mul_le_mul_right _ (by omega)
      by_cases hlt:i<lo+ys.length
      ·rw [if_pos hlt] at hi
       obtain ⟨u,hu,hdu⟩:=hER.2.2 (i-lo) e hi j x hx
       have hb:(i+1)*sz<=(lo+ys.length)*sz:=Nat.mul_le_mul_right _ hlt
       rw [JlG,Nat.one_mul,JlG] at hb
       refine ⟨u,?_,hdu⟩
       have e1:L.base+i*sz+j-(L.base+lo*sz)=0+(i-lo)*sz+j:=by
        rw [Nat.sub_mul];omega
       rw [if_pos (by omega),e1]
       simpa using hu
      ·rw [if_neg hlt] at hi
       obtain ⟨u,hu,hdu⟩:=g6 i e hi j x hx
       have hb:(lo+ys.length)*sz<=i*sz:=Nat.mul_le_mul_right _ (by omega)
       rw [JlG] at hb
       exact ⟨u,by rw [if_neg (by omega)];exact hu,hdu⟩) (λ ob' hob'=>by
    rw [Bu,if_pos ⟨rfl,AS ho⟩] at hob'
    cases hob';rfl)
  rw [Cf hL] at this
  exact this
theorem xpP (hX:XOK P Γ) (enc:α->List D) {xs ys zs:List α} (k sz lo n:Nat) {v:AV} (h:ZW xs ys lo n=some zs) (hs:JfJ s.objs v (ys.map enc)) (hl:∀ y,(enc y).length=sz) (hk:RF Γ C p (i+1) Q ((JeY Γ (nav p C) i k sz (zs.map enc) ys.length s).getD s))
  (hv:(cpV (nav p C) i s).2=v:=by kernel_rfl) (hd:(cpV (nav p C) i s).1=.osl k sz lo n:=by kernel_rfl) (ho:obA s.objs k=some (.arr sz (xs.map enc)):=by kernel_rfl) (hn:(JeY Γ (nav p C) i k sz (zs.map enc) ys.length s).isSome=true:=by kernel_rfl):RF Γ C p i Q s:=by
 subst hv
 have hn:=BM (d:=s) hn
 generalize (JeY Γ (nav p C) i k sz (zs.map enc) ys.length s).getD s=s' at hn hk
 unfold ZW at h
 split at h
 ·rename_i hb
  cases h
  unfold JeY at hn
  split at hn
  ·rename_i o d x t hoo hcp
   obtain ⟨h0,hn⟩:=AL hn
   simp only [Jlt] at h0
   obtain ⟨⟨⟨h1,h2⟩,h3⟩,h4⟩:=h0
   cases hn
   unfold cpV at hs hd
   rw [hcp] at hs hd
   simp only at hs hd
   obtain ⟨ob,e1,e2⟩:=hs
   unfold JgE at hcp
   rw [hoo] at hcp
   simp only at hcp
   split at hcp
   ·rename_i args ts hop
    split at hcp
    ·rename_i d' x' t1 t2 ha ht
     cases hcp
     have ha:args=#[d,x]:=by rw [← Array.toArray_toList (xs:=args),ha]
     have ht:ts=#[t,t2]:=by rw [← Array.toArray_toList (xs:=ts),ht]
     subst ha;subst ht
     split at h3
     ·rename_i z eb ez hkd
      have:=Jlz h3
      subst this
      have hx:=ZY (nt:=Γ.nt) hX.ty hop h2 hkd (JlI h4) hd ho (by rw [List.length_map];exact hb.1) e1 e2 (by simp [hl]) (by simpa using hb.2)
      rw [List.length_map,← Je3] at hx
      exact LV hX hoo h1 hx hk
     ·cases h3
    ·cases hcp
   ·cases hcp
  ·cases hn
 ·cases h
section
variable {N:Nat->Prop} {H0 F0 F:Nat->Option Obj} {ρ:Nat->Option Loc} {O:List (Option Ob)} {nk:Nat}
theorem WS {h:Array Obj} {L:Loc} {k sz:Nat} {xs:List (Nat×Nat)}:BJ F ρ h L (.cut k sz xs)↔BJ F ρ h L (.narr 1 (xs.map (GX k sz))):=by
 constructor
 ·rintro ⟨h2,cs,t,fr,h3,h4,h5,h6⟩
  refine ⟨λ e he=>?_,by simpa using h2,cs,t,fr,h3,h4,h5,λ i e hi j a ha=>?_⟩
  ·simp only [List.mem_map] at he
   obtain ⟨_,_,rfl⟩:=he;rfl
  ·simp only [Jlw,Jlv] at hi
   obtain ⟨x,hx,rfl⟩:=hi
   cases j with
   | zero=>
    simp only [GX,List.getElem?_cons_zero,JlD] at ha
    subst ha
    obtain ⟨v,hv,hd⟩:=h6 i x hx
    exact ⟨v,hv,λ _=>hd⟩
   | succ j=>simp [GX] at ha
 ·rintro ⟨_,h2,cs,t,fr,h3,h4,h5,h6⟩
  refine ⟨by simpa using h2,cs,t,fr,h3,h4,h5,λ i x hx=>?_⟩
  obtain ⟨v,hv,hd⟩:=h6 i (GX k sz x) (by rw [Jlw,hx];rfl) 0 _ rfl
  exact ⟨v,hv,hd rfl⟩
theorem Sim.reob {h:Array Obj} (hS:Sim N H0 F0 F ρ O h) {k:Nat} {ob ob':Ob} (ho:obA O k=some ob) (hr:∀ L,BJ F ρ h L ob->BJ F ρ h L ob') (hn:∀ sz es,ob'=.narr sz es->∀ (i:Nat) (e:List AV) (j isz:Nat) (xs:List (List D)),es[i]? = some e->¬ e[j]? = some (.own isz xs)):Sim N H0 F0 F ρ (O.set k (some ob')) h:=by
 obtain ⟨σ,hσ⟩:=hS.inn
 refine hS.retable (by simp) (λ q L ob1 hq hob=>?_) ⟨σ,hσ.new,λ k' c M q L ob1 hM hq hob=>?_,hσ.sep,λ q L sz' es2 hq hob i e' j isz xs hi hj cs t fr v hb hv=>?_⟩
 ·by_cases e1:q=k
  ·subst e1
   rw [AN ho] at hob
   cases hob
   exact ⟨_,ho,.inr (hr L (hS.obj q L _ hq ho).1)⟩
  ·rw [AG e1] at hob;exact ⟨ob1,hob,.inl rfl⟩
 ·by_cases e1:q=k
  ·subst e1;exact hσ.obj k' c M q L _ hM hq ho
  ·rw [AG e1] at hob;exact hσ.obj k' c M q L ob1 hM hq hob
 ·by_cases e1:q=k
  ·subst e1
   rw [AN ho] at hob
   cases hob
   exact absurd hj (hn _ _ rfl i e' j isz xs hi)
  ·rw [AG e1] at hob;exact hσ.rep q L sz' es2 hq hob i e' j isz xs hi hj cs t fr v hb hv
end
def JbK (s:St) (k:Nat):Option (Nat×Nat×List (Nat×Nat)):=match obA s.objs k with
 | some (.cut kb sz xs)=>some (kb,sz,xs)
 | _=>none
theorem JbL {k kb sz:Nat} {xs:List (Nat×Nat)} (h:JbK s k=some (kb,sz,xs)):obA s.objs k=some (.cut kb sz xs):=by
 unfold JbK at h
 split at h
 ·rename_i ho;cases h;exact ho
 ·cases h
theorem OP (k kb sz:Nat) {nk:Nat} {xs:List (Nat×Nat)} (h:JbK s k=some (kb,sz,xs)):As nk s ⟨s.env,s.objs.set k (some (.narr 1 (xs.map (GX kb sz))))⟩:=by
 have ho:=JbL h
 refine As.sem λ _ _ _ _ _ _ _ _ hI=>?_
 obtain ⟨F,ρ,hS,hSl,hn,hdf⟩:=hI
 refine ⟨F,ρ,hS.reob ho (λ L=>WS.1) (λ sz' es he i e j isz ys hi=>?_),hSl,hn,hdf⟩
 cases he
 simp only [Jlw,Jlv] at hi
 obtain ⟨x,hx,rfl⟩:=hi
 cases j<;>simp [GX]
theorem Nt (k kb sz:Nat) {nk:Nat} {xs:List (Nat×Nat)} (h:Do s k=some (1,xs.map (GX kb sz))):As nk s ⟨s.env,s.objs.set k (some (.cut kb sz xs))⟩:=by
 have ho:=CU h
 refine As.sem λ _ _ _ _ _ _ _ _ hI=>?_
 obtain ⟨F,ρ,hS,hSl,hn,hdf⟩:=hI
 exact ⟨F,ρ,hS.reob ho (λ L=>WS.2) (λ sz' es he=>by cases he),hSl,hn,hdf⟩
theorem GA {xs:List α} {e:Nat×Nat} {i:Int} {x:α} (h:ixP xs e i=some x):inB e.2 i=some ():=by
 unfold ixP at h
 cases hq:inB e.2 i with
 | none=>rw [hq] at h;cases h
 | some u=>rfl
theorem Fa {xs:List α} {e:Nat×Nat} {i:Int} {x:α} (h:ixP xs e i=some x):idx xs ((e.1+i.toNat:Nat):Int)=some x:=by
 unfold ixP at h
 rw [GA h] at h
 exact h
theorem WT {ys:List α} {xs:List (Nat×Nat)}:xs.length=(PG ys xs).length:=by simp [PG]
theorem lrN {β:Type} {n:Nat} {x:β}:n=(List.replicate n x).length:=by simp
theorem Uj (kb i k:Nat) {nk sz:Nat} {β:Type} {xss:List β} {encN:β->List AV} {encD:β->List D} {n:Nat} (e0:n=xss.length) (h0:(Ns s kb,(FP s kb)[i]?)=(true,some (.osl k sz 0 n))) (h:Do s k=some (sz,xss.map encN)) (hd:∀ x,(encN x).map ofN=encD x) (hN:∀ x,(encN x).all isN=true) :
  As nk s ⟨s.env,(s.objs.set k none).set kb (some (.box ((FP s kb).set i (.d (.sl (xss.map encD))))))⟩:=by
 subst e0
 exact ON kb i k h0 h hd hN
end Go.AI
end
section
namespace Go.AI
variable {P:Program} {Γ:Cx} {C:Code} {p:List Nat} {Q:Ex->St->Prop} {s s':St} {K:St->Prop} {i nk:Nat}
variable {α β ζ:Type}
def gY (c:Code) (i:Nat) (s:St):Option Bool:=match (Bl c)[i]? with
 | some o=>BN (Bl c) s.env o.guard
 | none=>none
theorem JgI {nt:Slt} {o:Oper} {st:St} {v:AV} {O1:List (Option Ob)} {g:Bool} (h:TY P nt o true st ⟨putA o.dst false true v st.env,O1⟩):TY P nt o g st ⟨putA o.dst o.guard.isSome g v st.env,O1⟩:=by
 intro N H0 F0 w0 a w hg hI hdst rd n K Qw hK
 subst hg
 refine h N H0 F0 w0 a w rfl hI hdst rd n K Qw λ a' w' hI'=>hK a' w' ?_
 obtain ⟨F,ρ,hS,hSl,hrest⟩:=hI'
 refine ⟨F,ρ,hS,?_,hrest⟩
 cases hgs:o.guard.isSome with
 | false=>exact hSl
 | true=>
  cases hd:o.dst with
  | none=>rw [hd] at hSl;exact hSl
  | some d=>
   rw [hd] at hSl
   intro t
   have:=hSl t
   simp only [putA,cond_true,cond_false,Bt] at this ⊢
   split
   ·rename_i e;rw [if_pos e] at this;exact .gvT _ _ this
   ·rename_i e;rw [if_neg e] at this;exact this
theorem gsp (g:Bool) {x y:Option ζ} {r:ζ} (H:(if g=true then x else y)=some r) (h1:g=true->x=some r->RF Γ C p i Q s) (h2:g=false->y=some r->RF Γ C p i Q s):RF Γ C p i Q s:=by
 split at H
 ·rename_i h;exact h1 h H
 ·rename_i h;exact h2 (by simpa using h) H
def nxK (Γ:Cx) (c:Code) (i:Nat) (g:Bool) (v:AV) (s:St):Option St:=
 match (Bl c)[i]? with
 | some o=>bif BZ Γ.nt o.dst&&o.guard.isSome then some ⟨putA o.dst true g v s.env,s.objs⟩ else none
 | none=>none
theorem gsk {g:Bool} (hgf:g=false) (v:AV) (hk:RF Γ C p (i+1) Q ((nxK Γ (nav p C) i g v s).getD s)) (hg:gY (nav p C) i s=some g:=by kernel_rfl) (hn:(nxK Γ (nav p C) i g v s).isSome=true:=by kernel_rfl):RF Γ C p i Q s:=by
 have hn:=BM (d:=s) hn
 generalize (nxK Γ (nav p C) i g v s).getD s=s' at hn hk
 subst hgf
 refine ⟨?_⟩
 have hk:=hk.out
 unfold A5 at hk ⊢
 unfold nxK at hn
 split at hn
 ·rename_i o ho
  obtain ⟨h0,hn⟩:=AL hn
  simp only [Jlt] at h0
  cases hn
  rw [CT ho]
  show AZ _ _ _ _ _ _
  unfold AZ
  have hga:BN (Bl (nav p C)) s.env o.guard=some false:=by
   unfold gY at hg
   rw [ho] at hg
   exact hg
  rw [hga]
  simp only [h0.1,Bool.not_true,cond_false]
  exact ⟨(by intro h;cases h),λ _=>⟨v,[],λ _=>rfl,by rw [h0.2];simpa using hk⟩⟩
 ·cases hn
def M8:Code->Code
 | .region id ops _=>.region id ops.toList.dropLast.toArray false
 | c=>c
def JkY:Code->Code
 | .region id ops _=>.region id ops false
 | c=>c
def JjO (Γ:Cx) (c:Code) (x:Nat) (s0:St) (Q:Ex->St->Prop):Ex->St->Prop:=λ _ s=>Jf0 Γ.ty (EE c) x s0.env s.env s0.objs s.objs/\∃ F,(EE c)[(EE c).size-1]? = some F/\AZ Γ false (EE c).toList F (Q .normal) s
theorem rx (x:Nat) (hs:As Γ.nt.nk s s') (hk:RF (cxX Γ (EE (nav p C)) x) (M8 (nav p C)) [] 0 (JjO Γ (nav p C) x s' Q) s') (h:(QA (nav p C)&&R9 (nav p C))=true:=by kernel_rfl) (hb:Ru (EE (nav p C)) x=true:=by kernel_rfl):WP Γ C p Q s:=by
 refine ⟨?_⟩
 have hk:=hk.out
 generalize nav p C=c at *
 cases c with
 | region id ops d=>
  simp only [QA,R9,Bool.true_and] at h
  subst h
  exact ⟨s',hs,.inr ⟨rfl,x,hb,hk⟩⟩
 | _=>cases h
theorem mx {c:Code} {x:Nat} {s0:St} (m:Nat) (hk:RF Γ (JkY c) [] m Q s) (hi:Nat.ble (Bl (M8 c)).length i=true:=by kernel_rfl) (hm:Nat.beq (EE c).size (m+1)=true:=by kernel_rfl) (h:QA c=true:=by kernel_rfl)
  (h1:ldL Γ.ty (EE c) x s0.env s.env s0.objs=ldL Γ.ty (EE c) x s0.env s.env s.objs:=by kernel_rfl) (h2:(ldL Γ.ty (EE c) x s0.env s.env s0.objs).all Option.isSome=true:=by kernel_rfl):RF (cxX Γ (EE c) x) (M8 c) [] i (JjO Γ c x s0 Q) s:=by
 refine ⟨U1 i hi ⟨⟨h1,h2⟩,?_⟩⟩
 have hk:=hk.out
 have hm:=Jlz hm
 cases c with
 | region id ops d=>
  simp only [EE] at hm ⊢
  have hg:=Jlx (show m<ops.size by omega)
  refine ⟨ops[m],by rw [show ops.size-1=m by omega];exact hg,?_⟩
  have hk:Oo Γ false ops.toList (ops.toList.drop m) (Q .normal) s:=hk
  rw [show ops.toList.drop m=[ops[m]] by
   rw [List.drop_eq_getElem_cons (by simp;omega)]
   simp
   omega] at hk
  exact hk
 | _=>cases h
theorem ax (hk:PQ Q .normal s) (h:Nat.ble (Bl (nav p C)).length i=true:=by kernel_rfl):RF Γ C p i Q s:=⟨U1 i h hk.out⟩
def IH (ev:Operand->AV):Op->Option FuncId×List AV
 | .call ⟨.value (.func f),args,_⟩=>(some f,args.toList.map ev)
 | .call ⟨.value x,args,_⟩=>match ev x with
  | .clo f l=>(some f,args.toList.map ev++l)
  | _=>(none,[])
 | _=>(none,[])
theorem Tl {ev ev':Operand->AV} {op:Op} (h:∀ y∈op.operands.toList,ev y=ev' y):IH ev op=IH ev' op:=by
 cases op with
 | call c=>
  obtain ⟨callee,args,ts⟩:=c
  cases callee with
  | value x=>
   have ha:args.toList.map ev=args.toList.map ev':=List.map_congr_left λ y hy=>h y (by simp [Op.operands,Call.operands];exact .inr (by simpa using hy))
   have hx:=h x (by simp [Op.operands,Call.operands])
   cases x<;>simp only [IH,ha,hx]
  | _=>rfl
 | _=>rfl
theorem ZZ {nt:Slt} {o:Oper} {st:St} {f:FuncId} {xs:List AV} {nb:Nat} {r:AV} {O1:List (Option Ob)} (hgob:Hu true (o.op.operands.toList.map (Ak st.env))) (hc:IH (λ y=>unG (Ak st.env y)) o.op=(some f,xs))
  (hcall:BD P f (xs.map (M0 (AY st.objs xs))) (GS st.objs (AY st.objs xs)) nb r O1) (hnb:nb<=(AY st.objs xs).length) (hnb1:nb<=O1.length) (hord:∀ k∈AY st.objs xs,k<st.objs.length) :
  UL P nt o true st ⟨putA o.dst false true (QK (Cu (AY st.objs xs) st.objs.length nb) r) st.env,Fr st.objs (AY st.objs xs) nb O1⟩:=by
 intro N H0 F0 w0 a w _ hI hdst K Qw hK
 obtain ⟨F,ρ,hS,hSl,hn,hdf⟩:=hI
 have hk:∀ v w' F' ρ'',FLe F F'->RLe ρ ρ''->Sim N H0 F0 F' ρ'' (Fr st.objs (AY st.objs xs) nb O1) w'.heap->Ah F' ρ'' (QK (Cu (AY st.objs xs) st.objs.length nb) r) v->Mu w w'->K (a.put o.dst v) w':=
  λ v w' F' ρ'' hF hρ hS' hv hmu=>hK _ _ ⟨F',ρ'',hS',(hSl.mono hF hρ).putA hn hdst hv,hn.put hdst,by rw [BC];exact ⟨hdf.1.mono hF,hdf.2.1.trans hmu,hdf.2.2.mono hρ⟩⟩
 have hev:∀ y∈o.op.operands.toList,Ah F ρ (unG (Ak st.env y)) (a.eval y):=λ y hy=>Co rfl _ hgob _ (List.mem_map_of_mem hy) _ (A4 hSl y)
 unfold IH at hc
 split at hc
 ·rename_i f' args ts hop
  cases hc
  exact Wp (ev:=λ y=>unG (Ak st.env y)) hop hS (λ y hy=>hev y (by rw [hop];simp [Op.operands,Call.operands];exact .inr (by simpa using hy))) hcall hnb hnb1 hord hk
 ·rename_i x args ts _ hop
  split at hc
  ·rename_i f' l hx
   have hx:unG (Ak st.env x)=.clo f' l:=hx
   cases hc
   have hxr:=hev x (by rw [hop];simp [Op.operands,Call.operands])
   rw [hx] at hxr
   generalize hxv:a.eval x=xv at hxr
   cases hxr with
   | clo _ _ vs hl hr=>
    have hcr0:=LI (args:=args) (a:=a) (ev:=λ y=>unG (Ak st.env y)) (λ y hy=>hev y (by rw [hop];simp [Op.operands,Call.operands];exact .inr (by simpa using hy)))
    refine J7 (vs:=args.map a.eval++vs) (λ fn c hf hb hnm=>?_) hS ⟨by simp [hl],λ i y v hy hv=>?_⟩ hcall hnb hnb1 hord hk
    ·simp only [execOp,hop,resolve,hxv,Deferred.ofValue,Sem.run_bind,Sem.run_pure,Result.andThen_ok,invoke,callFunc,run_program,hf,hnm,hb,JlF,if_false,Option.isNone_some,Array.empty_append,Array.append_empty]
    ·rw [Array.toList_append] at hv
     have hl0:=hcr0.1
     by_cases hi:i<(args.toList.map (λ y=>unG (Ak st.env y))).length
     ·rw [JlA hi] at hy
      rw [JlA (by omega)] at hv
      exact hcr0.2 i y v hy hv
     ·rw [JlL (by omega)] at hy
      rw [JlL (by omega)] at hv
      rw [← hl0] at hv
      exact hr _ y v hy (by simpa using hv)
  ·cases hc
 ·cases hc
def JbM (c:Code) (i:Nat) (s:St):Option ((Option FuncId×List AV)×List Nat):=
 match (Bl c)[i]? with
 | some o=>some (IH (λ y=>unG (Ak s.env y)) o.op,AY s.objs (IH (λ y=>unG (Ak s.env y)) o.op).2)
 | none=>none
def nxS (Γ:Cx) (ops:Array Oper) (x:Nat) (c:Code) (i:Nat) (g:Bool) (ord:List Nat) (nb:Nat) (r:AV) (O1:List (Option Ob)) (s:St):Option St:=
 match (Bl c)[i]? with
 | some o=>bif !R9 c&&Nat.beq i x&&Nat.blt x ops.size.pred&&BZ Γ.nt o.dst&&Nat.ble nb ord.length&&Nat.ble nb O1.length&&ord.all (λ k=>Nat.blt k s.objs.length) then
   some ⟨putA o.dst o.guard.isSome g (QK (Cu ord s.objs.length nb) r) s.env,Fr s.objs ord nb O1⟩ else none
 | none=>none
theorem xs {c:Code} {x:Nat} (hX:XOK P Γ) {g:Bool} (hgt:g=true) {gs:List Bool} (hi:Gx g gs) (ord:List Nat) {f:FuncId} {ys:List AV} {O0 O1 raw0:List (Option Ob)} {nb:Nat} {r:AV} (hr:BD P f ys O0 nb r O1) (hp0:raw0=O0)
  (hk:RF (cxX Γ (EE c) x) (M8 c) [] (i+1) Q ((nxS Γ (EE c) x (M8 c) i g ord nb r O1 s).getD s)) (hreg:QA c=true:=by kernel_rfl) (hg:gY (M8 c) i s=some g:=by kernel_rfl) (hgs:IG (M8 c) i s=gs:=by kernel_rfl)
  (hc:JbM (M8 c) i s=some ((some f,((JbM (M8 c) i s).getD ((none,[]),[])).1.2),ord):=by kernel_rfl) (hxs:((JbM (M8 c) i s).getD ((none,[]),[])).1.2.map (M0 ord)=ys:=by kernel_rfl) (hO:GS s.objs ord=raw0:=by kernel_rfl)
  (hn:(nxS Γ (EE c) x (M8 c) i g ord nb r O1 s).isSome=true:=by kernel_rfl):RF (cxX Γ (EE c) x) (M8 c) [] i Q s:=by
 generalize ((JbM (M8 c) i s).getD ((none,[]),[])).1.2=zs at hc hxs
 have hn:=BM (d:=s) hn
 generalize (nxS Γ (EE c) x (M8 c) i g ord nb r O1 s).getD s=s' at hn hk
 subst hp0
 unfold JbM at hc
 unfold nxS at hn
 split at hn
 ·rename_i o ho
  rw [ho] at hc
  simp only [JlD,Prod.mk.injEq] at hc
  obtain ⟨hc,hord⟩:=hc
  rw [hc] at hord
  simp only at hord
  obtain ⟨h0,hn⟩:=AL hn
  simp only [Jlt] at h0
  obtain ⟨⟨⟨⟨⟨⟨h1,h2⟩,h3⟩,h4⟩,h5⟩,h6⟩,h7⟩:=h0
  cases hn
  subst hord
  subst hxs
  subst hO
  have hix:=Jlz h2
  subst hix
  have hox:(EE c)[i]? = some o:=by
   cases c with
   | region id ops d=>
    simp only [M8,Bl,List.getElem?_dropLast] at ho
    split at ho
    ·show ops[i]? = some o
     simpa using ho
    ·cases ho
   | _=>cases hreg
  have hgob:Hu true (o.op.operands.toList.map (Ak s.env)):=by
   subst hgs
   unfold IG at hi
   rw [ho] at hi
   rw [← hgt]
   exact Se hi
  refine ⟨?_⟩
  have hk:=hk.out
  unfold A5 at hk ⊢
  simp only [nav] at hk ⊢
  rw [CT ho]
  show AZ _ _ _ _ _ _
  unfold AZ
  have hga:BN (Bl (M8 c)) s.env o.guard=some g:=by
   unfold gY at hg
   rw [ho] at hg
   exact hg
  rw [hga]
  have h4:BZ (cxX Γ (EE c) i).nt o.dst=true:=h4
  simp only [h4,Bool.not_true,cond_false]
  refine ⟨λ _=>.inr (.inr ⟨by simpa using h1,.inl ⟨_,⟨hox,_,_,rfl,λ env he=>?_⟩,hk⟩⟩),λ h=>by rw [hgt] at h;cases h⟩
  rw [hX.ext]
  have hgob':Hu true (o.op.operands.toList.map (Ak env)):=by
   rw [List.map_congr_left he];exact hgob
  have hc':IH (λ y=>unG (Ak env y)) o.op=(some f,zs):=by
   rw [Tl (ev':=λ y=>unG (Ak s.env y)) λ y hy=>by rw [he y hy]]
   exact hc
  have hnd:ndB o.op=true:=by
   cases hop:o.op with
   | defer d=>rw [hop] at hc;cases hc
   | _=>rfl
  exact JgI (st:=⟨env,s.objs⟩) ((ZZ (st:=⟨env,s.objs⟩) hgob' hc' hr (JlI h5) (JlI h6) λ k hk=>by
   exact JlI (List.all_eq_true.1 h7 k hk)).ok hnd)
 ·cases hn
end Go.AI
end
section
namespace Go.AI
variable {Γ:Cx} {C:Code} {p:List Nat} {Q:Ex->St->Prop} {s s':St} {K:St->Prop} {i:Nat} {nk:Nat}
variable {α β ζ:Type}
def xX {σ:Type} (nk k:Nat) (st:σ->St):σ->Ex->St->Prop:=λ y e s=>e=Ex.exit k/\As nk s (st y)
def xR {σ:Type} (ty:Nat->Ty) (fn:Func) (r:σ->AV):σ->Ex->St->Prop:=λ y e s=>e=Ex.ret/\RA ty fn.results.toList (r y) s
def xL {σ:Type} (nk:Nat) (ty:Nat->Ty) (fn:Func) (r:σ->AV) (O:σ->List (Option Ob)):σ->Ex->St->Prop:=λ y e s=>e=Ex.ret/\RL nk ty fn.results.toList (r y) (O y) s
def xS {σ τ:Type} (a:σ->Ex->St->Prop) (b:τ->Ex->St->Prop):σ⊕τ->Ex->St->Prop
 | .inl y=>a y
 | .inr y=>b y
variable {σ ρ τ:Type} {st:σ->St} {E:ρ->Ex->St->Prop}
theorem xo {r:ρ} {k nk':Nat} {st':τ->St} {y:τ} (hE:E r=xX nk' k st' y) (h:As nk' s (st' y)):PQ (Au nk st E (.inr r)) (.exit k) s:=oe (by rw [hE];exact ⟨rfl,h⟩)
theorem ro {r:ρ} {ty:Nat->Ty} {fn:Func} {f:τ->AV} {y:τ} (hE:E r=xR ty fn f y) (h:RA ty fn.results.toList (f y) s):PQ (Au nk st E (.inr r)) .ret s:=or (by rw [hE];exact ⟨rfl,h⟩)
theorem lo {r:ρ} {nk':Nat} {ty:Nat->Ty} {fn:Func} {f:τ->AV} {O:τ->List (Option Ob)} {y:τ} (hE:E r=xL nk' ty fn f O y) (h:RL nk' ty fn.results.toList (f y) (O y) s):PQ (Au nk st E (.inr r)) .ret s:=or (by rw [hE];exact ⟨rfl,h⟩)
theorem lX {body:σ->Option (σ⊕ρ)} {n:Nat} {x:σ} {r:ρ} {k nk':Nat} {st':τ->St} {y:τ} (hb:∀ x z,body x=some z->WP Γ C (p++[0]) (Au nk' st E z) (st x)) (hr:whl body n x=some r) (hs:As nk' s (st x)) (hE:E r=xX nk' k st' y)
  (hk:∀ s,As nk' s (st' y)->PQ Q (.exit k) s) (hn:Γ.nt.nk=nk':=by rfl) (h:Sn (nav p C)=true:=by kernel_rfl):WP Γ C p Q s:=by
 subst hn
 exact lp st E hr hs hb (λ e s he=>by rw [hE] at he;obtain ⟨rfl,he⟩:=he;exact hk s he) h
theorem lR {body:σ->Option (σ⊕ρ)} {n:Nat} {x:σ} {r:ρ} {nk':Nat} {ty:Nat->Ty} {fn:Func} {f:τ->AV} {y:τ} (hb:∀ x z,body x=some z->WP Γ C (p++[0]) (Au nk' st E z) (st x)) (hr:whl body n x=some r) (hs:As nk' s (st x)) (hE:E r=xR ty fn f y)
  (hk:∀ s,RA ty fn.results.toList (f y) s->PQ Q .ret s) (hn:Γ.nt.nk=nk':=by rfl) (h:Sn (nav p C)=true:=by kernel_rfl):WP Γ C p Q s:=by
 subst hn
 exact lp st E hr hs hb (λ e s he=>by rw [hE] at he;obtain ⟨rfl,he⟩:=he;exact hk s he) h
theorem lL {body:σ->Option (σ⊕ρ)} {n:Nat} {x:σ} {r:ρ} {nk' nk2:Nat} {ty:Nat->Ty} {fn:Func} {f:τ->AV} {O:τ->List (Option Ob)} {y:τ} (hb:∀ x z,body x=some z->WP Γ C (p++[0]) (Au nk' st E z) (st x)) (hr:whl body n x=some r) (hs:As nk' s (st x)) (hE:E r=xL nk2 ty fn f O y)
  (hk:∀ s,RL nk2 ty fn.results.toList (f y) (O y) s->PQ Q .ret s) (hn:Γ.nt.nk=nk':=by rfl) (h:Sn (nav p C)=true:=by kernel_rfl):WP Γ C p Q s:=by
 subst hn
 exact lp st E hr hs hb (λ e s he=>by rw [hE] at he;obtain ⟨rfl,he⟩:=he;exact hk s he) h
def g0 (c:Code) (i:Nat) (s:St):Bool:=(gAt c i s).getD false
theorem sE {g:Bool} {v:AV} {obs:List Ob} {x:Option Eff} (ho:g=true->Gz s x v obs [] none) (hk:RF Γ C p (i+1) Q ((LP Γ (nav p C) i g v obs s).getD s)) (hg:gAt (nav p C) i s=some g:=by kernel_rfl) (hx:OI Γ (nav p C) i s=x:=by kernel_rfl) (hgs:IG (nav p C) i s=List.replicate (IG (nav p C) i s).length g:=by kernel_rfl) (hn:(LP Γ (nav p C) i g v obs s).isSome=true:=by kernel_rfl):RF Γ C p i Q s:=
 sG (gs:=IG (nav p C) i s) ho (Ug λ b hb=>by rw [hgs] at hb;exact List.eq_of_mem_replicate hb) hk hg hx rfl hn
theorem oi {a z:ζ} (h:some a=some z):a=z:=Option.some.inj h
theorem lsS (xs:List α) (n:Nat) (y:α):xs.length=(xs.set n y).length:=List.length_set.symm
theorem lrS (n:Nat) (z:α):n=(List.replicate n z).length:=List.length_replicate.symm
theorem tr {s1 s2 s3:St} (h:As nk s1 s2) (h':As nk s2 s3):As nk s1 s3:=As.trans h h'
theorem sg (ts:List Nat) (h:gcA nk ts s=s':=by kernel_rfl):As nk s s':=JfE ts h
theorem gP (ts ord:List Nat) {raw:List (Option Ob)} (hp:Pl (On ord) raw s'.objs) (h:gcA nk ts s=⟨s'.env,raw⟩:=by kernel_rfl):As nk s s':=Jgv ts ord hp h
theorem sn (t k sz:Nat) {n m:Nat} (e:n=m) (h:lkA s.env t=.osl k sz 0 n:=by kernel_rfl):As nk s ⟨(t,.osl k sz 0 m)::s.env,s.objs⟩:=Jgi t k sz 0 n m h e
theorem snc (b i k sz:Nat) {n m:Nat} (e:n=m) (h:(Ns s b,(FP s b)[i]?)=(true,some (.osl k sz 0 n)):=by kernel_rfl):As nk s ⟨s.env,s.objs.set b (some (.box ((FP s b).set i (.osl k sz 0 m))))⟩:=JeR b i k sz n m h e
theorem so1 {encN:α->List AV} (k sz:Nat) {xss:List α} {x:α} {n:Int} (hx:idx xss n=some x) (h:Do s k=some (sz,xss.map encN):=by kernel_rfl):As nk s ⟨s.env,s.objs.set k (some (.narr sz ((xss.map encN).set n.toNat (encN x))))⟩:=JjH k h hx
theorem fz {enc:α->List D} {xs:List α} (t k sz:Nat) (h:Sg s (lkA s.env t)=some (k,sz,0,xs.length,xs.map enc):=by kernel_rfl):As nk s ⟨(t,.d (.sl (xs.map enc)))::s.env,s.objs.set k none⟩:=Jgh t _ h OK (by simp)
theorem fzc {enc:α->List D} {xs:List α} (kb i k sz:Nat) (h:(Ns s kb,((FP s kb)[i]?).bind (Sg s))=(true,some (k,sz,0,xs.length,xs.map enc)):=by kernel_rfl):As nk s ⟨s.env,(s.objs.set k none).set kb (some (.box ((FP s kb).set i (.d (.sl (xs.map enc))))))⟩:=JeB kb i _ h OK (by simp)
theorem snr {encN:α->List AV} {xs:List α} {n:Int} (row:List AV) (sz k j m isz:Nat) {n1 n2:Nat} (e:n1=n2) (h:Do s k=some (sz,(xs.map encN).set n.toNat row):=by kernel_rfl) (hj:row[j]? = some (.osl m isz 0 n1):=by kernel_rfl):As nk s ⟨s.env,s.objs.set k (some (.narr sz ((xs.map encN).set n.toNat (row.set j (.osl m isz 0 n2)))))⟩:=JeS k j m isz n1 n2 _ h hj e rfl
theorem sni {encN:α->List AV} {xs:List α} {n:Int} {enc:β->List D} (row:List AV) (zs:List β) (sz k j m isz:Nat) (h:(Do s k,OM s m)=(some (sz,(xs.map encN).set n.toNat row),some (isz,zs.map enc)):=by kernel_rfl) (hj:row[j]? = some (.osl m isz 0 zs.length):=by kernel_rfl) :
  As nk s ⟨s.env,(s.objs.set m none).set k (some (.narr sz ((xs.map encN).set n.toNat (row.set j (.own isz (zs.map enc))))))⟩:=JeQ k j m isz _ h hj rfl
theorem sno {encN:α->List AV} {xss:List α} {x:α} {n:Int} {enc:β->List D} (hx:idx xss n=some x) (row:List AV) (ys:List β) (sz k j isz:Nat) (h:Do s k=some (sz,(xss.map encN).set n.toNat row):=by kernel_rfl) (hj:row[j]? = some (.own isz (ys.map enc)):=by kernel_rfl) :
  As nk s ⟨s.env,s.objs.set k (some (.narr sz ((xss.map encN).set n.toNat (row.set j (.osl s.objs.length isz 0 ys.length)))))++[some (.arr isz (ys.map enc))]⟩:=YZ k j isz _ (ltN hx) h hj rfl
theorem scl {encN:α->List AV} {xss:List α} (n:Int) (row:List AV) (sz k:Nat) (y:α) (h:Do s k=some (sz,(xss.map encN).set n.toNat row):=by kernel_rfl) (hy:row=encN y:=by kernel_rfl):As nk s ⟨s.env,s.objs.set k (some (.narr sz ((xss.set n.toNat y).map encN)))⟩:=Jgw k y h hy
theorem so0 {encN:α->List AV} {xss:List α} (k sz:Nat) (n:Int) (d:α) (h:Do s k=some (sz,xss.map encN):=by kernel_rfl):As nk s ⟨s.env,s.objs.set k (some (.narr sz ((xss.map encN).set n.toNat (encN (xss.getD n.toNat d)))))⟩:=by
 have ho:=CU h
 have e:(xss.map encN).set n.toNat (encN (xss.getD n.toNat d))=xss.map encN:=by
  apply List.ext_getElem?
  intro i
  rw [List.getElem?_set]
  split
  ·rename_i e;subst e
   split
   ·rename_i hl
    rw [List.length_map] at hl
    rw [Jlw,JlB,Jls hl];rfl
   ·rename_i hl;rw [JlO (by simpa using hl)]
  ·rfl
 rw [e,HV ho]
 exact As.sem λ _ _ _ _ _ _ _ _ h=>h
theorem snT {encN:α->List AV} {xss:List α} {n:Int} {d:α} {enc:β->List D} (f:α->List β) (row:List AV) (sz k j isz:Nat) (hd:f d=[]:=by rfl) (h:Do s k=some (sz,(xss.map encN).set n.toNat row):=by kernel_rfl) (hj:row[j]? = some (.own isz ((f (xss.getD n.toNat d)).map enc)):=by kernel_rfl) :
  As nk s ⟨s.env,s.objs.set k (some (.narr sz ((xss.map encN).set n.toNat (row.set j (.osl s.objs.length isz 0 (f (xss.getD n.toNat d)).length)))))++[some (.arr isz ((f (xss.getD n.toNat d)).map enc))]⟩:=by
 rcases Nat.lt_or_ge n.toNat (xss.map encN).length with hl|hl
 ·exact YZ k j isz _ hl h hj rfl
 ·have ho:=CU h
  have e0:∀ r,(xss.map encN).set n.toNat r=xss.map encN:=λ r=>List.set_eq_of_length_le hl
  have e1:xss.getD n.toNat d=d:=by rw [JlB,JlO (by simpa using hl)];rfl
  rw [e0] at ho
  rw [e0,e1,hd,HV ho]
  refine As.sem λ _ _ _ _ _ _ _ _ hI=>?_
  obtain ⟨F,ρ,hS,hSl,hn,hdf⟩:=hI
  refine ⟨F,ρ,hS.table (by simp) λ i L ob hi hob=>?_,hSl,hn,hdf⟩
  have:=hS.dom i L hi
  rw [AJ,if_pos this] at hob;exact hob
theorem po1 {f:AV->AV} {o:Option Ob} {l m:List (Option Ob)} (h:Pl f l m):Pl f (o::l) (o::m):=Pl.o o h
theorem pn1 {f:AV->AV} (encN:α->List AV) (xss:List α) {sz:Nat} {l m:List (Option Ob)} (h:Pl f l m) (hc:∀ x,(encN x).map f=encN x:=by intro _;rfl):Pl f (some (.narr sz ((xss.map encN).map λ e=>e.map f))::l) (some (.narr sz (xss.map encN))::m):=Pl.n sz (nrM hc) h
attribute [irreducible] xL
end Go.AI
end
section
namespace Go.AI
theorem PJ (x:Int):∀ l:List Int,(X9 x l).Perm (x::l)
 | []=>.refl _
 | y::l=>by
  unfold X9
  split
  ·exact .refl _
  ·exact ((PJ x l).cons y).trans (.swap x y l)
theorem QC:∀ l:List Int,(R7 l).Perm l
 | []=>.refl _
 | x::l=>(PJ x _).trans ((QC l).cons x)
theorem QD {x:Int}:∀ {l:List Int},l.Pairwise (·<=·)->(X9 x l).Pairwise (·<=·)
 | [],_=>by simp [X9]
 | y::l,h=>by
  unfold X9
  rw [List.pairwise_cons] at h
  split
  ·rename_i hxy
   refine List.pairwise_cons.2 ⟨λ z hz=>?_,List.pairwise_cons.2 h⟩
   rcases List.mem_cons.1 hz with rfl|hz
   ·exact hxy
   ·have:=h.1 z hz;omega
  ·rename_i hxy
   refine List.pairwise_cons.2 ⟨λ z hz=>?_,QD h.2⟩
   rcases List.mem_cons.1 ((PJ x l).mem_iff.1 hz) with rfl|hz
   ·omega
   ·exact h.1 z hz
theorem Nu:∀ l:List Int,(R7 l).Pairwise (·<=·)
 | []=>.nil
 | x::l=>QD (Nu l)
theorem Vb (l:List Int):R7 l=l.mergeSort λ x y=>decide (x<=y):=by
 refine List.Perm.eq_of_pairwise (le:=(·<=·)) (λ a b _ _ h1 h2=>by omega) (Nu l) ?_ ((QC l).trans (List.mergeSort_perm _ _).symm)
 have:=List.pairwise_mergeSort (le:=λ x y:Int=>decide (x<=y)) (λ a b c h1 h2=>by simp at *;omega) (λ a b=>by simp;omega) l
 exact this.imp λ h=>by simpa using h
end Go.AI
end
section
namespace Go.AI
open Go.Sort Go.Shelf Go.Proofs
variable {P:Program} {ρs:Ren}
theorem Sim.more {N:Nat->Prop} {H0 F0 F:Nat->Option Obj} {ρ:Nat->Option Loc} {O:List (Option Ob)} {h:Array Obj} (hS:Sim N H0 F0 F ρ O h) (os:Array Obj):Sim N H0 F0 F ρ O (h++os):=by
 have hl:∀ b,b<h.size->(h++os)[b]? = h[b]? := λ b hb=>Array.getElem?_append_left hb
 have hg:∀ b o,h[b]? = some o->(h++os)[b]? = some o:=λ b o hb=>by rw [hl b (Ap hb)];exact hb
 obtain ⟨σ,hσ⟩:=hS.inn
 have hM:∀ k c M,σ k c=some M->(h++os)[M.b]? = h[M.b]? := λ k c M hM=>hl _ (hσ.new k c M hM).2.1
 refine { hS with size:=λ b hb=>hS.size b (by simp at hb;omega),old:=λ b hb=>?_,frz:=λ b o hb=>hg b o (hS.frz b o hb),loc:=λ k L hk=>?_,obj:=λ k L ob hk ho=>?_,inn:=⟨σ,λ k c M hM=>?_,hσ.obj,hσ.sep,λ k L sz es hk ho i e j isz xs hi hj cs t fr v hb hv=>?_⟩ }
 ·have:b<h.size:=by
   apply Classical.byContradiction;intro hn
   exact hb (hS.size b (by omega))
  rw [hl b this];exact hS.old b hb
 ·have:=hS.loc k L hk;simp;omega
 ·obtain ⟨g1,g2,g3⟩:=hS.obj k L ob hk ho
  exact ⟨g1.mono (FLe.refl _) (RLe.refl _) (hl _ (hS.loc k L hk)),g2,g3⟩
 ·obtain ⟨g1,g2,g3⟩:=hσ.new k c M hM
  exact ⟨g1,by simp;omega,g3⟩
 ·rw [hl _ (hS.loc k L hk)] at hb
  exact (hσ.rep k L sz es hk ho i e j isz xs hi hj cs t fr v hb hv).mono (FLe.refl _) λ L' hL'=>hM _ _ _ hL'
theorem Z0 (L:Lays.n189 P ρs) (hf:∃ fn c,P.funcs[ρs.f 189]? = some fn/\fn.body=some c/\(fn.name == "runtime.NumGoroutine")=false) {xs zs:List Int} (h:Jba xs=some zs) :
  BD P (ρs.f 189) [.osl 0 1 0 xs.length] [some (.arr 1 (xs.map Ae))] 1 (.tup []) [some (.arr 1 (zs.map Ae))]:=by
 have hz:xs.length<4611686018427387904/\zs=xs.mergeSort λ x y=>decide (x<=y):=by
  unfold Jba at h
  split at h
  ·rename_i h1;exact ⟨h1,by rw [← Vb];exact (Option.some.inj h).symm⟩
  ·cases h
 obtain ⟨hlt,hzs⟩:=hz
 refine ⟨hf,λ N F ρ w vs hS hcr=>?_⟩
 obtain ⟨v,rfl⟩:∃ v,vs=#[v]:=by
  have:=hcr.1
  have h1:vs.size=1:=by simpa using this.symm
  exact ⟨vs[0],by apply Array.ext;simp [h1];intro i h1' h2;simp at h2;subst h2;rfl⟩
 have hv:=hcr.2 0 _ v rfl rfl
 have hlen:zs.length=xs.length:=by rw [hzs];exact List.length_mergeSort _
 have htup:∀ F' ρ',Ah F' ρ' (.tup []) (.tuple #[]):=λ F' ρ'=>.tup [] #[] rfl λ i a v h=>by simp at h
 generalize hn:xs.length=n at hv
 cases hv with
 | osl0 _ _ _ a=>
  have hx:xs=[]:=List.length_eq_zero_iff.1 hn
  have hz0:zs=[]:=List.length_eq_zero_iff.1 (by omega)
  refine (Any.slices_Sort_int_none L a 0 w).mono λ e w' he=>?_
  obtain ⟨rfl,rfl⟩:=he
  subst hx;subst hz0
  exact ⟨_,F,ρ,rfl,hS,λ j _ L h=>h,htup _ _,Mu.refl _⟩
 | osl _ _ _ _ cap Lo hL hc hs hz=>
  obtain ⟨⟨g1,g2,cs,t,fr,g3,g4,g5,g6⟩,gN,gF⟩:=hS.obj 0 Lo _ hL rfl
  simp only [List.length_map,Nat.mul_one] at g2
  have hcell:∀ j,j<xs.length->cs[Lo.base+j]? = some (.int .i64 (xs.toArray[j]!)):=λ j hj=>by
   obtain ⟨u,hu,hd⟩:=g6 j (Ae xs[j]) (by rw [Jlw,Jls hj];rfl) 0 (.int .i64 xs[j]) rfl
   cases hd
   have e:xs.toArray[j]! = xs[j]:=by rw [getElem!_pos _ j (by simpa using hj)];simp
   rw [e]
   simpa using hu
  have hH:Holds (Value.int .i64) w Lo.b (Lo.base+0*1) xs.toArray:=λ j hj=>by
   have hj:j<xs.length:=by simpa using hj
   have:=hcell j hj
   refine ⟨by simp only [World.cell?,g3,Option.isSome_none,JlF,if_false,Nat.zero_mul,Nat.add_zero];exact this,Rv g3 (g5 _ (by simp;omega))⟩
  refine ((hn▸Any.slices_Sort_int L Lo.b (Lo.base+0*1) cap xs w hH (Ap g3) hlt)).mono λ e w' he=>?_
  obtain ⟨rfl,m,os,rfl⟩:=he
  rw [← hzs]
  have hheap:(grow (putRow (Value.int .i64) (Sort.ahead w m) Lo.b (Lo.base+0*1) zs.toArray) os).heap=w.heap.setIfInBounds Lo.b (.cells (putCells (Value.int .i64) Lo.base zs.toArray cs) t fr)++os:=by
   simp only [grow,putRow,mapBlock,Sort.ahead,Nat.zero_mul,Nat.add_zero]
   congr 1
   apply Array.ext_getElem?
   intro i
   rw [Array.getElem?_modify,Array.getElem?_setIfInBounds]
   split
   ·rename_i e;subst e
    rw [if_pos (Ap g3),g3];rfl
   ·rfl
  have hS1:=hS.rewrite (k':=0) (L':=Lo) (x:=.cells (putCells (Value.int .i64) Lo.base zs.toArray cs) t fr) (O':=[some (.arr 1 (zs.map Ae))]) hL rfl (by rw [Cf hL];exact RLe.refl _) rfl (λ j ob' hj hob'=>by
    have:=AS hob';simp at this;omega) (by simp) (by simp) (λ ob' hob'=>by
    cases hob'
    refine ⟨λ e he=>?_,by simp;omega,_,t,fr,by rw [Array.getElem?_setIfInBounds_self_of_lt (Ap g3)],by simp [putCells,g4],g5,λ i e hi j x hx=>?_⟩
    ·simp only [List.mem_map] at he;obtain ⟨y,_,rfl⟩:=he;rfl
    ·simp only [Jlw,Jlv] at hi
     obtain ⟨y,hy,rfl⟩:=hi
     have hj:j=0:=by have:=Ag hx;simpa [Ae] using this
     subst hj
     have hx:x=.int .i64 y:=by simpa [Ae] using hx.symm
     subst hx
     have hil:=Ag hy
     refine ⟨.int .i64 y,?_,.int _ _⟩
     have hin:Lo.base+i<cs.size:=by omega
     have e:zs.toArray[i]! = y:=by
      rw [getElem!_pos _ i (by simpa using hil)]
      simpa [Jls hil] using hy
     simp only [putCells,Array.getElem?_mapIdx,Nat.mul_one,Nat.add_zero,Jlx hin,Option.map_some]
     rw [if_pos ⟨by omega,by simp;omega⟩,show Lo.base+i-Lo.base=i by omega,e]) (λ ob' hob'=>by cases hob';rfl)
  rw [Cf hL] at hS1
  refine ⟨_,F,ρ,rfl,by rw [hheap];exact hS1.more os,λ j _ L h=>h,htup _ _,rfl,rfl,by rw [hheap];simp⟩
end Go.AI
end
section
namespace Go.Proofs
open Go.Shelf
def Tryz.laysSort_ren:Go.Shelf.Ren:=⟨λ|189=>78|125=>86|257=>85|128=>100|129=>101|294=>91|295=>92|296=>93|297=>94|298=>95|299=>96|216=>97|300=>98|301=>99|328=>103|329=>104|330=>105|331=>106|332=>107|215=>108|343=>109|n=>n,λ|28=>35|3=>3|46=>152|0=>0|51=>164|53=>166|4=>4|183=>157|182=>156|131=>82|5=>5|9=>9|218=>168|222=>172|228=>174|229=>175|n=>n,λ|n=>n⟩
theorem Tryz.laysSort:Go.Proofs.Lays.n189 Tryz.prog Tryz.laysSort_ren:={
 mixed:=by kernel_rfl
 f125:=Tryz.func86.trans (congrArg some (by kernel_rfl))
 f128:=Tryz.func100.trans (congrArg some (by kernel_rfl))
 f129:=Tryz.func101.trans (congrArg some (by kernel_rfl))
 f189:=Tryz.func78.trans (congrArg some (by kernel_rfl))
 f215:=Tryz.func108.trans (congrArg some (by kernel_rfl))
 f216:=Tryz.func97.trans (congrArg some (by kernel_rfl))
 f257:=Tryz.func85.trans (congrArg some (by kernel_rfl))
 f294:=Tryz.func91.trans (congrArg some (by kernel_rfl))
 f295:=Tryz.func92.trans (congrArg some (by kernel_rfl))
 f296:=Tryz.func93.trans (congrArg some (by kernel_rfl))
 f297:=Tryz.func94.trans (congrArg some (by kernel_rfl))
 f298:=Tryz.func95.trans (congrArg some (by kernel_rfl))
 f299:=Tryz.func96.trans (congrArg some (by kernel_rfl))
 f300:=Tryz.func98.trans (congrArg some (by kernel_rfl))
 f301:=Tryz.func99.trans (congrArg some (by kernel_rfl))
 f328:=Tryz.func103.trans (congrArg some (by kernel_rfl))
 f329:=Tryz.func104.trans (congrArg some (by kernel_rfl))
 f330:=Tryz.func105.trans (congrArg some (by kernel_rfl))
 f331:=Tryz.func106.trans (congrArg some (by kernel_rfl))
 f332:=Tryz.func107.trans (congrArg some (by kernel_rfl))
 f343:=Tryz.func109.trans (congrArg some (by kernel_rfl))
 t0:=Tryz.underlying0
 a0:=Tryz.isAgg0
 z0:=Tryz.sizeOf0
 v0:=Tryz.zeroValue0
 t3:=Tryz.underlying3
 a3:=Tryz.isAgg3
 z3:=Tryz.sizeOf3
 v3:=Tryz.zeroValue3
 t4:=Tryz.underlying4
 a4:=Tryz.isAgg4
 z4:=Tryz.sizeOf4
 v4:=Tryz.zeroValue4
 t5:=Tryz.underlying5
 a5:=Tryz.isAgg5
 z5:=Tryz.sizeOf5
 v5:=Tryz.zeroValue5
 t9:=Tryz.underlying9
 a9:=Tryz.isAgg9
 z9:=Tryz.sizeOf9
 v9:=Tryz.zeroValue9
 t28:=Tryz.underlying35
 a28:=Tryz.isAgg35
 z28:=Tryz.sizeOf35
 v28:=Tryz.zeroValue35
 t46:=Tryz.underlying152
 a46:=Tryz.isAgg152
 z46:=Tryz.sizeOf152
 v46:=Tryz.zeroValue152
 t51:=Tryz.underlying164
 a51:=Tryz.isAgg164
 z51:=Tryz.sizeOf164
 v51:=Tryz.zeroValue164
 t53:=Tryz.underlying166
 a53:=Tryz.isAgg166
 z53:=Tryz.sizeOf166
 v53:=Tryz.zeroValue166
 t131:=Tryz.underlying82
 a131:=Tryz.isAgg82
 z131:=Tryz.sizeOf82
 v131:=Tryz.zeroValue82
 t182:=Tryz.underlying156
 a182:=Tryz.isAgg156
 z182:=Tryz.sizeOf156
 v182:=Tryz.zeroValue156
 t183:=Tryz.underlying157
 a183:=Tryz.isAgg157
 z183:=Tryz.sizeOf157
 v183:=Tryz.zeroValue157
 t218:=Tryz.underlying168
 a218:=Tryz.isAgg168
 z218:=Tryz.sizeOf168
 v218:=Tryz.zeroValue168
 t222:=Tryz.underlying172
 a222:=Tryz.isAgg172
 z222:=Tryz.sizeOf172
 v222:=Tryz.zeroValue172
 t228:=Tryz.underlying174
 a228:=Tryz.isAgg174
 z228:=Tryz.sizeOf174
 v228:=Tryz.zeroValue174
 t229:=Tryz.underlying175
 a229:=Tryz.isAgg175
 z229:=Tryz.sizeOf175
 v229:=Tryz.zeroValue175 }
end Go.Proofs
end
section
namespace Go.AI
open Go.Proofs
set_option maxRecDepth 100000
theorem Lm:Inf Tryz.prog 3 1 8 (.int .i64 0):=AO (by kernel_rfl)
theorem JjP:Inf Tryz.prog 4 1 1 (.bool false):=AO (by kernel_rfl)
theorem PK:Inf Tryz.prog 5 1 1 (.int .u8 0):=AO (by kernel_rfl)
theorem WU:Inf Tryz.prog 9 1 16 (.string ⟨#[]⟩):=AO (by kernel_rfl)
theorem JfK:Inf Tryz.prog 22 1 24 (.slice none 0 0):=AO (by kernel_rfl)
theorem JjQ:Inf Tryz.prog 24 3 32 (.agg #[.int .u8 0,.int .u8 0,.slice none 0 0]):=AO (by kernel_rfl)
theorem Y3:Inf Tryz.prog 25 1 24 (.slice none 0 0):=AO (by kernel_rfl)
theorem JfL:Inf Tryz.prog 27 3 32 (.agg #[.int .u8 0,.int .u8 0,.slice none 0 0]):=AO (by kernel_rfl)
theorem JfM:Inf Tryz.prog 29 1 24 (.slice none 0 0):=AO (by kernel_rfl)
theorem JfN:Inf Tryz.prog 31 3 40 (.agg #[.int .i64 0,.int .u8 0,.slice none 0 0]):=AO (by kernel_rfl)
theorem JfO:Inf Tryz.prog 34 1 24 (.slice none 0 0):=AO (by kernel_rfl)
theorem Uk:Inf Tryz.prog 35 1 24 (.slice none 0 0):=AO (by kernel_rfl)
theorem JjR:Inf Tryz.prog 37 3 64 (.agg #[.string ⟨#[]⟩,.slice none 0 0,.slice none 0 0]):=AO (by kernel_rfl)
theorem JjS:Inf Tryz.prog 40 3 32 (.agg #[.int .i64 0,.int .i64 0,.string ⟨#[]⟩]):=AO (by kernel_rfl)
theorem JfP:Inf Tryz.prog 42 1 8 (.int .i64 0):=AO (by kernel_rfl)
theorem JjT:Inf Tryz.prog 47 1 24 (.slice none 0 0):=AO (by kernel_rfl)
theorem JbN:Inf Tryz.prog 51 1 24 (.slice none 0 0):=AO (by kernel_rfl)
theorem JfQ:Inf Tryz.prog 53 2 48 (.agg #[.slice none 0 0,.slice none 0 0]):=AO (by kernel_rfl)
theorem JjU:Inf Tryz.prog 57 4 64 (.agg #[.slice none 0 0,.slice none 0 0,.int .i64 0,.int .i64 0]):=AO (by kernel_rfl)
theorem JfR:Inf Tryz.prog 64 1 1 (.int .u8 0):=AO (by kernel_rfl)
theorem JfS:Inf Tryz.prog 67 6 64 (.agg #[.string ⟨#[]⟩,.slice none 0 0,.int .u8 0,.int .u8 0,.int .i64 0,.int .i64 0]):=AO (by kernel_rfl)
theorem JfT:Inf Tryz.prog 69 2 2 (.agg #[.int .u8 0,.int .u8 0]):=AO (by kernel_rfl)
theorem JfU:Inf Tryz.prog 71 6 56 (.agg #[.slice none 0 0,.slice none 0 0,.int .u8 0,.int .u8 0,.int .u8 0,.int .u8 0]):=AO (by kernel_rfl)
theorem JjV:Inf Tryz.prog 76 1 8 (.pointer none):=AO (by kernel_rfl)
theorem JbO:Inf Tryz.prog 90 1 24 (.slice none 0 0):=AO (by kernel_rfl)
theorem JbP:Inf Tryz.prog 93 3 24 (.agg #[.int .i64 0,.int .i64 0,.int .u8 0]):=AO (by kernel_rfl)
theorem JjW:Inf Tryz.prog 96 6 72 (.agg #[.string ⟨#[]⟩,.int .i64 0,.int .i64 0,.int .i64 0,.int .u8 0,.slice none 0 0]):=AO (by kernel_rfl)
theorem JgJ:Inf Tryz.prog 102 1 24 (.slice none 0 0):=AO (by kernel_rfl)
theorem JgK:Inf Tryz.prog 104 2 16 (.agg #[.int .i64 0,.int .i64 0]):=AO (by kernel_rfl)
theorem JgL:Inf Tryz.prog 111 1 8 (.map none):=AO (by kernel_rfl)
theorem JbQ:Inf Tryz.prog 112 1 24 (.slice none 0 0):=AO (by kernel_rfl)
theorem Vc:Inf Tryz.prog 113 1 24 (.slice none 0 0):=AO (by kernel_rfl)
theorem JgM:Inf Tryz.prog 115 2 48 (.agg #[.slice none 0 0,.slice none 0 0]):=AO (by kernel_rfl)
theorem JbR:Inf Tryz.prog 116 1 24 (.slice none 0 0):=AO (by kernel_rfl)
theorem JbS:Inf Tryz.prog 118 3 32 (.agg #[.string ⟨#[]⟩,.int .i64 0,.int .i64 0]):=AO (by kernel_rfl)
theorem JgN:Inf Tryz.prog 124 1 8 (.pointer none):=AO (by kernel_rfl)
theorem JbT:Inf Tryz.prog 127 2 48 (.agg #[.slice none 0 0,.slice none 0 0]):=AO (by kernel_rfl)
theorem JbU:Inf Tryz.prog 128 1 24 (.slice none 0 0):=AO (by kernel_rfl)
theorem JbV:Inf Tryz.prog 129 1 24 (.slice none 0 0):=AO (by kernel_rfl)
theorem JgO:Inf Tryz.prog 131 8 136 (.agg #[.int .i64 0,.int .u8 0,.slice none 0 0,.string ⟨#[]⟩,.slice none 0 0,.slice none 0 0,.slice none 0 0,.int .i64 0]):=AO (by kernel_rfl)
theorem JgP:Inf Tryz.prog 133 1 24 (.slice none 0 0):=AO (by kernel_rfl)
theorem JbW:Inf Tryz.prog 141 1 24 (.slice none 0 0):=AO (by kernel_rfl)
theorem JbX:Inf Tryz.prog 143 2 16 (.agg #[.int .i64 0,.int .i64 0]):=AO (by kernel_rfl)
theorem JgQ:Inf Tryz.prog 144 5 120 (.agg #[.slice none 0 0,.slice none 0 0,.slice none 0 0,.slice none 0 0,.slice none 0 0]):=AO (by kernel_rfl)
theorem JgR:Inf Tryz.prog 148 1 8 (.pointer none):=AO (by kernel_rfl)
theorem JgS:Inf Tryz.prog 152 1 8 (.int .u64 0):=AO (by kernel_rfl)
theorem JgT:Inf Tryz.prog 156 1 8 (.int .i64 0):=AO (by kernel_rfl)
theorem JgU:Inf Tryz.prog 164 1 4 (.int .u32 0):=AO (by kernel_rfl)
theorem JgV:Inf Tryz.prog 166 1 8 (.int .u64 0):=AO (by kernel_rfl)
theorem JgW:Inf Tryz.prog 168 1 8 (.int .u64 0):=AO (by kernel_rfl)
theorem JgX:Inf Tryz.prog 172 1 8 (.pointer none):=AO (by kernel_rfl)
def ty:Nat->Ty
 | 3=>⟨true,[],1,false,[.int .i64 0],.int .i64⟩
 | 4=>⟨true,[],1,false,[.bool false],.bool⟩
 | 5=>⟨true,[],1,false,[.int .u8 0],.int .u8⟩
 | 9=>⟨true,[],1,false,[.str []],.string⟩
 | 22=>⟨true,[],1,false,[.nil],.slice 6 56 [.nil,.nil,.int .u8 0,.int .u8 0,.int .u8 0,.int .u8 0]⟩
 | 24=>⟨true,[],3,true,[.int .u8 0,.int .u8 0,.nil],.struct [(0,1),(1,1),(2,1)]⟩
 | 25=>⟨true,[],1,false,[.nil],.slice 1 1 [.int .u8 0]⟩
 | 27=>⟨true,[],3,true,[.int .u8 0,.int .u8 0,.nil],.struct [(0,1),(1,1),(2,1)]⟩
 | 29=>⟨true,[],1,false,[.nil],.slice 6 64 [.str [],.nil,.int .u8 0,.int .u8 0,.int .i64 0,.int .i64 0]⟩
 | 31=>⟨true,[],3,true,[.int .i64 0,.int .u8 0,.nil],.struct [(0,1),(1,1),(2,1)]⟩
 | 34=>⟨true,[],1,false,[.nil],.slice 1 24 [.nil]⟩
 | 35=>⟨true,[],1,false,[.nil],.slice 1 8 [.int .i64 0]⟩
 | 37=>⟨true,[],3,true,[.str [],.nil,.nil],.struct [(0,1),(1,1),(2,1)]⟩
 | 40=>⟨true,[.int .i64,.int .i64,.string],3,true,[.int .i64 0,.int .i64 0,.str []],.struct [(0,1),(1,1),(2,1)]⟩
 | 42=>⟨true,[],1,false,[.int .i64 0],.int .i64⟩
 | 47=>⟨true,[],1,false,[.nil],.slice 3 32 [.int .u8 0,.int .u8 0,.nil]⟩
 | 51=>⟨true,[],1,false,[.nil],.slice 1 1 [.int .u8 0]⟩
 | 53=>⟨true,[],2,true,[.nil,.nil],.struct [(0,1),(1,1)]⟩
 | 57=>⟨true,[],4,true,[.nil,.nil,.int .i64 0,.int .i64 0],.struct [(0,2),(2,1),(3,1)]⟩
 | 64=>⟨true,[],1,false,[.int .u8 0],.int .u8⟩
 | 67=>⟨true,[],6,true,[.str [],.nil,.int .u8 0,.int .u8 0,.int .i64 0,.int .i64 0],.struct [(0,1),(1,1),(2,1),(3,1),(4,1),(5,1)]⟩
 | 69=>⟨true,[],2,true,[.int .u8 0,.int .u8 0],.array 2 1⟩
 | 71=>⟨true,[],6,true,[.nil,.nil,.int .u8 0,.int .u8 0,.int .u8 0,.int .u8 0],.struct [(0,1),(1,1),(2,1),(3,1),(4,2)]⟩
 | 76=>⟨true,[],1,false,[.nilp],.other⟩
 | 90=>⟨true,[],1,false,[.nil],.slice 3 24 [.int .i64 0,.int .i64 0,.int .u8 0]⟩
 | 93=>⟨true,[.int .i64,.int .i64,.int .u8],3,true,[.int .i64 0,.int .i64 0,.int .u8 0],.struct [(0,1),(1,1),(2,1)]⟩
 | 96=>⟨true,[],6,true,[.str [],.int .i64 0,.int .i64 0,.int .i64 0,.int .u8 0,.nil],.struct [(0,1),(1,1),(2,3),(5,1)]⟩
 | 102=>⟨true,[],1,false,[.nil],.slice 1 16 [.str []]⟩
 | 104=>⟨true,[],2,true,[.int .i64 0,.int .i64 0],.array 2 1⟩
 | 111=>⟨true,[],1,false,[.nilm],.map [.int .i64,.int .i64,.int .u8] true false [.int .i64 0]⟩
 | 112=>⟨true,[],1,false,[.nil],.slice 1 24 [.nil]⟩
 | 113=>⟨true,[],1,false,[.nil],.slice 1 1 [.bool false]⟩
 | 115=>⟨true,[],2,true,[.nil,.nil],.struct [(0,1),(1,1)]⟩
 | 116=>⟨true,[],1,false,[.nil],.slice 3 32 [.str [],.int .i64 0,.int .i64 0]⟩
 | 118=>⟨true,[.string,.int .i64,.int .i64],3,true,[.str [],.int .i64 0,.int .i64 0],.struct [(0,1),(1,1),(2,1)]⟩
 | 124=>⟨true,[],1,false,[.nilp],.other⟩
 | 127=>⟨true,[],2,true,[.nil,.nil],.struct [(0,1),(1,1)]⟩
 | 128=>⟨true,[],1,false,[.nil],.slice 1 24 [.nil]⟩
 | 129=>⟨true,[],1,false,[.nil],.slice 2 48 [.nil,.nil]⟩
 | 131=>⟨true,[],8,true,[.int .i64 0,.int .u8 0,.nil,.str [],.nil,.nil,.nil,.int .i64 0],.struct [(0,3),(3,1),(4,1),(5,1),(6,1),(7,1)]⟩
 | 133=>⟨true,[],1,false,[.nil],.slice 1 24 [.nil]⟩
 | 141=>⟨true,[],1,false,[.nil],.slice 2 16 [.int .i64 0,.int .i64 0]⟩
 | 143=>⟨true,[.int .i64,.int .i64],2,true,[.int .i64 0,.int .i64 0],.struct [(0,1),(1,1)]⟩
 | 144=>⟨true,[],5,true,[.nil,.nil,.nil,.nil,.nil],.array 5 1⟩
 | 148=>⟨true,[],1,false,[.nilp],.other⟩
 | 152=>⟨true,[],1,false,[.int .u64 0],.int .u64⟩
 | 156=>⟨true,[],1,false,[.int .i64 0],.int .i64⟩
 | 164=>⟨true,[],1,false,[.int .u32 0],.int .u32⟩
 | 166=>⟨true,[],1,false,[.int .u64 0],.int .u64⟩
 | 168=>⟨true,[],1,false,[.int .u64 0],.int .u64⟩
 | 172=>⟨true,[],1,false,[.nilp],.other⟩
 | _=>⟨false,[],0,false,[],.other⟩
theorem tf3:Av Tryz.prog 3 (ty 3):=tfM Lm Tryz.underlying3 rfl
theorem tf4:Av Tryz.prog 4 (ty 4):=tfM JjP Tryz.underlying4 rfl
theorem tf5:Av Tryz.prog 5 (ty 5):=tfM PK Tryz.underlying5 rfl
theorem tf9:Av Tryz.prog 9 (ty 9):=tfM WU Tryz.underlying9 rfl
theorem JkZ:Av Tryz.prog 22 (ty 22):=tfM JfK Tryz.underlying22 (slK JfU)
theorem Jk0:Av Tryz.prog 24 (ty 24):=tfM JjQ Tryz.underlying24 (stF (A0 (Cg PK Tryz.underlying5) (A0 (Cg PK Tryz.underlying5) (A0 (Cg JfK Tryz.underlying22) Hl))))
theorem Jk1:Av Tryz.prog 25 (ty 25):=tfM Y3 Tryz.underlying25 (slK PK (λ _=>Tryz.underlying5))
theorem Jk2:Av Tryz.prog 27 (ty 27):=tfM JfL Tryz.underlying27 (stF (A0 (Cg PK Tryz.underlying5) (A0 (Cg PK Tryz.underlying5) (A0 (Cg Y3 Tryz.underlying25) Hl))))
theorem Jk3:Av Tryz.prog 29 (ty 29):=tfM JfM Tryz.underlying29 (slK JfS)
theorem Jk4:Av Tryz.prog 31 (ty 31):=tfM JfN Tryz.underlying31 (stF (A0 (Cg Lm Tryz.underlying3) (A0 (Cg PK Tryz.underlying5) (A0 (Cg JfM Tryz.underlying29) Hl))))
theorem Jk5:Av Tryz.prog 34 (ty 34):=tfM JfO Tryz.underlying34 (slK Uk)
theorem Jk6:Av Tryz.prog 35 (ty 35):=tfM Uk Tryz.underlying35 (slK Lm)
theorem Jk7:Av Tryz.prog 37 (ty 37):=tfM JjR Tryz.underlying37 (stF (A0 (Cg WU Tryz.underlying9) (A0 (Cg JfO Tryz.underlying34) (A0 (Cg Uk Tryz.underlying35) Hl))))
theorem Jk8:Av Tryz.prog 40 (ty 40):=tfM JjS Tryz.underlying40 (stF (A0 (Cg Lm Tryz.underlying3) (A0 (Cg Lm Tryz.underlying3) (A0 (Cg WU Tryz.underlying9) Hl)))) (λ _=>Rc Tryz.underlying40 (by kernel_rfl) (by kernel_rfl) rfl λ j f k h1 h2=>match j,h1,h2 with|0,h1,h2=>(by cases h1;cases h2;exact ⟨by decide,rfl,⟨_,Tryz.underlying3⟩⟩)|1,h1,h2=>(by cases h1;cases h2;exact ⟨by decide,rfl,⟨_,Tryz.underlying3⟩⟩)|2,h1,h2=>(by cases h1;cases h2;exact ⟨by decide,rfl,Tryz.underlying9⟩)|n+3,h1,_=>by simp at h1)
theorem Jk9:Av Tryz.prog 42 (ty 42):=tfM JfP Tryz.underlying42 rfl
theorem Jla:Av Tryz.prog 47 (ty 47):=tfM JjT Tryz.underlying47 (slK JfL)
theorem Jlb:Av Tryz.prog 51 (ty 51):=tfM JbN Tryz.underlying51 (slK JfR (λ _=>Tryz.underlying64))
theorem Jlc:Av Tryz.prog 53 (ty 53):=tfM JfQ Tryz.underlying53 (stF (A0 (Cg JbN Tryz.underlying51) (A0 (Cg Uk Tryz.underlying35) Hl)))
theorem Jld:Av Tryz.prog 57 (ty 57):=tfM JjU Tryz.underlying57 (stF (A0 (Cg JfQ Tryz.underlying53) (A0 (Cg Lm Tryz.underlying3) (A0 (Cg JfP Tryz.underlying42) Hl))))
theorem Jle:Av Tryz.prog 64 (ty 64):=tfM JfR Tryz.underlying64 rfl
theorem Jlf:Av Tryz.prog 67 (ty 67):=tfM JfS Tryz.underlying67 (stF (A0 (Cg WU Tryz.underlying9) (A0 (Cg JbN Tryz.underlying51) (A0 (Cg PK Tryz.underlying5) (A0 (Cg PK Tryz.underlying5) (A0 (Cg Lm Tryz.underlying3) (A0 (Cg Lm Tryz.underlying3) Hl)))))))
theorem Jlg:Av Tryz.prog 69 (ty 69):=tfM JfT Tryz.underlying69 (arK PK)
theorem Jlh:Av Tryz.prog 71 (ty 71):=tfM JfU Tryz.underlying71 (stF (A0 (Cg Y3 Tryz.underlying25) (A0 (Cg Y3 Tryz.underlying25) (A0 (Cg PK Tryz.underlying5) (A0 (Cg PK Tryz.underlying5) (A0 (Cg JfT Tryz.underlying69) Hl))))))
theorem Jli:Av Tryz.prog 76 (ty 76):=tfM JjV Tryz.underlying76 trivial
theorem Jlj:Av Tryz.prog 90 (ty 90):=tfM JbO Tryz.underlying90 (slK JbP)
theorem Jlk:Av Tryz.prog 93 (ty 93):=tfM JbP Tryz.underlying93 (stF (A0 (Cg Lm Tryz.underlying3) (A0 (Cg Lm Tryz.underlying3) (A0 (Cg PK Tryz.underlying5) Hl)))) (λ _=>Rc Tryz.underlying93 (by kernel_rfl) (by kernel_rfl) rfl λ j f k h1 h2=>match j,h1,h2 with|0,h1,h2=>(by cases h1;cases h2;exact ⟨by decide,rfl,⟨_,Tryz.underlying3⟩⟩)|1,h1,h2=>(by cases h1;cases h2;exact ⟨by decide,rfl,⟨_,Tryz.underlying3⟩⟩)|2,h1,h2=>(by cases h1;cases h2;exact ⟨by decide,rfl,⟨_,Tryz.underlying5⟩⟩)|n+3,h1,_=>by simp at h1)
theorem Jll:Av Tryz.prog 96 (ty 96):=tfM JjW Tryz.underlying96 (stF (A0 (Cg WU Tryz.underlying9) (A0 (Cg Lm Tryz.underlying3) (A0 (Cg JbP Tryz.underlying93) (A0 (Cg JbO Tryz.underlying90) Hl)))))
theorem JjX:Av Tryz.prog 102 (ty 102):=tfM JgJ Tryz.underlying102 (slK WU)
theorem JjY:Av Tryz.prog 104 (ty 104):=tfM JgK Tryz.underlying104 (arK Lm)
theorem JjZ:Av Tryz.prog 111 (ty 111):=tfM JgL Tryz.underlying111 (by obtain ⟨j,h1,h2,h3,h4⟩:=Lm;exact ⟨_,_,j,_,rfl,(Ti Tryz.underlying93 (by kernel_rfl) rfl λ j f k h1 h2=>match j,h1,h2 with|0,h1,h2=>(by cases h1;cases h2;exact ⟨by decide,rfl,⟨_,Tryz.underlying3⟩⟩)|1,h1,h2=>(by cases h1;cases h2;exact ⟨by decide,rfl,⟨_,Tryz.underlying3⟩⟩)|2,h1,h2=>(by cases h1;cases h2;exact ⟨by decide,rfl,⟨_,Tryz.underlying5⟩⟩)|n+3,h1,_=>by simp at h1),h1,h4,rfl,(λ h=>by cases h),(λ _=>⟨_,rfl,rfl⟩)⟩)
theorem Jj0:Av Tryz.prog 112 (ty 112):=tfM JbQ Tryz.underlying112 (slK JbR)
theorem Jj1:Av Tryz.prog 113 (ty 113):=tfM Vc Tryz.underlying113 (slK JjP)
theorem Jj2:Av Tryz.prog 115 (ty 115):=tfM JgM Tryz.underlying115 (stF (A0 (Cg JbQ Tryz.underlying112) (A0 (Cg Vc Tryz.underlying113) Hl)))
theorem Jj3:Av Tryz.prog 116 (ty 116):=tfM JbR Tryz.underlying116 (slK JbS)
theorem Jj4:Av Tryz.prog 118 (ty 118):=tfM JbS Tryz.underlying118 (stF (A0 (Cg WU Tryz.underlying9) (A0 (Cg Lm Tryz.underlying3) (A0 (Cg Lm Tryz.underlying3) Hl)))) (λ _=>Rc Tryz.underlying118 (by kernel_rfl) (by kernel_rfl) rfl λ j f k h1 h2=>match j,h1,h2 with|0,h1,h2=>(by cases h1;cases h2;exact ⟨by decide,rfl,Tryz.underlying9⟩)|1,h1,h2=>(by cases h1;cases h2;exact ⟨by decide,rfl,⟨_,Tryz.underlying3⟩⟩)|2,h1,h2=>(by cases h1;cases h2;exact ⟨by decide,rfl,⟨_,Tryz.underlying3⟩⟩)|n+3,h1,_=>by simp at h1)
theorem Jj5:Av Tryz.prog 124 (ty 124):=tfM JgN Tryz.underlying124 trivial
theorem Jj6:Av Tryz.prog 127 (ty 127):=tfM JbT Tryz.underlying127 (stF (A0 (Cg Uk Tryz.underlying35) (A0 (Cg Uk Tryz.underlying35) Hl)))
theorem Jj7:Av Tryz.prog 128 (ty 128):=tfM JbU Tryz.underlying128 (slK JbW)
theorem Jj8:Av Tryz.prog 129 (ty 129):=tfM JbV Tryz.underlying129 (slK JbT)
theorem Jj9:Av Tryz.prog 131 (ty 131):=tfM JgO Tryz.underlying131 (stF (A0 (Cg JfN Tryz.underlying31) (A0 (Cg WU Tryz.underlying9) (A0 (Cg JbO Tryz.underlying90) (A0 (Cg JbU Tryz.underlying128) (A0 (Cg JbV Tryz.underlying129) (A0 (Cg Lm Tryz.underlying3) Hl)))))))
theorem Jka:Av Tryz.prog 133 (ty 133):=tfM JgP Tryz.underlying133 (slK Vc)
theorem Jkb:Av Tryz.prog 141 (ty 141):=tfM JbW Tryz.underlying141 (slK JbX)
theorem Jkc:Av Tryz.prog 143 (ty 143):=tfM JbX Tryz.underlying143 (stF (A0 (Cg Lm Tryz.underlying3) (A0 (Cg Lm Tryz.underlying3) Hl))) (λ _=>Rc Tryz.underlying143 (by kernel_rfl) (by kernel_rfl) rfl λ j f k h1 h2=>match j,h1,h2 with|0,h1,h2=>(by cases h1;cases h2;exact ⟨by decide,rfl,⟨_,Tryz.underlying3⟩⟩)|1,h1,h2=>(by cases h1;cases h2;exact ⟨by decide,rfl,⟨_,Tryz.underlying3⟩⟩)|n+2,h1,_=>by simp at h1)
theorem Jkd:Av Tryz.prog 144 (ty 144):=tfM JgQ Tryz.underlying144 (arK Vc)
theorem Jke:Av Tryz.prog 148 (ty 148):=tfM JgR Tryz.underlying148 trivial
theorem Jkf:Av Tryz.prog 152 (ty 152):=tfM JgS Tryz.underlying152 rfl
theorem Jkg:Av Tryz.prog 156 (ty 156):=tfM JgT Tryz.underlying156 rfl
theorem Jkh:Av Tryz.prog 164 (ty 164):=tfM JgU Tryz.underlying164 rfl
theorem Jki:Av Tryz.prog 166 (ty 166):=tfM JgV Tryz.underlying166 rfl
theorem Jkj:Av Tryz.prog 168 (ty 168):=tfM JgW Tryz.underlying168 rfl
theorem Jkk:Av Tryz.prog 172 (ty 172):=tfM JgX Tryz.underlying172 trivial
theorem tyOK:J2 Tryz.prog ty:=by
 intro t h
 unfold ty at h
 split at h
 ·exact tf3
 ·exact tf4
 ·exact tf5
 ·exact tf9
 ·exact JkZ
 ·exact Jk0
 ·exact Jk1
 ·exact Jk2
 ·exact Jk3
 ·exact Jk4
 ·exact Jk5
 ·exact Jk6
 ·exact Jk7
 ·exact Jk8
 ·exact Jk9
 ·exact Jla
 ·exact Jlb
 ·exact Jlc
 ·exact Jld
 ·exact Jle
 ·exact Jlf
 ·exact Jlg
 ·exact Jlh
 ·exact Jli
 ·exact Jlj
 ·exact Jlk
 ·exact Jll
 ·exact JjX
 ·exact JjY
 ·exact JjZ
 ·exact Jj0
 ·exact Jj1
 ·exact Jj2
 ·exact Jj3
 ·exact Jj4
 ·exact Jj5
 ·exact Jj6
 ·exact Jj7
 ·exact Jj8
 ·exact Jj9
 ·exact Jka
 ·exact Jkb
 ·exact Jkc
 ·exact Jkd
 ·exact Jke
 ·exact Jkf
 ·exact Jkg
 ·exact Jkh
 ·exact Jki
 ·exact Jkj
 ·exact Jkk
 ·cases h
theorem follows:Tryz.prog.follows .mixedOrders=true:=by kernel_rfl
def cxk (n nk:Nat):Cx:=⟨ty,⟨n,[],nk⟩,AD Tryz.prog,BD Tryz.prog,TY Tryz.prog,false⟩
def cx (n:Nat):Cx:=cxk n 0
theorem JfV (n nk:Nat):JA Tryz.prog (cxk n nk):=⟨tyOK,λ _ _ _ h=>h,λ _ _ _ _ _ _ h=>h,λ _ _ _ _ _ h=>h⟩
end Go.AI
end
section
namespace Go.AI
structure Ax where
 Print:(List UInt8)
 Cells:(List Int)
 Left:Int
 Right:Int
 From:Int
 To:Int
 deriving DecidableEq,Inhabited
structure Ad where
 Modes:Int
 Accept:Int
 Rules:(List Ax)
 deriving DecidableEq,Inhabited
structure Ab where
 Mode:Int
 Last:Int
 Need:Int
 deriving DecidableEq,Inhabited
structure NV where
 Print:(List UInt8)
 Cells:Int
 To:Int
 deriving DecidableEq,Inhabited
structure AM where
 Arcs:(List (List NV))
 Accepts:(List Bool)
 deriving DecidableEq,Inhabited
structure AX where
 Text:(List UInt8)
 Costs:(List (List Int))
 Least:(List Int)
 deriving DecidableEq,Inhabited
structure B6 where
 At:Int
 Cut:Int
 Put:(List UInt8)
 deriving DecidableEq,Inhabited
structure AC where
 States:(List Int)
 Costs:(List Int)
 deriving DecidableEq,Inhabited
structure A8 where
 Rule:Int
 To:Int
 deriving DecidableEq,Inhabited
structure Af where
 T:Ad
 S:(List UInt8)
 States:(List Ab)
 Arcs:(List (List A8))
 Columns:(List AC)
 Last:Int
 deriving DecidableEq,Inhabited
structure AT where
 Cells:(List Int)
 Path:(List Int)
 deriving DecidableEq,Inhabited
structure FL (α:Type) where
 a0:α
 a1:α
 deriving DecidableEq,Inhabited
structure Dp where
 P:(List Int)
 C:(List Int)
 L:Int
 R:Int
 W:(FL Int)
 deriving DecidableEq,Inhabited
structure M9 where
 Base:Int
 Drop:Int
 More:(List Dp)
 deriving DecidableEq,Inhabited
structure Sr where
 S:(List UInt8)
 I:Int
 State:Ab
 L:(List Ab)
 deriving DecidableEq,Inhabited
structure JaE where
 At:Int
 Cut:Int
 L:(List Int)
 deriving DecidableEq,Inhabited
structure JkS where
 W:AT
 At:Int
 E:Int
 deriving DecidableEq,Inhabited
def GK (_:Nat) (t_1:Ad) (i_1:Int):Option ((Ad×Int)⊕Ad):=
 if decide (i_1<3)=true then
  (idx ([[97],[98],[97,98]]) i_1).bind λ x1=>
  (idx [1,3,7] i_1).bind λ x2=>
  (app 64 t_1.Rules ([({ Print:=x1,Cells:=[x2],Left:=63,Right:=63,From:=0,To:=0 }:Ax)])).bind λ l1=>
  some (.inl (({ Modes:=t_1.Modes,Accept:=t_1.Accept,Rules:=l1 }:Ad),(AE .i64 i_1 1)))
 else
  some (.inr t_1)
def Ke (n:Nat) :Option Ad:=
 (whl (λ (x:(Ad×Int))=>GK n x.1 x.2) n (({ Modes:=1,Accept:=1,Rules:=([]:List Ax) }:Ad),0)).bind λ y1=>
 some y1
def DM (_:Nat) (p0_:Int):Option Bool:=
 some ((decide (32<=Ch .u8 p0_ 127))&&(decide (Ch .u8 p0_ 127<=126)))
def Fv (n:Nat) (p0_:(List UInt8)) (x_1:Int):Option (Int⊕(Unit⊕(Int×Int))):=
 if decide (x_1<((p0_.length:Nat):Int))=true then
  (NS p0_ x_1).bind λ b1=>
  (DM n b1).bind λ r1=>
  if (!r1)=true then
   some (.inr (.inr (x_1,60)))
  else
   some (.inl (AE .i64 x_1 1))
 else
  some (.inr (.inl ()))
def FQ (n:Nat) (p0_:(List UInt8)):Option (Int×Int):=
 (whl (λ (x:Int)=>Fv n p0_ x) n 0).bind λ y2=>
 match y2 with
 | Sum.inl _=>
  some (((p0_.length:Nat):Int),0)
 | Sum.inr y4=>
  some y4
def JD (_:Nat) :Option Ab:=
 some ({ Mode:=0,Last:=0,Need:=63 }:Ab)
def Hx (_:Nat) (p0_:Int) (p1_:Int):Option Bool:=
 (if ((decide (0<=p1_))&&(decide (p1_<8)))=true then BE (decide (0<=p1_)) else some default).bind λ _=>
 some (((decide (0<=p1_))&&(decide (p1_<8)))&&((Ch .u8 (WM .u8 p0_ p1_) 1)==1))
def Es (_:Nat) (p0_:Int):Option Int:=
 if ((decide (97<=Ch .u8 p0_ 127))&&(decide (Ch .u8 p0_ 127<=122)))=true then
  some 1
 else
  if ((decide (65<=Ch .u8 p0_ 127))&&(decide (Ch .u8 p0_ 127<=90)))=true then
   some 2
  else
   if ((decide (48<=Ch .u8 p0_ 127))&&(decide (Ch .u8 p0_ 127<=57)))=true then
    some 3
   else
    if ((Ch .u8 p0_ 127)==32)=true then
     some 4
    else
     some 5
def GY (n:Nat) (p0_:Ad) (p1_:Ab) (p2_:Int):Option (Ab×Bool):=
 if ((decide (p2_<0))||(decide (p2_>=((p0_.Rules.length:Nat):Int))))=true then
  some (({ Mode:=0,Last:=0,Need:=0 }:Ab),false)
 else
  (idx p0_.Rules p2_).bind λ x3=>
  (if (!(x3.From != p1_.Mode))=true then Hx n x3.Left p1_.Last else some default).bind λ r2=>
  if ((x3.From != p1_.Mode)||(!r2))=true then
   some (({ Mode:=0,Last:=0,Need:=0 }:Ab),false)
  else
   if (x3.Print==[])=true then
    if ((Ch .u8 p1_.Need x3.Right)==0)=true then
     some (({ Mode:=0,Last:=0,Need:=0 }:Ab),false)
    else
     some (({ Mode:=x3.To,Last:=p1_.Last,Need:=Ch .u8 p1_.Need x3.Right }:Ab),true)
   else
    (NS x3.Print 0).bind λ b2=>
    (Es n b2).bind λ r3=>
    (Hx n p1_.Need r3).bind λ r4=>
    if (!r4)=true then
     some (({ Mode:=0,Last:=0,Need:=0 }:Ab),false)
    else
     (NS x3.Print (Dw .i64 ((x3.Print.length:Nat):Int) 1)).bind λ b3=>
     (Es n b3).bind λ r5=>
     some (({ Mode:=x3.To,Last:=r5,Need:=x3.Right }:Ab),true)
def Cj (_:Nat) (x_2:Int) (states_5:(List Ab)) (from_5:(List (List Int))) (number_4:(List (Ab×Int))):Option (((List Ab)×(List (List Int))×(List (Ab×Int))×Int)⊕((List Ab)×(List (List Int))×(List (Ab×Int)))):=
 some (.inl (states_5,from_5,number_4,(AE .i64 x_2 1)))
def CK (n:Nat) (k_1:Int) (x_2:Int) (states_6:(List Ab)) (from_6:(List (List Int))) (number_5:(List (Ab×Int))) (n_1:Int):Option (((List Ab)×(List (List Int))×(List (Ab×Int))×Int)⊕((List Ab)×(List (List Int))×(List (Ab×Int)))):=
 (idx from_6 n_1).bind λ x5=>
 (app 8 x5 [k_1]).bind λ l2=>
 Cj n x_2 states_6 (List.set from_6 n_1.toNat l2) number_5
def Bw (n:Nat) (p0_:Ad) (k_1:Int) (states_3:(List Ab)) (from_3:(List (List Int))) (number_2:(List (Ab×Int))) (x_2:Int):Option (((List Ab)×(List (List Int))×(List (Ab×Int))×Int)⊕((List Ab)×(List (List Int))×(List (Ab×Int)))):=
 if decide (x_2<((p0_.Rules.length:Nat):Int))=true then
  (idx states_3 k_1).bind λ x4=>
  (GY n p0_ x4 x_2).bind λ r7=>
  if (!r7.2)=true then
   Cj n x_2 states_3 from_3 number_2
  else
   if (!(Option.isSome (Ga r7.1 number_2)))=true then
    (app 24 states_3 [r7.1]).bind λ l3=>
    (app 24 from_3 [([]:(List Int))]).bind λ l4=>
    CK n k_1 x_2 l3 l4 (LO r7.1 ((states_3.length:Nat):Int) number_2) ((states_3.length:Nat):Int)
   else
    CK n k_1 x_2 states_3 from_3 number_2 (Option.getD (Ga r7.1 number_2) 0)
 else
  some (.inr (states_3,from_3,number_2))
def Ck (n:Nat) (p0_:Ad) (states_1:(List Ab)) (from_1:(List (List Int))) (number_1:(List (Ab×Int))) (k_1:Int):Option (((List Ab)×(List (List Int))×(List (Ab×Int))×Int)⊕((List Ab)×(List (List Int)))):=
 if decide (k_1<((states_1.length:Nat):Int))=true then
  (whl (λ (x:((List Ab)×(List (List Int))×(List (Ab×Int))×Int))=>Bw n p0_ k_1 x.1 x.2.1 x.2.2.1 x.2.2.2) n (states_1,from_1,number_1,0)).bind λ y5=>
  some (.inl (y5.1,y5.2.1,y5.2.2,(AE .i64 k_1 1)))
 else
  some (.inr (states_1,from_1))
def Fw (n:Nat) (p0_:Ad):Option ((List Ab)×(List (List Int))):=
 (JD n).bind λ r6=>
 (whl (λ (x:((List Ab)×(List (List Int))×(List (Ab×Int))×Int))=>Ck n p0_ x.1 x.2.1 x.2.2.1 x.2.2.2) n ([r6],([[]]:List (List Int)),(LO r6 0 []),0)).bind λ y6=>
 some (y6.1,y6.2)
def GB (n:Nat) (p0_:Ad):Option (List Ab):=
 (Fw n p0_).bind λ r8=>
 some r8.1
def Ec (n:Nat) (p0_:Ad) (p1_:Ab):Option Bool:=
 (if decide (p1_.Mode<p0_.Modes)=true then Hx n p0_.Accept p1_.Mode else some default).bind λ r9=>
 (if ((decide (p1_.Mode<p0_.Modes))&&r9)=true then Hx n p1_.Need 0 else some default).bind λ r10=>
 some (((decide (p1_.Mode<p0_.Modes))&&r9)&&r10)
def EP (_:Nat) (p0_:(List UInt8)) (p1_:(List UInt8)):Option Bool:=
 (if decide (((p0_.length:Nat):Int)>=((p1_.length:Nat):Int))=true then sub p0_ 0 ((p1_.length:Nat):Int) else some default).bind λ s1=>
 some ((decide (((p0_.length:Nat):Int)>=((p1_.length:Nat):Int)))&&(s1==p1_))
def DU (n:Nat) (p0_:(List UInt8)) (p1_:(List UInt8)):Option Bool:=
 (EP n p0_ p1_).bind λ r11=>
 some r11
def B0 (_:Nat) (_:Ad) (r12:(List Ab)) (number_6:(List (Ab×Int))) (x_5:Int):Option (((List (Ab×Int))×Int)⊕(List (Ab×Int))):=
 if decide (x_5<((r12.length:Nat):Int))=true then
  (idx r12 x_5).bind λ x12=>
  some (.inl ((LO x12 x_5 number_6),(AE .i64 x_5 1)))
 else
  some (.inr number_6)
def Cp (_:Nat) (x_7:Int) (g_5:AM):Option ((AM×Int)⊕AM):=
 some (.inl (g_5,(AE .i64 x_7 1)))
def B1 (n:Nat) (p0_:Ad) (_:(List Ab)) (y8:(List (Ab×Int))) (x_6:Int) (x13:Ab) (g_3:AM) (x_7:Int):Option ((AM×Int)⊕AM):=
 if decide (x_7<((p0_.Rules.length:Nat):Int))=true then
  (idx p0_.Rules x_7).bind λ x15=>
  (GY n p0_ x13 x_7).bind λ r14=>
  if r14.2=true then
   (idx g_3.Arcs x_6).bind λ x16=>
   (app 32 x16 [({ Print:=x15.Print,Cells:=((x15.Cells.length:Nat):Int),To:=(Option.getD (Ga r14.1 y8) 0) }:NV)]).bind λ l12=>
   Cp n x_7 ({ Arcs:=List.set g_3.Arcs x_6.toNat l12,Accepts:=g_3.Accepts }:AM)
  else
   Cp n x_7 g_3
 else
  some (.inr g_3)
def Cq (n:Nat) (p0_:Ad) (r12:(List Ab)) (y8:(List (Ab×Int))) (g_1:AM) (x_6:Int):Option ((AM×Int)⊕AM):=
 if decide (x_6<((r12.length:Nat):Int))=true then
  (idx r12 x_6).bind λ x13=>
  (Ec n p0_ x13).bind λ r13=>
  (idx g_1.Accepts x_6).bind λ _=>
  (put g_1.Accepts x_6 r13).bind λ l11=>
  (whl (λ (x:(AM×Int))=>B1 n p0_ r12 y8 x_6 x13 x.1 x.2) n (({ Arcs:=g_1.Arcs,Accepts:=l11 }:AM),0)).bind λ y9=>
  some (.inl (y9,(AE .i64 x_6 1)))
 else
  some (.inr g_1)
def DD (n:Nat) (p0_:Ad):Option AM:=
 (GB n p0_).bind λ r12=>
 (whl (λ (x:((List (Ab×Int))×Int))=>B0 n p0_ r12 x.1 x.2) n ([],0)).bind λ y8=>
 (mkl 24 ((r12.length:Nat):Int) ([]:(List NV))).bind λ l9=>
 (mkl 1 ((r12.length:Nat):Int) (false:Bool)).bind λ l10=>
 (whl (λ (x:(AM×Int))=>Cq n p0_ r12 y8 x.1 x.2) n (({ Arcs:=l9,Accepts:=l10 }:AM),0)).bind λ y10=>
 some y10
def BF (_:Nat) (p1_:(List UInt8)) (b0_:AM) (_:(List Int)) (l15:(List Int)) (m_3:(List (Nat×Nat))) (x_11:Int):Option (((List (Nat×Nat))×Int)⊕(List (Nat×Nat))):=
 if decide (x_11<AE .i64 ((p1_.length:Nat):Int) 1)=true then
  (JbI (l15.length) (Kd .i64 x_11 ((b0_.Arcs.length:Nat):Int)) (Kd .i64 (AE .i64 x_11 1) ((b0_.Arcs.length:Nat):Int)) (Kd .i64 (AE .i64 x_11 1) ((b0_.Arcs.length:Nat):Int))).bind λ _=>
  (idx m_3 x_11).bind λ _=>
  (put m_3 x_11 ((0+Int.toNat (Kd .i64 x_11 ((b0_.Arcs.length:Nat):Int)),Int.toNat (Kd .i64 (AE .i64 x_11 1) ((b0_.Arcs.length:Nat):Int))-Int.toNat (Kd .i64 x_11 ((b0_.Arcs.length:Nat):Int))):Nat×Nat)).bind λ l16=>
  some (.inl (l16,(AE .i64 x_11 1)))
 else
  some (.inr m_3)
def B8 (n:Nat) (p1_:(List UInt8)) (b0_:AM):Option ((List (Nat×Nat))×(List Int)×(List Int)):=
 (mkl 24 (AE .i64 ((p1_.length:Nat):Int) 1) ([]:(List Int))).bind λ l13=>
 (mkl 8 (AE .i64 ((p1_.length:Nat):Int) 1) (0:Int)).bind λ l14=>
 (mkl 8 (Kd .i64 ((b0_.Arcs.length:Nat):Int) (AE .i64 ((p1_.length:Nat):Int) 1)) (0:Int)).bind λ l15=>
 (whl (λ (x:((List (Nat×Nat))×Int))=>BF n p1_ b0_ l14 l15 x.1 x.2) n ((List.replicate (l13.length) ((0,0):Nat×Nat)),0)).bind λ y11=>
 some (y11,l14,l15)
def C3 (_:Nat) (_:(List UInt8)) (_:AM) (_:(List (Nat×Nat))) (_:(List Int)) (_:(List Int)):Option Unit:=
 some ()
def Fx (_:Nat) (_:(List UInt8)) (p1_:Int) (p2_:Int) (o0_:(List (Nat×Nat))) (o1_:(List Int)) (o2_:(List Int)):Option Int:=
 (idx o0_ p1_).bind λ x18=>
 (ixP o2_ x18 p2_).bind λ x19=>
 if decide (x19<0)=true then
  some (-1)
 else
  (idx o1_ p1_).bind λ x20=>
  (idx o0_ p1_).bind λ x21=>
  (ixP o2_ x21 p2_).bind λ x22=>
  some (AE .i64 x20 x22)
def Br (_:Nat) (p0_:Int) (p1_:Int) (p2_:Int) (b0_0_:(Nat×Nat)) (o1_:(List Int)):Option ((List Int)×Bool):=
 (if (!(decide (p1_<0)))=true then ixP o1_ b0_0_ p0_ else some default).bind λ x23=>
 (if ((!(decide (p1_<0)))&&(decide (x23>=0)))=true then ixP o1_ b0_0_ p0_ else some default).bind λ x24=>
 if ((decide (p1_<0))||((decide (x23>=0))&&(decide (x24<=AE .i64 p1_ p2_))))=true then
  some (o1_,false)
 else
  (ixP o1_ b0_0_ p0_).bind λ _=>
  (put o1_ ((b0_0_.1+Int.toNat p0_:Nat):Int) (AE .i64 p1_ p2_)).bind λ l17=>
  some (l17,true)
def C6 (_:Nat) (x_17:Int) (least_3:Int):Option ((Int×Int)⊕Int):=
 some (.inl (least_3,(AE .i64 x_17 1)))
def CD (n:Nat) (p0_:(Nat×Nat)) (o0_:(List Int)) (least_1:Int) (x_17:Int):Option ((Int×Int)⊕Int):=
 if decide (x_17<((p0_.2:Nat):Int))=true then
  (ixP o0_ p0_ x_17).bind λ x26=>
  if ((decide (x26>=0))&&((decide (least_1<0))||(decide (x26<least_1))))=true then
   C6 n x_17 x26
  else
   C6 n x_17 least_1
 else
  some (.inr least_1)
def C7 (_:Nat) (x_18:Int) (column_2:(List Int)):Option (((List Int)×Int)⊕(List Int)):=
 some (.inl (column_2,(AE .i64 x_18 1)))
def CE (n:Nat) (p0_:(Nat×Nat)) (y12:Int) (column_1:(List Int)) (x_18:Int):Option (((List Int)×Int)⊕(List Int)):=
 if decide (x_18<((p0_.2:Nat):Int))=true then
  (ixP column_1 p0_ x_18).bind λ x27=>
  if decide (x27>=0)=true then
   (ixP column_1 p0_ x_18).bind λ _=>
   (put column_1 ((p0_.1+Int.toNat x_18:Nat):Int) (Dw .i64 x27 y12)).bind λ l18=>
   C7 n x_18 l18
  else
   C7 n x_18 column_1
 else
  some (.inr column_1)
def HX (n:Nat) (p0_:(Nat×Nat)) (o0_:(List Int)):Option ((List Int)×Int):=
 (whl (λ (x:(Int×Int))=>CD n p0_ o0_ x.1 x.2) n ((-1),0)).bind λ y12=>
 (whl (λ (x:((List Int)×Int))=>CE n p0_ y12 x.1 x.2) n (o0_,0)).bind λ y13=>
 some (y13,y12)
def Bm (_:Nat) (x_22:Int) (column_5:(List Int)):Option (((List Int)×Int)⊕(List Int)):=
 some (.inl (column_5,(AE .i64 x_22 1)))
def A9 (n:Nat) (p0_:Int) (b0_0_:(List UInt8)) (b4_:AM) (_:(List (Nat×Nat))) (_:(List Int)) (x29:(Nat×Nat)) (column_3:(List Int)) (x_22:Int):Option (((List Int)×Int)⊕(List Int)):=
 if decide (x_22<((x29.2:Nat):Int))=true then
  (ixP column_3 x29 x_22).bind λ _=>
  (put column_3 ((x29.1+Int.toNat x_22:Nat):Int) (-1)).bind λ l19=>
  (if (p0_==((b0_0_.length:Nat):Int))=true then idx b4_.Accepts x_22 else some default).bind λ x31=>
  if ((p0_==((b0_0_.length:Nat):Int))&&x31)=true then
   (ixP l19 x29 x_22).bind λ _=>
   (put l19 ((x29.1+Int.toNat x_22:Nat):Int) 0).bind λ l20=>
   Bm n x_22 l20
  else
   Bm n x_22 l19
 else
  some (.inr column_3)
def Bn (_:Nat) (x_24:Int) (column_10:(List Int)):Option (((List Int)×Int)⊕(List Int)):=
 some (.inl (column_10,(AE .i64 x_24 1)))
def Ba (n:Nat) (p0_:Int) (b0_0_:(List UInt8)) (_:AM) (o2_:(List (Nat×Nat))) (o3_:(List Int)) (x29:(Nat×Nat)) (x_23:Int) (x33:(List NV)) (column_8:(List Int)) (x_24:Int):Option (((List Int)×Int)⊕(List Int)):=
 if decide (x_24<((x33.length:Nat):Int))=true then
  (idx x33 x_24).bind λ x34=>
  (if (!(x34.Print==[]))=true then sub b0_0_ p0_ ((b0_0_.length:Nat):Int) else some default).bind λ s2=>
  (if (!(x34.Print==[]))=true then DU n s2 x34.Print else some default).bind λ r15=>
  if ((!(x34.Print==[]))&&r15)=true then
   (Fx n b0_0_ (AE .i64 p0_ ((x34.Print.length:Nat):Int)) x34.To o2_ o3_ column_8).bind λ r16=>
   (Br n x_23 r16 x34.Cells x29 column_8).bind λ r17=>
   Bn n x_24 r17.1
  else
   Bn n x_24 column_8
 else
  some (.inr column_8)
def Bb (n:Nat) (p0_:Int) (b0_0_:(List UInt8)) (b4_:AM) (o2_:(List (Nat×Nat))) (o3_:(List Int)) (x29:(Nat×Nat)) (column_6:(List Int)) (x_23:Int):Option (((List Int)×Int)⊕(List Int)):=
 if decide (x_23<((b4_.Arcs.length:Nat):Int))=true then
  (idx b4_.Arcs x_23).bind λ x33=>
  (whl (λ (x:((List Int)×Int))=>Ba n p0_ b0_0_ b4_ o2_ o3_ x29 x_23 x33 x.1 x.2) n (column_6,0)).bind λ y15=>
  some (.inl (y15,(AE .i64 x_23 1)))
 else
  some (.inr column_6)
def A6 (_:Nat) (x_26:Int) (column_17:(List Int)) (better_6:Bool):Option (((List Int)×Bool×Int)⊕((List Int)×Bool)):=
 some (.inl (column_17,better_6,(AE .i64 x_26 1)))
def Bc (n:Nat) (_:(List UInt8)) (_:AM) (_:(List (Nat×Nat))) (_:(List Int)) (x29:(Nat×Nat)) (x_25:Int) (x35:(List NV)) (column_15:(List Int)) (better_4:Bool) (x_26:Int):Option (((List Int)×Bool×Int)⊕((List Int)×Bool)):=
 if decide (x_26<((x35.length:Nat):Int))=true then
  (idx x35 x_26).bind λ x36=>
  (if (x36.Print==[])=true then ixP column_15 x29 x36.To else some default).bind λ x37=>
  if (x36.Print==[])=true then
   (Br n x_25 x37 x36.Cells x29 column_15).bind λ r18=>
   if ((x36.Print==[])&&r18.2)=true then
    A6 n x_26 r18.1 true
   else
    A6 n x_26 r18.1 better_4
  else
   if ((x36.Print==[])&&false)=true then
    A6 n x_26 column_15 true
   else
    A6 n x_26 column_15 better_4
 else
  some (.inr (column_15,better_4))
def Bd (n:Nat) (b0_0_:(List UInt8)) (b4_:AM) (o2_:(List (Nat×Nat))) (o3_:(List Int)) (x29:(Nat×Nat)) (column_13:(List Int)) (better_2:Bool) (x_25:Int):Option (((List Int)×Bool×Int)⊕((List Int)×Bool)):=
 if decide (x_25<((b4_.Arcs.length:Nat):Int))=true then
  (idx b4_.Arcs x_25).bind λ x35=>
  (whl (λ (x:((List Int)×Bool×Int))=>Bc n b0_0_ b4_ o2_ o3_ x29 x_25 x35 x.1 x.2.1 x.2.2) n (column_13,better_2,0)).bind λ y17=>
  some (.inl (y17.1,y17.2,(AE .i64 x_25 1)))
 else
  some (.inr (column_13,better_2))
def Bo (n:Nat) (b0_0_:(List UInt8)) (b4_:AM) (o2_:(List (Nat×Nat))) (o3_:(List Int)) (x29:(Nat×Nat)) (column_11:(List Int)) (better_1:Bool):Option (((List Int)×Bool)⊕(List Int)):=
 if better_1=true then
  (whl (λ (x:((List Int)×Bool×Int))=>Bd n b0_0_ b4_ o2_ o3_ x29 x.1 x.2.1 x.2.2) n (column_11,false,0)).bind λ y18=>
  some (.inl (y18.1,y18.2))
 else
  some (.inr column_11)
def BG (n:Nat) (p0_:Int) (b0_0_:(List UInt8)) (b4_:AM) (o2_:(List (Nat×Nat))) (o3_:(List Int)) (o5_:(List Int)):Option ((List Int)×Int):=
 (idx o2_ p0_).bind λ x29=>
 (whl (λ (x:((List Int)×Int))=>A9 n p0_ b0_0_ b4_ o2_ o3_ x29 x.1 x.2) n (o5_,0)).bind λ y14=>
 (whl (λ (x:((List Int)×Int))=>Bb n p0_ b0_0_ b4_ o2_ o3_ x29 x.1 x.2) n (y14,0)).bind λ y16=>
 (whl (λ (x:((List Int)×Bool))=>Bo n b0_0_ b4_ o2_ o3_ x29 x.1 x.2) n (y16,true)).bind λ y19=>
 (HX n x29 y19).bind λ r19=>
 some (r19.1,r19.2)
def Hy (n:Nat) (p1_:(List UInt8)) (r21:AM) (r22:((List (Nat×Nat))×(List Int)×(List Int))) (m_5:(List Int)) (x_27:(List Int)) (i_2:Int):Option (((List Int)×(List Int)×Int)⊕((List Int)×(List Int))):=
 if decide (i_2>=0)=true then
  (BG n i_2 p1_ r21 r22.1 m_5 x_27).bind λ r24=>
  (idx m_5 i_2).bind λ _=>
  (put m_5 i_2 r24.2).bind λ l21=>
  some (.inl (l21,r24.1,(Dw .i64 i_2 1)))
 else
  some (.inr (m_5,x_27))
def HO (n:Nat) (p0_:Ad) (p1_:(List UInt8)):Option (AX×Int):=
 (FQ n p1_).bind λ r20=>
 if (r20.2 != 0)=true then
  some (({ Text:=[],Costs:=[],Least:=[] }:AX),r20.2)
 else
  (DD n p0_).bind λ r21=>
  (B8 n p1_ r21).bind λ r22=>
  (C3 n p1_ r21 r22.1 r22.2.1 r22.2.2).bind λ _=>
  (whl (λ (x:((List Int)×(List Int)×Int))=>Hy n p1_ r21 r22 x.1 x.2.1 x.2.2) n (r22.2.1,r22.2.2,((p1_.length:Nat):Int))).bind λ y20=>
  (ZX y20.2 r22.1).bind λ _=>
  some (({ Text:=p1_,Costs:=PG y20.2 r22.1,Least:=y20.1 }:AX),0)
def BV (_:Nat) (p1_:AX) (b0_:AM) (x_32:Int):Option (Int⊕(Unit⊕Bool)):=
 if decide (x_32<((p1_.Costs.length:Nat):Int))=true then
  (idx p1_.Costs x_32).bind λ x48=>
  if (((x48.length:Nat):Int) != ((b0_.Arcs.length:Nat):Int))=true then
   some (.inr (.inr false))
  else
   some (.inl (AE .i64 x_32 1))
 else
  some (.inr (.inl ()))
def Dq (n:Nat) (p1_:AX) (b0_:AM):Option Bool:=
 if ((((p1_.Costs.length:Nat):Int) != (AE .i64 ((p1_.Text.length:Nat):Int) 1))||(((p1_.Least.length:Nat):Int) != (AE .i64 ((p1_.Text.length:Nat):Int) 1)))=true then
  some false
 else
  (whl (λ (x:Int)=>BV n p1_ b0_ x) n 0).bind λ y30=>
  match y30 with
  | Sum.inl _=>
   some true
  | Sum.inr y32=>
   some y32
def Bs (_:Nat) (p0_:(List Int)) (p1_:(Nat×Nat)) (o0_:(List Int)) (x_34:Int):Option (Int⊕(Unit⊕Bool)):=
 if decide (x_34<((p0_.length:Nat):Int))=true then
  (idx p0_ x_34).bind λ x49=>
  (ixP o0_ p1_ x_34).bind λ x50=>
  if (x49 != x50)=true then
   some (.inr (.inr false))
  else
   some (.inl (AE .i64 x_34 1))
 else
  some (.inr (.inl ()))
def B9 (n:Nat) (p0_:(List Int)) (p1_:(Nat×Nat)) (o0_:(List Int)):Option Bool:=
 if (((p0_.length:Nat):Int) != ((p1_.2:Nat):Int))=true then
  some false
 else
  (whl (λ (x:Int)=>Bs n p0_ p1_ o0_ x) n 0).bind λ y33=>
  match y33 with
  | Sum.inl _=>
   some true
  | Sum.inr y35=>
   some y35
def Cr (_:Nat) (j_2:Int) (shift_6:Int) (known_4:Bool):Option ((Int×Bool×Int)⊕(Int⊕(Int×Bool))):=
 some (.inl (shift_6,known_4,(AE .i64 j_2 1)))
def Cs (n:Nat) (p0_:AX) (_:(List UInt8)) (p2_:Int) (o0_:(List (Nat×Nat))) (o1_:(List Int)) (o2_:(List Int)) (shift_4:Int) (known_3:Bool) (j_2:Int):Option ((Int×Bool×Int)⊕(Int⊕(Int×Bool))):=
 if decide (j_2<=AE .i64 p2_ 3)=true then
  (idx p0_.Costs j_2).bind λ x51=>
  (idx o0_ j_2).bind λ x52=>
  (B9 n x51 x52 o2_).bind λ r26=>
  if (!r26)=true then
   some (.inr (.inr (0,false)))
  else
   (idx p0_.Least j_2).bind λ x53=>
   (if (!(decide (x53<0)))=true then idx o1_ j_2 else some default).bind λ x54=>
   if ((decide (x53<0))||(decide (x54<0)))=true then
    Cr n j_2 shift_4 known_3
   else
    (idx o1_ j_2).bind λ x55=>
    (idx p0_.Least j_2).bind λ x56=>
    if (known_3&&((Dw .i64 x55 x56) != shift_4))=true then
     some (.inr (.inr (0,false)))
    else
     Cr n j_2 (Dw .i64 x55 x56) true
 else
  some (.inr (.inl shift_4))
def Et (n:Nat) (p0_:AX) (p1_0_:(List UInt8)) (p2_:Int) (o0_:(List (Nat×Nat))) (o1_:(List Int)) (o2_:(List Int)):Option (Int×Bool):=
 (whl (λ (x:(Int×Bool×Int))=>Cs n p0_ p1_0_ p2_ o0_ o1_ o2_ x.1 x.2.1 x.2.2) n (0,false,p2_)).bind λ y36=>
 match y36 with
 | Sum.inl y37=>
  some (y37,true)
 | Sum.inr y38=>
  some y38
def CF (_:Nat) (p1_:AX) (p2_:B6) (s6:(List UInt8)) (_:AM) (r30:((List (Nat×Nat))×(List Int)×(List Int))) (result_1:(List Int)) (x_37:(List Int)) (i_3:Int):Option (((List Int)×(List Int)×Int)⊕((List Int)×(List Int))):=
 if decide (i_3<=((s6.length:Nat):Int))=true then
  (idx r30.1 i_3).bind λ x57=>
  (idx p1_.Costs (AE .i64 (Dw .i64 i_3 ((p2_.Put.length:Nat):Int)) p2_.Cut)).bind λ x58=>
  (ZW x_37 x58 x57.1 x57.2).bind λ l22=>
  (idx p1_.Least (AE .i64 (Dw .i64 i_3 ((p2_.Put.length:Nat):Int)) p2_.Cut)).bind λ x59=>
  (idx result_1 i_3).bind λ _=>
  (put result_1 i_3 x59).bind λ l23=>
  some (.inl (l23,l22,(AE .i64 i_3 1)))
 else
  some (.inr (result_1,x_37))
def C8 (_:Nat) (count_1:Int) (i_4:Int) (result_5:(List Int)) (x_41:(List Int)):Option (((List Int)×(List Int)×Int×Int)⊕((List Int)×(List Int)×Int×Int×Int)):=
 some (.inl (result_5,x_41,(AE .i64 count_1 1),(Dw .i64 i_4 1)))
def C9 (n:Nat) (p1_:AX) (p2_:B6) (s6:(List UInt8)) (r28:AM) (r30:((List (Nat×Nat))×(List Int)×(List Int))) (result_3:(List Int)) (x_39:(List Int)) (count_1:Int) (i_4:Int):Option (((List Int)×(List Int)×Int×Int)⊕((List Int)×(List Int)×Int×Int×Int)):=
 if decide (i_4>=0)=true then
  (BG n i_4 s6 r28 r30.1 result_3 x_39).bind λ r32=>
  (idx result_3 i_4).bind λ _=>
  (put result_3 i_4 r32.2).bind λ l24=>
  if decide (AE .i64 i_4 3>p2_.At)=true then
   C8 n count_1 i_4 l24 r32.1
  else
   (Et n p1_ s6 i_4 r30.1 l24 r32.1).bind λ r33=>
   if r33.2=true then
    some (.inr (l24,r32.1,(AE .i64 count_1 1),i_4,r33.1))
   else
    C8 n count_1 i_4 l24 r32.1
 else
  some (.inr (result_3,x_39,count_1,0,0))
def Da (_:Nat) (x_43:Int) (result_8:(List Int)) (x_45:(List Int)):Option (((List Int)×(List Int)×Int)⊕((List Int)×(List Int))):=
 some (.inl (result_8,x_45,(AE .i64 x_43 1)))
def CG (n:Nat) (p1_:AX) (_:(List UInt8)) (r30:((List (Nat×Nat))×(List Int)×(List Int))) (y40:((List Int)×(List Int)×Int×Int×Int)) (result_6:(List Int)) (x_42:(List Int)) (x_43:Int):Option (((List Int)×(List Int)×Int)⊕((List Int)×(List Int))):=
 if decide (x_43<y40.2.2.2.1)=true then
  (idx r30.1 x_43).bind λ x62=>
  (idx p1_.Costs x_43).bind λ x63=>
  (ZW x_42 x63 x62.1 x62.2).bind λ l25=>
  (idx p1_.Least x_43).bind λ x64=>
  (idx result_6 x_43).bind λ _=>
  (put result_6 x_43 x64).bind λ l26=>
  (idx p1_.Least x_43).bind λ x66=>
  if decide (x66>=0)=true then
   (idx l26 x_43).bind λ x67=>
   (idx l26 x_43).bind λ _=>
   (put l26 x_43 (AE .i64 x67 y40.2.2.2.2)).bind λ l27=>
   Da n x_43 l27 l25
  else
   Da n x_43 l26 l25
 else
  some (.inr (result_6,x_42))
def BW (n:Nat) (p0_:Ad) (p1_:AX) (p2_:B6):Option (AX×Int×Int):=
 if ((((decide (p2_.At<0))||(decide (p2_.Cut<0)))||(decide (p2_.At>((p1_.Text.length:Nat):Int))))||(decide (p2_.Cut>Dw .i64 ((p1_.Text.length:Nat):Int) p2_.At)))=true then
  some (({ Text:=[],Costs:=[],Least:=[] }:AX),0,1)
 else
  (sub p1_.Text 0 p2_.At).bind λ s3=>
  (cat s3 p2_.Put).bind λ s4=>
  (sub p1_.Text (AE .i64 p2_.At p2_.Cut) ((p1_.Text.length:Nat):Int)).bind λ s5=>
  (cat s4 s5).bind λ s6=>
  (FQ n s6).bind λ r27=>
  if (r27.2 != 0)=true then
   some (({ Text:=[],Costs:=[],Least:=[] }:AX),0,r27.2)
  else
   (DD n p0_).bind λ r28=>
   (Dq n p1_ r28).bind λ r29=>
   if (!r29)=true then
    some (({ Text:=[],Costs:=[],Least:=[] }:AX),0,1)
   else
    (B8 n s6 r28).bind λ r30=>
    (whl (λ (x:((List Int)×(List Int)×Int))=>CF n p1_ p2_ s6 r28 r30 x.1 x.2.1 x.2.2) n (r30.2.1,r30.2.2,(AE .i64 p2_.At ((p2_.Put.length:Nat):Int)))).bind λ y39=>
    (C3 n s6 r28 r30.1 y39.1 y39.2).bind λ _=>
    (whl (λ (x:((List Int)×(List Int)×Int×Int))=>C9 n p1_ p2_ s6 r28 r30 x.1 x.2.1 x.2.2.1 x.2.2.2) n (y39.1,y39.2,0,(Dw .i64 (AE .i64 p2_.At ((p2_.Put.length:Nat):Int)) 1))).bind λ y40=>
    (whl (λ (x:((List Int)×(List Int)×Int))=>CG n p1_ s6 r30 y40 x.1 x.2.1 x.2.2) n (y40.1,y40.2.1,0)).bind λ y41=>
    (ZX y41.2 r30.1).bind λ _=>
    some (({ Text:=s6,Costs:=PG y41.2 r30.1,Least:=y41.1 }:AX),y40.2.2.1,0)
def Fb (n:Nat) (p0_:(List UInt8)) (x_46:Int):Option (Int⊕(Unit⊕Bool)):=
 if decide (x_46<((p0_.length:Nat):Int))=true then
  (NS p0_ x_46).bind λ b4=>
  (Es n b4).bind λ r34=>
  if (r34==4)=true then
   some (.inr (.inr true))
  else
   some (.inl (AE .i64 x_46 1))
 else
  some (.inr (.inl ()))
def Hz (n:Nat) (p0_:(List UInt8)):Option Bool:=
 (whl (λ (x:Int)=>Fb n p0_ x) n 0).bind λ y42=>
 match y42 with
 | Sum.inl _=>
  some false
 | Sum.inr y44=>
  some y44
def MH (_:Nat) (p0_:Int):Option Bool:=
 some (decide (p0_<64))
def HA (n:Nat) (p0_:Ax) (x_47:Int):Option (Int⊕(Unit⊕Bool)):=
 if decide (x_47<((p0_.Cells.length:Nat):Int))=true then
  (idx p0_.Cells x_47).bind λ x70=>
  (MH n x70).bind λ r37=>
  if (((!r37)||(x70==63))||(x70==0))=true then
   some (.inr (.inr false))
  else
   some (.inl (AE .i64 x_47 1))
 else
  some (.inr (.inl ()))
def MI (n:Nat) (p0_:Ax) (p1_:Int):Option Bool:=
 if (((decide (((p0_.Print.length:Nat):Int)>4))||(decide (((p0_.Cells.length:Nat):Int)<1)))||(decide (((p0_.Cells.length:Nat):Int)>4)))=true then
  some false
 else
  (FQ n p0_.Print).bind λ r35=>
  if (r35.2 != 0)=true then
   some false
  else
   if ((((decide (p0_.Left<1))||(decide (p0_.Left>63)))||(decide (p0_.Right<1)))||(decide (p0_.Right>63)))=true then
    some false
   else
    if ((((decide (p0_.From<0))||(decide (p0_.From>=p1_)))||(decide (p0_.To<0)))||(decide (p0_.To>=p1_)))=true then
     some false
    else
     (Hz n p0_.Print).bind λ r36=>
     if r36=true then
      (if ((((p0_.Print.length:Nat):Int)==1)&&(((p0_.Cells.length:Nat):Int)==1))=true then idx p0_.Cells 0 else some default).bind λ x69=>
      some (((((p0_.Print.length:Nat):Int)==1)&&(((p0_.Cells.length:Nat):Int)==1))&&(x69==0))
     else
      (whl (λ (x:Int)=>HA n p0_ x) n 0).bind λ y45=>
      match y45 with
      | Sum.inl _=>
       some true
      | Sum.inr y47=>
       some y47
def HB (_:Nat) (p0_:(List Int)) (p1_:(List Int)) (x_48:Int):Option (Int⊕(Unit⊕Bool)):=
 if decide (x_48<((p0_.length:Nat):Int))=true then
  (idx p0_ x_48).bind λ x71=>
  (idx p1_ x_48).bind λ x72=>
  if (x71 != x72)=true then
   some (.inr (.inr false))
  else
   some (.inl (AE .i64 x_48 1))
 else
  some (.inr (.inl ()))
def MJ (n:Nat) (p0_:(List Int)) (p1_:(List Int)):Option Bool:=
 if (((p0_.length:Nat):Int) != ((p1_.length:Nat):Int))=true then
  some false
 else
  (whl (λ (x:Int)=>HB n p0_ p1_ x) n 0).bind λ y48=>
  match y48 with
  | Sum.inl _=>
   some true
  | Sum.inr y50=>
   some y50
def MK (n:Nat) (p0_:Ax) (p1_:Ax):Option Bool:=
 (if (((((p0_.From==p1_.From)&&(p0_.To==p1_.To))&&(p0_.Left==p1_.Left))&&(p0_.Right==p1_.Right))&&(p0_.Print==p1_.Print))=true then MJ n p0_.Cells p1_.Cells else some default).bind λ r38=>
 some ((((((p0_.From==p1_.From)&&(p0_.To==p1_.To))&&(p0_.Left==p1_.Left))&&(p0_.Right==p1_.Right))&&(p0_.Print==p1_.Print))&&r38)
def HC (n:Nat) (_:Ad) (x_49:Int) (x73:Ax) (l28:(List Ax)) (x_50:Int):Option (Int⊕(Unit⊕(Int×Int))):=
 if decide (x_50<((l28.length:Nat):Int))=true then
  (idx l28 x_50).bind λ x74=>
  (MK n x74 x73).bind λ r40=>
  if r40=true then
   some (.inr (.inr (x_49,20)))
  else
   some (.inl (AE .i64 x_50 1))
 else
  some (.inr (.inl ()))
def HD (n:Nat) (p0_:Ad) (x_49:Int):Option (Int⊕(Unit⊕(Int×Int))):=
 if decide (x_49<((p0_.Rules.length:Nat):Int))=true then
  (idx p0_.Rules x_49).bind λ x73=>
  (MI n x73 p0_.Modes).bind λ r39=>
  if (!r39)=true then
   some (.inr (.inr (x_49,20)))
  else
   (sub p0_.Rules 0 x_49).bind λ l28=>
   (whl (λ (x:Int)=>HC n p0_ x_49 x73 l28 x) n 0).bind λ y51=>
   match y51 with
   | Sum.inl _=>
    some (.inl (AE .i64 x_49 1))
   | Sum.inr y53=>
    some (.inr (.inr y53))
 else
  some (.inr (.inl ()))
def ML (n:Nat) (p0_:Ad):Option (Int×Int):=
 if ((decide (p0_.Modes<1))||(decide (p0_.Modes>8)))=true then
  some ((-1),1)
 else
  (if (!(p0_.Accept==0))=true then BE (decide (0<=p0_.Modes)) else some default).bind λ _=>
  if ((p0_.Accept==0)||(decide (IntKind.i64.wrap p0_.Accept>=Tj .i64 1 p0_.Modes)))=true then
   some ((-1),1)
  else
   if ((decide (((p0_.Rules.length:Nat):Int)<1))||(decide (((p0_.Rules.length:Nat):Int)>64)))=true then
    some ((-1),1)
   else
    (whl (λ (x:Int)=>HD n p0_ x) n 0).bind λ y54=>
    match y54 with
    | Sum.inl _=>
     some (0,0)
    | Sum.inr y56=>
     some y56
def MM (n:Nat) (p0_:Ad):Option Bool:=
 (ML n p0_).bind λ r41=>
 some (r41.2==0)
def Ed (_:Nat) (p0_:Int):Option Bool:=
 some (p0_ != p0_)
def GL (n:Nat) (p0_:Int) (p1_:Int):Option Bool:=
 (Ed n p0_).bind λ r43=>
 (if r43=true then Ed n p1_ else some default).bind λ r44=>
 some ((r43&&(!r44))||(decide (p0_<p1_)))
def EQ (_:Nat) (p0_:Int):Option Bool:=
 some (p0_ != p0_)
def BQ (n:Nat) (p0_:(List Int)) (p1_:Int) (i_5:Int) (j_3:Int):Option ((Int×Int)⊕Int):=
 if decide (i_5<j_3)=true then
  (idx p0_ (IntKind.i64.wrap (WM .u64 (IntKind.u64.wrap (AE .i64 i_5 j_3)) 1))).bind λ x76=>
  (GL n x76 p1_).bind λ r45=>
  if r45=true then
   some (.inl ((AE .i64 (IntKind.i64.wrap (WM .u64 (IntKind.u64.wrap (AE .i64 i_5 j_3)) 1)) 1),j_3))
  else
   some (.inl (i_5,(IntKind.i64.wrap (WM .u64 (IntKind.u64.wrap (AE .i64 i_5 j_3)) 1))))
 else
  some (.inr i_5)
def Cd (n:Nat) (p0_:(List Int)) (p1_:Int):Option (Int×Bool):=
 (whl (λ (x:(Int×Int))=>BQ n p0_ p1_ x.1 x.2) n (0,((p0_.length:Nat):Int))).bind λ y57=>
 (if decide (y57<((p0_.length:Nat):Int))=true then idx p0_ y57 else some default).bind λ x77=>
 (if ((decide (y57<((p0_.length:Nat):Int)))&&!(x77==p1_))=true then idx p0_ y57 else some default).bind λ x78=>
 (if ((decide (y57<((p0_.length:Nat):Int)))&&!(x77==p1_))=true then EQ n x78 else some default).bind λ r46=>
 (if (((decide (y57<((p0_.length:Nat):Int)))&&!(x77==p1_))&&r46)=true then EQ n p1_ else some default).bind λ r47=>
 some (y57,((decide (y57<((p0_.length:Nat):Int)))&&((x77==p1_)||(r46&&r47))))
def CV (n:Nat) (p0_:AC) (p1_:Int):Option Int:=
 (Cd n p0_.States p1_).bind λ r48=>
 if (!r48.2)=true then
  some (-1)
 else
  (idx p0_.Costs r48.1).bind λ x79=>
  some x79
def Eu (_:Nat) (_:Ad) (_:(List UInt8)) (r52:(List Ab)) (_:(List AC)) (number_8:(List (Ab×Int))) (x_53:Int):Option (((List (Ab×Int))×Int)⊕(List (Ab×Int))):=
 if decide (x_53<((r52.length:Nat):Int))=true then
  (idx r52 x_53).bind λ x85=>
  some (.inl ((LO x85 x_53 number_8),(AE .i64 x_53 1)))
 else
  some (.inr number_8)
def Dr (_:Nat) (x_55:Int) (w_5:Af):Option ((Af×Int)⊕Af):=
 some (.inl (w_5,(AE .i64 x_55 1)))
def Ew (n:Nat) (p0_:Ad) (_:(List Ab)) (y62:(List (Ab×Int))) (x_54:Int) (x86:Ab) (w_3:Af) (x_55:Int):Option ((Af×Int)⊕Af):=
 if decide (x_55<((p0_.Rules.length:Nat):Int))=true then
  (GY n p0_ x86 x_55).bind λ r53=>
  if r53.2=true then
   (idx w_3.Arcs x_54).bind λ x87=>
   (app 16 x87 [({ Rule:=x_55,To:=(Option.getD (Ga r53.1 y62) 0) }:A8)]).bind λ l33=>
   Dr n x_55 ({ T:=w_3.T,S:=w_3.S,States:=w_3.States,Arcs:=List.set w_3.Arcs x_54.toNat l33,Columns:=w_3.Columns,Last:=w_3.Last }:Af)
  else
   Dr n x_55 w_3
 else
  some (.inr w_3)
def Ey (n:Nat) (p0_:Ad) (r52:(List Ab)) (y62:(List (Ab×Int))) (w_1:Af) (x_54:Int):Option ((Af×Int)⊕Af):=
 if decide (x_54<((r52.length:Nat):Int))=true then
  (idx r52 x_54).bind λ x86=>
  (whl (λ (x:(Af×Int))=>Ew n p0_ r52 y62 x_54 x86 x.1 x.2) n (w_1,0)).bind λ y63=>
  some (.inl (y63,(AE .i64 x_54 1)))
 else
  some (.inr w_1)
def GM (n:Nat) (p0_:Ad) (p1_:(List UInt8)):Option Af:=
 (GB n p0_).bind λ r52=>
 (mkl 48 (AE .i64 ((p1_.length:Nat):Int) 1) (⟨[],[]⟩:AC)).bind λ l31=>
 (whl (λ (x:((List (Ab×Int))×Int))=>Eu n p0_ p1_ r52 l31 x.1 x.2) n ([],0)).bind λ y62=>
 (mkl 24 ((r52.length:Nat):Int) ([]:(List A8))).bind λ l32=>
 (whl (λ (x:(Af×Int))=>Ey n p0_ r52 y62 x.1 x.2) n (({ T:=p0_,S:=p1_,States:=r52,Arcs:=l32,Columns:=l31,Last:=0 }:Af),0)).bind λ y64=>
 some y64
def CL (_:Nat) (p0_:Int) (p1_:Int) (b2_:Af) (o0_:(List (List Bool))):Option (Af×(List (List Bool))):=
 (idx o0_ (By p0_ 5)).bind λ x88=>
 (BE (decide (0<=By p0_ 5/\By p0_ 5<((5:Nat):Int)))).bind λ _=>
 (idx x88 p1_).bind λ x89=>
 if (!x89)=true then
  (idx x88 p1_).bind λ _=>
  (put x88 p1_ true).bind λ l34=>
  (idx b2_.Columns p0_).bind λ x91=>
  (app 8 x91.States [p1_]).bind λ l35=>
  some (({ T:=b2_.T,S:=b2_.S,States:=b2_.States,Arcs:=b2_.Arcs,Columns:=List.set b2_.Columns p0_.toNat ({ States:=l35,Costs:=x91.Costs }:AC),Last:=b2_.Last }:Af),(List.set o0_ (Int.toNat (By p0_ 5)) l34))
 else
  some (b2_,(List.set o0_ (Int.toNat (By p0_ 5)) x88))
def Ca (n:Nat) (p1_:Int) (p2_:Int) (b0_:Af):Option (Int×Bool):=
 (idx b0_.T.Rules p2_).bind λ x92=>
 (sub b0_.S p1_ ((b0_.S.length:Nat):Int)).bind λ s8=>
 (DU n s8 x92.Print).bind λ r54=>
 some ((AE .i64 p1_ ((x92.Print.length:Nat):Int)),r54)
def Y4 (_:Nat) (o0_:(List Int)):Option (List Int):=
 Jba o0_
def De (_:Nat) (b0_:Af) (known_5:(List (List Bool))) (x_61:Int):Option (((List (List Bool))×Int)⊕(List (List Bool))):=
 if decide (x_61<5)=true then
  (idx known_5 x_61).bind λ _=>
  (mkl 1 ((b0_.States.length:Nat):Int) (false:Bool)).bind λ l36=>
  (BE (decide (0<=x_61/\x_61<((5:Nat):Int)))).bind λ _=>
  some (.inl ((List.set known_5 x_61.toNat l36),(AE .i64 x_61 1)))
 else
  some (.inr known_5)
def Cv (_:Nat) (x_64:Int) (w_12:Af) (known_12:(List (List Bool))):Option ((Af×(List (List Bool))×Int)⊕(Af×(List (List Bool)))):=
 some (.inl (w_12,known_12,(AE .i64 x_64 1)))
def Df (n:Nat) (_:(Af×(List (List Bool)))) (x_62:Int) (_:Int) (_:Int) (x97:(List A8)) (w_10:Af) (known_10:(List (List Bool))) (x_64:Int):Option ((Af×(List (List Bool))×Int)⊕(Af×(List (List Bool)))):=
 if decide (x_64<((x97.length:Nat):Int))=true then
  (idx x97 x_64).bind λ x98=>
  (Ca n x_62 x98.Rule w_10).bind λ r56=>
  if r56.2=true then
   (CL n r56.1 x98.To w_10 known_10).bind λ r57=>
   Cv n x_64 r57.1 r57.2
  else
   Cv n x_64 w_10 known_10
 else
  some (.inr (w_10,known_10))
def Cw (n:Nat) (r55:(Af×(List (List Bool)))) (x_62:Int) (class_1:Int) (known_8:(List (List Bool))) (i_7:Int) (x96:Int) (w_9:Af):Option ((Af×(List (List Bool))×Int)⊕(Af×(List (List Bool)))):=
 (idx w_9.Arcs x96).bind λ x97=>
 (whl (λ (x:(Af×(List (List Bool))×Int))=>Df n r55 x_62 class_1 i_7 x97 x.1 x.2.1 x.2.2) n (w_9,known_8,0)).bind λ y66=>
 some (.inl (y66.1,y66.2,(AE .i64 i_7 1)))
def Dg (n:Nat) (r55:(Af×(List (List Bool)))) (x_62:Int) (class_1:Int) (w_7:Af) (known_8:(List (List Bool))) (i_7:Int):Option ((Af×(List (List Bool))×Int)⊕(Af×(List (List Bool)))):=
 (idx w_7.Columns x_62).bind λ x94=>
 if decide (i_7<((x94.States.length:Nat):Int))=true then
  (idx (List.set w_7.Columns x_62.toNat x94) x_62).bind λ x95=>
  (idx x95.States i_7).bind λ x96=>
  (idx w_7.States x96).bind λ x99=>
  (BE (decide (0<=class_1))).bind λ _=>
  if ((Ch .u8 (WM .u8 x99.Need class_1) 1)==1)=true then
   Cw n r55 x_62 class_1 known_8 i_7 x96 ({ T:=w_7.T,S:=w_7.S,States:=w_7.States,Arcs:=w_7.Arcs,Columns:=List.set (List.set w_7.Columns x_62.toNat x94) x_62.toNat x95,Last:=x_62 }:Af)
  else
   Cw n r55 x_62 class_1 known_8 i_7 x96 ({ T:=w_7.T,S:=w_7.S,States:=w_7.States,Arcs:=w_7.Arcs,Columns:=List.set (List.set w_7.Columns x_62.toNat x94) x_62.toNat x95,Last:=w_7.Last }:Af)
 else
  some (.inr (({ T:=w_7.T,S:=w_7.S,States:=w_7.States,Arcs:=w_7.Arcs,Columns:=List.set w_7.Columns x_62.toNat x94,Last:=w_7.Last }:Af),known_8))
def Cy (n:Nat) (r55:(Af×(List (List Bool)))) (w_6:Af) (known_7:(List (List Bool))) (x_62:Int) (class_1:Int):Option ((Af×(List (List Bool))×Int)⊕Af):=
 (whl (λ (x:(Af×(List (List Bool))×Int))=>Dg n r55 x_62 class_1 x.1 x.2.1 x.2.2) n (w_6,known_7,0)).bind λ y67=>
 (idx y67.1.Columns x_62).bind λ x100=>
 (Y4 n x100.States).bind λ r58=>
 (BE (decide (List.length x100.States=List.length r58))).bind λ _=>
 (idx y67.2 (By x_62 5)).bind λ x101=>
 (BE (decide (0<=By x_62 5/\By x_62 5<((5:Nat):Int)))).bind λ _=>
 some (.inl (({ T:=y67.1.T,S:=y67.1.S,States:=y67.1.States,Arcs:=y67.1.Arcs,Columns:=List.set y67.1.Columns x_62.toNat ({ States:=r58,Costs:=x100.Costs }:AC),Last:=y67.1.Last }:Af),(List.set y67.2 (Int.toNat (By x_62 5)) (List.replicate (x101.length) (false:Bool))),(AE .i64 x_62 1)))
def Dh (n:Nat) (r55:(Af×(List (List Bool)))) (w_6:Af) (known_7:(List (List Bool))) (x_62:Int):Option ((Af×(List (List Bool))×Int)⊕Af):=
 if decide (x_62<((r55.1.Columns.length:Nat):Int))=true then
  if decide (x_62<((w_6.S.length:Nat):Int))=true then
   (NS w_6.S x_62).bind λ b5=>
   (Es n b5).bind λ r59=>
   Cy n r55 w_6 known_7 x_62 r59
  else
   Cy n r55 w_6 known_7 x_62 0
 else
  some (.inr w_6)
def Ez (n:Nat) (b0_:Af):Option Af:=
 (whl (λ (x:((List (List Bool))×Int))=>De n b0_ x.1 x.2) n (([[],[],[],[],[]]:List (List Bool)),0)).bind λ y65=>
 (CL n 0 0 b0_ y65).bind λ r55=>
 (whl (λ (x:(Af×(List (List Bool))×Int))=>Dh n r55 x.1 x.2.1 x.2.2) n (r55.1,r55.2,0)).bind λ y68=>
 some y68
def BI (_:Nat) (x_68:Int) (x_70:Af) (better_9:Bool):Option ((Af×Bool×Int)⊕(Af×Bool)):=
 some (.inl (x_70,better_9,(AE .i64 x_68 1)))
def CP (n:Nat) (p0_:Int) (p1_:Bool) (b1_0_:Int) (b2_0_:Int) (x104:(List A8)) (x_67:Af) (better_7:Bool) (x_68:Int):Option ((Af×Bool×Int)⊕(Af×Bool)):=
 if decide (x_68<((x104.length:Nat):Int))=true then
  (idx x104 x_68).bind λ x105=>
  (Ca n b2_0_ x105.Rule x_67).bind λ r60=>
  if ((!r60.2)||(!((r60.1==b2_0_)==p1_)))=true then
   BI n x_68 x_67 better_7
  else
   (idx x_67.Columns r60.1).bind λ x106=>
   (CV n x106 x105.To).bind λ r61=>
   (idx x_67.T.Rules x105.Rule).bind λ x107=>
   (idx x_67.Columns b1_0_).bind λ x108=>
   (if decide (r61>=0)=true then idx x108.Costs p0_ else some default).bind λ x109=>
   (if ((decide (r61>=0))&&!(decide (x109<0)))=true then idx x108.Costs p0_ else some default).bind λ x110=>
   if ((decide (r61>=0))&&((decide (x109<0))||(decide (AE .i64 r61 ((x107.Cells.length:Nat):Int)<x110))))=true then
    (idx (List.set x_67.Columns b1_0_.toNat x108) b1_0_).bind λ x111=>
    (idx x111.Costs p0_).bind λ _=>
    (put x111.Costs p0_ (AE .i64 r61 ((x107.Cells.length:Nat):Int))).bind λ l37=>
    BI n x_68 ({ T:=x_67.T,S:=x_67.S,States:=x_67.States,Arcs:=x_67.Arcs,Columns:=List.set (List.set x_67.Columns b1_0_.toNat x108) b1_0_.toNat ({ States:=x111.States,Costs:=l37 }:AC),Last:=x_67.Last }:Af) true
   else
    BI n x_68 ({ T:=x_67.T,S:=x_67.S,States:=x_67.States,Arcs:=x_67.Arcs,Columns:=List.set x_67.Columns b1_0_.toNat x108,Last:=x_67.Last }:Af) better_7
 else
  some (.inr (x_67,better_7))
def CM (n:Nat) (p0_:Int) (p1_:Bool) (b1_0_:Int) (b2_0_:Int) (b3_:Af):Option (Af×Bool):=
 (idx b3_.Columns b1_0_).bind λ x102=>
 (idx x102.States p0_).bind λ x103=>
 (idx b3_.Arcs x103).bind λ x104=>
 (whl (λ (x:(Af×Bool×Int))=>CP n p0_ p1_ b1_0_ b2_0_ x104 x.1 x.2.1 x.2.2) n (({ T:=b3_.T,S:=b3_.S,States:=b3_.States,Arcs:=b3_.Arcs,Columns:=List.set b3_.Columns b1_0_.toNat x102,Last:=b3_.Last }:Af),false,0)).bind λ y69=>
 some (y69.1,y69.2)
def Cz (_:Nat) (x_73:Int) (r_2:(List Int)):Option (((List Int)×Int)⊕Af):=
 some (.inl (r_2,(AE .i64 x_73 1)))
def Di (n:Nat) (w_13:Af) (place_3:Int) (x114:AC) (l38:(List Int)) (x115:AC) (r_1:(List Int)) (x_73:Int):Option (((List Int)×Int)⊕Af):=
 if decide (x_73<((x115.States.length:Nat):Int))=true then
  (idx x115.States x_73).bind λ x116=>
  (idx (List.set w_13.Columns place_3.toNat ({ States:=x114.States,Costs:=l38 }:AC)) place_3).bind λ _=>
  (idx r_1 x_73).bind λ _=>
  (put r_1 x_73 (-1)).bind λ l39=>
  (if (place_3==((w_13.S.length:Nat):Int))=true then idx w_13.States x116 else some default).bind λ x119=>
  (if (place_3==((w_13.S.length:Nat):Int))=true then Ec n w_13.T x119 else some default).bind λ r62=>
  if ((place_3==((w_13.S.length:Nat):Int))&&r62)=true then
   (idx l39 x_73).bind λ _=>
   (put l39 x_73 0).bind λ l40=>
   Cz n x_73 l40
  else
   Cz n x_73 l39
 else
  some (.inr ({ T:=w_13.T,S:=w_13.S,States:=w_13.States,Arcs:=w_13.Arcs,Columns:=List.set (List.set w_13.Columns place_3.toNat ({ States:=x114.States,Costs:=l38 }:AC)) place_3.toNat ({ States:=x115.States,Costs:=r_1 }:AC),Last:=w_13.Last }:Af))
def Dj (n:Nat) (place_3:Int) (x121:AC) (w_15:Af) (x_74:Int):Option ((Af×Int)⊕Af):=
 if decide (x_74<((x121.States.length:Nat):Int))=true then
  (CM n x_74 false place_3 place_3 w_15).bind λ r63=>
  some (.inl (r63.1,(AE .i64 x_74 1)))
 else
  some (.inr w_15)
def Dk (n:Nat) (place_3:Int) (x122:AC) (w_19:Af) (better_10:Bool) (x_75:Int):Option ((Af×Bool×Int)⊕(Af×Bool)):=
 if decide (x_75<((x122.States.length:Nat):Int))=true then
  (CM n x_75 true place_3 place_3 w_19).bind λ r64=>
  some (.inl (r64.1,(r64.2||better_10),(AE .i64 x_75 1)))
 else
  some (.inr (w_19,better_10))
def Dl (n:Nat) (place_3:Int) (w_17:Af):Option (Af⊕Af):=
 (idx w_17.Columns place_3).bind λ x122=>
 (whl (λ (x:(Af×Bool×Int))=>Dk n place_3 x122 x.1 x.2.1 x.2.2) n (({ T:=w_17.T,S:=w_17.S,States:=w_17.States,Arcs:=w_17.Arcs,Columns:=List.set w_17.Columns place_3.toNat x122,Last:=w_17.Last }:Af),false,0)).bind λ y72=>
 if (!y72.2)=true then
  some (.inr y72.1)
 else
  some (.inl y72.1)
def Dm (n:Nat) (w_13:Af) (place_3:Int):Option ((Af×Int)⊕Af):=
 if decide (place_3>=0)=true then
  (idx w_13.Columns place_3).bind λ _=>
  (idx w_13.Columns place_3).bind λ x114=>
  (mkl 8 ((x114.States.length:Nat):Int) (0:Int)).bind λ l38=>
  (idx (List.set w_13.Columns place_3.toNat ({ States:=x114.States,Costs:=l38 }:AC)) place_3).bind λ x115=>
  (whl (λ (x:((List Int)×Int))=>Di n w_13 place_3 x114 l38 x115 x.1 x.2) n (x115.Costs,0)).bind λ y70=>
  (idx y70.Columns place_3).bind λ x121=>
  (whl (λ (x:(Af×Int))=>Dj n place_3 x121 x.1 x.2) n (({ T:=y70.T,S:=y70.S,States:=y70.States,Arcs:=y70.Arcs,Columns:=List.set y70.Columns place_3.toNat x121,Last:=y70.Last }:Af),0)).bind λ y71=>
  (whl (λ (x:Af)=>Dl n place_3 x) n y71).bind λ y73=>
  some (.inl (y73,(Dw .i64 place_3 1)))
 else
  some (.inr w_13)
def EA (n:Nat) (b0_:Af):Option Af:=
 (whl (λ (x:(Af×Int))=>Dm n x.1 x.2) n (b0_,((b0_.S.length:Nat):Int))).bind λ y74=>
 some y74
def BX (_:Nat) (x_77:Int):Option (Int⊕((AT×Int×Int×Int)⊕Unit)):=
 some (.inl (AE .i64 x_77 1))
def CB (n:Nat) (b0_:Af) (result_12:AT) (place_4:Int) (cost_3:Int) (x124:(List A8)) (x_77:Int):Option (Int⊕((AT×Int×Int×Int)⊕Unit)):=
 if decide (x_77<((x124.length:Nat):Int))=true then
  (idx x124 x_77).bind λ x125=>
  (Ca n place_4 x125.Rule b0_).bind λ r66=>
  if (!r66.2)=true then
   BX n x_77
  else
   (idx b0_.T.Rules x125.Rule).bind λ x126=>
   (idx b0_.Columns r66.1).bind λ x127=>
   (CV n x127 x125.To).bind λ r67=>
   if ((decide (r67<0))||(r67 != (Dw .i64 cost_3 ((x126.Cells.length:Nat):Int))))=true then
    BX n x_77
   else
    (app 1 result_12.Cells x126.Cells).bind λ l41=>
    (app 8 result_12.Path [x125.Rule]).bind λ l42=>
    some (.inr (.inl (({ Cells:=l41,Path:=l42 }:AT),r66.1,x125.To,(Dw .i64 cost_3 ((x126.Cells.length:Nat):Int)))))
 else
  some (.inr (.inr ()))
def CC (n:Nat) (b0_:Af) (result_12:AT) (place_4:Int) (state_3:Int) (cost_3:Int):Option ((AT×Int×Int×Int)⊕AT):=
 if decide (cost_3>0)=true then
  (idx b0_.Arcs state_3).bind λ x124=>
  (whl (λ (x:Int)=>CB n b0_ result_12 place_4 cost_3 x124 x) n 0).bind λ y75=>
  match y75 with
  | Sum.inl y76=>
   some (.inl (y76.1,y76.2.1,y76.2.2.1,y76.2.2.2))
  | Sum.inr _=>
   some (.inr result_12)
 else
  some (.inr result_12)
def Dn (n:Nat) (b0_:Af):Option AT:=
 (idx b0_.Columns 0).bind λ x123=>
 (CV n x123 0).bind λ r65=>
 (whl (λ (x:(AT×Int×Int×Int))=>CC n b0_ x.1 x.2.1 x.2.2.1 x.2.2.2) n (({ Cells:=([]:List Int),Path:=([]:List Int) }:AT),0,0,r65)).bind λ y78=>
 some y78
def MN (n:Nat) (p0_:Ad) (p1_:(List UInt8)):Option (AT×Int×Int):=
 (FQ n p1_).bind λ r68=>
 if (r68.2 != 0)=true then
  some (({ Cells:=[],Path:=[] }:AT),r68.1,r68.2)
 else
  (MM n p0_).bind λ r69=>
  if (!r69)=true then
   some (({ Cells:=[],Path:=[] }:AT),0,61)
  else
   (GM n p0_ p1_).bind λ r70=>
   (Ez n r70).bind λ r71=>
   (EA n r71).bind λ r72=>
   (idx r72.Columns 0).bind λ x128=>
   (idx x128.Costs 0).bind λ x129=>
   if decide (x129<0)=true then
    some (({ Cells:=[],Path:=[] }:AT),r72.Last,61)
   else
    (Dn n ({ T:=r72.T,S:=r72.S,States:=r72.States,Arcs:=r72.Arcs,Columns:=List.set r72.Columns (Int.toNat 0) x128,Last:=r72.Last }:Af)).bind λ r73=>
    some (r73,((p1_.length:Nat):Int),0)
def HY (n:Nat) (p0_:Ad) (p1_:AX):Option (AT×Int):=
 (MN n p0_ p1_.Text).bind λ r74=>
 if (r74.2.2 != 0)=true then
  some (({ Cells:=[],Path:=[] }:AT),61)
 else
  some (r74.1,0)
def Fy (_:Nat) (p0_:(List Int)) (p1_:(List Int)) (i_8:Int):Option (Int⊕(Unit⊕Bool)):=
 if decide (i_8<((p0_.length:Nat):Int))=true then
  (idx p0_ i_8).bind λ x130=>
  (idx p1_ i_8).bind λ x131=>
  if (x130 != x131)=true then
   some (.inr (.inr false))
  else
   some (.inl (AE .i64 i_8 1))
 else
  some (.inr (.inl ()))
def DN (n:Nat) (p0_:(List Int)) (p1_:(List Int)):Option Bool:=
 if (((p0_.length:Nat):Int) != ((p1_.length:Nat):Int))=true then
  some false
 else
  (whl (λ (x:Int)=>Fy n p0_ p1_ x) n 0).bind λ y79=>
  match y79 with
  | Sum.inl _=>
   some true
  | Sum.inr y81=>
   some y81
def CH (_:Nat) (p0_:(List Int)) (p1_:(List Int)) (i_9:Int):Option (Int⊕(Unit⊕Bool)):=
 if decide (i_9<((p0_.length:Nat):Int))=true then
  (idx p0_ i_9).bind λ x132=>
  (idx p1_ i_9).bind λ x133=>
  if (x132 != x133)=true then
   some (.inr (.inr false))
  else
   some (.inl (AE .i64 i_9 1))
 else
  some (.inr (.inl ()))
def Db (n:Nat) (p0_:(List Int)) (p1_:(List Int)):Option Bool:=
 if (((p0_.length:Nat):Int) != ((p1_.length:Nat):Int))=true then
  some false
 else
  (whl (λ (x:Int)=>CH n p0_ p1_ x) n 0).bind λ y82=>
  match y82 with
  | Sum.inl _=>
   some true
  | Sum.inr y84=>
   some y84
def OQ (n:Nat) (p0_:AT) (p1_:AT):Option Bool:=
 (Db n p0_.Cells p1_.Cells).bind λ r75=>
 (if r75=true then DN n p0_.Path p1_.Path else some default).bind λ r76=>
 some (r75&&r76)
def HZ (n:Nat) :Option Bool:=
 (Ke n).bind λ r77=>
 (HO n r77 [97,97,98]).bind λ r78=>
 (HO n r77 [97,9]).bind λ r79=>
 (BW n r77 r78.1 ({ At:=0,Cut:=1,Put:=[98] }:B6)).bind λ r80=>
 (BW n r77 r78.1 ({ At:=2,Cut:=2,Put:=[] }:B6)).bind λ r81=>
 (BW n r77 r78.1 ({ At:=3,Cut:=0,Put:=[10] }:B6)).bind λ r82=>
 (HY n r77 r78.1).bind λ r83=>
 (HO n r77 [99]).bind λ r84=>
 (HY n r77 r84.1).bind λ r85=>
 (if ((((((((r78.2==0)&&(r79.2==60))&&(r80.2.2==0))&&(r81.2.2==1))&&(r82.2.2==60))&&(r83.2==0))&&(r84.2==0))&&(r85.2==61))=true then DN n r78.1.Least [2,1,1,0] else some default).bind λ r86=>
 (if (((((((((((r78.2==0)&&(r79.2==60))&&(r80.2.2==0))&&(r81.2.2==1))&&(r82.2.2==60))&&(r83.2==0))&&(r84.2==0))&&(r85.2==61))&&r86)&&(r80.2.1==1))&&(r80.1.Text==[98,97,98]))=true then DN n r80.1.Least [2,1,1,0] else some default).bind λ r87=>
 (if ((((((((((((r78.2==0)&&(r79.2==60))&&(r80.2.2==0))&&(r81.2.2==1))&&(r82.2.2==60))&&(r83.2==0))&&(r84.2==0))&&(r85.2==61))&&r86)&&(r80.2.1==1))&&(r80.1.Text==[98,97,98]))&&r87)=true then OQ n r83.1 ({ Cells:=[1,7],Path:=[0,2] }:AT) else some default).bind λ r88=>
 (if (((((((((((((r78.2==0)&&(r79.2==60))&&(r80.2.2==0))&&(r81.2.2==1))&&(r82.2.2==60))&&(r83.2==0))&&(r84.2==0))&&(r85.2==61))&&r86)&&(r80.2.1==1))&&(r80.1.Text==[98,97,98]))&&r87)&&r88)=true then DN n r84.1.Least [(-1),0] else some default).bind λ r89=>
 some ((((((((((((((r78.2==0)&&(r79.2==60))&&(r80.2.2==0))&&(r81.2.2==1))&&(r82.2.2==60))&&(r83.2==0))&&(r84.2==0))&&(r85.2==61))&&r86)&&(r80.2.1==1))&&(r80.1.Text==[98,97,98]))&&r87)&&r88)&&r89)
def A7 (_:Nat) (p0_:(List UInt8)) (p1_:(List Int)) (p2_:(FL Int)):Option Ax:=
 some ({ Print:=p0_,Cells:=p1_,Left:=63,Right:=63,From:=p2_.a0,To:=p2_.a1 }:Ax)
def QE (n:Nat) :Option (List Ax):=
 (A7 n [97] [1] ({ a0:=0,a1:=0 }:(FL Int))).bind λ r90=>
 (A7 n [98] [3] ({ a0:=0,a1:=0 }:(FL Int))).bind λ r91=>
 (A7 n [99] [9] ({ a0:=0,a1:=0 }:(FL Int))).bind λ r92=>
 (A7 n [32] [0] ({ a0:=0,a1:=0 }:(FL Int))).bind λ r93=>
 some [r90,r91,r92,r93]
def GN (n:Nat) (p0_:Int) (p1_:Int) (p2_:(FL Int)):Option Ax:=
 (A7 n [] [p0_] p2_).bind λ r94=>
 (BE (decide (0<=p1_))).bind λ _=>
 some ({ Print:=r94.Print,Cells:=r94.Cells,Left:=r94.Left,Right:=Tj .u8 1 p1_,From:=r94.From,To:=r94.To }:Ax)
def Fz (_:Nat) (l_1:(List Ax)):Option Ad:=
 some ({ Modes:=1,Accept:=1,Rules:=l_1 }:Ad)
def JE (n:Nat) (p0_:Int):Option Ad:=
 (QE n).bind λ r95=>
 if ((By p0_ 8)==1)=true then
  (GN n 60 3 ({ a0:=0,a1:=1 }:(FL Int))).bind λ r96=>
  (A7 n [49] [1] ({ a0:=1,a1:=1 }:(FL Int))).bind λ r97=>
  (A7 n [50] [3] ({ a0:=1,a1:=1 }:(FL Int))).bind λ r98=>
  (A7 n [32] [0] ({ a0:=1,a1:=0 }:(FL Int))).bind λ r99=>
  (app 64 r95 [r96,r97,r98,r99]).bind λ l43=>
  some ({ Modes:=2,Accept:=3,Rules:=l43 }:Ad)
 else
  if ((By p0_ 8)==2)=true then
   (GN n 32 2 ({ a0:=0,a1:=1 }:(FL Int))).bind λ r100=>
   (A7 n [65] [1] ({ a0:=1,a1:=0 }:(FL Int))).bind λ r101=>
   (A7 n [66] [3] ({ a0:=1,a1:=0 }:(FL Int))).bind λ r102=>
   (app 64 r95 [r100,r101,r102]).bind λ l44=>
   some ({ Modes:=2,Accept:=1,Rules:=l44 }:Ad)
  else
   if ((By p0_ 8)==3)=true then
    (A7 n [97,98] [7] ({ a0:=0,a1:=0 }:(FL Int))).bind λ r103=>
    (A7 n [97,98,99] [15] ({ a0:=0,a1:=0 }:(FL Int))).bind λ r104=>
    (A7 n [99,97] [4,4] ({ a0:=0,a1:=0 }:(FL Int))).bind λ r105=>
    (app 64 r95 [r103,r104,r105]).bind λ l45=>
    Fz n l45
   else
    if ((By p0_ 8)==4)=true then
     (A7 n [45] [1,3] ({ a0:=0,a1:=0 }:(FL Int))).bind λ r106=>
     (app 64 r95 [r106]).bind λ l46=>
     Fz n l46
    else
     if ((By p0_ 8)==5)=true then
      (A7 n [98] [44] ({ a0:=0,a1:=0 }:(FL Int))).bind λ r107=>
      (A7 n [99,97,98] [44] ({ a0:=0,a1:=0 }:(FL Int))).bind λ r108=>
      (A7 n [45] [36] ({ a0:=0,a1:=0 }:(FL Int))).bind λ r109=>
      (app 64 r95 [({ Print:=r107.Print,Cells:=r107.Cells,Left:=17,Right:=r107.Right,From:=r107.From,To:=r107.To }:Ax),({ Print:=r108.Print,Cells:=r108.Cells,Left:=2,Right:=r108.Right,From:=r108.From,To:=r108.To }:Ax),r109]).bind λ l47=>
      Fz n l47
     else
      if ((By p0_ 8)==6)=true then
       (GN n 40 1 ({ a0:=0,a1:=1 }:(FL Int))).bind λ r110=>
       (A7 n [225] [1] ({ a0:=1,a1:=0 }:(FL Int))).bind λ r111=>
       (A7 n [226] [3] ({ a0:=1,a1:=0 }:(FL Int))).bind λ r112=>
       (app 64 r95 [r110,r111,r112]).bind λ l48=>
       some ({ Modes:=2,Accept:=1,Rules:=l48 }:Ad)
      else
       if ((By p0_ 8)==7)=true then
        (A7 n [45] [1,5] ({ a0:=0,a1:=0 }:(FL Int))).bind λ r113=>
        (A7 n [49] [5,5] ({ a0:=0,a1:=0 }:(FL Int))).bind λ r114=>
        (A7 n [50] [5,9] ({ a0:=0,a1:=0 }:(FL Int))).bind λ r115=>
        (app 64 r95 [r113,r114,r115]).bind λ l49=>
        Fz n l49
       else
        Fz n r95
def FA (_:Nat) (p0_:Dp) (out_1:Ax) (i_10:Int):Option ((Ax×Int)⊕Ax):=
 if ((decide (i_10<((p0_.P.length:Nat):Int)))&&(decide (i_10<3)))=true then
  (idx p0_.P i_10).bind λ x136=>
  (sub [97,98,99,65,66,49,50,45,46] (IntKind.i64.wrap (By x136 9)) (AE .i64 (IntKind.i64.wrap (By x136 9)) 1)).bind λ s9=>
  (cat out_1.Print s9).bind λ s10=>
  some (.inl (({ Print:=s10,Cells:=out_1.Cells,Left:=out_1.Left,Right:=out_1.Right,From:=out_1.From,To:=out_1.To }:Ax),(AE .i64 i_10 1)))
 else
  some (.inr out_1)
def FB (_:Nat) (p0_:Dp) (out_3:Ax) (i_11:Int):Option ((Ax×Int)⊕Ax):=
 if ((decide (i_11<((p0_.C.length:Nat):Int)))&&(decide (i_11<2)))=true then
  (idx p0_.C i_11).bind λ x138=>
  (idx [1,3,9,5,7,32,44,60] (By x138 8)).bind λ x139=>
  (app 1 out_3.Cells [x139]).bind λ l50=>
  some (.inl (({ Print:=out_3.Print,Cells:=l50,Left:=out_3.Left,Right:=out_3.Right,From:=out_3.From,To:=out_3.To }:Ax),(AE .i64 i_11 1)))
 else
  some (.inr out_3)
def OR (n:Nat) (p0_:Dp) (p1_:Int):Option Ax:=
 (idx [63,63,2,8,17,62,4,1] (By p0_.L 8)).bind λ x134=>
 (idx [63,63,2,8,17,62,4,1] (By p0_.R 8)).bind λ x135=>
 (BE (!(p1_==0))).bind λ _=>
 (BE (!(p1_==0))).bind λ _=>
 (whl (λ (x:(Ax×Int))=>FA n p0_ x.1 x.2) n (({ Print:=[],Cells:=([]:List Int),Left:=x134,Right:=x135,From:=By (IntKind.i64.wrap p0_.W.a0) p1_,To:=By (IntKind.i64.wrap p0_.W.a1) p1_ }:Ax),0)).bind λ y85=>
 (idx [1,3,9,5,7,32,44,60] (By (Jep .u8 p0_.L 8) 8)).bind λ x137=>
 (whl (λ (x:(Ax×Int))=>FB n p0_ x.1 x.2) n (({ Print:=y85.Print,Cells:=[x137],Left:=y85.Left,Right:=y85.Right,From:=y85.From,To:=y85.To }:Ax),0)).bind λ y86=>
 some y86
def Jd (_:Nat) (p0_:Int):Option Bool:=
 some ((decide (Ch .u8 p0_ 127>=32))&&(decide (Ch .u8 p0_ 127<=126)))
def II (n:Nat) (p0_:(List UInt8)) (i_12:Int):Option (Int⊕(Unit⊕(Int×Int))):=
 if decide (i_12<((p0_.length:Nat):Int))=true then
  (NS p0_ i_12).bind λ b6=>
  (Jd n b6).bind λ r116=>
  if (!r116)=true then
   some (.inr (.inr (i_12,60)))
  else
   some (.inl (AE .i64 i_12 1))
 else
  some (.inr (.inl ()))
def OS (n:Nat) (p0_:(List UInt8)):Option (Int×Int):=
 (whl (λ (x:Int)=>II n p0_ x) n 0).bind λ y87=>
 match y87 with
 | Sum.inl _=>
  some (((p0_.length:Nat):Int),0)
 | Sum.inr y89=>
  some y89
def H1 (n:Nat) (p0_:(List UInt8)):Option Bool:=
 (OS n p0_).bind λ r117=>
 some (r117.2==0)
def PL (_:Nat) (p0_:Int):Option Bool:=
 some ((Ch .u8 p0_ 127)==32)
def EB (n:Nat) (p0_:Ax) (space_1:Bool) (i_13:Int):Option ((Bool×Int)⊕Bool):=
 if decide (i_13<((p0_.Print.length:Nat):Int))=true then
  (if (!space_1)=true then NS p0_.Print i_13 else some default).bind λ b7=>
  (if (!space_1)=true then PL n b7 else some default).bind λ r119=>
  some (.inl ((space_1||r119),(AE .i64 i_13 1)))
 else
  some (.inr space_1)
def DE (_:Nat) (p0_:Ax) (_:Bool) (blank_1:Bool) (i_14:Int):Option ((Bool×Int)⊕(Bool⊕Bool)):=
 if decide (i_14<((p0_.Cells.length:Nat):Int))=true then
  (idx p0_.Cells i_14).bind λ x140=>
  if decide (x140>=63)=true then
   some (.inr (.inr false))
  else
   (if (!blank_1)=true then idx p0_.Cells i_14 else some default).bind λ x141=>
   some (.inl ((blank_1||(x141==0)),(AE .i64 i_14 1)))
 else
  some (.inr (.inl blank_1))
def MO (n:Nat) (p0_:Ax) (p1_:Int):Option Bool:=
 (H1 n p0_.Print).bind λ r118=>
 if ((((!r118)||(decide (((p0_.Print.length:Nat):Int)>4)))||(decide (((p0_.Cells.length:Nat):Int)<1)))||(decide (((p0_.Cells.length:Nat):Int)>4)))=true then
  some false
 else
  if ((((((((decide (p0_.Left<1))||(decide (p0_.Left>63)))||(decide (p0_.Right<1)))||(decide (p0_.Right>63)))||(decide (p0_.From<0)))||(decide (p0_.From>=p1_)))||(decide (p0_.To<0)))||(decide (p0_.To>=p1_)))=true then
   some false
  else
   (whl (λ (x:(Bool×Int))=>EB n p0_ x.1 x.2) n (false,0)).bind λ y90=>
   (whl (λ (x:(Bool×Int))=>DE n p0_ y90 x.1 x.2) n (false,0)).bind λ y91=>
   match y91 with
   | Sum.inl y92=>
    if (!y90)=true then
     some (!y92)
    else
     some (((((p0_.Print.length:Nat):Int)==1)&&(((p0_.Cells.length:Nat):Int)==1))&&y92)
   | Sum.inr y93=>
    some y93
def HE (n:Nat) (p0_:Ax) (p1_:Ax):Option Bool:=
 (if (p0_.Print==p1_.Print)=true then Db n p0_.Cells p1_.Cells else some default).bind λ r120=>
 some ((((((p0_.Print==p1_.Print)&&r120)&&(p0_.Left==p1_.Left))&&(p0_.Right==p1_.Right))&&(p0_.From==p1_.From))&&(p0_.To==p1_.To))
def FR (n:Nat) (p0_:Ad) (i_15:Int) (k_2:Int):Option (Int⊕(Unit⊕(Int×Int))):=
 if decide (k_2<i_15)=true then
  (idx p0_.Rules k_2).bind λ x143=>
  (idx p0_.Rules i_15).bind λ x144=>
  (HE n x143 x144).bind λ r122=>
  if r122=true then
   some (.inr (.inr (i_15,20)))
  else
   some (.inl (AE .i64 k_2 1))
 else
  some (.inr (.inl ()))
def FS (n:Nat) (p0_:Ad) (i_15:Int):Option (Int⊕(Unit⊕(Int×Int))):=
 if decide (i_15<((p0_.Rules.length:Nat):Int))=true then
  (idx p0_.Rules i_15).bind λ x142=>
  (MO n x142 p0_.Modes).bind λ r121=>
  if (!r121)=true then
   some (.inr (.inr (i_15,20)))
  else
   (whl (λ (x:Int)=>FR n p0_ i_15 x) n 0).bind λ y94=>
   match y94 with
   | Sum.inl _=>
    some (.inl (AE .i64 i_15 1))
   | Sum.inr y96=>
    some (.inr (.inr y96))
 else
  some (.inr (.inl ()))
def MP (n:Nat) (p0_:Ad):Option (Int×Int):=
 (if (!(((decide (p0_.Modes<1))||(decide (p0_.Modes>8)))||(p0_.Accept==0)))=true then BE (decide (0<=p0_.Modes)) else some default).bind λ _=>
 if ((((((decide (p0_.Modes<1))||(decide (p0_.Modes>8)))||(p0_.Accept==0))||(decide (IntKind.i64.wrap p0_.Accept>=Tj .i64 1 p0_.Modes)))||(decide (((p0_.Rules.length:Nat):Int)<1)))||(decide (((p0_.Rules.length:Nat):Int)>64)))=true then
  some ((-1),1)
 else
  (whl (λ (x:Int)=>FS n p0_ x) n 0).bind λ y97=>
  match y97 with
  | Sum.inl _=>
   some (0,0)
  | Sum.inr y99=>
   some y99
def PM (n:Nat) (p0_:Ad):Option Bool:=
 (MP n p0_).bind λ r123=>
 some (r123.2==0)
def GZ (_:Nat) (i_16:Int) (t_5:Ad):Option ((Ad×Int)⊕Ad):=
 some (.inl (t_5,(AE .i64 i_16 1)))
def FC (n:Nat) (p0_:M9) (r124:Ad) (t_3:Ad) (i_16:Int):Option ((Ad×Int)⊕Ad):=
 if decide (i_16<((r124.Rules.length:Nat):Int))=true then
  (BE (decide (0<=i_16))).bind λ _=>
  if ((Ch .u8 (WM .u8 p0_.Drop i_16) 1)==0)=true then
   (idx r124.Rules i_16).bind λ x145=>
   (app 64 t_3.Rules [x145]).bind λ l51=>
   GZ n i_16 ({ Modes:=t_3.Modes,Accept:=t_3.Accept,Rules:=l51 }:Ad)
  else
   GZ n i_16 t_3
 else
  some (.inr t_3)
def G0 (_:Nat) (i_17:Int) (t_8:Ad):Option ((Ad×Int)⊕Ad):=
 some (.inl (t_8,(AE .i64 i_17 1)))
def FD (n:Nat) (p0_:M9) (_:Ad) (t_6:Ad) (i_17:Int):Option ((Ad×Int)⊕Ad):=
 if ((decide (i_17<((p0_.More.length:Nat):Int)))&&(decide (i_17<2)))=true then
  (idx p0_.More i_17).bind λ x146=>
  (OR n x146 t_6.Modes).bind λ r125=>
  (app 64 t_6.Rules [r125]).bind λ l52=>
  (PM n ({ Modes:=t_6.Modes,Accept:=t_6.Accept,Rules:=l52 }:Ad)).bind λ r126=>
  if (!r126)=true then
   (sub l52 0 (Dw .i64 ((l52.length:Nat):Int) 1)).bind λ l53=>
   G0 n i_17 ({ Modes:=t_6.Modes,Accept:=t_6.Accept,Rules:=l53 }:Ad)
  else
   G0 n i_17 ({ Modes:=t_6.Modes,Accept:=t_6.Accept,Rules:=l52 }:Ad)
 else
  some (.inr t_6)
def G1 (_:Nat) (t_9:Ad):Option Ad:=
 some t_9
def JF (n:Nat) (p0_:M9):Option Ad:=
 (JE n p0_.Base).bind λ r124=>
 (whl (λ (x:(Ad×Int))=>FC n p0_ r124 x.1 x.2) n (({ Modes:=r124.Modes,Accept:=r124.Accept,Rules:=([]:List Ax) }:Ad),0)).bind λ y100=>
 (whl (λ (x:(Ad×Int))=>FD n p0_ r124 x.1 x.2) n (y100,0)).bind λ y101=>
 if (((y101.Rules.length:Nat):Int)==0)=true then
  G1 n ({ Modes:=y101.Modes,Accept:=y101.Accept,Rules:=r124.Rules }:Ad)
 else
  G1 n y101
def Ee (_:Nat) (i_18:Int) (out_7:(List UInt8)):Option (((List UInt8)×Int)⊕(List UInt8)):=
 some (.inl (out_7,(AE .i64 i_18 1)))
def Ef (n:Nat) (p0_:Ad) (p1_:(List Int)) (out_5:(List UInt8)) (i_18:Int):Option (((List UInt8)×Int)⊕(List UInt8)):=
 if (((decide (i_18<((p1_.length:Nat):Int)))&&(decide (i_18<12)))&&(decide (((p0_.Rules.length:Nat):Int)>0)))=true then
  (idx p1_ i_18).bind λ x147=>
  (BE (!(((p0_.Rules.length:Nat):Int)==0))).bind λ _=>
  (idx p0_.Rules (By (IntKind.i64.wrap x147) ((p0_.Rules.length:Nat):Int))).bind λ x148=>
  if decide (AE .i64 ((out_5.length:Nat):Int) ((x148.Print.length:Nat):Int)<=12)=true then
   (cat out_5 x148.Print).bind λ s11=>
   Ee n i_18 s11
  else
   Ee n i_18 out_5
 else
  some (.inr out_5)
def IJ (n:Nat) (p0_:Ad) (p1_:(List Int)):Option (List UInt8):=
 (whl (λ (x:((List UInt8)×Int))=>Ef n p0_ p1_ x.1 x.2) n ([],0)).bind λ y102=>
 some y102
def Ul (_:Nat) :Option Ab:=
 some ({ Mode:=0,Last:=0,Need:=63 }:Ab)
def Kf (_:Nat) (p0_:Int) (p1_:Int):Option Bool:=
 (if ((decide (p1_>=0))&&(decide (p1_<8)))=true then BE (decide (0<=p1_)) else some default).bind λ _=>
 some (((decide (p1_>=0))&&(decide (p1_<8)))&&((Ch .u8 (WM .u8 p0_ p1_) 1)==1))
def JG (_:Nat) (p0_:Int):Option Int:=
 if ((decide (Ch .u8 p0_ 127>=97))&&(decide (Ch .u8 p0_ 127<=122)))=true then
  some 1
 else
  if ((decide (Ch .u8 p0_ 127>=65))&&(decide (Ch .u8 p0_ 127<=90)))=true then
   some 2
  else
   if ((decide (Ch .u8 p0_ 127>=48))&&(decide (Ch .u8 p0_ 127<=57)))=true then
    some 3
   else
    if ((Ch .u8 p0_ 127)==32)=true then
     some 4
    else
     some 5
def LX (n:Nat) (p0_:Ad) (p1_:Ab) (p2_:Int):Option (Ab×Bool):=
 if ((decide (p2_<0))||(decide (p2_>=((p0_.Rules.length:Nat):Int))))=true then
  some (({ Mode:=0,Last:=0,Need:=0 }:Ab),false)
 else
  (idx p0_.Rules p2_).bind λ x149=>
  (if (!(x149.From != p1_.Mode))=true then Kf n x149.Left p1_.Last else some default).bind λ r127=>
  if ((x149.From != p1_.Mode)||(!r127))=true then
   some (({ Mode:=0,Last:=0,Need:=0 }:Ab),false)
  else
   if ((((x149.Print.length:Nat):Int)==0)&&((Ch .u8 p1_.Need x149.Right)==0))=true then
    some (({ Mode:=0,Last:=0,Need:=0 }:Ab),false)
   else
    if (((x149.Print.length:Nat):Int)==0)=true then
     some (({ Mode:=x149.To,Last:=p1_.Last,Need:=Ch .u8 p1_.Need x149.Right }:Ab),true)
    else
     (NS x149.Print 0).bind λ b8=>
     (JG n b8).bind λ r128=>
     (Kf n p1_.Need r128).bind λ r129=>
     if (!r129)=true then
      some (({ Mode:=0,Last:=0,Need:=0 }:Ab),false)
     else
      (NS x149.Print (Dw .i64 ((x149.Print.length:Nat):Int) 1)).bind λ b9=>
      (JG n b9).bind λ r130=>
      some (({ Mode:=x149.To,Last:=r130,Need:=x149.Right }:Ab),true)
def DF (_:Nat) (p0_:(List Ab)) (p1_:Ab) (i_19:Int):Option (Int⊕(Unit⊕Int)):=
 if decide (i_19<((p0_.length:Nat):Int))=true then
  (idx p0_ i_19).bind λ x150=>
  if ((x150.Mode==p1_.Mode)&&((x150.Last==p1_.Last)&&((x150.Need==p1_.Need)&&true)))=true then
   some (.inr (.inr i_19))
  else
   some (.inl (AE .i64 i_19 1))
 else
  some (.inr (.inl ()))
def MQ (n:Nat) (p0_:(List Ab)) (p1_:Ab):Option Int:=
 (whl (λ (x:Int)=>DF n p0_ p1_ x) n 0).bind λ y103=>
 match y103 with
 | Sum.inl _=>
  some (-1)
 | Sum.inr y105=>
  some y105
def ES (_:Nat) (k_3:Int) (out_12:(List Ab)):Option (((List Ab)×Int)⊕(List Ab)):=
 some (.inl (out_12,(AE .i64 k_3 1)))
def DV (n:Nat) (p0_:Ad) (i_20:Int) (out_10:(List Ab)) (k_3:Int):Option (((List Ab)×Int)⊕(List Ab)):=
 if decide (k_3<((p0_.Rules.length:Nat):Int))=true then
  (idx out_10 i_20).bind λ x151=>
  (LX n p0_ x151 k_3).bind λ r132=>
  (if r132.2=true then MQ n out_10 r132.1 else some default).bind λ r133=>
  if (r132.2&&(decide (r133<0)))=true then
   (app 24 out_10 [r132.1]).bind λ l54=>
   ES n k_3 l54
  else
   ES n k_3 out_10
 else
  some (.inr out_10)
def ET (n:Nat) (p0_:Ad) (out_8:(List Ab)) (i_20:Int):Option (((List Ab)×Int)⊕(List Ab)):=
 if decide (i_20<((out_8.length:Nat):Int))=true then
  (whl (λ (x:((List Ab)×Int))=>DV n p0_ i_20 x.1 x.2) n (out_8,0)).bind λ y106=>
  some (.inl (y106,(AE .i64 i_20 1)))
 else
  some (.inr out_8)
def Kg (n:Nat) (p0_:Ad):Option (List Ab):=
 (Ul n).bind λ r131=>
 (whl (λ (x:((List Ab)×Int))=>ET n p0_ x.1 x.2) n ([r131],0)).bind λ y107=>
 some y107
def IK (n:Nat) (p0_:Ad) (p1_:Ab):Option Bool:=
 (if ((decide (p1_.Mode>=0))&&(decide (p1_.Mode<p0_.Modes)))=true then Kf n p0_.Accept p1_.Mode else some default).bind λ r134=>
 (if (((decide (p1_.Mode>=0))&&(decide (p1_.Mode<p0_.Modes)))&&r134)=true then Kf n p1_.Need 0 else some default).bind λ r135=>
 some ((((decide (p1_.Mode>=0))&&(decide (p1_.Mode<p0_.Modes)))&&r134)&&r135)
def Kh (_:Nat) (p0_:(List UInt8)) (p1_:Int) (p2_:(List UInt8)):Option Bool:=
 (if decide (AE .i64 p1_ ((p2_.length:Nat):Int)<=((p0_.length:Nat):Int))=true then sub p0_ p1_ (AE .i64 p1_ ((p2_.length:Nat):Int)) else some default).bind λ s12=>
 some ((decide (AE .i64 p1_ ((p2_.length:Nat):Int)<=((p0_.length:Nat):Int)))&&(s12==p2_))
def JH (n:Nat) (p0_:Ad) (p1_:Sr) (p2_:Int) (p3_:(List (List Int))):Option Int:=
 (LX n p0_ p1_.State p2_).bind λ r136=>
 (if (!(!r136.2))=true then idx p0_.Rules p2_ else some default).bind λ x152=>
 (if (!(!r136.2))=true then Kh n p1_.S p1_.I x152.Print else some default).bind λ r137=>
 if ((!r136.2)||(!r137))=true then
  some (-1)
 else
  (idx p0_.Rules p2_).bind λ x153=>
  (idx p3_ (AE .i64 p1_.I ((x153.Print.length:Nat):Int))).bind λ x154=>
  (MQ n p1_.L r136.1).bind λ r138=>
  (idx x154 r138).bind λ x155=>
  if decide (x155<0)=true then
   some (-1)
  else
   (idx p0_.Rules p2_).bind λ x156=>
   some (AE .i64 x155 ((x156.Cells.length:Nat):Int))
def MR (_:Nat) (p0_:Int) (p1_:Int):Option Int:=
 if ((decide (p0_<0))||((decide (p1_>=0))&&(decide (p1_<p0_))))=true then
  some p1_
 else
  some p0_
def DO (_:Nat) (k_4:Int) (out_17:(List (List Int))):Option (((List (List Int))×Int)⊕(List (List Int))):=
 some (.inl (out_17,(AE .i64 k_4 1)))
def CW (n:Nat) (p0_:Ad) (p1_:(List UInt8)) (r139:(List Ab)) (i_21:Int) (out_15:(List (List Int))) (k_4:Int):Option (((List (List Int))×Int)⊕(List (List Int))):=
 if decide (k_4<((r139.length:Nat):Int))=true then
  (idx out_15 i_21).bind λ x158=>
  (idx x158 k_4).bind λ _=>
  (put x158 k_4 (-1)).bind λ l57=>
  (if (i_21==((p1_.length:Nat):Int))=true then idx r139 k_4 else some default).bind λ x160=>
  (if (i_21==((p1_.length:Nat):Int))=true then IK n p0_ x160 else some default).bind λ r140=>
  if ((i_21==((p1_.length:Nat):Int))&&r140)=true then
   (idx (List.set out_15 i_21.toNat l57) i_21).bind λ x161=>
   (idx x161 k_4).bind λ _=>
   (put x161 k_4 0).bind λ l58=>
   DO n k_4 (List.set (List.set out_15 i_21.toNat l57) i_21.toNat l58)
  else
   DO n k_4 (List.set out_15 i_21.toNat l57)
 else
  some (.inr out_15)
def DP (_:Nat) (r_3:Int) (out_24:(List (List Int))) (changed_6:Bool):Option (((List (List Int))×Bool×Int)⊕((List (List Int))×Bool)):=
 some (.inl (out_24,changed_6,(AE .i64 r_3 1)))
def CX (n:Nat) (p0_:Ad) (p1_:(List UInt8)) (r139:(List Ab)) (i_21:Int) (k_5:Int) (out_22:(List (List Int))) (changed_4:Bool) (r_3:Int):Option (((List (List Int))×Bool×Int)⊕((List (List Int))×Bool)):=
 if decide (r_3<((p0_.Rules.length:Nat):Int))=true then
  (idx r139 k_5).bind λ x163=>
  (JH n p0_ ({ S:=p1_,I:=i_21,State:=x163,L:=r139 }:Sr) r_3 out_22).bind λ r141=>
  (if decide (r141>=0)=true then idx out_22 i_21 else some default).bind λ _=>
  (if decide (r141>=0)=true then idx (List.getD out_22 i_21.toNat []) k_5 else some default).bind λ x165=>
  (if decide (r141>=0)=true then MR n x165 r141 else some default).bind λ r142=>
  (if decide (r141>=0)=true then idx out_22 i_21 else some default).bind λ _=>
  (if decide (r141>=0)=true then idx (List.getD out_22 i_21.toNat []) k_5 else some default).bind λ x167=>
  if ((decide (r141>=0))&&(r142 != x167))=true then
   (idx (List.set out_22 i_21.toNat (List.getD out_22 i_21.toNat [])) i_21).bind λ x168=>
   (idx x168 k_5).bind λ _=>
   (put x168 k_5 r141).bind λ l59=>
   DP n r_3 (List.set (List.set out_22 i_21.toNat (List.getD out_22 i_21.toNat [])) i_21.toNat l59) true
  else
   DP n r_3 (List.set out_22 i_21.toNat (List.getD out_22 i_21.toNat [])) changed_4
 else
  some (.inr (out_22,changed_4))
def CY (n:Nat) (p0_:Ad) (p1_:(List UInt8)) (r139:(List Ab)) (i_21:Int) (out_20:(List (List Int))) (changed_2:Bool) (k_5:Int):Option (((List (List Int))×Bool×Int)⊕((List (List Int))×Bool)):=
 if decide (k_5<((r139.length:Nat):Int))=true then
  (whl (λ (x:((List (List Int))×Bool×Int))=>CX n p0_ p1_ r139 i_21 k_5 x.1 x.2.1 x.2.2) n (out_20,changed_2,0)).bind λ y109=>
  some (.inl (y109.1,y109.2,(AE .i64 k_5 1)))
 else
  some (.inr (out_20,changed_2))
def DQ (n:Nat) (p0_:Ad) (p1_:(List UInt8)) (r139:(List Ab)) (i_21:Int) (out_18:(List (List Int))) (changed_1:Bool):Option (((List (List Int))×Bool)⊕(List (List Int))):=
 if changed_1=true then
  (whl (λ (x:((List (List Int))×Bool×Int))=>CY n p0_ p1_ r139 i_21 x.1 x.2.1 x.2.2) n (out_18,false,0)).bind λ y110=>
  some (.inl (y110.1,y110.2))
 else
  some (.inr out_18)
def Fd (n:Nat) (p0_:Ad) (p1_:(List UInt8)) (r139:(List Ab)) (out_13:(List (List Int))) (i_21:Int):Option (((List (List Int))×Int)⊕(List (List Int))):=
 if decide (i_21>=0)=true then
  (idx out_13 i_21).bind λ _=>
  (mkl 8 ((r139.length:Nat):Int) (0:Int)).bind λ l56=>
  (whl (λ (x:((List (List Int))×Int))=>CW n p0_ p1_ r139 i_21 x.1 x.2) n ((List.set out_13 i_21.toNat l56),0)).bind λ y108=>
  (whl (λ (x:((List (List Int))×Bool))=>DQ n p0_ p1_ r139 i_21 x.1 x.2) n (y108,true)).bind λ y111=>
  some (.inl (y111,(Dw .i64 i_21 1)))
 else
  some (.inr out_13)
def HF (n:Nat) (p0_:Ad) (p1_:(List UInt8)):Option (List (List Int)):=
 (Kg n p0_).bind λ r139=>
 (mkl 24 (AE .i64 ((p1_.length:Nat):Int) 1) ([]:(List Int))).bind λ l55=>
 (whl (λ (x:((List (List Int))×Int))=>Fd n p0_ p1_ r139 x.1 x.2) n (l55,((p1_.length:Nat):Int))).bind λ y112=>
 some y112
def G2 (_:Nat) (k_6:Int) (least_6:Int):Option ((Int×Int)⊕Int):=
 some (.inl (least_6,(AE .i64 k_6 1)))
end Go.AI
end
section
namespace Go.AI
def FE (n:Nat) (r143:(List (List Int))) (_:AX) (i_22:Int) (least_4:Int) (k_6:Int):Option ((Int×Int)⊕Int):=
 (idx r143 i_22).bind λ x170=>
 if decide (k_6<((x170.length:Nat):Int))=true then
  (idx r143 i_22).bind λ x171=>
  (idx x171 k_6).bind λ x172=>
  (if ((decide (x172>=0))&&!(decide (least_4<0)))=true then idx r143 i_22 else some default).bind λ x173=>
  (if ((decide (x172>=0))&&!(decide (least_4<0)))=true then idx x173 k_6 else some default).bind λ x174=>
  if ((decide (x172>=0))&&((decide (least_4<0))||(decide (x174<least_4))))=true then
   (idx r143 i_22).bind λ x175=>
   (idx x175 k_6).bind λ x176=>
   G2 n k_6 x176
  else
   G2 n k_6 least_4
 else
  some (.inr least_4)
def G3 (_:Nat) (k_7:Int) (column_20:(List Int)):Option (((List Int)×Int)⊕(List Int)):=
 some (.inl (column_20,(AE .i64 k_7 1)))
def FF (n:Nat) (r143:(List (List Int))) (_:AX) (i_22:Int) (y113:Int) (column_18:(List Int)) (k_7:Int):Option (((List Int)×Int)⊕(List Int)):=
 (idx r143 i_22).bind λ x177=>
 if decide (k_7<((x177.length:Nat):Int))=true then
  (idx r143 i_22).bind λ x178=>
  (idx x178 k_7).bind λ x179=>
  if decide (x179<0)=true then
   (app 8 column_18 [(-1)]).bind λ l60=>
   G3 n k_7 l60
  else
   (idx r143 i_22).bind λ x180=>
   (idx x180 k_7).bind λ x181=>
   (app 8 column_18 [Dw .i64 x181 y113]).bind λ l61=>
   G3 n k_7 l61
 else
  some (.inr column_18)
def G4 (n:Nat) (r143:(List (List Int))) (out_25:AX) (i_22:Int):Option ((AX×Int)⊕AX):=
 if decide (i_22<((r143.length:Nat):Int))=true then
  (whl (λ (x:(Int×Int))=>FE n r143 out_25 i_22 x.1 x.2) n ((-1),0)).bind λ y113=>
  (whl (λ (x:((List Int)×Int))=>FF n r143 out_25 i_22 y113 x.1 x.2) n (([]:List Int),0)).bind λ y114=>
  (app 24 out_25.Costs [y114]).bind λ l62=>
  (app 8 out_25.Least [y113]).bind λ l63=>
  some (.inl (({ Text:=out_25.Text,Costs:=l62,Least:=l63 }:AX),(AE .i64 i_22 1)))
 else
  some (.inr out_25)
def LY (n:Nat) (p0_:Ad) (p1_:(List UInt8)):Option AX:=
 (HF n p0_ p1_).bind λ r143=>
 (whl (λ (x:(AX×Int))=>G4 n r143 x.1 x.2) n (({ Text:=p1_,Costs:=([]:List (List Int)),Least:=([]:List Int) }:AX),0)).bind λ y115=>
 some y115
def LZ (_:Nat) (p0_:(List UInt8)) (p1_:B6):Option Bool:=
 some ((((decide (p1_.At>=0))&&(decide (p1_.Cut>=0)))&&(decide (p1_.At<=((p0_.length:Nat):Int))))&&(decide (p1_.Cut<=Dw .i64 ((p0_.length:Nat):Int) p1_.At)))
def IL (_:Nat) (p0_:(List UInt8)) (p1_:B6):Option (List UInt8):=
 (sub p0_ 0 p1_.At).bind λ s13=>
 (cat s13 p1_.Put).bind λ s14=>
 (sub p0_ (AE .i64 p1_.At p1_.Cut) ((p0_.length:Nat):Int)).bind λ s15=>
 (cat s14 s15).bind λ s16=>
 some s16
def FT (_:Nat) (k_8:Int) (known_14:Bool) (by_2:Int):Option ((Bool×Int×Int)⊕(Unit⊕Bool)):=
 some (.inl (known_14,by_2,(AE .i64 k_8 1)))
def FU (n:Nat) (p0_:AX) (p1_:AX) (p2_:Int) (known_13:Bool) (by_1:Int) (k_8:Int):Option ((Bool×Int×Int)⊕(Unit⊕Bool)):=
 if decide (k_8<AE .i64 p2_ 4)=true then
  (idx p0_.Costs k_8).bind λ x182=>
  (idx p1_.Costs k_8).bind λ x183=>
  (DN n x182 x183).bind λ r145=>
  (if (!(!r145))=true then idx p0_.Least k_8 else some default).bind λ x184=>
  (if (!(!r145))=true then idx p1_.Least k_8 else some default).bind λ x185=>
  if ((!r145)||(!((decide (x184<0))==(decide (x185<0)))))=true then
   some (.inr (.inr false))
  else
   (idx p0_.Least k_8).bind λ x186=>
   if decide (x186<0)=true then
    FT n k_8 known_13 by_1
   else
    (if known_13=true then idx p1_.Least k_8 else some default).bind λ x187=>
    (if known_13=true then idx p0_.Least k_8 else some default).bind λ x188=>
    if (known_13&&((Dw .i64 x187 x188) != by_1))=true then
     some (.inr (.inr false))
    else
     (idx p1_.Least k_8).bind λ x189=>
     (idx p0_.Least k_8).bind λ x190=>
     FT n k_8 true (Dw .i64 x189 x190)
 else
  some (.inr (.inl ()))
def MS (n:Nat) (p0_:AX) (p1_:AX) (p2_:Int):Option Bool:=
 (whl (λ (x:(Bool×Int×Int))=>FU n p0_ p1_ p2_ x.1 x.2.1 x.2.2) n (false,0,p2_)).bind λ y116=>
 match y116 with
 | Sum.inl _=>
  some true
 | Sum.inr y118=>
  some y118
def GO (n:Nat) (p0_:AX) (p1_:AX) (p2_:B6) (i_23:Int) (n_2:Int):Option ((Int×Int)⊕Int):=
 if decide (i_23>0)=true then
  (if decide (AE .i64 i_23 3<=p2_.At)=true then MS n p0_ p1_ i_23 else some default).bind λ r146=>
  if ((decide (AE .i64 i_23 3<=p2_.At))&&r146)=true then
   some (.inr n_2)
  else
   some (.inl ((Dw .i64 i_23 1),(AE .i64 n_2 1)))
 else
  some (.inr n_2)
def Ki (n:Nat) (p0_:AX) (p1_:AX) (p2_:B6):Option Int:=
 (whl (λ (x:(Int×Int))=>GO n p0_ p1_ p2_ x.1 x.2) n ((AE .i64 p2_.At ((p2_.Put.length:Nat):Int)),0)).bind λ y119=>
 some y119
def DG (n:Nat) (p0_:Ad) (p1_:AX) (p2_:B6):Option (AX×Int×Int):=
 (LZ n p1_.Text p2_).bind λ r147=>
 if (!r147)=true then
  some (({ Text:=[],Costs:=[],Least:=[] }:AX),0,1)
 else
  (IL n p1_.Text p2_).bind λ r148=>
  (H1 n r148).bind λ r149=>
  if (!r149)=true then
   some (({ Text:=[],Costs:=[],Least:=[] }:AX),0,60)
  else
   (LY n p0_ r148).bind λ r150=>
   (Ki n p1_ r150 p2_).bind λ r151=>
   some (r150,r151,0)
def G5 (n:Nat) (p0_:AX) (p1_:AX) (i_24:Int):Option (Int⊕(Unit⊕Bool)):=
 if decide (i_24<((p0_.Costs.length:Nat):Int))=true then
  (idx p0_.Costs i_24).bind λ x191=>
  (idx p1_.Costs i_24).bind λ x192=>
  (DN n x191 x192).bind λ r153=>
  if (!r153)=true then
   some (.inr (.inr false))
  else
   some (.inl (AE .i64 i_24 1))
 else
  some (.inr (.inl ()))
def G6 (n:Nat) (p0_:AX) (p1_:AX):Option Bool:=
 (if (!((!(p0_.Text==p1_.Text))||(((p0_.Costs.length:Nat):Int) != ((p1_.Costs.length:Nat):Int))))=true then DN n p0_.Least p1_.Least else some default).bind λ r152=>
 if (((!(p0_.Text==p1_.Text))||(((p0_.Costs.length:Nat):Int) != ((p1_.Costs.length:Nat):Int)))||(!r152))=true then
  some false
 else
  (whl (λ (x:Int)=>G5 n p0_ p1_ x) n 0).bind λ y120=>
  match y120 with
  | Sum.inl _=>
   some true
  | Sum.inr y122=>
   some y122
def D4 (n:Nat) (p0_:M9) (p1_:(List Int)) (p2_:B6):Option Bool:=
 (HZ n).bind λ r192=>
 if decide (((p2_.Put.length:Nat):Int)>6)=true then
  some r192
 else
  (JF n p0_).bind λ r193=>
  (IJ n r193 p1_).bind λ r194=>
  (LY n r193 r194).bind λ r195=>
  (BW n r193 r195 p2_).bind λ r196=>
  (DG n r193 r195 p2_).bind λ r197=>
  (if ((r192&&(r196.2.2==r197.2.2))&&(r196.2.1==r197.2.1))=true then G6 n r196.1 r197.1 else some default).bind λ r198=>
  some (((r192&&(r196.2.2==r197.2.2))&&(r196.2.1==r197.2.1))&&r198)
end Go.AI
end
section
namespace Go.AI
open Go.Proofs
set_option maxRecDepth 10000
theorem xok (n kl:Nat):XOK Tryz.prog (cxk n kl):=⟨tyOK,rfl⟩
theorem fO (k:Nat) (s:St) {fn:Func} {f:FuncId} {args:List AV} {r:AV} (hf:Tryz.prog.funcs[f]? = some fn) (h:WP (cxk k 0) (Aw fn) [] (WL (cxk k 0).ty fn.results.toList r) s) (hb:fn.body=some (Aw fn):=by kernel_rfl) (hnm:(fn.name == "runtime.NumGoroutine")=false:=by kernel_rfl) (hnt:(cxk k 0).nt.n=fn.ntmps:=by kernel_rfl) (hlen:Nat.ble args.length fn.ntmps=true:=by kernel_rfl) (hs:(⟨(List.range args.length).zip args,[]⟩:St)=s:=by kernel_rfl):AD Tryz.prog f args r:=fo follows (JfV k 0) hf h hb hnm hnt hlen hs
theorem fL (k nb:Nat) (s:St) {fn:Func} {f:FuncId} {args:List AV} {O0 O1:List (Option Ob)} {r:AV} (hf:Tryz.prog.funcs[f]? = some fn) (h:WP (cxk k nb) (Aw fn) [] (Ua nb (cxk k nb).ty fn.results.toList r O1) s) (hb:fn.body=some (Aw fn):=by kernel_rfl) (hnm:(fn.name == "runtime.NumGoroutine")=false:=by kernel_rfl) (hnt:(cxk k nb).nt=⟨fn.ntmps,[],nb⟩:=by kernel_rfl) (hlen:Nat.ble args.length fn.ntmps=true:=by kernel_rfl) (hs:(⟨(List.range args.length).zip args,O0⟩:St)=s:=by kernel_rfl):BD Tryz.prog f args O0 nb r O1:=fl follows (JfV k nb) hf h hb hnm hnt hlen hs
variable {n:Nat}
def An (x:Ax):List D:=[.str x.Print,.sl (x.Cells.map eU8),.int .u8 x.Left,.int .u8 x.Right,.int .i64 x.From,.int .i64 x.To]
def Aj (x:Ab):List D:=[.int .i64 x.Mode,.int .i64 x.Last,.int .u8 x.Need]
def Ay (x:NV):List D:=[.str x.Print,.int .i64 x.Cells,.int .i64 x.To]
def JbY (x:B6):List D:=[.int .i64 x.At,.int .i64 x.Cut,.str x.Put]
def L3 (x:AC):List D:=[.sl (x.States.map Ae),.sl (x.Costs.map Ae)]
def Ai (x:A8):List D:=[.int .i64 x.Rule,.int .i64 x.To]
@[reducible] def Jkl {α:Type} (e:α->List D) (x:FL α):List D:=e x.a0++e x.a1
def FG (x:Dp):List D:=[.sl (x.P.map eU8),.sl (x.C.map eU8),.int .u8 x.L,.int .u8 x.R,.int .u8 x.W.a0,.int .u8 x.W.a1]
def Jkm (x:M9):List D:=[.int .u8 x.Base,.int .u8 x.Drop,.sl (x.More.map FG)]
def FV (x:Ad) (v2:AV):List AV:=[.d (.int .i64 x.Modes),.d (.int .u8 x.Accept),v2]
def AK (x:Ad):List AV:=[.d (.int .i64 x.Modes),.d (.int .u8 x.Accept),.d (.sl (x.Rules.map An))]
def Je (x:Ab):List AV:=[.d (.int .i64 x.Mode),.d (.int .i64 x.Last),.d (.int .u8 x.Need)]
def CQ (x:AX):List AV:=[.d (.str x.Text),.d (.sl (x.Costs.map (eL Ae))),.d (.sl (x.Least.map Ae))]
def EC (x:B6):List AV:=[.d (.int .i64 x.At),.d (.int .i64 x.Cut),.d (.str x.Put)]
def L4 (x:Ax):List AV:=[.d (.str x.Print),.d (.sl (x.Cells.map eU8)),.d (.int .u8 x.Left),.d (.int .u8 x.Right),.d (.int .i64 x.From),.d (.int .i64 x.To)]
def G7 (x:Af) (v5:AV) (v6:AV):List AV:=[.d (.int .i64 x.T.Modes),.d (.int .u8 x.T.Accept),.d (.sl (x.T.Rules.map An)),.d (.str x.S),.d (.sl (x.States.map Aj)),v5,v6,.d (.int .i64 x.Last)]
def Al (x:Af) (v6:AV):List AV:=[.d (.int .i64 x.T.Modes),.d (.int .u8 x.T.Accept),.d (.sl (x.T.Rules.map An)),.d (.str x.S),.d (.sl (x.States.map Aj)),.d (.sl (x.Arcs.map (eL Ai))),v6,.d (.int .i64 x.Last)]
def OU (x:Dp):List AV:=[.d (.sl (x.P.map eU8)),.d (.sl (x.C.map eU8)),.d (.int .u8 x.L),.d (.int .u8 x.R),.d (.int .u8 x.W.a0),.d (.int .u8 x.W.a1)]
def Rh (x:Ax) (v1:AV):List AV:=[.d (.str x.Print),v1,.d (.int .u8 x.Left),.d (.int .u8 x.Right),.d (.int .i64 x.From),.d (.int .i64 x.To)]
def Yh (x:M9):List AV:=[.d (.int .u8 x.Base),.d (.int .u8 x.Drop),.d (.sl (x.More.map FG))]
def JgY (x:Sr):List AV:=[.d (.str x.S),.d (.int .i64 x.I),.d (.int .i64 x.State.Mode),.d (.int .i64 x.State.Last),.d (.int .u8 x.State.Need),.d (.sl (x.L.map Aj))]
def FH (x:AX) (v1:AV) (v2:AV):List AV:=[.d (.str x.Text),v1,v2]
def Ac (x:AC):List AV:=[.own 1 (x.States.map Ae),.own 1 (x.Costs.map Ae)]
theorem Ss:∀ a b:Ab,A3 [.int .i64,.int .i64,.int .u8] ((Aj a).map .d) ((Aj b).map .d)=some (decide (a=b)):=by
  intro a b
  cases a;cases b
  simp [A3,Aj,Bool.decide_and]
  try rfl
section
variable (t_1:Ad) (i_1:Int) (t_2:Ad)
def JgZ:St:=⟨[],[]⟩
def Jg0:St:=⟨(0,.ptr 0 0)::(1,.ptr 1 0)::(2,.osl 2 1 0 (List.length ([[97],[98],[97,98]])))::(3,.osl 3 1 0 (List.length [1,3,7]))::(4,.d (.int .i64 i_1))::[],[some (.box [.d (.int .i64 0),.d (.int .u8 0),.osl 4 6 0 (List.length ([]:List Ax))]),some (.box (FV t_1 (.osl 5 6 0 (t_1.Rules.length)))),some (.arr 1 (List.map eS ([[97],[98],[97,98]]))),some (.arr 1 (List.map eU8 [1,3,7])),some (.arr 6 (List.map An ([]:List Ax))),some (.arr 6 (t_1.Rules.map An))]⟩
def Jg1:St:=⟨(0,.ptr 0 0)::(1,.ptr 1 0)::[],[some (.box [.d (.int .i64 0),.d (.int .u8 0),.osl 2 6 0 (List.length ([]:List Ax))]),some (.box (FV t_2 (.osl 3 6 0 (t_2.Rules.length)))),some (.arr 6 (List.map An ([]:List Ax))),some (.arr 6 (t_2.Rules.map An))]⟩
def QN:Ad->Ex->St->Prop:=xX 0 0 (λ (y:Ad)=>Jg1 y)
def K0:(Ad×Int)->St:=(λ (x:(Ad×Int))=>Jg0 x.1 x.2)
variable {t_1 i_1 t_2}
theorem PN (x:(Ad×Int)) (z:((Ad×Int)⊕Ad)) (H:GK n x.1 x.2=some z):WP (cxk 28 0) (Aw Tryz.f19) [1,1,1,1,0,1,0,0] (Au 0 (K0) (QN) z) (K0 x):=by
 obtain ⟨t_1,i_1⟩:=x
 refine sq (sr (ck 2 (en (cn H (λ H=>?_) (λ H=>?_)))))
 ·exact sk (qz (sq (bk 1 (rz (ck 4 (bx H λ x1 h1 H=>sp (Az 2 1 h1) (sp (CJ eS 2 0 (ty 9) h1) (ck 2 (bx H λ x2 h2 H=>sp (Az 3 1 h2) (sp (CJ eU8 3 0 (ty 64) h2) (sF (ck 2 (bx H λ l1 h3 H=>sp (B5 An 5 6 h3) (ck 2 (ae (qN (qz (rz (ck 3 (ae (by cases H;exact og (sg [0,1,2,3,4]))))))))))))))))))))))
 ·exact ex 0 (qx (by cases H;exact xo rfl (sg [0,1])))
theorem Tm {z} (H:Ke n=some z):AD Tryz.prog 19 [] (.agg [.d (.int .i64 z.Modes),.d (.int .u8 z.Accept),.own 6 (z.Rules.map An)]):=by
 exact fO 28 JgZ Tryz.func19 (sr (ck 1 (en (sr (ck 3 (en (sr (ck 2 (en (sr (ck 2 (en (sq (sr (ck 1 (en (bk 0 (bx H λ y1 h4 H=>lX PN h4 (tr (tr (BL 0 2 6 (by kernel_rfl)) (BL 1 2 6 (by kernel_rfl))) (sg [0,1,2,3,4])) rfl λ s hE1=>qH (qs (hE1) (sr (ck 2 (en (re (by cases H;exact pr (rO (v:=.agg [.d (.int .i64 z.Modes),.d (.int .u8 z.Accept),.osl 3 6 0 (z.Rules.length)]) [3] (a1 (c1 vd (c1 vd (c1 vo (c0))))))))))))))))))))))))))))))
end
section
variable (p0_:Int)
def Jg2:St:=⟨(0,.d (.int .u8 p0_))::[],[]⟩
variable {p0_}
theorem NW {z} (H:DM n p0_=some z):AD Tryz.prog 49 [.d (.int .u8 p0_)] (.d (.bool z)):=by
 exact fO 12 (Jg2 p0_) Tryz.func49 (sr (ck 1 (en (sr (ck 3 (en (sr (ck 4 (gc 1 (decide (32<=Ch .u8 p0_ 127)) (pA (ck 1 (en (re (by cases H;exact pr rd))))))))))))))
end
section
variable (p0_:(List UInt8)) (x_1:Int)
def Jg3:St:=⟨(0,.d (.str p0_))::[],[]⟩
def Jg4:St:=⟨(0,.d (.str p0_))::(6,.d (.int .i64 ((p0_.length:Nat):Int)))::(7,.d (.int .i64 x_1))::[],[]⟩
def Jg5:St:=⟨(0,.d (.str p0_))::[],[]⟩
def Tn:(Unit⊕(Int×Int))->Ex->St->Prop:=xS (xX 0 0 (λ (_:Unit)=>Jg5 p0_)) (xR ty Tryz.f25 (λ (y:(Int×Int))=>.tup [.d (.int .i64 y.1),.d (.int .i64 y.2)]))
def Nv:Int->St:=(λ (x:Int)=>Jg4 p0_ x)
variable {p0_ x_1}
theorem L5 (x:Int) (z:(Int⊕(Unit⊕(Int×Int)))) (H:Fv n p0_ x=some z):WP (cxk 19 0) (Aw Tryz.f25) [1,0,1,0,0] (Au 0 (Nv p0_) (Tn p0_) z) (Nv p0_ x):=by
 revert H
 generalize x=x_1
 intro H
 refine sr (ck 1 (en (sq (cn H (λ H=>?_) (λ H=>?_)))))
 ·refine sk (qz (sq (bk 1 (sr (ck 2 (en (sr (ck 2 (bx H λ b1 h5 H=>sp (Hv h5) (bx H λ r1 h6 H=>ca false (NW h6) (ck 1 (en (cn H (λ H=>?_) (λ H=>?_))))))))))))))
  ·exact sr (ck 3 (en (re (qR (qr (by cases H;exact ro rfl rdT))))))
  ·exact sk (qN (qz (rz (ck 2 (ae (by cases H;exact og (sg [0,6,7])))))))
 ·exact ex 0 (qx (by cases H;exact xo rfl (sg [0])))
theorem IM {z} (H:FQ n p0_=some z):AD Tryz.prog 25 [.d (.str p0_)] (.tup [.d (.int .i64 z.1),.d (.int .i64 z.2)]):=by
 refine fO 19 (Jg3 p0_) Tryz.func25 (sr (ck 2 (en (sq (sr (ck 3 (en (bk 0 (bx H λ y2 h7 H=>?_)))))))))
 rcases y2 with y3|y4
 ·exact lX L5 h7 (sg [0,6,7]) rfl λ s hE2=>qH (qs (hE2) (sr (ck 4 (en (re (by cases H;exact pr rdT))))))
 ·exact lR L5 h7 (sg [0,6,7]) rfl λ s hE3=>qR (qr (by cases H;exact pr hE3))
end
def Jg6:St:=⟨[],[]⟩
theorem Vd {z} (H:JD n=some z):AD Tryz.prog 82 [] (.agg [.d (.int .i64 z.Mode),.d (.int .i64 z.Last),.d (.int .u8 z.Need)]):=by
 exact fO 2 Jg6 Tryz.func82 (sr (ck 1 (en (sr (ck 2 (en (re (by cases H;exact pr rd))))))))
section
variable (p0_:Int) (p1_:Int)
def Jg7:St:=⟨(0,.d (.int .u8 p0_))::(1,.d (.int .i64 p1_))::[],[]⟩
variable {p0_ p1_}
theorem Kj {z} (H:Hx n p0_ p1_=some z):AD Tryz.prog 72 [.d (.int .u8 p0_),.d (.int .i64 p1_)] (.d (.bool z)):=by
 exact fO 18 (Jg7 p0_ p1_) Tryz.func72 (sr (ck 1 (en (sr (ck 4 (gc 1 (decide (0<=p1_)) (pA (ck 3 (bx H λ gd1 h8 H=>soG (λ hg=>HU (BB h8 hg)) (BY (λ hh=>hh) (BY (λ hh=>hh) (Eb))) (gc 2 ((decide (0<=p1_))&&(decide (p1_<8))) (pA (ck 1 (en (re (by cases H;exact pr rd)))))))))))))))
end
section
variable (p0_:Int)
def Jg8:St:=⟨(0,.d (.int .u8 p0_))::[],[]⟩
variable {p0_}
theorem HG {z} (H:Es n p0_=some z):AD Tryz.prog 73 [.d (.int .u8 p0_)] (.d (.int .i64 z)):=by
 refine fO 30 (Jg8 p0_) Tryz.func73 (sr (ck 1 (en (sr (ck 3 (en (sq (bk 0 (sr (ck 4 (gc 1 (decide (97<=Ch .u8 p0_ 127)) (pA (ck 1 (en (cn H (λ H=>?_) (λ H=>?_))))))))))))))))
 ·exact sr (ck 1 (en (re (qR (qr (by cases H;exact pr rd))))))
 ·refine sr (ck 4 (gc 1 (decide (65<=Ch .u8 p0_ 127)) (pA (ck 1 (en (cn H (λ H=>?_) (λ H=>?_)))))))
  ·exact sr (ck 1 (en (re (qR (qr (by cases H;exact pr rd))))))
  ·refine sr (ck 4 (gc 1 (decide (48<=Ch .u8 p0_ 127)) (pA (ck 1 (en (cn H (λ H=>?_) (λ H=>?_)))))))
   ·exact sr (ck 1 (en (re (qR (qr (by cases H;exact pr rd))))))
   ·refine sr (ck 3 (en (cn H (λ H=>?_) (λ H=>?_))))
    ·exact sr (ck 1 (en (re (qR (qr (by cases H;exact pr rd))))))
    ·exact sk (qN (qz (sr (ck 1 (en (re (by cases H;exact pr rd)))))))
end
section
variable (p0_:Ad) (p1_:Ab) (p2_:Int)
def Jg9:St:=⟨(0,.agg [.d (.int .i64 p0_.Modes),.d (.int .u8 p0_.Accept),.d (.sl (p0_.Rules.map An))])::(1,.agg [.d (.int .i64 p1_.Mode),.d (.int .i64 p1_.Last),.d (.int .u8 p1_.Need)])::(2,.d (.int .i64 p2_))::[],[]⟩
variable {p0_ p1_ p2_}
theorem L6 {z} (H:GY n p0_ p1_ p2_=some z):AD Tryz.prog 52 [.agg (AK p0_),.agg (Je p1_),.d (.int .i64 p2_)] (.tup [.agg [.d (.int .i64 z.1.Mode),.d (.int .i64 z.1.Last),.d (.int .u8 z.1.Need)],.d (.bool z.2)]):=by
 refine fO 78 (Jg9 p0_ p1_ p2_) Tryz.func52 (sr (ck 4 (en (sq (sr (ck 5 (gc 1 (!(decide (p2_<0))) (sE (g:=(!(decide (p2_<0)))) (λ hg=>AB An p0_.Rules) (gc 1 (!(decide (p2_<0))) (pO (en (cn H (λ H=>?_) (λ H=>?_)))))))))))))
 ·exact sr (ck 3 (en (re (qr (by cases H;exact pr rdT)))))
 ·refine sk (qz (sr (ck 3 (bx H λ x3 h9 H=>sp (Am An h9) (ck 3 (en (sq (sr (ck 7 (gc 1 (!(x3.From != p1_.Mode)) (ck 1 (gc 1 (!(x3.From != p1_.Mode)) (bx H λ r2 h10 H=>cG false (leZ) rfl (λ hg=>Kj (BB h10 hg)) (Or.inl rfl) (BY (λ hh=>hh) (BY (λ hh=>hh) (Eb))) rfl (gc 1 (!(x3.From != p1_.Mode)) (pO (en (cn H (λ H=>?_) (λ H=>?_))))))))))))))))))
  ·exact sr (ck 3 (en (re (qr (by cases H;exact pr rdT)))))
  ·refine sk (qz (sq (sr (ck 3 (en (cn H (λ H=>?_) (λ H=>?_)))))))
   ·refine sr (ck 6 (en (sq (sr (ck 2 (en (cn H (λ H=>?_) (λ H=>?_))))))))
    ·exact sr (ck 3 (en (re (qr (qr (by cases H;exact pr rdT))))))
    ·exact sk (qz (sr (ck 8 (en (re (qr (by cases H;exact pr rdT)))))))
   ·refine sk (qz (sq (sr (ck 4 (bx H λ b2 h11 H=>sp (Hv h11) (bx H λ r3 h12 H=>ca false (HG h12) (bx H λ r4 h13 H=>ca false (Kj h13) (ck 1 (en (cn H (λ H=>?_) (λ H=>?_)))))))))))
    ·exact sr (ck 3 (en (re (qr (by cases H;exact pr rdT)))))
    ·exact sk (qz (sr (ck 8 (bx H λ b3 h14 H=>sp (Hv h14) (bx H λ r5 h15 H=>ca false (HG h15) (ck 5 (en (re (by cases H;exact pr rdT)))))))))
end
section
variable (p0_:Ad) (states_1:(List Ab)) (from_1:(List (List Int))) (number_1:(List (Ab×Int))) (k_1:Int) (states_2:(List Ab)) (from_2:(List (List Int))) (states_3:(List Ab)) (from_3:(List (List Int))) (number_2:(List (Ab×Int))) (x_2:Int) (states_4:(List Ab)) (from_4:(List (List Int))) (number_3:(List (Ab×Int))) (states_5:(List Ab)) (from_5:(List (List Int))) (number_4:(List (Ab×Int))) (states_6:(List Ab)) (from_6:(List (List Int))) (number_5:(List (Ab×Int))) (n_1:Int)
def Jha:St:=⟨(0,.agg [.d (.int .i64 p0_.Modes),.d (.int .u8 p0_.Accept),.d (.sl (p0_.Rules.map An))])::[],[]⟩
def Jhb:St:=⟨(1,.ptr 0 0)::(5,.osl 1 3 0 (states_1.length))::(6,.osl 2 1 0 (from_1.length))::(7,.mp 3)::(8,.d (.int .i64 k_1))::[],[some (.box (AK p0_)),some (.arr 3 (states_1.map Aj)),some (.narr 1 (from_1.map (nL 1 Ae))),some (.map true false (Er Aj Ae number_1))]⟩
def Jhc:St:=⟨(5,.osl 0 3 0 (states_2.length))::(6,.osl 1 1 0 (from_2.length))::[],[some (.arr 3 (states_2.map Aj)),some (.narr 1 (from_2.map (nL 1 Ae)))]⟩
def Jhd:St:=⟨(1,.ptr 0 0)::(5,.osl 1 3 0 (states_3.length))::(6,.osl 2 1 0 (from_3.length))::(7,.mp 3)::(8,.d (.int .i64 k_1))::(29,.d (.int .i64 ((p0_.Rules.length:Nat):Int)))::(30,.d (.int .i64 x_2))::[],[some (.box (AK p0_)),some (.arr 3 (states_3.map Aj)),some (.narr 1 (from_3.map (nL 1 Ae))),some (.map true false (Er Aj Ae number_2))]⟩
def Jhe:St:=⟨(1,.ptr 0 0)::(5,.osl 1 3 0 (states_4.length))::(6,.osl 2 1 0 (from_4.length))::(7,.mp 3)::(8,.d (.int .i64 k_1))::[],[some (.box (AK p0_)),some (.arr 3 (states_4.map Aj)),some (.narr 1 (from_4.map (nL 1 Ae))),some (.map true false (Er Aj Ae number_3))]⟩
def Jhf:St:=⟨(1,.ptr 0 0)::(5,.osl 1 3 0 (states_5.length))::(6,.osl 2 1 0 (from_5.length))::(7,.mp 3)::(8,.d (.int .i64 k_1))::(29,.d (.int .i64 ((p0_.Rules.length:Nat):Int)))::(30,.d (.int .i64 x_2))::[],[some (.box (AK p0_)),some (.arr 3 (states_5.map Aj)),some (.narr 1 (from_5.map (nL 1 Ae))),some (.map true false (Er Aj Ae number_4))]⟩
def Jhg:St:=⟨(1,.ptr 0 0)::(5,.osl 1 3 0 (states_6.length))::(6,.osl 2 1 0 (from_6.length))::(7,.mp 3)::(8,.d (.int .i64 k_1))::(12,.d (.int .i64 n_1))::(29,.d (.int .i64 ((p0_.Rules.length:Nat):Int)))::(30,.d (.int .i64 x_2))::[],[some (.box (AK p0_)),some (.arr 3 (states_6.map Aj)),some (.narr 1 (from_6.map (nL 1 Ae))),some (.map true false (Er Aj Ae number_5))]⟩
def PO:((List Ab)×(List (List Int))×(List (Ab×Int)))->Ex->St->Prop:=xX 0 2 (λ (y:((List Ab)×(List (List Int))×(List (Ab×Int))))=>Jhe p0_ k_1 y.1 y.2.1 y.2.2)
def JI:((List Ab)×(List (List Int))×(List (Ab×Int))×Int)->St:=(λ (x:((List Ab)×(List (List Int))×(List (Ab×Int))×Int))=>Jhd p0_ k_1 x.1 x.2.1 x.2.2.1 x.2.2.2)
def PP:((List Ab)×(List (List Int)))->Ex->St->Prop:=xX 0 0 (λ (y:((List Ab)×(List (List Int))))=>Jhc y.1 y.2)
def JJ:((List Ab)×(List (List Int))×(List (Ab×Int))×Int)->St:=(λ (x:((List Ab)×(List (List Int))×(List (Ab×Int))×Int))=>Jhb p0_ x.1 x.2.1 x.2.2.1 x.2.2.2)
variable {p0_ states_1 from_1 number_1 k_1 states_2 from_2 states_3 from_3 number_2 x_2 states_4 from_4 number_3 states_5 from_5 number_4 states_6 from_6 number_5 n_1}
theorem OW (x:((List Ab)×(List (List Int))×(List (Ab×Int))×Int)) (z:(((List Ab)×(List (List Int))×(List (Ab×Int))×Int)⊕((List Ab)×(List (List Int))×(List (Ab×Int))))) (H:Bw n p0_ k_1 x.1 x.2.1 x.2.2.1 x.2.2.2=some z):WP (cxk 78 0) (Aw Tryz.f71) [1,1,1,1,0,1,0,0,1,0,0,1,0,0] (Au 0 (JI p0_ k_1) (PO p0_ k_1) z) (JI p0_ k_1 x):=by
 obtain ⟨states_3,from_3,number_2,x_2⟩:=x
 refine sr (ck 1 (en (sq (cn H (λ H=>?_) (λ H=>?_)))))
 ·refine sk (qz (sj (λ (x:((List Ab)×(List (List Int))×(List (Ab×Int))))=>Jhf p0_ k_1 x_2 x.1 x.2.1 x.2.2) (λ (x:((List Ab)×(List (List Int))×(List (Ab×Int))))=>Cj n x_2 x.1 x.2.1 x.2.2) z ?_ (λ hFAu_explore_J1=>?_)))
  ·rintro ⟨states_5,from_5,number_4⟩ H
   exact rz (ck 2 (ae (by cases H;exact og (gP [1,5,6,7,8,29,30] [0,1,2,3] (po1 (po1 (pn1 (nL 1 Ae) from_5 (po1 (Pl.z)))))))))
  refine bk 3 (sr (ck 2 (en (sr (ck 3 (bx H λ x4 h17 H=>sp (Az 1 3 h17) (sp (CJ Aj 1 0 (ty 93) h17) (ck 1 (bx H λ r7 h18 H=>ca false (L6 h18) (ck 6 (en (sq (sr (ck 2 (en (cn H (λ H=>?_) (λ H=>?_)))))))))))))))))
  ·exact ex 3 (qx (qH (qs (gP [1,5,6,7,8,29,30] [0,1,2,3] (po1 (po1 (pn1 (nL 1 Ae) from_3 (po1 (Pl.z)))))) (hFAu_explore_J1 (states_3,from_3,number_2) H))))
  ·refine sk (qz (sr (ck 2 (sp (So (enc:=Ae) (encK:=Aj) (k:=3) (e1:=λ x=>.int .i64 x) (m:=number_2) (l:=[.d (.int .i64 r7.1.Mode),.d (.int .i64 r7.1.Last),.d (.int .u8 r7.1.Need)]) (key:=r7.1) (z:=0) (vz:=[.int .i64 0]) Ss true) (ck 5 (en (sj (λ (x:((List Ab)×(List (List Int))×(List (Ab×Int))×Int))=>Jhg p0_ k_1 x_2 x.1 x.2.1 x.2.2.1 x.2.2.2) (λ (x:((List Ab)×(List (List Int))×(List (Ab×Int))×Int))=>CK n k_1 x_2 x.1 x.2.1 x.2.2.1 x.2.2.2) z ?_ (λ hFAu_explore_J2=>?_))))))))
   ·rintro ⟨states_6,from_6,number_5,n_1⟩ H
    exact bx H λ x5 h19 H=>rg (tr (so1 (encN:=(nL 1 Ae)) 2 1 h19) (sno (encN:=(nL 1 Ae)) (enc:=Ae) h19 [.own 1 (x5.map Ae)] x5 1 2 0 1)) (ck 4 (sp (Az 2 1 h19) (sp (Ci (encN:=(nL 1 Ae)) (row:=[.osl 4 1 0 (x5.length)]) (k:=2) (sz:=1) (off:=0) (t:=ty 35) (v:=.osl 4 1 0 (x5.length)) h19) (ck 2 (bx H λ l2 h20 H=>sp (B5 Ae 4 1 h20) (sp (Az 2 1 h19) (sp (LU (encN:=(nL 1 Ae)) (row:=[.osl 4 1 0 (x5.length)]) (row':=[.osl 6 1 0 (l2.length)]) (k:=2) (sz:=1) (off:=0) (t:=ty 35) (v:=.osl 6 1 0 (l2.length)) h19) (ae (qN (qs (tr (tr (tr (tr (tr (sni (encN:=(nL 1 Ae)) (xs:=from_6) (n:=n_1) (enc:=Ae) [.osl 6 1 0 (l2.length)] l2 1 2 0 6 1) (scl (encN:=(nL 1 Ae)) (xss:=from_6) n_1 [.own 1 (l2.map Ae)] 1 2 l2)) (sn 6 2 1 (lsS from_6 n_1.toNat l2))) (sn 65 2 1 (lsS from_6 n_1.toNat l2))) (sn 67 2 1 (lsS from_6 n_1.toNat l2))) (gP [1,5,6,7,8,29,30] [0,1,2,3] (po1 (po1 (pn1 (nL 1 Ae) (List.set from_6 n_1.toNat l2) (po1 (Pl.z))))))) (hFAu_explore_J1 (states_6,(List.set from_6 n_1.toNat l2),number_5) H)))))))))))
   refine sr (ck 2 (en (cn H (λ H=>?_) (λ H=>?_))))
   ·exact sr (ck 3 (en (sr (ck 3 (sp (Rf (enc:=Ae) (encK:=Aj) (k:=3) (e1:=λ x=>.int .i64 x) (m:=number_2) (l:=[.d (.int .i64 r7.1.Mode),.d (.int .i64 r7.1.Last),.d (.int .u8 r7.1.Need)]) (key:=r7.1) (y:=((states_3.length:Nat):Int)) (v:=.d (.int .i64 ((states_3.length:Nat):Int))) (vz:=[.int .i64 0]) Ss) (en (rz (ck 3 (bx H λ l3 h21 H=>sp (B5 Aj 1 3 h21) (ck 1 (sK false (bx H λ l4 h22 H=>sp (JeV (encN:=(nL 1 Ae)) (esz:=1) (k:=2) (e:=[.nil]) h22) (ck 2 (ae (qs (tr (Jgs (encN:=(nL 1 Ae)) (xss:=from_3) (yss:=l4) (y:=([]:(List Int))) (row:=[.own 0 []]) (sz:=1) 7 (by kernel_rfl) (JeM h22) (by kernel_rfl)) (gP [1,5,6,7,8,12,29,30] [0,6,7,3] (po1 (po1 (pn1 (nL 1 Ae) l4 (po1 (Pl.z))))))) (hFAu_explore_J2 (l3,l4,(LO r7.1 ((states_3.length:Nat):Int) number_2),((states_3.length:Nat):Int)) H))))))))))))))))
   ·exact sk (qs (gP [1,5,6,7,8,12,29,30] [0,1,2,3] (po1 (po1 (pn1 (nL 1 Ae) from_3 (po1 (Pl.z)))))) (hFAu_explore_J2 (states_3,from_3,number_2,(Option.getD (Ga r7.1 number_2) 0)) H))
 ·exact ex 2 (qx (by cases H;exact xo rfl (gP [1,5,6,7,8] [0,1,2,3] (po1 (po1 (pn1 (nL 1 Ae) from_3 (po1 (Pl.z))))))))
theorem OX (x:((List Ab)×(List (List Int))×(List (Ab×Int))×Int)) (z:(((List Ab)×(List (List Int))×(List (Ab×Int))×Int)⊕((List Ab)×(List (List Int))))) (H:Ck n p0_ x.1 x.2.1 x.2.2.1 x.2.2.2=some z):WP (cxk 78 0) (Aw Tryz.f71) [1,1,1,1,0,1,0,0] (Au 0 (JJ p0_) (PP) z) (JJ p0_ x):=by
 obtain ⟨states_1,from_1,number_1,k_1⟩:=x
 refine sq (sr (ck 4 (en (cn H (λ H=>?_) (λ H=>?_)))))
 ·exact sk (qz (sq (bk 1 (sr (ck 2 (sp (AB An p0_.Rules) (ck 1 (en (bk 2 (bx H λ y5 h23 H=>lX OW h23 (gP [1,5,6,7,8,29,30] [0,1,2,3] (po1 (po1 (pn1 (nL 1 Ae) from_1 (po1 (Pl.z)))))) rfl λ s hE4=>qH (qN (qs (hE4) (rz (ck 3 (ae (by cases H;exact og (gP [1,5,6,7,8] [0,1,2,3] (po1 (po1 (pn1 (nL 1 Ae) y5.2.1 (po1 (Pl.z))))))))))))))))))))))
 ·exact ex 0 (qx (by cases H;exact xo rfl (gP [5,6] [1,2] (po1 (pn1 (nL 1 Ae) from_1 (Pl.z))))))
theorem Su {z} (H:Fw n p0_=some z):AD Tryz.prog 71 [.agg (AK p0_)] (.tup [.own 3 (z.1.map Aj),.d (.sl (z.2.map (eL Ae)))]):=by
 exact fO 78 (Jha p0_) Tryz.func71 (sr (ck 3 (en (sr (bx H λ r6 h16 H=>ca false (Vd h16) (ck 2 (en (sr (ck 2 (sK true (ck 2 (en (sq (rg (Jbx (sz:=1) (es:=[[.nil]]) 3 (List.map (nL 1 Ae) ([[]]:List (List Int))) (by kernel_rfl) (by kernel_rfl)) (ck 2 (sp (Rf (enc:=Ae) (encK:=Aj) (k:=4) (e1:=λ x=>.int .i64 x) (m:=[]) (l:=[.d (.int .i64 r6.Mode),.d (.int .i64 r6.Last),.d (.int .u8 r6.Need)]) (key:=r6) (y:=0) (v:=.d (.int .i64 0)) (vz:=[.int .i64 0]) Ss) (ck 2 (en (sq (sr (ck 1 (en (bk 0 (bx H λ y6 h24 H=>lX OX h24 (gP [1,5,6,7,8] [0,2,3,4] (po1 (po1 (pn1 (nL 1 Ae) ([[]]:List (List Int)) (po1 (Pl.z)))))) rfl λ s hE5=>qH (qs (hE5) (sr (ck 4 (ae (qs (YY (encN:=(nL 1 Ae)) (encD:=(eL Ae)) (xss:=y6.2) (k:=1) (sz:=1) 3 (by kernel_rfl) (λ _=>rfl) (λ _=>rfl)) (re (by cases H;exact pr (rT (vs:=[.osl 0 3 0 (y6.1.length),.d (.sl (y6.2.map (eL Ae)))]) [0] (t1 (ao vo) (t1 (ad vd) (t0)))))))))))))))))))))))))))))))))))
end
section
variable (p0_:Ad)
def Jhh:St:=⟨(0,.agg [.d (.int .i64 p0_.Modes),.d (.int .u8 p0_.Accept),.d (.sl (p0_.Rules.map An))])::[],[]⟩
variable {p0_}
theorem Nw {z} (H:GB n p0_=some z):AD Tryz.prog 50 [.agg (AK p0_)] (.own 3 (z.map Aj)):=by
 exact fO 11 (Jhh p0_) Tryz.func50 (sr (ck 2 (en (sr (ck 1 (bx H λ r8 h25 H=>cl [List.length r8.1] (Su h25) (ck 5 (en (sr (ck 2 (en (re (by cases H;exact pr (rO (v:=.osl 1 3 0 (r8.1.length)) [1] (ao vo)))))))))))))))
end
section
variable (p0_:Ad) (p1_:Ab)
def Jhi:St:=⟨(0,.agg [.d (.int .i64 p0_.Modes),.d (.int .u8 p0_.Accept),.d (.sl (p0_.Rules.map An))])::(1,.agg [.d (.int .i64 p1_.Mode),.d (.int .i64 p1_.Last),.d (.int .u8 p1_.Need)])::[],[]⟩
variable {p0_ p1_}
theorem L7 {z} (H:Ec n p0_ p1_=some z):AD Tryz.prog 51 [.agg (AK p0_),.agg (Je p1_)] (.d (.bool z)):=by
 exact fO 22 (Jhi p0_ p1_) Tryz.func51 (sr (ck 3 (en (sr (ck 7 (gc 1 (decide (p1_.Mode<p0_.Modes)) (ck 1 (gc 1 (decide (p1_.Mode<p0_.Modes)) (bx H λ r9 h26 H=>cG false (leZ) rfl (λ hg=>Kj (BB h26 hg)) (Or.inl rfl) (BY (λ hh=>hh) (BY (λ hh=>hh) (Eb))) rfl (pA (ck 2 (gc 1 ((decide (p1_.Mode<p0_.Modes))&&r9) (bx H λ r10 h27 H=>cG false (leZ) rfl (λ hg=>Kj (BB h27 hg)) (Or.inl rfl) (BY (λ hh=>hh) (Eb)) rfl (pA (ck 1 (en (re (by cases H;exact pr rd))))))))))))))))))
end
section
variable (p0_:(List UInt8)) (p1_:(List UInt8))
def Jhj:St:=⟨(0,.d (.str p0_))::(1,.d (.str p1_))::[],[]⟩
variable {p0_ p1_}
theorem PR {z} (H:EP n p0_ p1_=some z):AD Tryz.prog 74 [.d (.str p0_),.d (.str p1_)] (.d (.bool z)):=by
 exact fO 18 (Jhj p0_ p1_) Tryz.func74 (sr (ck 1 (en (sr (ck 8 (gc 1 (decide (((p0_.length:Nat):Int)>=((p1_.length:Nat):Int))) (bx H λ s1 h36 H=>sE (λ hg=>Hw (BB h36 hg)) (ck 1 (gc 1 (decide (((p0_.length:Nat):Int)>=((p1_.length:Nat):Int))) (pA (ck 1 (en (re (by cases H;exact pr rd))))))))))))))
end
section
variable (p0_:(List UInt8)) (p1_:(List UInt8))
def Jhk:St:=⟨(0,.d (.str p0_))::(1,.d (.str p1_))::[],[]⟩
variable {p0_ p1_}
theorem JK {z} (H:DU n p0_ p1_=some z):AD Tryz.prog 55 [.d (.str p0_),.d (.str p1_)] (.d (.bool z)):=by
 exact fO 8 (Jhk p0_ p1_) Tryz.func55 (sr (ck 1 (en (sr (ck 2 (bx H λ r11 h37 H=>ca true (PR h37) (ck 1 (en (re (by cases H;exact pr rd))))))))))
end
section
variable (p0_:Ad) (x_4:AM) (r12:(List Ab)) (number_6:(List (Ab×Int))) (x_5:Int) (number_7:(List (Ab×Int))) (y8:(List (Ab×Int))) (g_1:AM) (x_6:Int) (g_2:AM) (x13:Ab) (g_3:AM) (x_7:Int) (g_4:AM) (g_5:AM)
def JbZ:St:=⟨(0,.agg [.d (.int .i64 p0_.Modes),.d (.int .u8 p0_.Accept),.d (.sl (p0_.Rules.map An))])::[],[]⟩
def Jb0:St:=⟨(2,.ptr 0 0)::[],[some (.box [.osl 1 1 0 (x_4.Arcs.length),.osl 2 1 0 (x_4.Accepts.length)]),some (.narr 1 (x_4.Arcs.map (nL 3 Ay))),some (.arr 1 (x_4.Accepts.map eB))]⟩
def Jb1:St:=⟨(1,.ptr 0 0)::(3,.d (.sl (r12.map Aj)))::(4,.mp 1)::(19,.d (.sl (r12.map Aj)))::(20,.d (.int .i64 ((r12.length:Nat):Int)))::(21,.d (.int .i64 x_5))::[],[some (.box (AK p0_)),some (.map true false (Er Aj Ae number_6))]⟩
def Jb2:St:=⟨(1,.ptr 0 0)::(3,.d (.sl (r12.map Aj)))::(4,.mp 1)::[],[some (.box (AK p0_)),some (.map true false (Er Aj Ae number_7))]⟩
def OY:(List (Ab×Int))->Ex->St->Prop:=xX 0 0 (λ (y:(List (Ab×Int)))=>Jb2 p0_ r12 y)
def IN:((List (Ab×Int))×Int)->St:=(λ (x:((List (Ab×Int))×Int))=>Jb1 p0_ r12 x.1 x.2)
def Jb3:St:=⟨(1,.ptr 0 0)::(4,.mp 1)::(7,.ptr 2 0)::(38,.d (.sl (r12.map Aj)))::(39,.d (.int .i64 ((r12.length:Nat):Int)))::(40,.d (.int .i64 x_6))::[],[some (.box (AK p0_)),some (.map true false (Er Aj Ae y8)),some (.box [.osl 3 1 0 (g_1.Arcs.length),.osl 4 1 0 (g_1.Accepts.length)]),some (.narr 1 (g_1.Arcs.map (nL 3 Ay))),some (.arr 1 (g_1.Accepts.map eB))]⟩
def Jb4:St:=⟨(7,.ptr 0 0)::[],[some (.box [.osl 1 1 0 (g_2.Arcs.length),.osl 2 1 0 (g_2.Accepts.length)]),some (.narr 1 (g_2.Arcs.map (nL 3 Ay))),some (.arr 1 (g_2.Accepts.map eB))]⟩
def Jb5:St:=⟨(1,.ptr 0 0)::(4,.mp 1)::(7,.ptr 2 0)::(8,.d (.int .i64 x_6))::(9,.ptr 3 0)::(38,.d (.sl (r12.map Aj)))::(39,.d (.int .i64 ((r12.length:Nat):Int)))::(40,.d (.int .i64 x_6))::(55,.d (.sl (p0_.Rules.map An)))::(56,.d (.int .i64 ((p0_.Rules.length:Nat):Int)))::(57,.d (.int .i64 x_7))::[],[some (.box (AK p0_)),some (.map true false (Er Aj Ae y8)),some (.box [.osl 4 1 0 (g_3.Arcs.length),.osl 5 1 0 (g_3.Accepts.length)]),some (.box (Je x13)),some (.narr 1 (g_3.Arcs.map (nL 3 Ay))),some (.arr 1 (g_3.Accepts.map eB))]⟩
def Jb6:St:=⟨(1,.ptr 0 0)::(4,.mp 1)::(7,.ptr 2 0)::(38,.d (.sl (r12.map Aj)))::(39,.d (.int .i64 ((r12.length:Nat):Int)))::(40,.d (.int .i64 x_6))::[],[some (.box (AK p0_)),some (.map true false (Er Aj Ae y8)),some (.box [.osl 3 1 0 (g_4.Arcs.length),.osl 4 1 0 (g_4.Accepts.length)]),some (.narr 1 (g_4.Arcs.map (nL 3 Ay))),some (.arr 1 (g_4.Accepts.map eB))]⟩
def Jb7:St:=⟨(1,.ptr 0 0)::(4,.mp 1)::(7,.ptr 2 0)::(8,.d (.int .i64 x_6))::(9,.ptr 3 0)::(38,.d (.sl (r12.map Aj)))::(39,.d (.int .i64 ((r12.length:Nat):Int)))::(40,.d (.int .i64 x_6))::(55,.d (.sl (p0_.Rules.map An)))::(56,.d (.int .i64 ((p0_.Rules.length:Nat):Int)))::(57,.d (.int .i64 x_7))::[],[some (.box (AK p0_)),some (.map true false (Er Aj Ae y8)),some (.box [.osl 4 1 0 (g_5.Arcs.length),.osl 5 1 0 (g_5.Accepts.length)]),some (.box (Je x13)),some (.narr 1 (g_5.Arcs.map (nL 3 Ay))),some (.arr 1 (g_5.Accepts.map eB))]⟩
def OZ:AM->Ex->St->Prop:=xX 0 4 (λ (y:AM)=>Jb6 p0_ r12 y8 x_6 y)
def IP:(AM×Int)->St:=(λ (x:(AM×Int))=>Jb5 p0_ r12 y8 x_6 x13 x.1 x.2)
def O2:AM->Ex->St->Prop:=xX 0 2 (λ (y:AM)=>Jb4 y)
def IQ:(AM×Int)->St:=(λ (x:(AM×Int))=>Jb3 p0_ r12 y8 x.1 x.2)
variable {p0_ x_4 r12 number_6 x_5 number_7 y8 g_1 x_6 g_2 x13 g_3 x_7 g_4 g_5}
theorem NX (x:((List (Ab×Int))×Int)) (z:(((List (Ab×Int))×Int)⊕(List (Ab×Int)))) (H:B0 n p0_ r12 x.1 x.2=some z):WP (cxk 97 0) (Aw Tryz.f26) [1,1,1,0,1,0,0] (Au 0 (IN p0_ r12) (OY p0_ r12) z) (IN p0_ r12 x):=by
 obtain ⟨number_6,x_5⟩:=x
 refine sr (ck 1 (en (sq (cn H (λ H=>?_) (λ H=>?_)))))
 ·exact sk (qz (sq (bk 1 (sr (ck 1 (bx H λ x12 h44 H=>sp (Am Aj h44) (ck 4 (en (rz (ck 3 (sp (Rf (enc:=Ae) (encK:=Aj) (k:=1) (e1:=λ x=>.int .i64 x) (m:=number_6) (l:=[.d (.int .i64 x12.Mode),.d (.int .i64 x12.Last),.d (.int .u8 x12.Need)]) (key:=x12) (y:=x_5) (v:=.d (.int .i64 x_5)) (vz:=[.int .i64 0]) Ss) (ae (qN (qz (rz (ck 2 (ae (by cases H;exact og (sg [1,3,4,19,20,21])))))))))))))))))))
 ·exact ex 0 (qx (by cases H;exact xo rfl (sg [1,3,4])))
theorem NY (x:(AM×Int)) (z:((AM×Int)⊕AM)) (H:B1 n p0_ r12 y8 x_6 x13 x.1 x.2=some z):WP (cxk 97 0) (Aw Tryz.f26) [1,1,1,1,1,0,1,0,0,1,1,0,0,1,1,1,0,0] (Au 0 (IP p0_ r12 y8 x_6 x13) (OZ p0_ r12 y8 x_6) z) (IP p0_ r12 y8 x_6 x13 x):=by
 obtain ⟨g_3,x_7⟩:=x
 refine sr (ck 1 (en (sq (cn H (λ H=>?_) (λ H=>?_)))))
 ·refine sk (qz (sj (λ (x:AM)=>Jb7 p0_ r12 y8 x_6 x13 x_7 x) (λ (x:AM)=>Cp n x_7 x) z ?_ (λ hFRv_newGraph_J1=>?_)))
  ·intro g_5 H
   exact rz (ck 2 (ae (by cases H;exact og (gP [1,4,7,8,9,38,39,40,55,56,57] [0,1,2,3,4,5] (po1 (po1 (po1 (po1 (pn1 (nL 3 Ay) g_5.Arcs (po1 (Pl.z)))))))))))
  refine bk 5 (sr (ck 1 (bx H λ x15 h52 H=>sp (Am An h52) (ck 4 (en (sr (ck 3 (bx H λ r14 h53 H=>ca false (L6 h53) (ck 6 (en (sr (ck 1 (en (cn H (λ H=>?_) (λ H=>?_)))))))))))))))
  ·exact bx H λ x16 h54 H=>rg (tr (so1 (encN:=(nL 3 Ay)) 4 1 h54) (sno (encN:=(nL 3 Ay)) (enc:=Ay) h54 [.own 3 (x16.map Ay)] x16 1 4 0 3)) (ck 10 (sp (Az 4 1 h54) (sp (Ci (encN:=(nL 3 Ay)) (row:=[.osl 8 3 0 (x16.length)]) (k:=4) (sz:=1) (off:=0) (t:=ty 116) (v:=.osl 8 3 0 (x16.length)) h54) (ck 4 (sp (AB eU8 x15.Cells) (ck 2 (sp (So (enc:=Ae) (encK:=Aj) (k:=1) (e1:=λ x=>.int .i64 x) (m:=y8) (l:=[.d (.int .i64 r14.1.Mode),.d (.int .i64 r14.1.Last),.d (.int .u8 r14.1.Need)]) (key:=r14.1) (z:=0) (vz:=[.int .i64 0]) Ss false) (ck 2 (bx H λ l12 h55 H=>sp (B5 Ay 8 3 h55) (sp (Az 4 1 h54) (sp (LU (encN:=(nL 3 Ay)) (row:=[.osl 8 3 0 (x16.length)]) (row':=[.osl 10 3 0 (l12.length)]) (k:=4) (sz:=1) (off:=0) (t:=ty 116) (v:=.osl 10 3 0 (l12.length)) h54) (ae (qN (qs (tr (tr (tr (tr (tr (sni (encN:=(nL 3 Ay)) (xs:=g_3.Arcs) (n:=x_6) (enc:=Ay) [.osl 10 3 0 (l12.length)] l12 1 4 0 10 3) (scl (encN:=(nL 3 Ay)) (xss:=g_3.Arcs) x_6 [.own 3 (l12.map Ay)] 1 4 l12)) (sn 73 4 1 (lsS g_3.Arcs x_6.toNat l12))) (sn 78 4 1 (lsS g_3.Arcs x_6.toNat l12))) (snc 2 0 4 1 (lsS g_3.Arcs x_6.toNat l12))) (gP [1,4,7,8,9,38,39,40,55,56,57] [0,1,2,3,4,5] (po1 (po1 (po1 (po1 (pn1 (nL 3 Ay) (List.set g_3.Arcs x_6.toNat l12) (po1 (Pl.z))))))))) (hFRv_newGraph_J1 ({ Arcs:=List.set g_3.Arcs x_6.toNat l12,Accepts:=g_3.Accepts }:AM) H)))))))))))))))
  ·exact sk (qN (qs (gP [1,4,7,8,9,38,39,40,55,56,57] [0,1,2,3,4,5] (po1 (po1 (po1 (po1 (pn1 (nL 3 Ay) g_3.Arcs (po1 (Pl.z)))))))) (hFRv_newGraph_J1 g_3 H)))
 ·exact ex 4 (qx (by cases H;exact xo rfl (gP [1,4,7,38,39,40] [0,1,2,4,5] (po1 (po1 (po1 (pn1 (nL 3 Ay) g_3.Arcs (po1 (Pl.z)))))))))
theorem NZ (x:(AM×Int)) (z:((AM×Int)⊕AM)) (H:Cq n p0_ r12 y8 x.1 x.2=some z):WP (cxk 97 0) (Aw Tryz.f26) [1,1,1,1,1,0,1,0,0] (Au 0 (IQ p0_ r12 y8) (O2) z) (IQ p0_ r12 y8 x):=by
 obtain ⟨g_1,x_6⟩:=x
 refine sr (ck 1 (en (sq (cn H (λ H=>?_) (λ H=>?_)))))
 ·exact sk (qz (sq (bk 3 (sr (ck 1 (bx H λ x13 h48 H=>sp (Am Aj h48) (ck 4 (en (sr (ck 7 (bx H λ r13 h49 H=>ca false (L7 h49) (bx H λ x14 h50 H=>sp (Az 4 1 h50) (bx H λ l11 h51 H=>stA eB 4 0 (ty 4) h50 h51 (en (sq (rg (tr (sn 48 4 1 (Bg h51)) (snc 2 1 4 1 (Bg h51))) (ck 2 (sp (AB An p0_.Rules) (ck 1 (en (bk 4 (bx H λ y9 h56 H=>lX NY h56 (gP [1,4,7,8,9,38,39,40,55,56,57] [0,1,2,5,3,4] (po1 (po1 (po1 (po1 (pn1 (nL 3 Ay) g_1.Arcs (po1 (Pl.z)))))))) rfl λ s hE8=>qH (qN (qs (hE8) (rz (ck 2 (ae (by cases H;exact og (gP [1,4,7,38,39,40] [0,1,2,3,4] (po1 (po1 (po1 (pn1 (nL 3 Ay) y9.Arcs (po1 (Pl.z)))))))))))))))))))))))))))))))))))
 ·exact ex 2 (qx (by cases H;exact xo rfl (gP [7] [2,3,4] (po1 (pn1 (nL 3 Ay) g_1.Arcs (po1 (Pl.z)))))))
theorem K1 {z} (H:DD n p0_=some z):BD Tryz.prog 26 [.agg (AK p0_)] [] 0 (.ptr 0 0) [some (.box [.osl 1 1 0 (z.Arcs.length),.osl 2 1 0 (z.Accepts.length)]),some (.narr 1 (z.Arcs.map (nL 3 Ay))),some (.arr 1 (z.Accepts.map eB))]:=by
 exact fL 97 0 (JbZ p0_) Tryz.func26 (sr (ck 2 (en (sr (ck 1 (bx H λ r12 h43 H=>ca false (Nw h43) (ck 1 (en (sr (ck 1 (sp (AB Aj r12) (ck 2 (en (sq (sr (ck 1 (sp (AB Aj r12) (ck 1 (en (bk 0 (bx H λ y8 h45 H=>lX NX h45 (sg [1,3,4,19,20,21]) rfl λ s hE7=>qH (qs (hE7) (sr (ck 1 (sp (AB Aj r12) (bx H λ l9 h46 H=>sp (Sq 1 (ez:=[.nil]) h46) (ck 1 (sp (AB Aj r12) (bx H λ l10 h47 H=>sp (Uh eB 1 h47) (ck 3 (en (sq (sq (rg (tr (tr (U7 (encN:=(nL 3 Ay)) (sz:=1) (z:=[.nil]) (n:=((r12.length:Nat):Int)) 2 (MG h46) (by kernel_rfl) (by kernel_rfl)) (sn 32 2 1 (GJ h46))) (snc 4 0 2 1 (GJ h46))) (ck 1 (sp (AB Aj r12) (ck 1 (en (bk 2 (bx H λ y10 h57 H=>lX NZ h57 (gP [1,4,7,38,39,40] [0,1,4,2,3] (po1 (po1 (po1 (pn1 (nL 3 Ay) l9 (po1 (Pl.z))))))) rfl λ s hE9=>qH (qs (hE9) (sr (ck 2 (en (re (by cases H;exact pL (rl (s':=Jb0 z) (gP [2] [0,1,2] (po1 (pn1 (nL 3 Ay) z.Arcs (po1 (Pl.z))))))))))))))))))))))))))))))))))))))))))))))))))))
end
section
variable (p1_:(List UInt8)) (b0_:AM) (x_8:(List (Nat×Nat))) (x_9:(List Int)) (x_10:(List Int)) (l14:(List Int)) (l15:(List Int)) (m_3:(List (Nat×Nat))) (x_11:Int) (m_4:(List (Nat×Nat)))
def Jb8:St:=⟨(0,.ptr 0 0)::(1,.d (.str p1_))::[],[some (.box [.d (.sl (b0_.Arcs.map (eL Ay))),.d (.sl (b0_.Accepts.map eB))])]⟩
def Jb9:St:=⟨(4,.ptr 1 0)::[],[some (.box [.d (.sl (b0_.Arcs.map (eL Ay))),.d (.sl (b0_.Accepts.map eB))]),some (.box [.d (.str p1_),.osl 2 1 0 (x_8.length),.osl 3 1 0 (x_9.length)]),some (.cut 4 1 x_8),some (.arr 1 (x_9.map Ae)),some (.arr 1 (x_10.map Ae))]⟩
def Jca:St:=⟨(4,.ptr 1 0)::(5,.d (.int .i64 ((b0_.Arcs.length:Nat):Int)))::(7,.ptr 2 0)::(8,.osl 3 1 0 (l15.length))::(28,.d (.int .i64 (AE .i64 ((p1_.length:Nat):Int) 1)))::(29,.d (.int .i64 x_11))::[],[some (.box [.d (.sl (b0_.Arcs.map (eL Ay))),.d (.sl (b0_.Accepts.map eB))]),some (.box [.d (.str []),.osl 4 1 0 (List.length ([]:List (List Int))),.osl 5 1 0 (List.length ([]:List Int))]),some (.box [.d (.str p1_),.osl 6 1 0 (m_3.length),.osl 7 1 0 (l14.length)]),some (.arr 1 (l15.map Ae)),some (.arr 1 (List.map (eL Ae) ([]:List (List Int)))),some (.arr 1 (List.map Ae ([]:List Int))),some (.cut 3 1 m_3),some (.arr 1 (l14.map Ae))]⟩
def Jcb:St:=⟨(4,.ptr 1 0)::(7,.ptr 2 0)::[],[some (.box [.d (.sl (b0_.Arcs.map (eL Ay))),.d (.sl (b0_.Accepts.map eB))]),some (.box [.d (.str []),.osl 3 1 0 (List.length ([]:List (List Int))),.osl 4 1 0 (List.length ([]:List Int))]),some (.box [.d (.str p1_),.osl 5 1 0 (m_4.length),.osl 6 1 0 (l14.length)]),some (.arr 1 (List.map (eL Ae) ([]:List (List Int)))),some (.arr 1 (List.map Ae ([]:List Int))),some (.cut 7 1 m_4),some (.arr 1 (l14.map Ae)),some (.arr 1 (l15.map Ae))]⟩
def Ln:(List (Nat×Nat))->Ex->St->Prop:=xX 1 0 (λ (y:(List (Nat×Nat)))=>Jcb p1_ b0_ l14 l15 y)
def Gb:((List (Nat×Nat))×Int)->St:=(λ (x:((List (Nat×Nat))×Int))=>Jca p1_ b0_ l14 l15 x.1 x.2)
variable {p1_ b0_ x_8 x_9 x_10 l14 l15 m_3 x_11 m_4}
theorem Kk (x:((List (Nat×Nat))×Int)) (z:(((List (Nat×Nat))×Int)⊕(List (Nat×Nat)))) (H:BF n p1_ b0_ l14 l15 x.1 x.2=some z):WP (cxk 51 1) (Aw Tryz.f28) [1,1,1,1,0,1,0,0] (Au 1 (Gb p1_ b0_ l14 l15) (Ln p1_ b0_ l14 l15) z) (Gb p1_ b0_ l14 l15 x):=by
 obtain ⟨m_3,x_11⟩:=x
 refine sr (ck 1 (en (sq (cn H (λ H=>?_) (λ H=>?_)))))
 ·exact sk (qz (sq (bk 1 (sr (ck 2 (en (rg (OP (xs:=m_3) 6 3 1 (by kernel_rfl)) (ck 15 (bx H λ gd3 h61 H=>sp (JgF 3 1 (l15.length) h61) (bx H λ x17 h62 H=>sp (Az 6 1 h62) (bx H λ l16 h63 H=>sp (JgG (t:=ty 35) 6 3 1 ((0+Int.toNat (Kd .i64 x_11 ((b0_.Arcs.length:Nat):Int)),Int.toNat (Kd .i64 (AE .i64 x_11 1) ((b0_.Arcs.length:Nat):Int))-Int.toNat (Kd .i64 x_11 ((b0_.Arcs.length:Nat):Int))):Nat×Nat).1 ((0+Int.toNat (Kd .i64 x_11 ((b0_.Arcs.length:Nat):Int)),Int.toNat (Kd .i64 (AE .i64 x_11 1) ((b0_.Arcs.length:Nat):Int))-Int.toNat (Kd .i64 x_11 ((b0_.Arcs.length:Nat):Int))):Nat×Nat).2 h63) (ae (qN (qz (rg (tr (tr (Nt (xs:=l16) 6 3 1 (by kernel_rfl)) (sn 33 6 1 (Bg h63))) (snc 2 1 6 1 (Bg h63))) (ck 2 (ae (by cases H;exact og (sg [4,5,7,8,28,29])))))))))))))))))))
 ·exact ex 0 (qx (by cases H;exact xo rfl (sg [4,7])))
theorem Hn {z} (H:B8 n p1_ b0_=some z):BD Tryz.prog 28 [.ptr 0 0,.d (.str p1_)] [some (.box [.d (.sl (b0_.Arcs.map (eL Ay))),.d (.sl (b0_.Accepts.map eB))])] 1 (.agg [.d (.str p1_),.osl 2 1 0 (z.1.length),.osl 3 1 0 (z.2.1.length)]) [some (.box [.d (.sl (b0_.Arcs.map (eL Ay))),.d (.sl (b0_.Accepts.map eB))]),some (.box [.d (.str p1_),.osl 2 1 0 (z.1.length),.osl 3 1 0 (z.2.1.length)]),some (.cut 4 1 z.1),some (.arr 1 (z.2.1.map Ae)),some (.arr 1 (z.2.2.map Ae))]:=by
 exact fL 51 1 (Jb8 p1_ b0_) Tryz.func28 (sr (ck 1 (en (sr (ck 4 (sp (AB (eL Ay) b0_.Arcs) (ck 5 (en (sr (ck 2 (bx H λ l13 h58 H=>sp (Sq 1 (ez:=[.nil]) h58) (ck 1 (bx H λ l14 h59 H=>sp (Uh Ae 1 h59) (ck 3 (en (sr (ck 3 (bx H λ l15 h60 H=>sp (Uh Ae 1 h60) (ck 1 (en (sq (sq (rg (tr (tr (tr (JgH (zs:=l13) 2 5 1 (MG h58) (by kernel_rfl)) (Nt (xs:=List.replicate (l13.length) ((0,0):Nat×Nat)) 2 5 1 (by kernel_rfl))) (sn 20 2 1 ((GJ h58).trans (lrN (x:=((0,0):Nat×Nat)))))) (snc 4 1 2 1 ((GJ h58).trans (lrN (x:=((0,0):Nat×Nat)))))) (ck 2 (en (bk 0 (bx H λ y11 h64 H=>lX Kk h64 (tr (tr (BL 1 1 1 (by kernel_rfl)) (BL 1 2 1 (by kernel_rfl))) (sg [4,5,7,8,28,29])) rfl λ s hE10=>qH (qs (hE10) (sr (ck 2 (en (re (by cases H;exact pL (rl (s':=Jb9 p1_ b0_ y11 l14 l15) (sg [4])))))))))))))))))))))))))))))))))))
end
section
variable (p1_0_:(List UInt8)) (b0_:AM) (o1_:(List (Nat×Nat))) (o2_:(List Int)) (o3_:(List Int))
def Jcc:St:=⟨(0,.ptr 0 0)::(1,.agg [.d (.str p1_0_),.osl 1 1 0 (o1_.length),.osl 2 1 0 (o2_.length)])::[],[some (.box [.d (.sl (b0_.Arcs.map (eL Ay))),.d (.sl (b0_.Accepts.map eB))]),some (.cut 3 1 o1_),some (.arr 1 (o2_.map Ae)),some (.arr 1 (o3_.map Ae))]⟩
def Jcd:St:=⟨(4,.clo 53 [.ptr 4 0,.ptr 5 0])::[],[some (.box [.d (.sl (b0_.Arcs.map (eL Ay))),.d (.sl (b0_.Accepts.map eB))]),some (.cut 3 1 o1_),some (.arr 1 (o2_.map Ae)),some (.arr 1 (o3_.map Ae)),some (.box [.d (.str p1_0_),.osl 1 1 0 (o1_.length),.osl 2 1 0 (o2_.length)]),some (.box [.ptr 0 0])]⟩
variable {p1_0_ b0_ o1_ o2_ o3_}
theorem G8 {z} (H:C3 n p1_0_ b0_ o1_ o2_ o3_=some z):BD Tryz.prog 29 [.ptr 0 0,.agg [.d (.str p1_0_),.osl 1 1 0 (o1_.length),.osl 2 1 0 (o2_.length)]] [some (.box [.d (.sl (b0_.Arcs.map (eL Ay))),.d (.sl (b0_.Accepts.map eB))]),some (.cut 3 1 o1_),some (.arr 1 (o2_.map Ae)),some (.arr 1 (o3_.map Ae))] 4 (.clo 53 [.ptr 4 0,.ptr 5 0]) [some (.box [.d (.sl (b0_.Arcs.map (eL Ay))),.d (.sl (b0_.Accepts.map eB))]),some (.cut 3 1 o1_),some (.arr 1 (o2_.map Ae)),some (.arr 1 (o3_.map Ae)),some (.box [.d (.str p1_0_),.osl 1 1 0 (o1_.length),.osl 2 1 0 (o2_.length)]),some (.box [.ptr 0 0])]:=by
 exact fL 6 4 (Jcc p1_0_ b0_ o1_ o2_ o3_) Tryz.func29 (sr (ck 3 (en (sr (xm (xok _ _) (ck 1 (en (re (by cases H;exact pL (rl (s':=Jcd p1_0_ b0_ o1_ o2_ o3_) (sg [4])))))))))))
end
section
variable (p0_0_:(List UInt8)) (p1_:Int) (p2_:Int) (o0_:(List (Nat×Nat))) (o1_:(List Int)) (o2_:(List Int)) (x_12:Int)
def Jce:St:=⟨(0,.agg [.d (.str p0_0_),.osl 0 1 0 (o0_.length),.osl 1 1 0 (o1_.length)])::(1,.d (.int .i64 p1_))::(2,.d (.int .i64 p2_))::[],[some (.cut 2 1 o0_),some (.arr 1 (o1_.map Ae)),some (.arr 1 (o2_.map Ae))]⟩
def WV:St:=⟨(6,.d (.int .i64 x_12))::[],[some (.cut 2 1 o0_),some (.arr 1 (o1_.map Ae)),some (.arr 1 (o2_.map Ae))]⟩
variable {p0_0_ p1_ p2_ o0_ o1_ o2_ x_12}
theorem Sv {z} (H:Fx n p0_0_ p1_ p2_ o0_ o1_ o2_=some z):BD Tryz.prog 56 [.agg [.d (.str p0_0_),.osl 0 1 0 (o0_.length),.osl 1 1 0 (o1_.length)],.d (.int .i64 p1_),.d (.int .i64 p2_)] [some (.cut 2 1 o0_),some (.arr 1 (o1_.map Ae)),some (.arr 1 (o2_.map Ae))] 3 (.d (.int .i64 z)) [some (.cut 2 1 o0_),some (.arr 1 (o1_.map Ae)),some (.arr 1 (o2_.map Ae))]:=by
 refine fL 30 3 (Jce p0_0_ p1_ p2_ o0_ o1_ o2_) Tryz.func56 (sr (ck 2 (en (sq (sq (rg (OP (xs:=o0_) 0 2 1 (by kernel_rfl)) (ck 3 (bx H λ x18 h65 H=>sp (Az 0 1 h65) (sp (PH (t:=ty 35) 0 2 1 h65) (ck 1 (bx H λ x19 h66 H=>sp (E9 2 1 x18.1 x18.2 (GA h66)) (sp (LW Ae 2 0 (ty 3) (Fa h66)) (ck 1 (en (cn H (λ H=>?_) (λ H=>?_))))))))))))))))
 ·exact sq (rg (Nt (xs:=o0_) 0 2 1 (by kernel_rfl)) (ck 1 (en (re (qr (by cases H;exact pL (rl (s':=WV o0_ o1_ o2_ (-1)) (sg [6]))))))))
 ·exact sk (qz (sq (rg (tr (Nt (xs:=o0_) 0 2 1 (by kernel_rfl)) (OP (xs:=o0_) 0 2 1 (by kernel_rfl))) (ck 3 (bx H λ x20 h67 H=>sp (Az 1 1 h67) (sp (CJ Ae 1 0 (ty 3) h67) (ck 3 (bx H λ x21 h68 H=>sp (Az 0 1 h68) (sp (PH (t:=ty 35) 0 2 1 h68) (ck 1 (bx H λ x22 h69 H=>sp (E9 2 1 x21.1 x21.2 (GA h69)) (sp (LW Ae 2 0 (ty 3) (Fa h69)) (ck 2 (en (re (by cases H;exact pL (rl (s':=WV o0_ o1_ o2_ (AE .i64 x20 x22)) (tr (Nt (xs:=o0_) 0 2 1 (by kernel_rfl)) (sg [6])))))))))))))))))))
end
section
variable (p0_:Int) (p1_:Int) (p2_:Int) (b0_0_:(Nat×Nat)) (o1_:(List Int)) (x_13:(List Int)) (x_14:Bool)
def Jcf:St:=⟨(0,.d (.int .i64 p0_))::(1,.d (.int .i64 p1_))::(2,.d (.int .i64 p2_))::(3,.ptr 0 0)::[],[some (.box [.osl 1 1 b0_0_.1 b0_0_.2]),some (.arr 1 (o1_.map Ae))]⟩
def WW:St:=⟨(7,.d (.bool x_14))::[],[some (.box [.osl 1 1 b0_0_.1 b0_0_.2]),some (.arr 1 (x_13.map Ae))]⟩
variable {p0_ p1_ p2_ b0_0_ o1_ x_13 x_14}
theorem EU {z} (H:Br n p0_ p1_ p2_ b0_0_ o1_=some z):BD Tryz.prog 54 [.d (.int .i64 p0_),.d (.int .i64 p1_),.d (.int .i64 p2_),.ptr 0 0] [some (.box [.osl 1 1 b0_0_.1 b0_0_.2]),some (.arr 1 (o1_.map Ae))] 2 (.d (.bool z.2)) [some (.box [.osl 1 1 b0_0_.1 b0_0_.2]),some (.arr 1 (z.1.map Ae))]:=by
 refine fL 33 2 (Jcf p0_ p1_ p2_ b0_0_ o1_) Tryz.func54 (sr (ck 1 (en (sq (sr (ck 5 (bx H λ x23 h70 H=>sE (λ hg=>E9 1 1 b0_0_.1 b0_0_.2 (GA (BB h70 hg))) (sE (g:=(!(decide (p1_<0)))) (λ hg=>LW Ae 1 0 (ty 3) (Fa (BB h70 hg))) (gc 2 (!(decide (p1_<0))) (ck 2 (bx H λ x24 h71 H=>sE (λ hg=>E9 1 1 b0_0_.1 b0_0_.2 (GA (BB h71 hg))) (sE (g:=((!(decide (p1_<0)))&&(decide (x23>=0)))) (λ hg=>LW Ae 1 0 (ty 3) (Fa (BB h71 hg))) (ck 2 (gc 2 ((!(decide (p1_<0)))&&(decide (x23>=0))) (pG (g:=(!(decide (p1_<0)))) (v:=.d (.bool ((decide (x23>=0))&&(decide (x24<=AE .i64 p1_ p2_))))) (λ hg=>Gy (c:=.gv (!(decide (p1_<0))) (.d (.bool (decide (x23>=0))))) (a:=.gv ((!(decide (p1_<0)))&&(decide (x23>=0))) (.d (.bool (decide (x24<=AE .i64 p1_ p2_))))) (b:=.d (.bool false)) rfl rfl rfl ((λ hh=>hh) hg) (λ ht=>by rw [(λ hh=>hh) hg,ht];rfl) trivial) (pO (en (cn H (λ H=>?_) (λ H=>?_)))))))))))))))))))
 ·exact sr (ck 1 (en (re (qr (by cases H;exact pL (rl (s':=WW b0_0_ o1_ false) (sg [7])))))))
 ·exact sk (qz (sr (ck 5 (bx H λ x25 h72 H=>sp (E9 1 1 b0_0_.1 b0_0_.2 (GA h72)) (bx H λ l17 h73 H=>stP Ae 1 0 (b0_0_.1+Int.toNat p0_) (ty 3) (Fa h72) h73 (en (sr (ck 1 (en (re (by cases H;exact pL (rl (s':=WW b0_0_ l17 true) (sg [7])))))))))))))
end
section
variable (p0_:(Nat×Nat)) (o0_:(List Int)) (x_15:(List Int)) (x_16:Int) (least_1:Int) (x_17:Int) (least_2:Int) (least_3:Int) (y12:Int) (column_1:(List Int)) (x_18:Int) (x_19:(List Int)) (column_2:(List Int))
def Jcg:St:=⟨(0,.osl 0 1 p0_.1 p0_.2)::[],[some (.arr 1 (o0_.map Ae))]⟩
def Jch:St:=⟨(2,.d (.int .i64 x_16))::[],[some (.arr 1 (x_15.map Ae))]⟩
def Jci:St:=⟨(0,.osl 0 1 p0_.1 p0_.2)::(3,.d (.int .i64 least_1))::(8,.osl 0 1 p0_.1 p0_.2)::(9,.d (.int .i64 ((p0_.2:Nat):Int)))::(10,.d (.int .i64 x_17))::[],[some (.arr 1 (o0_.map Ae))]⟩
def Jcj:St:=⟨(0,.osl 0 1 p0_.1 p0_.2)::(3,.d (.int .i64 least_2))::[],[some (.arr 1 (o0_.map Ae))]⟩
def Jck:St:=⟨(0,.osl 0 1 p0_.1 p0_.2)::(3,.d (.int .i64 least_3))::(8,.osl 0 1 p0_.1 p0_.2)::(9,.d (.int .i64 ((p0_.2:Nat):Int)))::(10,.d (.int .i64 x_17))::[],[some (.arr 1 (o0_.map Ae))]⟩
def QO:Int->Ex->St->Prop:=xX 1 0 (λ (y:Int)=>Jcj p0_ o0_ y)
def K2:(Int×Int)->St:=(λ (x:(Int×Int))=>Jci p0_ o0_ x.1 x.2)
def Jcl:St:=⟨(0,.osl 0 1 p0_.1 p0_.2)::(3,.d (.int .i64 y12))::(27,.osl 0 1 p0_.1 p0_.2)::(28,.d (.int .i64 ((p0_.2:Nat):Int)))::(29,.d (.int .i64 x_18))::[],[some (.arr 1 (column_1.map Ae))]⟩
def Jcm:St:=⟨(3,.d (.int .i64 y12))::[],[some (.arr 1 (x_19.map Ae))]⟩
def Jcn:St:=⟨(0,.osl 0 1 p0_.1 p0_.2)::(3,.d (.int .i64 y12))::(27,.osl 0 1 p0_.1 p0_.2)::(28,.d (.int .i64 ((p0_.2:Nat):Int)))::(29,.d (.int .i64 x_18))::[],[some (.arr 1 (column_2.map Ae))]⟩
def QP:(List Int)->Ex->St->Prop:=xX 1 2 (λ (y:(List Int))=>Jcm y12 y)
def K3:((List Int)×Int)->St:=(λ (x:((List Int)×Int))=>Jcl p0_ y12 x.1 x.2)
variable {p0_ o0_ x_15 x_16 least_1 x_17 least_2 least_3 y12 column_1 x_18 x_19 column_2}
theorem PS (x:(Int×Int)) (z:((Int×Int)⊕Int)) (H:CD n p0_ o0_ x.1 x.2=some z):WP (cxk 44 1) (Aw Tryz.f57) [1,1,0,1,0,0] (Au 1 (K2 p0_ o0_) (QO p0_ o0_) z) (K2 p0_ o0_ x):=by
 obtain ⟨least_1,x_17⟩:=x
 refine sr (ck 1 (en (sq (cn H (λ H=>?_) (λ H=>?_)))))
 ·refine sk (qz (sj (λ (x:Int)=>Jck p0_ o0_ x_17 x) (λ (x:Int)=>C6 n x_17 x) z ?_ (λ hFRv_reduce_J1=>?_)))
  ·intro least_3 H
   exact rz (ck 2 (ae (by cases H;exact og (sg [0,3,8,9,10]))))
  refine bk 1 (sr (bx H λ x26 h74 H=>sp (E9 0 1 p0_.1 p0_.2 (GA h74)) (sp (LW Ae 0 0 (ty 3) (Fa h74)) (ck 1 (en (sr (ck 4 (gc 2 (decide (x26>=0)) (ck 2 (gc 1 ((decide (x26>=0))&&!(decide (least_1<0))) (pG (g:=decide (x26>=0)) (v:=.d (.bool ((decide (least_1<0))||(decide (x26<least_1))))) (λ hg=>Gy (c:=.gv (decide (x26>=0)) (.d (.bool (decide (least_1<0))))) (a:=.d (.bool true)) (b:=.gv ((decide (x26>=0))&&!(decide (least_1<0))) (.d (.bool (decide (x26<least_1))))) rfl rfl rfl ((λ hh=>hh) hg) trivial (λ ht=>by rw [(λ hh=>hh) hg,ht];rfl)) (pA (en (cn H (λ H=>?_) (λ H=>?_)))))))))))))))
  ·exact rz (ck 2 (ae (qN (qs (sg [0,3,8,9,10]) (hFRv_reduce_J1 x26 H)))))
  ·exact sk (qN (qs (sg [0,3,8,9,10]) (hFRv_reduce_J1 least_1 H)))
 ·exact ex 0 (qx (by cases H;exact xo rfl (sg [0,3])))
theorem PT (x:((List Int)×Int)) (z:(((List Int)×Int)⊕(List Int))) (H:CE n p0_ y12 x.1 x.2=some z):WP (cxk 44 1) (Aw Tryz.f57) [1,1,1,0,1,0,0] (Au 1 (K3 p0_ y12) (QP y12) z) (K3 p0_ y12 x):=by
 obtain ⟨column_1,x_18⟩:=x
 refine sr (ck 1 (en (sq (cn H (λ H=>?_) (λ H=>?_)))))
 ·refine sk (qz (sj (λ (x:(List Int))=>Jcn p0_ y12 x_18 x) (λ (x:(List Int))=>C7 n x_18 x) z ?_ (λ hFRv_reduce_J2=>?_)))
  ·intro column_2 H
   exact rz (ck 2 (ae (by cases H;exact og (sg [0,3,27,28,29]))))
  refine bk 3 (sr (ck 1 (bx H λ x27 h76 H=>sp (E9 0 1 p0_.1 p0_.2 (GA h76)) (sp (LW Ae 0 0 (ty 3) (Fa h76)) (ck 2 (en (sr (ck 2 (en (cn H (λ H=>?_) (λ H=>?_)))))))))))
  ·exact rz (ck 5 (bx H λ x28 h77 H=>sp (E9 0 1 p0_.1 p0_.2 (GA h77)) (bx H λ l18 h78 H=>stP Ae 0 0 (p0_.1+Int.toNat x_18) (ty 3) (Fa h77) h78 (ae (qN (qs (sg [0,3,27,28,29]) (hFRv_reduce_J2 l18 H)))))))
  ·exact sk (qN (qs (sg [0,3,27,28,29]) (hFRv_reduce_J2 column_1 H)))
 ·exact ex 2 (qx (by cases H;exact xo rfl (sg [3])))
theorem Tp {z} (H:HX n p0_ o0_=some z):BD Tryz.prog 57 [.osl 0 1 p0_.1 p0_.2] [some (.arr 1 (o0_.map Ae))] 1 (.d (.int .i64 z.2)) [some (.arr 1 (z.1.map Ae))]:=by
 exact fL 44 1 (Jcg p0_ o0_) Tryz.func57 (sr (ck 1 (en (sr (ck 1 (en (sq (sr (ck 3 (en (bk 0 (bx H λ y12 h75 H=>lX PS h75 (sg [0,3,8,9,10]) rfl λ s hE11=>qH (qs (hE11) (sq (sr (ck 3 (en (bk 2 (bx H λ y13 h79 H=>lX PT h79 (sg [0,3,27,28,29]) rfl λ s hE12=>qH (qs (hE12) (sr (ck 2 (en (re (by cases H;exact pL (rl (s':=Jch y13 y12) (sg [2])))))))))))))))))))))))))))
end
section
variable (p0_:Int) (b0_0_:(List UInt8)) (b4_:AM) (o2_:(List (Nat×Nat))) (o3_:(List Int)) (o5_:(List Int)) (x_20:(List Int)) (x_21:Int) (x29:(Nat×Nat)) (column_3:(List Int)) (x_22:Int) (column_4:(List Int)) (column_5:(List Int)) (column_6:(List Int)) (x_23:Int) (column_7:(List Int)) (x33:(List NV)) (column_8:(List Int)) (x_24:Int) (column_9:(List Int)) (column_10:(List Int)) (column_11:(List Int)) (better_1:Bool) (column_12:(List Int)) (column_13:(List Int)) (better_2:Bool) (x_25:Int) (column_14:(List Int)) (better_3:Bool) (x35:(List NV)) (column_15:(List Int)) (better_4:Bool) (x_26:Int) (column_16:(List Int)) (better_5:Bool) (column_17:(List Int)) (better_6:Bool)
def Jco:St:=⟨(0,.d (.int .i64 p0_))::(1,.ptr 0 0)::(2,.ptr 1 0)::[],[some (.box [.d (.str b0_0_),.osl 2 1 0 (o2_.length),.osl 3 1 0 (o3_.length)]),some (.box [.ptr 4 0]),some (.cut 5 1 o2_),some (.arr 1 (o3_.map Ae)),some (.box [.d (.sl (b4_.Arcs.map (eL Ay))),.d (.sl (b4_.Accepts.map eB))]),some (.arr 1 (o5_.map Ae))]⟩
def Jcp:St:=⟨(4,.d (.int .i64 x_21))::[],[some (.box [.d (.str b0_0_),.osl 2 1 0 (o2_.length),.osl 3 1 0 (o3_.length)]),some (.box [.ptr 4 0]),some (.cut 5 1 o2_),some (.arr 1 (o3_.map Ae)),some (.box [.d (.sl (b4_.Arcs.map (eL Ay))),.d (.sl (b4_.Accepts.map eB))]),some (.arr 1 (x_20.map Ae))]⟩
def Jcq:St:=⟨(0,.d (.int .i64 p0_))::(1,.ptr 0 0)::(2,.ptr 1 0)::(5,.ptr 6 0)::(23,.d (.int .i64 ((x29.2:Nat):Int)))::(24,.d (.int .i64 x_22))::[],[some (.box [.d (.str b0_0_),.osl 2 1 0 (o2_.length),.osl 3 1 0 (o3_.length)]),some (.box [.ptr 4 0]),some (.cut 5 1 o2_),some (.arr 1 (o3_.map Ae)),some (.box [.d (.sl (b4_.Arcs.map (eL Ay))),.d (.sl (b4_.Accepts.map eB))]),some (.arr 1 (column_3.map Ae)),some (.box [.osl 5 1 x29.1 x29.2])]⟩
def Jcr:St:=⟨(0,.d (.int .i64 p0_))::(1,.ptr 0 0)::(2,.ptr 1 0)::(5,.ptr 6 0)::[],[some (.box [.d (.str b0_0_),.osl 2 1 0 (o2_.length),.osl 3 1 0 (o3_.length)]),some (.box [.ptr 4 0]),some (.cut 5 1 o2_),some (.arr 1 (o3_.map Ae)),some (.box [.d (.sl (b4_.Arcs.map (eL Ay))),.d (.sl (b4_.Accepts.map eB))]),some (.arr 1 (column_4.map Ae)),some (.box [.osl 5 1 x29.1 x29.2])]⟩
def Jcs:St:=⟨(0,.d (.int .i64 p0_))::(1,.ptr 0 0)::(2,.ptr 1 0)::(5,.ptr 6 0)::(23,.d (.int .i64 ((x29.2:Nat):Int)))::(24,.d (.int .i64 x_22))::[],[some (.box [.d (.str b0_0_),.osl 2 1 0 (o2_.length),.osl 3 1 0 (o3_.length)]),some (.box [.ptr 4 0]),some (.cut 5 1 o2_),some (.arr 1 (o3_.map Ae)),some (.box [.d (.sl (b4_.Arcs.map (eL Ay))),.d (.sl (b4_.Accepts.map eB))]),some (.arr 1 (column_5.map Ae)),some (.box [.osl 5 1 x29.1 x29.2])]⟩
def Jf:(List Int)->Ex->St->Prop:=xX 6 0 (λ (y:(List Int))=>Jcr p0_ b0_0_ b4_ o2_ o3_ x29 y)
def EV:((List Int)×Int)->St:=(λ (x:((List Int)×Int))=>Jcq p0_ b0_0_ b4_ o2_ o3_ x29 x.1 x.2)
def Jct:St:=⟨(0,.d (.int .i64 p0_))::(1,.ptr 0 0)::(2,.ptr 1 0)::(5,.ptr 6 0)::(7,.clo 54 [.ptr 6 0])::(52,.d (.sl (b4_.Arcs.map (eL Ay))))::(53,.d (.int .i64 ((b4_.Arcs.length:Nat):Int)))::(54,.d (.int .i64 x_23))::[],[some (.box [.d (.str b0_0_),.osl 2 1 0 (o2_.length),.osl 3 1 0 (o3_.length)]),some (.box [.ptr 4 0]),some (.cut 5 1 o2_),some (.arr 1 (o3_.map Ae)),some (.box [.d (.sl (b4_.Arcs.map (eL Ay))),.d (.sl (b4_.Accepts.map eB))]),some (.arr 1 (column_6.map Ae)),some (.box [.osl 5 1 x29.1 x29.2])]⟩
def Jcu:St:=⟨(2,.ptr 1 0)::(5,.ptr 6 0)::(7,.clo 54 [.ptr 6 0])::[],[some (.box [.d (.str b0_0_),.osl 2 1 0 (o2_.length),.osl 3 1 0 (o3_.length)]),some (.box [.ptr 4 0]),some (.cut 5 1 o2_),some (.arr 1 (o3_.map Ae)),some (.box [.d (.sl (b4_.Arcs.map (eL Ay))),.d (.sl (b4_.Accepts.map eB))]),some (.arr 1 (column_7.map Ae)),some (.box [.osl 5 1 x29.1 x29.2])]⟩
def Jcv:St:=⟨(0,.d (.int .i64 p0_))::(1,.ptr 0 0)::(2,.ptr 1 0)::(5,.ptr 6 0)::(7,.clo 54 [.ptr 6 0])::(8,.d (.int .i64 x_23))::(52,.d (.sl (b4_.Arcs.map (eL Ay))))::(53,.d (.int .i64 ((b4_.Arcs.length:Nat):Int)))::(54,.d (.int .i64 x_23))::(59,.d (.sl (x33.map Ay)))::(60,.d (.int .i64 ((x33.length:Nat):Int)))::(61,.d (.int .i64 x_24))::[],[some (.box [.d (.str b0_0_),.osl 2 1 0 (o2_.length),.osl 3 1 0 (o3_.length)]),some (.box [.ptr 4 0]),some (.cut 5 1 o2_),some (.arr 1 (o3_.map Ae)),some (.box [.d (.sl (b4_.Arcs.map (eL Ay))),.d (.sl (b4_.Accepts.map eB))]),some (.arr 1 (column_8.map Ae)),some (.box [.osl 5 1 x29.1 x29.2])]⟩
def Jcw:St:=⟨(0,.d (.int .i64 p0_))::(1,.ptr 0 0)::(2,.ptr 1 0)::(5,.ptr 6 0)::(7,.clo 54 [.ptr 6 0])::(52,.d (.sl (b4_.Arcs.map (eL Ay))))::(53,.d (.int .i64 ((b4_.Arcs.length:Nat):Int)))::(54,.d (.int .i64 x_23))::[],[some (.box [.d (.str b0_0_),.osl 2 1 0 (o2_.length),.osl 3 1 0 (o3_.length)]),some (.box [.ptr 4 0]),some (.cut 5 1 o2_),some (.arr 1 (o3_.map Ae)),some (.box [.d (.sl (b4_.Arcs.map (eL Ay))),.d (.sl (b4_.Accepts.map eB))]),some (.arr 1 (column_9.map Ae)),some (.box [.osl 5 1 x29.1 x29.2])]⟩
def Z1:St:=⟨(0,.d (.int .i64 p0_))::(1,.ptr 0 0)::(2,.ptr 1 0)::(5,.ptr 6 0)::(7,.clo 54 [.ptr 6 0])::(8,.d (.int .i64 x_23))::(52,.d (.sl (b4_.Arcs.map (eL Ay))))::(53,.d (.int .i64 ((b4_.Arcs.length:Nat):Int)))::(54,.d (.int .i64 x_23))::(59,.d (.sl (x33.map Ay)))::(60,.d (.int .i64 ((x33.length:Nat):Int)))::(61,.d (.int .i64 x_24))::[],[some (.box [.d (.str b0_0_),.osl 2 1 0 (o2_.length),.osl 3 1 0 (o3_.length)]),some (.box [.ptr 4 0]),some (.cut 5 1 o2_),some (.arr 1 (o3_.map Ae)),some (.box [.d (.sl (b4_.Arcs.map (eL Ay))),.d (.sl (b4_.Accepts.map eB))]),some (.arr 1 (column_10.map Ae)),some (.box [.osl 5 1 x29.1 x29.2])]⟩
def Jg:(List Int)->Ex->St->Prop:=xX 6 4 (λ (y:(List Int))=>Jcw p0_ b0_0_ b4_ o2_ o3_ x29 x_23 y)
def EW:((List Int)×Int)->St:=(λ (x:((List Int)×Int))=>Jcv p0_ b0_0_ b4_ o2_ o3_ x29 x_23 x33 x.1 x.2)
def Jh:(List Int)->Ex->St->Prop:=xX 6 2 (λ (y:(List Int))=>Jcu b0_0_ b4_ o2_ o3_ x29 y)
def EX:((List Int)×Int)->St:=(λ (x:((List Int)×Int))=>Jct p0_ b0_0_ b4_ o2_ o3_ x29 x.1 x.2)
def Z2:St:=⟨(2,.ptr 1 0)::(5,.ptr 6 0)::(7,.clo 54 [.ptr 6 0])::(12,.d (.bool better_1))::[],[some (.box [.d (.str b0_0_),.osl 2 1 0 (o2_.length),.osl 3 1 0 (o3_.length)]),some (.box [.ptr 4 0]),some (.cut 5 1 o2_),some (.arr 1 (o3_.map Ae)),some (.box [.d (.sl (b4_.Arcs.map (eL Ay))),.d (.sl (b4_.Accepts.map eB))]),some (.arr 1 (column_11.map Ae)),some (.box [.osl 5 1 x29.1 x29.2])]⟩
def Z3:St:=⟨(5,.ptr 6 0)::[],[some (.box [.d (.str b0_0_),.osl 2 1 0 (o2_.length),.osl 3 1 0 (o3_.length)]),some (.box [.ptr 4 0]),some (.cut 5 1 o2_),some (.arr 1 (o3_.map Ae)),some (.box [.d (.sl (b4_.Arcs.map (eL Ay))),.d (.sl (b4_.Accepts.map eB))]),some (.arr 1 (column_12.map Ae)),some (.box [.osl 5 1 x29.1 x29.2])]⟩
def Z4:St:=⟨(2,.ptr 1 0)::(5,.ptr 6 0)::(7,.clo 54 [.ptr 6 0])::(12,.d (.bool better_2))::(97,.d (.sl (b4_.Arcs.map (eL Ay))))::(98,.d (.int .i64 ((b4_.Arcs.length:Nat):Int)))::(99,.d (.int .i64 x_25))::[],[some (.box [.d (.str b0_0_),.osl 2 1 0 (o2_.length),.osl 3 1 0 (o3_.length)]),some (.box [.ptr 4 0]),some (.cut 5 1 o2_),some (.arr 1 (o3_.map Ae)),some (.box [.d (.sl (b4_.Arcs.map (eL Ay))),.d (.sl (b4_.Accepts.map eB))]),some (.arr 1 (column_13.map Ae)),some (.box [.osl 5 1 x29.1 x29.2])]⟩
def Z5:St:=⟨(2,.ptr 1 0)::(5,.ptr 6 0)::(7,.clo 54 [.ptr 6 0])::(12,.d (.bool better_3))::[],[some (.box [.d (.str b0_0_),.osl 2 1 0 (o2_.length),.osl 3 1 0 (o3_.length)]),some (.box [.ptr 4 0]),some (.cut 5 1 o2_),some (.arr 1 (o3_.map Ae)),some (.box [.d (.sl (b4_.Arcs.map (eL Ay))),.d (.sl (b4_.Accepts.map eB))]),some (.arr 1 (column_14.map Ae)),some (.box [.osl 5 1 x29.1 x29.2])]⟩
def Z6:St:=⟨(2,.ptr 1 0)::(5,.ptr 6 0)::(7,.clo 54 [.ptr 6 0])::(12,.d (.bool better_4))::(13,.d (.int .i64 x_25))::(97,.d (.sl (b4_.Arcs.map (eL Ay))))::(98,.d (.int .i64 ((b4_.Arcs.length:Nat):Int)))::(99,.d (.int .i64 x_25))::(104,.d (.sl (x35.map Ay)))::(105,.d (.int .i64 ((x35.length:Nat):Int)))::(106,.d (.int .i64 x_26))::[],[some (.box [.d (.str b0_0_),.osl 2 1 0 (o2_.length),.osl 3 1 0 (o3_.length)]),some (.box [.ptr 4 0]),some (.cut 5 1 o2_),some (.arr 1 (o3_.map Ae)),some (.box [.d (.sl (b4_.Arcs.map (eL Ay))),.d (.sl (b4_.Accepts.map eB))]),some (.arr 1 (column_15.map Ae)),some (.box [.osl 5 1 x29.1 x29.2])]⟩
def Z7:St:=⟨(2,.ptr 1 0)::(5,.ptr 6 0)::(7,.clo 54 [.ptr 6 0])::(12,.d (.bool better_5))::(97,.d (.sl (b4_.Arcs.map (eL Ay))))::(98,.d (.int .i64 ((b4_.Arcs.length:Nat):Int)))::(99,.d (.int .i64 x_25))::[],[some (.box [.d (.str b0_0_),.osl 2 1 0 (o2_.length),.osl 3 1 0 (o3_.length)]),some (.box [.ptr 4 0]),some (.cut 5 1 o2_),some (.arr 1 (o3_.map Ae)),some (.box [.d (.sl (b4_.Arcs.map (eL Ay))),.d (.sl (b4_.Accepts.map eB))]),some (.arr 1 (column_16.map Ae)),some (.box [.osl 5 1 x29.1 x29.2])]⟩
def Z8:St:=⟨(2,.ptr 1 0)::(5,.ptr 6 0)::(7,.clo 54 [.ptr 6 0])::(12,.d (.bool better_6))::(13,.d (.int .i64 x_25))::(97,.d (.sl (b4_.Arcs.map (eL Ay))))::(98,.d (.int .i64 ((b4_.Arcs.length:Nat):Int)))::(99,.d (.int .i64 x_25))::(104,.d (.sl (x35.map Ay)))::(105,.d (.int .i64 ((x35.length:Nat):Int)))::(106,.d (.int .i64 x_26))::[],[some (.box [.d (.str b0_0_),.osl 2 1 0 (o2_.length),.osl 3 1 0 (o3_.length)]),some (.box [.ptr 4 0]),some (.cut 5 1 o2_),some (.arr 1 (o3_.map Ae)),some (.box [.d (.sl (b4_.Arcs.map (eL Ay))),.d (.sl (b4_.Accepts.map eB))]),some (.arr 1 (column_17.map Ae)),some (.box [.osl 5 1 x29.1 x29.2])]⟩
def Ji:((List Int)×Bool)->Ex->St->Prop:=xX 6 10 (λ (y:((List Int)×Bool))=>Z7 b0_0_ b4_ o2_ o3_ x29 x_25 y.1 y.2)
def EY:((List Int)×Bool×Int)->St:=(λ (x:((List Int)×Bool×Int))=>Z6 b0_0_ b4_ o2_ o3_ x29 x_25 x35 x.1 x.2.1 x.2.2)
def Jj:((List Int)×Bool)->Ex->St->Prop:=xX 6 8 (λ (y:((List Int)×Bool))=>Z5 b0_0_ b4_ o2_ o3_ x29 y.1 y.2)
def EZ:((List Int)×Bool×Int)->St:=(λ (x:((List Int)×Bool×Int))=>Z4 b0_0_ b4_ o2_ o3_ x29 x.1 x.2.1 x.2.2)
def Jk:(List Int)->Ex->St->Prop:=xX 6 6 (λ (y:(List Int))=>Z3 b0_0_ b4_ o2_ o3_ x29 y)
def E0:((List Int)×Bool)->St:=(λ (x:((List Int)×Bool))=>Z2 b0_0_ b4_ o2_ o3_ x29 x.1 x.2)
variable {p0_ b0_0_ b4_ o2_ o3_ o5_ x_20 x_21 x29 column_3 x_22 column_4 column_5 column_6 x_23 column_7 x33 column_8 x_24 column_9 column_10 column_11 better_1 column_12 column_13 better_2 x_25 column_14 better_3 x35 column_15 better_4 x_26 column_16 better_5 column_17 better_6}
theorem Ih (x:((List Int)×Int)) (z:(((List Int)×Int)⊕(List Int))) (H:A9 n p0_ b0_0_ b4_ o2_ o3_ x29 x.1 x.2=some z):WP (cxk 129 6) (Aw Tryz.f53) [1,1,0,1,0,0] (Au 6 (EV p0_ b0_0_ b4_ o2_ o3_ x29) (Jf p0_ b0_0_ b4_ o2_ o3_ x29) z) (EV p0_ b0_0_ b4_ o2_ o3_ x29 x):=by
 obtain ⟨column_3,x_22⟩:=x
 refine sr (ck 1 (en (sq (cn H (λ H=>?_) (λ H=>?_)))))
 ·refine sk (qz (sj (λ (x:(List Int))=>Jcs p0_ b0_0_ b4_ o2_ o3_ x29 x_22 x) (λ (x:(List Int))=>Bm n x_22 x) z ?_ (λ hFRv_graph_columns_1_J1=>?_)))
  ·intro column_5 H
   exact rz (ck 2 (ae (by cases H;exact og (sg [0,1,2,5,23,24]))))
  refine bk 1 (sr (ck 2 (en (sr (ck 2 (bx H λ x30 h81 H=>sp (E9 5 1 x29.1 x29.2 (GA h81)) (bx H λ l19 h82 H=>stP Ae 5 0 (x29.1+Int.toNat x_22) (ty 3) (Fa h81) h82 (en (sr (ck 7 (gc 3 (p0_==((b0_0_.length:Nat):Int)) (ck 1 (bx H λ x31 h83 H=>sE (λ hg=>Am eB (BB h83 hg)) (gc 1 (p0_==((b0_0_.length:Nat):Int)) (pA (en (cn H (λ H=>?_) (λ H=>?_))))))))))))))))))
  ·exact rz (ck 2 (bx H λ x32 h84 H=>sp (E9 5 1 x29.1 x29.2 (GA h84)) (bx H λ l20 h85 H=>stP Ae 5 0 (x29.1+Int.toNat x_22) (ty 3) (Fa h84) h85 (ae (qN (qs (sg [0,1,2,5,23,24]) (hFRv_graph_columns_1_J1 l20 H)))))))
  ·exact sk (qN (qs (sg [0,1,2,5,23,24]) (hFRv_graph_columns_1_J1 l19 H)))
 ·exact ex 0 (qx (by cases H;exact xo rfl (sg [0,1,2,5])))
theorem Ii (x:((List Int)×Int)) (z:(((List Int)×Int)⊕(List Int))) (H:Ba n p0_ b0_0_ b4_ o2_ o3_ x29 x_23 x33 x.1 x.2=some z):WP (cxk 129 6) (Aw Tryz.f53) [1,1,1,1,0,1,0,0,1,1,0,0,1,1,0,0] (Au 6 (EW p0_ b0_0_ b4_ o2_ o3_ x29 x_23 x33) (Jg p0_ b0_0_ b4_ o2_ o3_ x29 x_23) z) (EW p0_ b0_0_ b4_ o2_ o3_ x29 x_23 x33 x):=by
 obtain ⟨column_8,x_24⟩:=x
 refine sr (ck 1 (en (sq (cn H (λ H=>?_) (λ H=>?_)))))
 ·refine sk (qz (sj (λ (x:(List Int))=>Z1 p0_ b0_0_ b4_ o2_ o3_ x29 x_23 x33 x_24 x) (λ (x:(List Int))=>Bn n x_24 x) z ?_ (λ hFRv_graph_columns_1_J2=>?_)))
  ·intro column_10 H
   exact rz (ck 2 (ae (by cases H;exact og (sg [0,1,2,5,7,8,52,53,54,59,60,61]))))
  refine bk 5 (sr (bx H λ x34 h88 H=>sp (Am Ay h88) (ck 3 (en (sr (ck 5 (gc 1 (!(x34.Print==[])) (ck 1 (bx H λ s2 h89 H=>sE (λ hg=>Hw (BB h89 hg)) (ck 1 (gc 1 (!(x34.Print==[])) (bx H λ r15 h90 H=>cG false (leZ) rfl (λ hg=>JK (BB h90 hg)) (Or.inl rfl) (BY (λ hh=>hh) (BY (λ hh=>hh) (Eb))) rfl (pA (en (cn H (λ H=>?_) (λ H=>?_))))))))))))))))
  ·exact rx 10 (.refl _) (ck 10 (bx H λ r16 h91 H=>xs (xok _ _) (g:=true) rfl (Eb) [2,3,5] (Sv h91) rfl (ck 2 (mx 13 (bx H λ r17 h92 H=>xc (xok _ _) [6,5] (EU h92) (ax (qN (qs (sg [0,1,2,5,7,8,52,53,54,59,60,61]) (hFRv_graph_columns_1_J2 r17.1 H)))))))))
  ·exact sk (qN (qs (sg [0,1,2,5,7,8,52,53,54,59,60,61]) (hFRv_graph_columns_1_J2 column_8 H)))
 ·exact ex 4 (qx (by cases H;exact xo rfl (sg [0,1,2,5,7,52,53,54])))
theorem Ij (x:((List Int)×Int)) (z:(((List Int)×Int)⊕(List Int))) (H:Bb n p0_ b0_0_ b4_ o2_ o3_ x29 x.1 x.2=some z):WP (cxk 129 6) (Aw Tryz.f53) [1,1,1,1,0,1,0,0] (Au 6 (EX p0_ b0_0_ b4_ o2_ o3_ x29) (Jh b0_0_ b4_ o2_ o3_ x29) z) (EX p0_ b0_0_ b4_ o2_ o3_ x29 x):=by
 obtain ⟨column_6,x_23⟩:=x
 refine sr (ck 1 (en (sq (cn H (λ H=>?_) (λ H=>?_)))))
 ·exact sk (qz (sq (bk 3 (sr (ck 1 (bx H λ x33 h87 H=>sp (Am (eL Ay) h87) (ck 3 (en (sr (ck 1 (sp (AB Ay x33) (ck 1 (en (bk 4 (bx H λ y15 h93 H=>lX Ii h93 (sg [0,1,2,5,7,8,52,53,54,59,60,61]) rfl λ s hE14=>qH (qN (qs (hE14) (rz (ck 2 (ae (by cases H;exact og (sg [0,1,2,5,7,52,53,54]))))))))))))))))))))))
 ·exact ex 2 (qx (by cases H;exact xo rfl (sg [2,5,7])))
theorem Ik (x:((List Int)×Bool×Int)) (z:(((List Int)×Bool×Int)⊕((List Int)×Bool))) (H:Bc n b0_0_ b4_ o2_ o3_ x29 x_25 x35 x.1 x.2.1 x.2.2=some z):WP (cxk 129 6) (Aw Tryz.f53) [1,1,1,1,1,0,1,0,0,1,0,1,1,0,0,1,1,0,0,1,1,0,0] (Au 6 (EY b0_0_ b4_ o2_ o3_ x29 x_25 x35) (Ji b0_0_ b4_ o2_ o3_ x29 x_25) z) (EY b0_0_ b4_ o2_ o3_ x29 x_25 x35 x):=by
 obtain ⟨column_15,better_4,x_26⟩:=x
 refine sr (ck 1 (en (sq (cn H (λ H=>?_) (λ H=>?_)))))
 ·refine sk (qz (sj (λ (x:((List Int)×Bool))=>Z8 b0_0_ b4_ o2_ o3_ x29 x_25 x35 x_26 x.1 x.2) (λ (x:((List Int)×Bool))=>A6 n x_26 x.1 x.2) z ?_ (λ hFRv_graph_columns_1_J3=>?_)))
  ·rintro ⟨column_17,better_6⟩ H
   exact rz (ck 2 (ae (by cases H;exact og (sg [2,5,7,12,13,97,98,99,104,105,106]))))
  refine bk 11 (sr (bx H λ x36 h96 H=>sp (Am Ay h96) (ck 3 (en (sq (rx 13 (.refl _) (ck 8 (gc 1 (x36.Print==[]) (bx H λ x37 h97 H=>sE (λ hg=>E9 5 1 x29.1 x29.2 (GA (BB h97 hg))) (sE (g:=(x36.Print==[])) (λ hg=>LW Ae 5 0 (ty 3) (Fa (BB h97 hg))) (ck 1 (gc 1 (x36.Print==[]) (gsp (x36.Print==[]) H (λ hg H=>?_) (λ hg H=>?_))))))))))))))
  ·refine bx H λ r18 h98 H=>xs (xok _ _) hg (BY (λ hh=>hh) (BY (λ hh=>hh) (BY (λ hh=>hh) (BY (λ hh=>hh) (Eb))))) [6,5] (EU h98) rfl (mx 14 (pA (ax (qz (cn H (λ H=>?_) (λ H=>?_))))))
   ·exact rz (ck 1 (ae (qN (qs (sg [2,5,7,12,13,97,98,99,104,105,106]) (hFRv_graph_columns_1_J3 (r18.1,true) H)))))
   ·exact sk (qN (qs (sg [2,5,7,12,13,97,98,99,104,105,106]) (hFRv_graph_columns_1_J3 (r18.1,better_4) H)))
  ·refine gsk hg (.d (.bool false)) (mx 14 (pA (ax (qz (cn H (λ H=>?_) (λ H=>?_))))))
   ·exact rz (ck 1 (ae (qN (qs (sg [2,5,7,12,13,97,98,99,104,105,106]) (hFRv_graph_columns_1_J3 (column_15,true) H)))))
   ·exact sk (qN (qs (sg [2,5,7,12,13,97,98,99,104,105,106]) (hFRv_graph_columns_1_J3 (column_15,better_4) H)))
 ·exact ex 10 (qx (by cases H;exact xo rfl (sg [2,5,7,12,97,98,99])))
theorem Il (x:((List Int)×Bool×Int)) (z:(((List Int)×Bool×Int)⊕((List Int)×Bool))) (H:Bd n b0_0_ b4_ o2_ o3_ x29 x.1 x.2.1 x.2.2=some z):WP (cxk 129 6) (Aw Tryz.f53) [1,1,1,1,1,0,1,0,0,1,0,1,1,0,0] (Au 6 (EZ b0_0_ b4_ o2_ o3_ x29) (Jj b0_0_ b4_ o2_ o3_ x29) z) (EZ b0_0_ b4_ o2_ o3_ x29 x):=by
 obtain ⟨column_13,better_2,x_25⟩:=x
 refine sr (ck 1 (en (sq (cn H (λ H=>?_) (λ H=>?_)))))
 ·exact sk (qz (sq (bk 9 (sr (ck 1 (bx H λ x35 h95 H=>sp (Am (eL Ay) h95) (ck 3 (en (sr (ck 1 (sp (AB Ay x35) (ck 1 (en (bk 10 (bx H λ y17 h99 H=>lX Ik h99 (sg [2,5,7,12,13,97,98,99,104,105,106]) rfl λ s hE16=>qH (qN (qs (hE16) (rz (ck 2 (ae (by cases H;exact og (sg [2,5,7,12,97,98,99]))))))))))))))))))))))
 ·exact ex 8 (qx (by cases H;exact xo rfl (sg [2,5,7,12])))
theorem Im (x:((List Int)×Bool)) (z:(((List Int)×Bool)⊕(List Int))) (H:Bo n b0_0_ b4_ o2_ o3_ x29 x.1 x.2=some z):WP (cxk 129 6) (Aw Tryz.f53) [1,1,1,1,1,0,1,0,0] (Au 6 (E0 b0_0_ b4_ o2_ o3_ x29) (Jk b0_0_ b4_ o2_ o3_ x29) z) (E0 b0_0_ b4_ o2_ o3_ x29 x):=by
 obtain ⟨column_11,better_1⟩:=x
 refine sq (sr (ck 1 (en (cn H (λ H=>?_) (λ H=>?_)))))
 ·exact sk (qz (bk 7 (sr (ck 1 (en (sr (ck 4 (sp (AB (eL Ay) b4_.Arcs) (ck 1 (en (bk 8 (bx H λ y18 h100 H=>lX Il h100 (sg [2,5,7,12,97,98,99]) rfl λ s hE17=>qH (qN (by cases H;exact og (tr (hE17) (sg [2,5,7,12]))))))))))))))))
 ·exact ex 6 (qx (by cases H;exact xo rfl (sg [5])))
theorem FW {z} (H:BG n p0_ b0_0_ b4_ o2_ o3_ o5_=some z):BD Tryz.prog 53 [.d (.int .i64 p0_),.ptr 0 0,.ptr 1 0] [some (.box [.d (.str b0_0_),.osl 2 1 0 (o2_.length),.osl 3 1 0 (o3_.length)]),some (.box [.ptr 4 0]),some (.cut 5 1 o2_),some (.arr 1 (o3_.map Ae)),some (.box [.d (.sl (b4_.Arcs.map (eL Ay))),.d (.sl (b4_.Accepts.map eB))]),some (.arr 1 (o5_.map Ae))] 6 (.d (.int .i64 z.2)) [some (.box [.d (.str b0_0_),.osl 2 1 0 (o2_.length),.osl 3 1 0 (o3_.length)]),some (.box [.ptr 4 0]),some (.cut 5 1 o2_),some (.arr 1 (o3_.map Ae)),some (.box [.d (.sl (b4_.Arcs.map (eL Ay))),.d (.sl (b4_.Accepts.map eB))]),some (.arr 1 (z.1.map Ae))]:=by
 exact fL 129 6 (Jco p0_ b0_0_ b4_ o2_ o3_ o5_) Tryz.func53 (sr (ck 1 (en (sq (rg (OP (xs:=o2_) 2 5 1 (by kernel_rfl)) (ck 3 (bx H λ x29 h80 H=>sp (Az 2 1 h80) (sp (PH (t:=ty 35) 2 5 1 h80) (ck 2 (en (sq (sq (rg (Nt (xs:=o2_) 2 5 1 (by kernel_rfl)) (ck 3 (en (bk 0 (bx H λ y14 h86 H=>lX Ih h86 (sg [0,1,2,5,23,24]) rfl λ s hE13=>qH (qs (hE13) (sr (xm (xok _ _) (ck 1 (en (sq (sr (ck 4 (sp (AB (eL Ay) b4_.Arcs) (ck 1 (en (bk 2 (bx H λ y16 h94 H=>lX Ij h94 (sg [0,1,2,5,7,52,53,54]) rfl λ s hE15=>qH (qs (hE15) (sq (sr (ck 1 (en (bk 6 (bx H λ y19 h101 H=>lX Im h101 (sg [2,5,7,12]) rfl λ s hE18=>qH (qs (hE18) (sr (ck 1 (bx H λ r19 h102 H=>lt [5] (Tp h102) (ck 1 (en (re (by cases H;exact pL (rl (s':=Jcp b0_0_ b4_ o2_ o3_ r19.1 r19.2) (sg [4])))))))))))))))))))))))))))))))))))))))))))))))
end
section
variable (p0_:Ad) (p1_:(List UInt8)) (r21:AM) (r22:((List (Nat×Nat))×(List Int)×(List Int))) (m_5:(List Int)) (x_27:(List Int)) (i_2:Int) (m_6:(List Int)) (x_28:(List Int))
def Jhl:St:=⟨(0,.agg [.d (.int .i64 p0_.Modes),.d (.int .u8 p0_.Accept),.d (.sl (p0_.Rules.map An))])::(1,.d (.str p1_))::[],[]⟩
def Jhm:St:=⟨(4,.ptr 0 0)::(9,.ptr 1 0)::(10,.clo 53 [.ptr 2 0,.ptr 3 0])::(11,.d (.int .i64 i_2))::[],[some (.box [.d (.str []),.osl 4 1 0 (List.length ([]:List (List Int))),.osl 5 1 0 (List.length ([]:List Int))]),some (.box [.d (.str p1_),.osl 6 1 0 (r22.1.length),.osl 7 1 0 (m_5.length)]),some (.box [.d (.str p1_),.osl 6 1 0 (r22.1.length),.osl 7 1 0 (m_5.length)]),some (.box [.ptr 8 0]),some (.arr 1 (List.map (eL Ae) ([]:List (List Int)))),some (.arr 1 (List.map Ae ([]:List Int))),some (.cut 9 1 r22.1),some (.arr 1 (m_5.map Ae)),some (.box [.d (.sl (r21.Arcs.map (eL Ay))),.d (.sl (r21.Accepts.map eB))]),some (.arr 1 (x_27.map Ae))]⟩
def Jhn:St:=⟨(4,.ptr 0 0)::(9,.ptr 1 0)::[],[some (.box [.d (.str []),.osl 2 1 0 (List.length ([]:List (List Int))),.osl 3 1 0 (List.length ([]:List Int))]),some (.box [.d (.str p1_),.osl 4 1 0 (r22.1.length),.osl 5 1 0 (m_6.length)]),some (.arr 1 (List.map (eL Ae) ([]:List (List Int)))),some (.arr 1 (List.map Ae ([]:List Int))),some (.cut 6 1 r22.1),some (.arr 1 (m_6.map Ae)),some (.arr 1 (x_28.map Ae))]⟩
def Sw:((List Int)×(List Int))->Ex->St->Prop:=xX 0 0 (λ (y:((List Int)×(List Int)))=>Jhn p1_ r22 y.1 y.2)
def L8:((List Int)×(List Int)×Int)->St:=(λ (x:((List Int)×(List Int)×Int))=>Jhm p1_ r21 r22 x.1 x.2.1 x.2.2)
variable {p0_ p1_ r21 r22 m_5 x_27 i_2 m_6 x_28}
theorem QQ (x:((List Int)×(List Int)×Int)) (z:(((List Int)×(List Int)×Int)⊕((List Int)×(List Int)))) (H:Hy n p1_ r21 r22 x.1 x.2.1 x.2.2=some z):WP (cxk 43 0) (Aw Tryz.f14) [1,1,1,1,1,0,1,0,0] (Au 0 (L8 p1_ r21 r22) (Sw p1_ r22) z) (L8 p1_ r21 r22 x):=by
 obtain ⟨m_5,x_27,i_2⟩:=x
 refine sq (sr (ck 2 (en (cn H (λ H=>?_) (λ H=>?_)))))
 ·exact sk (qz (sq (bk 1 (rx 5 (.refl _) (ck 5 (bx H λ r24 h107 H=>xs (xok _ _) (g:=true) rfl (Eb) [2,3,6,7,8,9] (FW h107) rfl (bx H λ x38 h108 H=>sp (Az 7 1 h108) (mx 7 (bx H λ l21 h109 H=>stA Ae 7 0 (ty 3) h108 h109 (ax (qN (qz (rg (tr (tr (sn 36 7 1 (Bg h109)) (snc 1 2 7 1 (Bg h109))) (snc 2 2 7 1 (Bg h109))) (ck 3 (ae (by cases H;exact og (sg [4,9,10,11])))))))))))))))))
 ·exact ex 0 (qx (by cases H;exact xo rfl (sg [4,9])))
theorem Kl {z} (H:HO n p0_ p1_=some z):AD Tryz.prog 14 [.agg (AK p0_),.d (.str p1_)] (.tup [.agg [.d (.str z.1.Text),.d (.sl (z.1.Costs.map (eL Ae))),.own 1 (z.1.Least.map Ae)],.d (.int .i64 z.2)]):=by
 refine fO 43 (Jhl p0_ p1_) Tryz.func14 (sr (ck 3 (en (sq (sr (ck 1 (bx H λ r20 h103 H=>ca true (IM h103) (ck 5 (en (sr (ck 2 (en (cn H (λ H=>?_) (λ H=>?_))))))))))))))
 ·exact sr (ck 4 (en (re (qr (by cases H;exact pr (rT (vs:=[.agg [.d (.str []),.d (.nil),.d (.nil)],.d (.int .i64 r20.2)]) [] (t1 (a1 (c1 vd (c1 vn (c1 vz (c0))))) (t1 (ad vd) (t0)))))))))
 ·exact sk (qz (sr (ck 1 (bx H λ r21 h104 H=>lt [] (K1 h104) (tb (f:=Dy (Cu [] 2 0)) [some (.box (AK p0_)),some (.box [.d (.str []),.d (.nil),.d (.nil)]),some (.box [.osl 3 1 0 (r21.Arcs.length),.osl 4 1 0 (r21.Accepts.length)]),some (.narr 1 (r21.Arcs.map (nL 3 Ay))),some (.arr 1 (r21.Accepts.map eB))] (po1 (po1 (po1 (pn1 (nL 3 Ay) r21.Arcs (po1 (Pl.z)))))) (ck 1 (en (sq (rg (tr (ON (encN:=(nL 3 Ay)) (encD:=(eL Ay)) (xss:=r21.Arcs) (sz:=1) 2 0 3 (by kernel_rfl) (by kernel_rfl) (λ _=>rfl) (λ _=>rfl)) (fzc (enc:=eB) (xs:=r21.Accepts) 2 1 4 1)) (ck 2 (bx H λ r22 h105 H=>lt [2] (Hn h105) (ck 2 (en (sr (ck 2 (bx H λ r23 h106 H=>lt [2,6,7,8] (G8 h106) (ck 1 (en (sq (sr (ck 3 (en (bk 0 (bx H λ y20 h110 H=>lX QQ h110 (tr (tr (BL 1 1 1 (by kernel_rfl)) (BL 1 2 1 (by kernel_rfl))) (sg [4,9,10,11])) rfl λ s hE19=>qH (qs (hE19) (sr (ck 3 (ae (bx H λ _ h111 H=>qs (tr (tr (OP (xs:=r22.1) 4 6 1 (by kernel_rfl)) (WR (enc:=Ae) (ys:=y20.2) (xs:=r22.1) 6 4 1 h111 (by kernel_rfl) (by kernel_rfl))) (Uj (sz:=1) (encN:=Je0 Ae) (encD:=(eL Ae)) (xss:=PG y20.2 r22.1) 0 1 4 WT (by kernel_rfl) (by kernel_rfl) (λ _=>rfl) (λ _=>rfl))) (re (by cases H;exact pr (rT (vs:=[.agg [.d (.str p1_),.d (.sl (List.map (eL Ae) (PG y20.2 r22.1))),.osl 5 1 0 (y20.1.length)],.d (.int .i64 0)]) [5] (t1 (a1 (c1 vd (c1 vd (c1 vo (c0))))) (t1 (ad vd) (t0)))))))))))))))))))))))))))))))))))
end
section
variable (p1_:AX) (b0_:AM) (x_31:Bool) (x_32:Int)
def Jcx:St:=⟨(0,.ptr 0 0)::(1,.agg [.d (.str p1_.Text),.d (.sl (p1_.Costs.map (eL Ae))),.d (.sl (p1_.Least.map Ae))])::[],[some (.box [.osl 1 1 0 (b0_.Arcs.length),.osl 2 1 0 (b0_.Accepts.length)]),some (.narr 1 (b0_.Arcs.map (nL 3 Ay))),some (.arr 1 (b0_.Accepts.map eB))]⟩
def Sx:St:=⟨(4,.d (.bool x_31))::[],[some (.box [.osl 1 1 0 (b0_.Arcs.length),.osl 2 1 0 (b0_.Accepts.length)]),some (.narr 1 (b0_.Arcs.map (nL 3 Ay))),some (.arr 1 (b0_.Accepts.map eB))]⟩
def Jcy:St:=⟨(0,.ptr 0 0)::(26,.d (.sl (p1_.Costs.map (eL Ae))))::(27,.d (.int .i64 ((p1_.Costs.length:Nat):Int)))::(28,.d (.int .i64 x_32))::[],[some (.box [.osl 1 1 0 (b0_.Arcs.length),.osl 2 1 0 (b0_.Accepts.length)]),some (.narr 1 (b0_.Arcs.map (nL 3 Ay))),some (.arr 1 (b0_.Accepts.map eB))]⟩
def Jcz:St:=⟨[],[some (.box [.osl 1 1 0 (b0_.Arcs.length),.osl 2 1 0 (b0_.Accepts.length)]),some (.narr 1 (b0_.Arcs.map (nL 3 Ay))),some (.arr 1 (b0_.Accepts.map eB))]⟩
def Na:(Unit⊕Bool)->Ex->St->Prop:=xS (xX 3 0 (λ (_:Unit)=>Jcz b0_)) (xL 3 ty Tryz.f27 (λ (y:Bool)=>.d (.bool y)) (λ (_:Bool)=>[some (.box [.osl 1 1 0 (b0_.Arcs.length),.osl 2 1 0 (b0_.Accepts.length)]),some (.narr 1 (b0_.Arcs.map (nL 3 Ay))),some (.arr 1 (b0_.Accepts.map eB))]))
def Ho:Int->St:=(λ (x:Int)=>Jcy p1_ b0_ x)
variable {p1_ b0_ x_31 x_32}
theorem G9 (x:Int) (z:(Int⊕(Unit⊕Bool))) (H:BV n p1_ b0_ x=some z):WP (cxk 41 3) (Aw Tryz.f27) [1,1,0,1,0,0] (Au 3 (Ho p1_ b0_) (Na b0_) z) (Ho p1_ b0_ x):=by
 revert H
 generalize x=x_32
 intro H
 refine sr (ck 1 (en (sq (cn H (λ H=>?_) (λ H=>?_)))))
 ·refine sk (qz (sq (bk 1 (sr (bx H λ x48 h125 H=>sp (Am (eL Ae) h125) (ck 2 (en (sr (ck 1 (sp (AB Ae x48) (ck 6 (en (cn H (λ H=>?_) (λ H=>?_))))))))))))))
  ·exact sr (ck 1 (en (re (qR (qr (by cases H;exact lo rfl (rl (s':=Sx b0_ false) (gP [4] [0,1,2] (po1 (pn1 (nL 3 Ay) b0_.Arcs (po1 (Pl.z))))))))))))
  ·exact sk (qN (qz (rz (ck 2 (ae (by cases H;exact og (gP [0,26,27,28] [0,1,2] (po1 (pn1 (nL 3 Ay) b0_.Arcs (po1 (Pl.z)))))))))))
 ·exact ex 0 (qx (by cases H;exact xo rfl (gP [] [0,1,2] (po1 (pn1 (nL 3 Ay) b0_.Arcs (po1 (Pl.z)))))))
theorem O3 {z} (H:Dq n p1_ b0_=some z):BD Tryz.prog 27 [.ptr 0 0,.agg (CQ p1_)] [some (.box [.osl 1 1 0 (b0_.Arcs.length),.osl 2 1 0 (b0_.Accepts.length)]),some (.narr 1 (b0_.Arcs.map (nL 3 Ay))),some (.arr 1 (b0_.Accepts.map eB))] 3 (.d (.bool z)) [some (.box [.osl 1 1 0 (b0_.Arcs.length),.osl 2 1 0 (b0_.Accepts.length)]),some (.narr 1 (b0_.Arcs.map (nL 3 Ay))),some (.arr 1 (b0_.Accepts.map eB))]:=by
 refine fL 41 3 (Jcx p1_ b0_) Tryz.func27 (sr (ck 2 (en (sq (sr (ck 2 (sp (AB (eL Ae) p1_.Costs) (ck 7 (gc 1 (!(((p1_.Costs.length:Nat):Int) != (AE .i64 ((p1_.Text.length:Nat):Int) 1))) (sE (g:=(!(((p1_.Costs.length:Nat):Int) != (AE .i64 ((p1_.Text.length:Nat):Int) 1)))) (λ hg=>AB Ae p1_.Least) (ck 1 (gc 4 (!(((p1_.Costs.length:Nat):Int) != (AE .i64 ((p1_.Text.length:Nat):Int) 1))) (pO (en (cn H (λ H=>?_) (λ H=>?_))))))))))))))))
 ·exact sr (ck 1 (en (re (qr (by cases H;exact pL (rl (s':=Sx b0_ false) (gP [4] [0,1,2] (po1 (pn1 (nL 3 Ay) b0_.Arcs (po1 (Pl.z)))))))))))
 ·refine sk (qz (sq (sr (ck 2 (sp (AB (eL Ae) p1_.Costs) (ck 1 (en (bk 0 (bx H λ y30 h126 H=>?_)))))))))
  rcases y30 with y31|y32
  ·exact lX G9 h126 (gP [0,26,27,28] [0,1,2] (po1 (pn1 (nL 3 Ay) b0_.Arcs (po1 (Pl.z))))) rfl λ s hE26=>qH (qs (hE26) (sr (ck 1 (en (re (by cases H;exact pL (rl (s':=Sx b0_ true) (gP [4] [0,1,2] (po1 (pn1 (nL 3 Ay) b0_.Arcs (po1 (Pl.z))))))))))))
  ·exact lL G9 h126 (gP [0,26,27,28] [0,1,2] (po1 (pn1 (nL 3 Ay) b0_.Arcs (po1 (Pl.z))))) rfl λ s hE27=>qR (qr (by cases H;exact pL hE27))
end
section
variable (p0_:(List Int)) (p1_:(Nat×Nat)) (o0_:(List Int)) (x_33:Bool) (x_34:Int)
def JcA:St:=⟨(0,.d (.sl (p0_.map Ae)))::(1,.osl 0 1 p1_.1 p1_.2)::[],[some (.arr 1 (o0_.map Ae))]⟩
def Sy:St:=⟨(4,.d (.bool x_33))::[],[some (.arr 1 (o0_.map Ae))]⟩
def JcB:St:=⟨(0,.d (.sl (p0_.map Ae)))::(1,.osl 0 1 p1_.1 p1_.2)::(12,.d (.int .i64 ((p0_.length:Nat):Int)))::(13,.d (.int .i64 x_34))::[],[some (.arr 1 (o0_.map Ae))]⟩
def JcC:St:=⟨[],[some (.arr 1 (o0_.map Ae))]⟩
def JL:(Unit⊕Bool)->Ex->St->Prop:=xS (xX 1 0 (λ (_:Unit)=>JcC o0_)) (xL 1 ty Tryz.f58 (λ (y:Bool)=>.d (.bool y)) (λ (_:Bool)=>[some (.arr 1 (o0_.map Ae))]))
def FI:Int->St:=(λ (x:Int)=>JcB p0_ p1_ o0_ x)
variable {p0_ p1_ o0_ x_33 x_34}
theorem E1 (x:Int) (z:(Int⊕(Unit⊕Bool))) (H:Bs n p0_ p1_ o0_ x=some z):WP (cxk 26 1) (Aw Tryz.f58) [1,1,0,1,0,0] (Au 1 (FI p0_ p1_ o0_) (JL o0_) z) (FI p0_ p1_ o0_ x):=by
 revert H
 generalize x=x_34
 intro H
 refine sr (ck 1 (en (sq (cn H (λ H=>?_) (λ H=>?_)))))
 ·refine sk (qz (sq (bk 1 (sr (ck 2 (en (sr (ck 2 (bx H λ x49 h127 H=>sp (Am Ae h127) (ck 3 (bx H λ x50 h128 H=>sp (E9 0 1 p1_.1 p1_.2 (GA h128)) (sp (LW Ae 0 0 (ty 3) (Fa h128)) (ck 1 (en (cn H (λ H=>?_) (λ H=>?_))))))))))))))))
  ·exact sr (ck 1 (en (re (qR (qr (by cases H;exact lo rfl (rl (s':=Sy o0_ false) (sg [4]))))))))
  ·exact sk (qN (qz (rz (ck 2 (ae (by cases H;exact og (sg [0,1,12,13])))))))
 ·exact ex 0 (qx (by cases H;exact xo rfl (sg [])))
theorem Lp {z} (H:B9 n p0_ p1_ o0_=some z):BD Tryz.prog 58 [.d (.sl (p0_.map Ae)),.osl 0 1 p1_.1 p1_.2] [some (.arr 1 (o0_.map Ae))] 1 (.d (.bool z)) [some (.arr 1 (o0_.map Ae))]:=by
 refine fL 26 1 (JcA p0_ p1_ o0_) Tryz.func58 (sr (ck 1 (en (sq (sr (ck 1 (sp (AB Ae p0_) (ck 3 (en (cn H (λ H=>?_) (λ H=>?_)))))))))))
 ·exact sr (ck 1 (en (re (qr (by cases H;exact pL (rl (s':=Sy o0_ false) (sg [4])))))))
 ·refine sk (qz (sq (sr (ck 1 (sp (AB Ae p0_) (ck 1 (en (bk 0 (bx H λ y33 h129 H=>?_)))))))))
  rcases y33 with y34|y35
  ·exact lX E1 h129 (sg [0,1,12,13]) rfl λ s hE28=>qH (qs (hE28) (sr (ck 1 (en (re (by cases H;exact pL (rl (s':=Sy o0_ true) (sg [4]))))))))
  ·exact lL E1 h129 (sg [0,1,12,13]) rfl λ s hE29=>qR (qr (by cases H;exact pL hE29))
end
section
variable (p0_:AX) (p1_0_:(List UInt8)) (p2_:Int) (o0_:(List (Nat×Nat))) (o1_:(List Int)) (o2_:(List Int)) (x_35:Int) (x_36:Bool) (shift_4:Int) (known_3:Bool) (j_2:Int) (shift_5:Int) (shift_6:Int) (known_4:Bool)
def JcD:St:=⟨(0,.agg [.d (.str p0_.Text),.d (.sl (p0_.Costs.map (eL Ae))),.d (.sl (p0_.Least.map Ae))])::(1,.agg [.d (.str p1_0_),.osl 0 1 0 (o0_.length),.osl 1 1 0 (o1_.length)])::(2,.d (.int .i64 p2_))::[],[some (.cut 2 1 o0_),some (.arr 1 (o1_.map Ae)),some (.arr 1 (o2_.map Ae))]⟩
def Sz:St:=⟨(6,.d (.int .i64 x_35))::(7,.d (.bool x_36))::[],[some (.cut 2 1 o0_),some (.arr 1 (o1_.map Ae)),some (.arr 1 (o2_.map Ae))]⟩
def JcE:St:=⟨(2,.d (.int .i64 p2_))::(3,.ptr 3 0)::(4,.ptr 4 0)::(8,.d (.int .i64 shift_4))::(9,.d (.bool known_3))::(10,.d (.int .i64 j_2))::[],[some (.cut 2 1 o0_),some (.arr 1 (o1_.map Ae)),some (.arr 1 (o2_.map Ae)),some (.box (CQ p0_)),some (.box [.d (.str p1_0_),.osl 0 1 0 (o0_.length),.osl 1 1 0 (o1_.length)])]⟩
def JcF:St:=⟨(8,.d (.int .i64 shift_5))::[],[some (.cut 2 1 o0_),some (.arr 1 (o1_.map Ae)),some (.arr 1 (o2_.map Ae))]⟩
def JcG:St:=⟨(2,.d (.int .i64 p2_))::(3,.ptr 3 0)::(4,.ptr 4 0)::(8,.d (.int .i64 shift_6))::(9,.d (.bool known_4))::(10,.d (.int .i64 j_2))::[],[some (.cut 2 1 o0_),some (.arr 1 (o1_.map Ae)),some (.arr 1 (o2_.map Ae)),some (.box (CQ p0_)),some (.box [.d (.str p1_0_),.osl 0 1 0 (o0_.length),.osl 1 1 0 (o1_.length)])]⟩
def O4:(Int⊕(Int×Bool))->Ex->St->Prop:=xS (xX 3 0 (λ (y:Int)=>JcF o0_ o1_ o2_ y)) (xL 3 ty Tryz.f30 (λ (y:(Int×Bool))=>.tup [.d (.int .i64 y.1),.d (.bool y.2)]) (λ (_:(Int×Bool))=>[some (.cut 2 1 o0_),some (.arr 1 (o1_.map Ae)),some (.arr 1 (o2_.map Ae))]))
def IR:(Int×Bool×Int)->St:=(λ (x:(Int×Bool×Int))=>JcE p0_ p1_0_ p2_ o0_ o1_ o2_ x.1 x.2.1 x.2.2)
variable {p0_ p1_0_ p2_ o0_ o1_ o2_ x_35 x_36 shift_4 known_3 j_2 shift_5 shift_6 known_4}
theorem H2 (x:(Int×Bool×Int)) (z:((Int×Bool×Int)⊕(Int⊕(Int×Bool)))) (H:Cs n p0_ p1_0_ p2_ o0_ o1_ o2_ x.1 x.2.1 x.2.2=some z):WP (cxk 64 3) (Aw Tryz.f30) [1,1,0,1,0,0] (Au 3 (IR p0_ p1_0_ p2_ o0_ o1_ o2_) (O4 o0_ o1_ o2_) z) (IR p0_ p1_0_ p2_ o0_ o1_ o2_ x):=by
 obtain ⟨shift_4,known_3,j_2⟩:=x
 refine sq (sr (ck 4 (en (cn H (λ H=>?_) (λ H=>?_)))))
 ·refine sk (qz (sj (λ (x:(Int×Bool))=>JcG p0_ p1_0_ p2_ o0_ o1_ o2_ j_2 x.1 x.2) (λ (x:(Int×Bool))=>Cr n j_2 x.1 x.2) z ?_ (λ hFRv_settledx_J1=>?_)))
  ·rintro ⟨shift_6,known_4⟩ H
   exact rz (ck 3 (ae (by cases H;exact og (sg [2,3,4,8,9,10]))))
  refine bk 1 (sq (sq (rx 10 (OP (xs:=o0_) 0 2 1 (by kernel_rfl)) (ck 3 (bx H λ x51 h130 H=>sp (Am (eL Ae) h130) (ck 4 (bx H λ x52 h131 H=>sp (Az 0 1 h131) (sp (PH (t:=ty 35) 0 2 1 h131) (bx H λ r26 h132 H=>xs (xok _ _) (g:=true) rfl (Eb) [2] (Lp h132) rfl (mx 11 (ck 1 (ax (qz (cn H (λ H=>?_) (λ H=>?_)))))))))))))))
  ·exact sq (rg (Nt (xs:=o0_) 0 2 1 (by kernel_rfl)) (ck 2 (en (re (qr (qR (qr (by cases H;exact lo rfl (rl (s':=Sz o0_ o1_ o2_ 0 false) (sg [6,7]))))))))))
  ·refine sk (qz (sq (sq (rg (Nt (xs:=o0_) 0 2 1 (by kernel_rfl)) (ck 3 (bx H λ x53 h133 H=>sp (Am Ae h133) (ck 4 (gc 1 (!(decide (x53<0))) (ck 1 (bx H λ x54 h134 H=>sE (λ hg=>Az 1 1 (BB h134 hg)) (sE (g:=(!(decide (x53<0)))) (λ hg=>CJ Ae 1 0 (ty 3) (BB h134 hg)) (gc 1 (!(decide (x53<0))) (pO (en (cn H (λ H=>?_) (λ H=>?_))))))))))))))))
   ·exact ex 1 (qx (qH (qs (sg [2,3,4,8,9,10]) (hFRv_settledx_J1 (shift_4,known_3) H))))
   ·refine sk (qz (sr (ck 3 (bx H λ x55 h135 H=>sp (Az 1 1 h135) (sp (CJ Ae 1 0 (ty 3) h135) (ck 3 (bx H λ x56 h136 H=>sp (Am Ae h136) (ck 3 (en (sq (sr (ck 4 (gc 1 known_3 (pA (en (cn H (λ H=>?_) (λ H=>?_)))))))))))))))))
    ·exact sr (ck 2 (en (re (qr (qR (qr (by cases H;exact lo rfl (rl (s':=Sz o0_ o1_ o2_ 0 false) (sg [6,7])))))))))
    ·exact sk (qz (rz (ck 3 (ae (qN (qs (sg [2,3,4,8,9,10]) (hFRv_settledx_J1 ((Dw .i64 x55 x56),true) H)))))))
 ·exact ex 0 (qx (by cases H;exact xo rfl (sg [8])))
theorem QR {z} (H:Et n p0_ p1_0_ p2_ o0_ o1_ o2_=some z):BD Tryz.prog 30 [.agg (CQ p0_),.agg [.d (.str p1_0_),.osl 0 1 0 (o0_.length),.osl 1 1 0 (o1_.length)],.d (.int .i64 p2_)] [some (.cut 2 1 o0_),some (.arr 1 (o1_.map Ae)),some (.arr 1 (o2_.map Ae))] 3 (.tup [.d (.int .i64 z.1),.d (.bool z.2)]) [some (.cut 2 1 o0_),some (.arr 1 (o1_.map Ae)),some (.arr 1 (o2_.map Ae))]:=by
 refine fL 64 3 (JcD p0_ p1_0_ p2_ o0_ o1_ o2_) Tryz.func30 (sr (ck 4 (en (sr (ck 2 (en (sq (sr (ck 2 (en (bk 0 (bx H λ y36 h137 H=>?_))))))))))))
 rcases y36 with y37|y38
 ·exact lX H2 h137 (sg [2,3,4,8,9,10]) rfl λ s hE30=>qH (qs (hE30) (sr (ck 3 (en (re (by cases H;exact pL (rl (s':=Sz o0_ o1_ o2_ y37 true) (sg [6,7]))))))))
 ·exact lL H2 h137 (sg [2,3,4,8,9,10]) rfl λ s hE31=>qR (qr (by cases H;exact pL hE31))
end
end Go.AI
end
