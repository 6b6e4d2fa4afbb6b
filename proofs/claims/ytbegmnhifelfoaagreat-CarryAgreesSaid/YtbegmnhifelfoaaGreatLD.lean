/- Part 4 of 6 of the proof: lemmas about the model and the program's functions, with no condition beyond those that each states. -/
import Derived.Test.YtbegmnhifelfoaaGreatLC
import Derived.Shelf.Sort.Plain
import Derived.Shelf.Slices.In.SortNone
import Derived.Shelf.SlSortCmp.NoneTotal
import Derived.Test.YtbegmnhifelfoaaGreatProg
import Derived.Shelf.SlLaysF0
import Derived.KernelRfl
section
namespace Go.AI
variable {P:Program} {Γ:Cx} {C:Code} {p:List Nat} {Q:Ex->St->Prop} {s s':St} {K:St->Prop} {i nk:Nat}
variable {α β ζ ε σ ρ τ:Type}
def ndQ (Γ:Cx) (c:Code) (i:Nat) (Q:Ex->St->Prop):Ex->St->Prop:=λ _ s=>∃ o,(A0 c)[i]? = some o/\Jki Γ o (λ s'=>GP Γ false (A0 c) ((A0 c).drop (i+1)) (Q .normal) s') s
structure ND (Γ:Cx) (c:Code) (i:Nat) (Q:Ex->St->Prop) (s:St):Prop where
 out:ndQ Γ c i Q .normal s
theorem ZG {m:Nat} {ops:List Oper}:∀ (l:List Oper) (Q:St->Prop) (s:St),GP Γ false (ops.take m) l Q s->GP Γ false ops l Q s:=by
 intro l
 induction l with
 | nil=>intro Q s h;exact h
 | cons o l ih=>intro Q s h;exact GQ (ih Q) (Mz h)
theorem rn (m:Nat) (hs:AR Γ.nt.nk s s') (hk:RF Γ (F3 m (nav p C)) [] 0 (ndQ Γ (nav p C) m (Ue C p s' Q)) s') (h:(JG (nav p C)&&!Mt (nav p C))=true:=by kernel_rfl):WP Γ C p Q s:=by
 refine ⟨?_⟩
 have hk:=hk.out
 unfold AX at hk
 simp only [nav,List.drop_zero] at hk
 unfold Ue at hk
 generalize nav p C=c at *
 cases c with
 | region id ops d=>
  simp only [JG,Mt,Bool.true_and,Bool.not_eq_true'] at h
  subst h
  refine ⟨s',hs,.inr (.inr ⟨rfl,?_⟩)⟩
  have hk:GP Γ false (ops.toList.take m) (ops.toList.take m) _ s':=hk
  have hk:=ZG _ _ _ hk
  by_cases hm:m<ops.toList.length
  ·refine ⟨m,ops.toList[m],JmM hm,D8 (λ s1 h1=>?_) _ _ hk⟩
   obtain ⟨o,ho,h1⟩:=h1
   rw [show A0 (.region id ops false)=ops.toList from rfl,JmM hm] at ho
   cases ho
   obtain ⟨q1,q2,S,q3,q4⟩:=h1
   exact ⟨q1,q2,S,q3,λ st' hst=>D8 (λ s2 h2=>h2.2) _ _ (q4 st' hst)⟩
  ·exfalso
   obtain ⟨S,_,_,hQS⟩:=E8 _ _ _ hk
   obtain ⟨o,ho,_⟩:=hQS
   rw [show A0 (.region id ops false)=ops.toList from rfl,List.getElem?_eq_none (by omega)] at ho
   cases ho
 | _=>cases h
theorem nd0 {c:Code} {m:Nat} (hk:ND Γ c m Q s) (hi:Nat.ble (A0 (F3 m c)).length i=true:=by kernel_rfl):RF Γ (F3 m c) [] i (ndQ Γ c m Q) s:=⟨Mv i hi hk.out⟩
structure YOK (P:Program) (Γ:Cx):Prop where
 exn:Γ.exn=Ov P
def Jbu (Γ:Cx) (c:Code) (o:Oper):Bool:=!Mt c&&o.guard.isNone&&Bv Γ.nt o.dst
theorem Wa (hY:YOK P Γ) {o:Oper} {S:St->Prop} (ho:(A0 (nav p C))[i]? = some o) (h0:Jbu Γ (nav p C) o=true) (hx:Ov P Γ.nt o s S) (hk:∀ s',S s'->RF Γ C p (i+1) Q s'):ND Γ (nav p C) i Q s:=by
 simp only [Jbu,JmN,Bool.not_eq_true'] at h0
 obtain ⟨⟨h1,h2⟩,h3⟩:=h0
 refine ⟨o,ho,by simpa using h2,h3,S,by rw [hY.exn];exact hx,λ s' hs=>?_⟩
 have:=(hk s' hs).out
 unfold AX at this
 rw [h1] at this
 exact this
def itD (c:Code) (i:Nat):Option Tmp:=match (A0 c)[i]? with
 | some o=>o.dst
 | none=>none
def JlL (Z:ζ->Prop) (r1:ζ->AV) (O1:ζ->List (Option Ob)):AV->List (Option Ob)->Prop:=λ r O=>∃ y,Z y/\r=r1 y/\O=O1 y
def nxN (Γ:Cx) (c:Code) (i:Nat) (ord:List Nat) (nb:Nat) (r:AV) (O1:List (Option Ob)) (s:St):Option St:=
 match (A0 c)[i]? with
 | some o=>bif Jbu Γ c o&&Nat.ble nb ord.length&&Nat.ble nb O1.length&&ord.all (λ k=>Nat.blt k s.objs.length) then
   some ⟨putA o.dst false true (M8 (Dz ord s.objs.length nb) r) s.env,CI s.objs ord nb O1⟩ else none
 | none=>none
theorem nc (hY:YOK P Γ) (ord:List Nat) {f:FuncId} {ys:List AV} {O0 raw0:List (Option Ob)} {nb:Nat} {Z:ζ->Prop} {r1:ζ->AV} {O1:ζ->List (Option Ob)} (hr:Hu P f ys O0 nb (JlL Z r1 O1)) (hp0:raw0=O0)
  (hk:∀ y,Z y->RF Γ C p (i+1) Q ((nxN Γ (nav p C) i ord nb (r1 y) (O1 y) s).getD s)) (hg:Ej (nav p C) i s=[]:=by kernel_rfl)
  (hc:SO (nav p C) i s=some ((some f,((SO (nav p C) i s).getD ((none,[]),[])).1.2),ord):=by kernel_rfl) (hxs:((SO (nav p C) i s).getD ((none,[]),[])).1.2.map (J2 ord)=ys:=by kernel_rfl) (hO:EV s.objs ord=raw0:=by kernel_rfl)
  (hn:∀ y,(nxN Γ (nav p C) i ord nb (r1 y) (O1 y) s).isSome=true:=by intro y;kernel_rfl) (hb:Nat.ble nb ord.length=true:=by kernel_rfl) (hb2:ord.all (λ k=>Nat.blt k s.objs.length)=true:=by kernel_rfl) (h0:((A0 (nav p C))[i]?.map (Jbu Γ (nav p C)))=some true:=by kernel_rfl):ND Γ (nav p C) i Q s:=by
 generalize ((SO (nav p C) i s).getD ((none,[]),[])).1.2=zs at hc hxs
 subst hp0
 unfold SO at hc
 split at hc
 ·rename_i o ho
  rw [ho] at h0
  simp only [Option.map_some,JmX] at h0
  simp only [JmX,Prod.mk.injEq] at hc
  obtain ⟨hc,hord⟩:=hc
  rw [hc] at hord
  simp only at hord
  subst hord
  subst hxs
  subst hO
  have hgob:Ed true (o.op.operands.toList.map (Aj s.env)):=by
   refine Kn (g:=true) ?_
   unfold Ej at hg
   rw [ho] at hg
   simp only at hg
   rw [hg]
   exact C9
  have hall:∀ y,Nat.ble nb (O1 y).length=true:=λ y=>by
   have:=hn y
   unfold nxN at this
   rw [ho] at this
   simp only at this
   cases hb3:Nat.ble nb (O1 y).length with
   | true=>rfl
   | false=>rw [hb3] at this;simp at this
  refine Wa hY ho h0 (ZE hgob hc hr (Jm1 hb) (λ r O hR=>?_) λ k hk=>?_) λ s' hs=>?_
  ·obtain ⟨y,_,_,rfl⟩:=hR
   exact Jm1 (hall y)
  ·exact Jm1 (Jmz.1 hb2 k hk)
  ·obtain ⟨r,O,⟨y,hy,rfl,rfl⟩,rfl⟩:=hs
   have h:=hk y hy
   have e:nxN Γ (nav p C) i (AG s.objs zs) nb (r1 y) (O1 y) s=some ⟨putA o.dst false true (M8 (Dz (AG s.objs zs) s.objs.length nb) (r1 y)) s.env,CI s.objs (AG s.objs zs) nb (O1 y)⟩:=by
    unfold nxN
    rw [ho]
    simp only [h0,hb,hall y,hb2,Bool.and_self,cond_true]
   rw [e] at h
   exact h
 ·cases hc
theorem JdJ {o:Oper} {st:St} {nt:Slt} {T:Nat->Ty} (hΓ:I8 P T) {t yt:TypeId} {x y:Operand} {es:List (List D)} {esz eb:Nat} {ez:List D} (hop:o.op=.binOp .eql t x y yt) (hok:(T t).ok=true) (hkind:(T t).kind=.slice esz eb ez) (hx:Aj st.env x=.d (.sl es)) (hy:Aj st.env y=.d .nil) :
  Ov P nt o st (λ s'=>∃ b,(es≠[]->b=false)/\s'=⟨putA o.dst false true (.d (.bool b)) st.env,st.objs⟩):=by
 intro N H0 F0 w0 a w hI hdst r n K Qw _ hK
 obtain ⟨F,ρ,hS,hSl,hn,hdf⟩:=hI
 obtain ⟨d,hd,_,hkd⟩:=(hΓ t hok).desc
 rw [hkind] at hkd
 obtain ⟨elem,i,z,rfl,_⟩:=hkd
 have hxr:=AY hSl x
 rw [hx] at hxr
 have hyr:=AY hSl y
 rw [hy] at hyr
 generalize hxv:a.eval x=xv at hxr
 generalize hyv:a.eval y=yv at hyr
 cases hyr with
 | d _ _ hyd=>
  cases hyd
  have e0:∀ (q:Nat) p m c (w:World),(Op.equalIn (q+1) t (.slice p m c) (.slice none 0 0)).run P w=.ok p.isNone w:=λ q p m c w=>by
   cases p<;>simp [Op.equalIn,run_underlying hd]
  have e1:∀ p m c (w:World),(Op.equal t (.slice p m c) (.slice none 0 0)).run P w=.ok p.isNone w:=λ p m c w=>e0 9999 p m c w
  have e2:∀ p m c (w:World),(execOp a.eval o).run P w=.ok (.value (.bool (p:Option Addr).isNone)) w\/a.eval x≠.slice p m c:=λ p m c w=>by
   by_cases h:a.eval x=.slice p m c
   ·left
    simp only [execOp,hop,h,hyv,eqGuard,binOp,e1,Jmw,Jmu,Jmx]
    simp
   ·exact .inr h
  have hrun:∃ b,(es≠[]->b=false)/\(execOp a.eval o).run P w=.ok (.value (.bool b)) w:=by
   cases hxr with
   | d _ _ hxd=>
    cases hxd with
    | sl0 ad cap=>exact ⟨_,λ h=>absurd rfl h,(e2 ad 0 cap w).resolve_right (λ h=>h hxv)⟩
    | sl _ b off cap=>exact ⟨_,λ _=>rfl,(e2 (some ⟨b,off,none⟩) es.length cap w).resolve_right (λ h=>h hxv)⟩
  obtain ⟨b,hb,hrun⟩:=hrun
  refine DV (by rw [hop];intro c e;cases e) ?_
  unfold Oper.wp
  rw [hrun,Oper.upon_value]
  exact hK _ _ _ ⟨b,hb,rfl⟩ ⟨F,ρ,hS,hSl.putA hn hdst (.mkBool _),hn.put hdst,by rw [Bu];exact hdf⟩
def nlB (Γ:Cx) (c:Code) (i:Nat) (s:St):Bool:=match (A0 c)[i]? with
 | some o=>Jbu Γ c o&&(match o.op with
  | .binOp .eql t x y _=>(Γ.ty t).ok&&(match (Γ.ty t).kind,Aj s.env y with
   | .slice _ _ _,.d .nil=>true
   | _,_=>false)
  | _=>false)
 | none=>false
def nlV (c:Code) (i:Nat) (s:St):Option (List (List D)):=match (A0 c)[i]? with
 | some o=>(match o.op with
  | .binOp _ _ x _ _=>(match Aj s.env x with
   | .d (.sl es)=>some es
   | _=>none)
  | _=>none)
 | none=>none
theorem nl (hY:YOK P Γ) (hX:XOK P Γ) {xs:List α} {enc:α->List D} (hk:∀ b,nlS xs b->RF Γ C p (i+1) Q ⟨putA (itD (nav p C) i) false true (.d (.bool b)) s.env,s.objs⟩) (hb:nlB Γ (nav p C) i s=true:=by kernel_rfl) (hv:nlV (nav p C) i s=some (xs.map enc):=by kernel_rfl):ND Γ (nav p C) i Q s:=by
 unfold nlB at hb
 unfold itD at hk
 unfold nlV at hv
 split at hb
 ·rename_i o ho
  rw [ho] at hk hv
  simp only [JmN] at hb
  obtain ⟨hb1,hb2⟩:=hb
  split at hb2
  ·rename_i t x y yt hop
   simp only [JmN] at hb2
   obtain ⟨hb2,hb3⟩:=hb2
   split at hb3
   ·rename_i hkd hy
    simp only [hop] at hv
    split at hv
    ·rename_i es hx
     simp only [JmX] at hv
     subst hv
     refine Wa hY ho hb1 (JdJ hX.ty hop hb2 hkd hx hy) λ s' hs=>?_
     obtain ⟨b,hb,rfl⟩:=hs
     exact hk b λ hne=>hb (by simpa using hne)
    ·cases hv
   ·cases hb3
  ·cases hb2
 ·cases hb
end Go.AI
end
section
namespace Go.AI
variable {α:Type}
def ZH (rows:List (List α)) (i j:Int):Option α:=(idx rows i).bind λ r=>idx r j
def ZI (rows:List (List α)) (i j:Int) (b:α):Option (List (List α)):=(idx rows i).bind λ r=>(put r j b).bind λ r'=>put rows i r'
end Go.AI
end
section
namespace Go.AI
variable {P:Program} {Γ:Cx} {C:Code} {p:List Nat} {Q:Ex->St->Prop} {s s':St} {i nk:Nat}
variable {α β ζ:Type}
def JlM:D->Bool
 | .int _ _=>true
 | .bool _=>true
 | .str _=>true
 | _=>false
theorem XH:∀ (l pre cells:List AV),cells.length=l.length->splice (pre++cells) pre.length l=pre++l:=by
 intro l
 induction l with
 | nil=>intro pre cells h;rw [List.length_eq_zero_iff.1 h];rfl
 | cons v l ih=>
  intro pre cells h
  cases cells with
  | nil=>cases h
  | cons c cells=>
   simp only [splice]
   have e:(pre++c::cells).set pre.length v=(pre++[v])++cells:=by simp
   rw [e]
   have:=ih (pre++[v]) cells (by simpa using h)
   simp only [List.length_append,List.length_cons,List.length_nil] at this
   rw [this,List.append_assoc];rfl
theorem Jbv (z:D) (N k:Nat) (t:Ty) (hk:obA s.objs k=some (.box ((List.replicate N z).map .d)):=by kernel_rfl) (ht:Nat.beq t.size N=true:=by kernel_rfl) :
  FZ s (DT t s.objs (.ptr k 0) (.agg ((List.replicate N z).map .d))) .top [] [] (some (k,.box ((List.replicate N z).map .d))):=by
 have ht:=JmT ht
 have hall:((List.replicate N z).map AV.d).all Ee=true:=by
  rw [Jmz]
  intro x hx
  obtain ⟨y,_,rfl⟩:=JmG.1 hx
  rfl
 have hsp:splice ((List.replicate N z).map AV.d) 0 ((List.replicate N z).map AV.d)=(List.replicate N z).map AV.d:=XH _ [] _ rfl
 refine .of (ob:=((List.replicate N z).map AV.d).length=t.size/\0+t.size<=((List.replicate N z).map AV.d).length) ?_ ⟨by simp [ht],by simp [ht]⟩
 simp only [DT,hk,Bo,Ar,hall,Bool.and_self,cond_true,hsp]
theorem JdK {α:Type} (e:α->D) (b:α) (N n m k:Nat) (hN:Nat.beq (n*m) N=true) (h:obA s.objs k=some (.box ((List.replicate N (e b)).map .d))):AR nk s ⟨s.env,s.objs.set k (some (.arr m ((List.replicate n (List.replicate m b)).map (List.map e))))⟩:=by
 have hN:=JmT hN
 have e1:((List.replicate n ()).flatMap λ _=>List.replicate m (e b))=List.replicate N (e b):=by
  rw [List.flatMap_def,List.map_replicate,List.flatten_replicate_replicate,hN]
 have e2:(List.replicate n (List.replicate m b)).map (List.map e)=(List.replicate n ()).map λ _=>List.replicate m (e b):=by simp
 rw [e2]
 exact Jdy (λ _:Unit=>List.replicate m (e b)) (List.replicate n ()) k m (λ _=>by simp) (by rw [e1];exact h)
theorem Yv (k sz n esz i0 off:Nat) {j:Int} {u:Unit} (h:BJ (decide (0<=j/\j<(n:Nat)))=some u) (hne:Nat.beq esz sz=false:=by kernel_rfl):FZ s (P4 (.array n esz) (.eptr k sz i0 off) j) (.eptr k sz i0 (off+j.toNat*esz)) [] [] none:=by
 refine .of (ob:=0<=j/\j<(n:Nat)) ?_ (of_decide_eq_true (Ll h))
 simp only [P4,hne,cond_false,A4]
theorem ZJ {rows:List (List α)} {i j:Int} {b:α} (h:ZH rows i j=some b):∃ r,idx rows i=some r/\idx r j=some b:=by
 unfold ZH at h
 cases hr:idx rows i with
 | none=>rw [hr] at h;cases h
 | some r=>rw [hr] at h;exact ⟨r,rfl,h⟩
theorem JgJ (e:α->D) (k sz:Nat) (t:Ty) {rows:List (List α)} {i j:Int} {b:α} (h:ZH rows i j=some b) (hk:obA s.objs k=some (.arr sz (rows.map (List.map e))):=by kernel_rfl) (ht:(!t.agg&&Nat.beq t.size 1)=true:=by kernel_rfl) :
  FZ s (C0 t s.objs (.eptr k sz (0+i.toNat) (0+j.toNat*1))) (.d (e b)) [] [] none:=by
 obtain ⟨r,h1,h2⟩:=ZJ h
 obtain ⟨i0,i1,i2⟩:=FJ h1
 obtain ⟨j0,j1,j2⟩:=FJ h2
 simp only [JmN,Bool.not_eq_true'] at ht
 have hs:=JmT ht.2
 have e1:(rows.map (List.map e))[0+i.toNat]? = some (r.map e):=by rw [Jm0,JmQ,i2];rfl
 have e2:((r.map e).map AV.d)[0+j.toNat*1]? = some (.d (e b)):=by rw [Jm0,Nat.mul_one,JmQ,JmQ,j2];rfl
 refine .of (ob:=sz=sz/\0+i.toNat<(rows.map (List.map e)).length/\0+j.toNat*1+t.size<=(r.map e).length) ?_ ⟨rfl,Ad e1,?_⟩
 ·simp only [C0,hk,e1,JmA,BX,ht.1,cond_false,e2,A4]
 ·have:=Ad e2;rw [JmJ] at this;omega
theorem ZK {rows zs:List (List α)} {i j:Int} {b:α} (h:ZI rows i j b=some zs):∃ r r',idx rows i=some r/\put r j b=some r'/\put rows i r'=some zs:=by
 unfold ZI at h
 cases hr:idx rows i with
 | none=>rw [hr] at h;cases h
 | some r=>
  rw [hr] at h
  simp only [Jmv] at h
  cases hp:put r j b with
  | none=>rw [hp] at h;cases h
  | some r'=>rw [hp] at h;exact ⟨r,r',rfl,hp,h⟩
theorem Yw {xs zs:List α} {i:Int} {y:α} (h:put xs i y=some zs):zs=xs.set i.toNat y/\i.toNat<xs.length:=by
 unfold put at h
 split at h
 ·rename_i hc;cases h;exact ⟨rfl,by omega⟩
 ·cases h
theorem JlN (e:α->D) (k sz:Nat) (t:Ty) {rows zs:List (List α)} {n m:Int} {b:α} (h:ZI rows n m b=some zs) (hm:m<(sz:Int)) (hk:RF Γ C p (i+1) Q ((L7 Γ (nav p C) i .top [] [] (some (k,.arr sz (zs.map (List.map e)))) s).getD s))
  (h1:obA s.objs k=some (.arr sz (rows.map (List.map e))):=by kernel_rfl) (hv:stV (nav p C) i s=.d (e b):=by kernel_rfl) (hpl:JlM (e b)=true:=by kernel_rfl) (h5:Nat.beq t.size 1=true:=by kernel_rfl)
  (hx:Oz Γ (nav p C) i s=DT t s.objs (.eptr k sz (0+n.toNat) (0+m.toNat*1)) (stV (nav p C) i s):=by kernel_rfl) (hn:(L7 Γ (nav p C) i .top [] [] (some (k,.arr sz (zs.map (List.map e)))) s).isSome=true:=by kernel_rfl):RF Γ C p i Q s:=by
 obtain ⟨r,r',q1,q2,q3⟩:=ZK h
 obtain ⟨i0,i1,i2⟩:=FJ q1
 have hm0:0<=m:=by
  unfold put at q2
  split at q2
  ·omega
  ·cases q2
 obtain ⟨rfl,q4⟩:=Yw q2
 obtain ⟨rfl,q5⟩:=Yw q3
 have e1:(rows.map (List.map e))[0+n.toNat]? = some (r.map e):=by rw [Jm0,JmQ,i2];rfl
 have hex:CS s.objs [AV.d (e b)]=some ⟨[e b],[],True/\True⟩:=by
  have:Ig s.objs (AV.d (e b))=some ⟨e b,[],True⟩:=by
   cases hb:e b<;>first|rfl|(rw [hb] at hpl;cases hpl)
  simp only [CS,this];rfl
 refine sp (v:=.top) (obs:=[]) (rm:=[]) ?_ hk hx hn
 rw [hv]
 have hs:=JmT h5
 refine .of (ob:=sz=sz/\[e b].length=t.size/\0+n.toNat<(rows.map (List.map e)).length/\0+m.toNat*1+t.size<=sz/\(True/\True)) ?_ ⟨rfl,by simp [hs],Ad e1,by omega,trivial,trivial⟩
 have hsol:(Bo (AV.d (e b))&&(Ar (AV.d (e b))).all Ee&&!([]:List Nat).contains k)=true:=rfl
 have hcc:Ar (AV.d (e b))=[AV.d (e b)]:=rfl
 simp only [DT,h1,hcc,hex]
 simp only [hcc] at hsol
 rw [hsol,cond_true,e1]
 simp only [JmA,Jm0,Nat.mul_one,Ef,List.map_set]
end Go.AI
end
section
namespace Go.AI
open Go.Sort Go.Shelf Go.Proofs
variable {P:Program} {ρs:Ren}
theorem Sim.more {N:Nat->Prop} {H0 F0 F:Nat->Option Obj} {ρ:Nat->Option Loc} {O:List (Option Ob)} {h:Array Obj} (hS:Sim N H0 F0 F ρ O h) (os:Array Obj):Sim N H0 F0 F ρ O (h++os):=by
 have hl:∀ b,b<h.size->(h++os)[b]? = h[b]? := λ b hb=>Array.getElem?_append_left hb
 have hg:∀ b o,h[b]? = some o->(h++os)[b]? = some o:=λ b o hb=>by rw [hl b (Ap hb)];exact hb
 obtain ⟨σ,hσ⟩:=hS.inn
 have hM:∀ k c M,σ k c=some M->(h++os)[M.b]? = h[M.b]? := λ k c M hM=>hl _ (hσ.new k c M hM).2.1
 refine { hS with size:=λ b hb=>hS.size b (by simp at hb;omega),old:=λ b hb=>?_,frz:=λ b o hb=>hg b o (hS.frz b o hb),loc:=λ k L hk=>?_,obj:=λ k L ob hk ho=>?_,inn:=⟨σ,λ k c M hM=>?_,hσ.obj,hσ.sep,λ k L sz es hk ho i e j isz xs hi hj cs t fr v hb hv=>?_⟩ }
 ·have:b<h.size:=by
   apply Classical.byContradiction;intro hn
   exact hb (hS.size b (by omega))
  rw [hl b this];exact hS.old b hb
 ·have:=hS.loc k L hk;simp;omega
 ·obtain ⟨g1,g2,g3⟩:=hS.obj k L ob hk ho
  exact ⟨g1.mono (FLe.refl _) (RLe.refl _) (hl _ (hS.loc k L hk)),g2,g3⟩
 ·obtain ⟨g1,g2,g3⟩:=hσ.new k c M hM
  exact ⟨g1,by simp;omega,g3⟩
 ·rw [hl _ (hS.loc k L hk)] at hb
  exact (hσ.rep k L sz es hk ho i e j isz xs hi hj cs t fr v hb hv).mono (FLe.refl _) λ L' hL'=>hM _ _ _ hL'
end Go.AI
end
section
namespace Go.AI
def XI {β:Type} (lt:β->β->Bool) (x:β):List β->List β
 | []=>[x]
 | y::l=>if lt y x=true then y::XI lt x l else x::y::l
def MA {β:Type} (lt:β->β->Bool):List β->List β
 | []=>[]
 | x::l=>XI lt x (MA lt l)
def Wb {β:Type} (lt:β->β->Bool) (xs:List β):Option (List β):=if xs.length<4611686018427387904 then some (MA lt xs) else none
section
variable {β:Type} {lt:β->β->Bool}
theorem OB (x:β):∀ l:List β,(XI lt x l).Perm (x::l)
 | []=>.refl _
 | y::l=>by
  unfold XI
  split
  ·exact ((OB x l).cons y).trans (.swap x y l)
  ·exact .refl _
theorem Ko:∀ l:List β,(MA lt l).Perm l
 | []=>.refl _
 | x::l=>(OB x _).trans ((Ko l).cons x)
theorem PS (hn:∀ x y z,lt x y=false->lt y z=false->lt x z=false) (ha:∀ x y,lt x y=true->lt y x=false) {x:β}:∀ {l:List β},l.Pairwise (λ a b=>lt b a=false)->(XI lt x l).Pairwise (λ a b=>lt b a=false)
 | [],_=>by simp [XI]
 | y::l,h=>by
  unfold XI
  rw [List.pairwise_cons] at h
  split
  ·rename_i hyx
   refine List.pairwise_cons.2 ⟨λ z hz=>?_,PS hn ha h.2⟩
   rcases List.mem_cons.1 ((OB x l).mem_iff.1 hz) with rfl|hz
   ·exact ha _ _ hyx
   ·exact h.1 z hz
  ·rename_i hyx
   have hyx:lt y x=false:=by simpa using hyx
   refine List.pairwise_cons.2 ⟨λ z hz=>?_,List.pairwise_cons.2 h⟩
   rcases List.mem_cons.1 hz with rfl|hz
   ·exact hyx
   ·exact hn _ _ _ (h.1 z hz) hyx
theorem H7 (hn:∀ x y z,lt x y=false->lt y z=false->lt x z=false) (ha:∀ x y,lt x y=true->lt y x=false):∀ l:List β,(MA lt l).Pairwise (λ a b=>lt b a=false)
 | []=>.nil
 | _::l=>PS hn ha (H7 hn ha l)
theorem Ul (hi:∀ x,lt x x=false) (hn:∀ x y z,lt x y=false->lt y z=false->lt x z=false) (ht:∀ x y z,lt x y=true->lt y z=true->lt x z=true) (hT:∀ x y,lt x y=false->lt y x=false->x=y) (l:List β):MA lt l=l.mergeSort λ x y=>!lt y x:=by
 have ha:∀ x y,lt x y=true->lt y x=false:=λ x y h=>by
  rw [Bool.eq_false_iff];intro h'
  have:=ht x y x h h';rw [hi] at this;cases this
 refine List.Perm.eq_of_pairwise (le:=λ a b=>lt b a=false) (λ a b _ _ h1 h2=>hT _ _ h2 h1) (H7 hn ha l) ?_ ((Ko l).trans (List.mergeSort_perm _ _).symm)
 have:=List.pairwise_mergeSort (le:=λ x y:β=>!lt y x) (λ a b c h1 h2=>by simp at *;exact hn _ _ _ h2 h1) (λ a b=>by
  cases h:lt b a with
  | false=>simp
  | true=>simp [ha _ _ h]) l
 exact this.imp λ h=>by simpa using h
end
end Go.AI
end
section
namespace Go.AI
open Go.Sort Go.Shelf Go.Proofs
variable {P:Program} {ρs:Ren} {β:Type} [Inhabited β]
theorem Bf.is_val {F:Nat->Option Obj} {x:D} {v:Value} (h:Bf F x v) (hp:x.isPlain=true):v=x.val:=by
 cases h<;>first|rfl|cases hp
theorem SP {x:D} (hp:x.isPlain=true):x.val.oneCell'=true:=Bf.oneCell (Bf.val (λ _=>none) hp)
theorem Jbw {g:Nat} {enc:β->List D} (hpl:∀ x,∀ d∈enc x,d.isPlain=true) {cf:β->β->Int} (hcmp:∀ x y,Aq P g [.agg ((enc x).map .d),.agg ((enc y).map .d)] (.d (.int .i64 (cf x y)))) (k blk off size:Nat) (w:World):CmpLays P g #[] (λ x=>(enc x).map D.val) k cf blk off size w:=by
 intro m os dk _ x y
 generalize sortWorldK (λ x=>(enc x).map D.val) k w blk off m dk os=W
 have ag:∀ z:β,Ah (λ _=>none) noR (.agg ((enc z).map .d)) (.agg ((enc z).map D.val).toArray):=λ z=>by
  refine .agg _ _ (by simp) λ i a v h1 h2=>?_
  simp only [JmQ,JmP] at h1
  obtain ⟨d,hd,rfl⟩:=h1
  simp only [List.getElem?_toArray,JmQ,hd,Option.map_some,JmX] at h2
  subst h2
  exact .d _ _ (Bf.val _ (hpl z d (JmO hd)))
 refine ((hcmp x y).2 (λ _=>none) W _ ⟨rfl,λ i a v h1 h2=>?_⟩ (λ b o h=>by cases h)).mono λ e w' he=>?_
 ·match i,h1,h2 with
  | 0,h1,h2=>cases h1;cases h2;exact ag x
  | 1,h1,h2=>cases h1;cases h2;exact ag y
 ·obtain ⟨v,F',ρ,rfl,hS,hv,hmu⟩:=he
  refine ⟨?_,w'.drawn-W.drawn,w'.heap.extract W.heap.size w'.heap.size,?_⟩
  ·have hv:Ah F' ρ (.d (.int .i64 (cf x y))) v:=hv
   rw [hv.int]
  ·obtain ⟨h1,h2,h3,h4,h5⟩:=hmu
   have hh:w'.heap=W.heap++w'.heap.extract W.heap.size w'.heap.size:=by
    apply Array.ext_getElem?
    intro b
    rw [Array.getElem?_append]
    split
    ·rename_i hb
     exact hS.old b (by omega)
    ·rename_i hb
     rw [Array.getElem?_extract]
     split
     ·congr 1;omega
     ·rw [Array.getElem?_eq_none (by omega)]
   show w'={ W with drawn:=W.drawn+(w'.drawn-W.drawn),heap:=W.heap++w'.heap.extract W.heap.size w'.heap.size }
   rw [← hh,Nat.add_sub_cancel' h5]
   cases w';cases W
   simp only at h1 h2 h4
   subst h1;subst h2;subst h4;rfl
theorem XJ (L:SlLaysF0.n6 P ρs) (k:Nat) (hk1:1<=k) (aE:∀ w,(isAgg (ρs.t 24)).run P w=.ok true w) (zE:∀ w,(Go.sizeOf (ρs.t 24)).run P w=.ok k w) {enc:β->List D} (hk:∀ x,(enc x).length=k) (hpl:∀ x,∀ d∈enc x,d.isPlain=true) {cf:β->β->Int} (hO:SWO (ltOf cf)) (hT:∀ x y,ltOf cf x y=false->ltOf cf y x=false->x=y) {g:Nat} (eg:∀ args w,(callFunc g args).run P w=.ok (.enter g args) w)
  (hcmp:∀ x y,Aq P g [.agg ((enc x).map .d),.agg ((enc y).map .d)] (.d (.int .i64 (cf x y)))) (hf:∃ fn c,P.funcs[ρs.f 6]? = some fn/\fn.body=some c/\(fn.name == "runtime.NumGoroutine")=false) {xs zs:List β} (h:Wb (ltOf cf) xs=some zs) :
  BM P (ρs.f 6) [.osl 0 k 0 xs.length,.clo g []] [some (.arr k (xs.map enc))] 1 (.tup []) [some (.arr k (zs.map enc))]:=by
 have hz:xs.length<4611686018427387904/\zs=xs.mergeSort λ x y=>!(ltOf cf) y x:=by
  unfold Wb at h
  split at h
  ·rename_i h1;exact ⟨h1,by rw [← Ul hO.irrefl hO.ntrans hO.trans hT];exact (Option.some.inj h).symm⟩
  ·cases h
 obtain ⟨hlt,hzs⟩:=hz
 refine ⟨hf,λ N F ρ w vs hS hcr=>?_⟩
 obtain ⟨v,u,rfl⟩:∃ v u,vs=#[v,u]:=by
  have h1:vs.size=2:=by simpa using hcr.1.symm
  exact ⟨vs[0],vs[1],by apply Array.ext;simp [h1];intro i h1' h2;simp at h2;match i,h2 with|0,_=>rfl|1,_=>rfl⟩
 have hv:=hcr.2 0 _ v rfl rfl
 have hu:=hcr.2 1 _ u rfl rfl
 have hu:u=.func (.func g) #[] #[]:=by
  cases hu with
  | clo _ _ vs hl _=>
   have:vs=#[]:=Array.eq_empty_of_size_eq_zero hl.symm
   rw [this]
 subst hu
 have hlen:zs.length=xs.length:=by rw [hzs];exact List.length_mergeSort _
 have htup:∀ F' ρ',Ah F' ρ' (.tup []) (.tuple #[]):=λ F' ρ'=>.tup [] #[] rfl λ i a v h=>by simp at h
 generalize hn:xs.length=n at hv
 cases hv with
 | osl0 _ _ _ a=>
  have hx:xs=[]:=List.length_eq_zero_iff.1 hn
  have hz0:zs=[]:=List.length_eq_zero_iff.1 (by omega)
  refine (AnyF.slices_SortFunc_none L a 0 _ w).mono λ e w' he=>?_
  obtain ⟨rfl,rfl⟩:=he
  subst hx;subst hz0
  exact ⟨_,F,ρ,rfl,hS,λ j _ L h=>h,htup _ _,Mu.refl _⟩
 | osl _ _ _ _ cap Lo hL hc hs hz=>
  obtain ⟨⟨g1,g2,cs,t,fr,g3,g4,g5,g6⟩,gN,gF⟩:=hS.obj 0 Lo _ hL rfl
  simp only [JmJ] at g2
  have hdm:∀ j,j<xs.length*k->j / k<xs.length/\j % k<k/\j / k*k+j % k=j:=λ j hj=>⟨(Nat.div_lt_iff_lt_mul (by omega)).2 hj,Nat.mod_lt _ (by omega),by rw [Nat.mul_comm];exact Nat.div_add_mod j k⟩
  have hcell:∀ j,j<xs.length*k->cs[Lo.base+j]? = some ((flatK (λ x=>(enc x).map D.val) k xs.toArray)[j]!):=λ j hj=>by
   obtain ⟨d1,d2,d3⟩:=hdm j hj
   have hx:xs.toArray[j / k]! = xs[j / k]:=by rw [getElem!_pos _ (j / k) (by simpa using d1)];simp
   have hd2:j % k<(enc xs[j / k]).length:=by rw [hk];exact d2
   obtain ⟨v,hv,hd⟩:=g6 (j / k) (enc xs[j / k]) (by rw [JmQ,JmM d1];rfl) (j % k) _ (JmM hd2)
   have:=hd.is_val (hpl _ _ (JmB hd2))
   subst this
   rw [get_flatK _ _ _ j (by simpa using hj),hx]
   rw [show Lo.base+j=Lo.base+j / k*k+j % k by omega,hv,getElem!_pos _ (j % k) (by simpa using hd2)]
   simp
  have hH:HoldsK (λ x=>(enc x).map D.val) k w Lo.b (Lo.base+0*k) xs.toArray:=λ j hj=>by
   have hj:j<xs.length*k:=by simpa using hj
   have:=hcell j hj
   refine ⟨by simp only [World.cell?,g3,Option.isSome_none,JmY,if_false,Nat.zero_mul,Nat.add_zero];exact this,QP g3 (g5 _ ?_)⟩
   simp;omega
  have hcon:=AnyQ.slices_SortFunc_total L k aE zE (λ x=>(enc x).map D.val) (λ x=>by simp [hk]) (λ x v hv=>by
   simp only [JmG] at hv
   obtain ⟨d,hd,rfl⟩:=hv
   exact SP (hpl x d hd)) cf hO g #[] Lo.b (Lo.base+0*k) cap xs.toArray w eg (Jbw hpl hcmp k _ _ _ w) hH (Ap g3) (by simpa using hlt) hT
  rw [show xs.toArray.size=n by simpa using hn] at hcon
  refine hcon.mono λ e w' he=>?_
  obtain ⟨rfl,m,os,rfl⟩:=he
  rw [show xs.toArray.toList=xs from rfl,← hzs]
  have hheap:(sortWorldK (λ x=>(enc x).map D.val) k w Lo.b (Lo.base+0*k) m zs.toArray os).heap=w.heap.setIfInBounds Lo.b (.cells (putCells id Lo.base (flatK (λ x=>(enc x).map D.val) k zs.toArray) cs) t fr)++os:=by
   simp only [sortWorldK,putRowK,grow,putRow,mapBlock,Sort.ahead,Nat.zero_mul,Nat.add_zero]
   congr 1
   apply Array.ext_getElem?
   intro i
   rw [Array.getElem?_modify,Array.getElem?_setIfInBounds]
   split
   ·rename_i e;subst e
    rw [if_pos (Ap g3),g3];rfl
   ·rfl
  have hS1:=hS.rewrite (k':=0) (L':=Lo) (x:=.cells (putCells id Lo.base (flatK (λ x=>(enc x).map D.val) k zs.toArray) cs) t fr) (O':=[some (.arr k (zs.map enc))]) hL rfl (by rw [Cd hL];exact RLe.refl _) rfl (λ j ob' hj hob'=>by
    have:=AT hob';simp at this;omega) (by simp) (by simp) (λ ob' hob'=>by
    cases hob'
    refine ⟨λ e he=>?_,by simp;rw [hlen];exact g2,_,t,fr,by rw [Array.getElem?_setIfInBounds_self_of_lt (Ap g3)],by simp [putCells,g4],g5,λ i e hi j x hx=>?_⟩
    ·simp only [JmG] at he;obtain ⟨y,_,rfl⟩:=he;exact hk y
    ·simp only [JmQ,JmP] at hi
     obtain ⟨y,hy,rfl⟩:=hi
     have hj:j<k:=by have:=Ad hx;rw [hk] at this;exact this
     have hil:=Ad hy
     have hlt2:i*k+j<zs.length*k:=by
      have:(i+1)*k<=zs.length*k:=Jmy k (by omega)
      rw [JmZ] at this;omega
     have hcs:Lo.base+i*k+j<cs.size:=by
      have:=hcell (i*k+j) (by rw [← hlen];exact hlt2)
      have:=Ap this;omega
     refine ⟨x.val,?_,Bf.val _ (hpl y x (JmO hx))⟩
     have e1:(flatK (λ x=>(enc x).map D.val) k zs.toArray)[i*k+j]! = x.val:=by
      rw [get_flatK _ _ _ _ (by simpa using hlt2)]
      have h1:(i*k+j) / k=i:=by rw [Nat.mul_comm,Nat.mul_add_div (by omega),Nat.div_eq_of_lt hj];omega
      have h2:(i*k+j) % k=j:=by rw [Nat.mul_comm,Nat.mul_add_mod];exact Nat.mod_eq_of_lt hj
      rw [h1,h2]
      have e0:zs.toArray[i]! = y:=by
       rw [getElem!_pos _ i (by simpa using hil)]
       simpa [JmM hil] using hy
      rw [e0]
      have hjl:j<((enc y).map D.val).length:=by simp [hk];exact hj
      rw [getElem!_pos _ j hjl,List.getElem_map]
      have:=JmM (l:=enc y) (by rw [hk];exact hj)
      rw [this] at hx;cases hx;rfl
     simp only [putCells,Array.getElem?_mapIdx,JmR hcs,Option.map_some]
     rw [if_pos ⟨by omega,by simp;omega⟩,show Lo.base+i*k+j-Lo.base=i*k+j by omega,e1];rfl) (λ ob' hob'=>by cases hob';rfl)
  rw [Cd hL] at hS1
  refine ⟨_,F,ρ,rfl,by rw [hheap];exact hS1.more os,λ j _ L h=>h,htup _ _,rfl,rfl,by rw [hheap];simp,rfl,Nat.le_add_right _ _⟩
end Go.AI
end
section
namespace Go.AI
variable {β:Type}
def ltC (c:β->β->Option Int) (x y:β):Bool:=decide ((c x y).getD 0<0)
structure Yx (c:β->β->Option Int):Prop where
 tot:∀ x y,(c x y).isSome=true
 irrefl:∀ x,ltC c x x=false
 trans:∀ x y z,ltC c x y=true->ltC c y z=true->ltC c x z=true
 ntrans:∀ x y z,ltC c x y=false->ltC c y z=false->ltC c x z=false
 one:∀ x y,ltC c x y=false->ltC c y x=false->x=y
open Classical in
noncomputable def sortC (c:β->β->Option Int) (xs:List β):Option (List β):=if Yx c then Wb (ltC c) xs else none
theorem RE {c:β->β->Option Int} {xs zs:List β} (h:sortC c xs=some zs):Yx c/\Wb (ltC c) xs=some zs:=by
 unfold sortC at h
 split at h
 ·rename_i hc;exact ⟨hc,h⟩
 ·cases h
theorem Jbx {c:β->β->Option Int} (hc:Yx c) (xs:List β) (h:xs.length<4611686018427387904):sortC c xs=some (MA (ltC c) xs):=by
 unfold sortC Wb
 rw [if_pos hc,if_pos h]
end Go.AI
end
section
namespace Go.AI
open Go.Sort Go.Shelf Go.Proofs
theorem Um {P:Program} {g:Nat} {fn:Func} (hf:P.funcs[g]? = some fn) (hb:fn.body=some (Aw fn):=by kernel_rfl) (hnm:(fn.name == "runtime.NumGoroutine")=false:=by kernel_rfl) (args:Array Value) (w:World):(callFunc g args).run P w=.ok (.enter g args) w:=by
 simp only [callFunc,Jmw,run_program,Jmu,hf,hnm,hb,JmY,if_false,Option.isNone_some,Jmx]
theorem XK {P:Program} {ρs:Ren} {β:Type} [Inhabited β] (L:SlLaysF0.n6 P ρs) {k:Nat} (hk1:1<=k) (aE:∀ w,(isAgg (ρs.t 24)).run P w=.ok true w) (zE:∀ w,(Go.sizeOf (ρs.t 24)).run P w=.ok k w) {enc:β->List D} (hk:∀ x,(enc x).length=k) (hpl:∀ x,∀ d∈enc x,d.isPlain=true) {c:β->β->Option Int} {g:Nat} (eg:∀ args w,(callFunc g args).run P w=.ok (.enter g args) w)
  (hcmp:∀ {x y:β} {z:Int},c x y=some z->Aq P g [.agg ((enc x).map .d),.agg ((enc y).map .d)] (.d (.int .i64 z))) (hf:∃ fn c,P.funcs[ρs.f 6]? = some fn/\fn.body=some c/\(fn.name == "runtime.NumGoroutine")=false) {xs zs:List β} (h:sortC c xs=some zs) :
  BM P (ρs.f 6) [.osl 0 k 0 xs.length,.clo g []] [some (.arr k (xs.map enc))] 1 (.tup []) [some (.arr k (zs.map enc))]:=by
 obtain ⟨hc,h⟩:=RE h
 refine XJ L k hk1 aE zE hk hpl (cf:=λ x y=>(c x y).getD 0) ⟨hc.irrefl,hc.trans,hc.ntrans⟩ hc.one eg (λ x y=>hcmp ?_) hf h
 have:=hc.tot x y
 rw [Option.isSome_iff_exists] at this
 obtain ⟨n,hn⟩:=this
 rw [hn];rfl
end Go.AI
end
section
namespace Go.Proofs
open Go.Shelf
def Tryz.laysSortF_ren:Go.Shelf.Ren:=⟨λ|6=>38|15=>54|14=>53|28=>77|29=>78|20=>69|21=>70|22=>71|23=>72|24=>73|25=>74|26=>75|27=>76|46=>88|47=>89|48=>90|49=>91|50=>92|57=>102|n=>n,λ|22=>35|24=>33|25=>88|3=>3|39=>108|0=>0|53=>134|55=>136|4=>4|46=>127|45=>126|50=>131|5=>5|9=>9|66=>149|70=>153|76=>164|77=>165|n=>n,λ|n=>n⟩
theorem Tryz.laysSortF:Go.Proofs.SlLaysF0.n6 Tryz.prog Tryz.laysSortF_ren:={
 mixed:=by kernel_rfl
 f6:=⟨ "slices.SortFunc[[]sixdot/api.Change,sixdot/api.Change]",by decide,Tryz.func38.trans (congrArg some (by kernel_rfl))⟩
 f14:=⟨ "slices.pdqsortCmpFunc[sixdot/api.Change]",by decide,Tryz.func53.trans (congrArg some (by kernel_rfl))⟩
 f15:=Tryz.func54.trans (congrArg some (by kernel_rfl))
 f20:=⟨ "slices.insertionSortCmpFunc[sixdot/api.Change]",by decide,Tryz.func69.trans (congrArg some (by kernel_rfl))⟩
 f21:=⟨ "slices.heapSortCmpFunc[sixdot/api.Change]",by decide,Tryz.func70.trans (congrArg some (by kernel_rfl))⟩
 f22:=⟨ "slices.breakPatternsCmpFunc[sixdot/api.Change]",by decide,Tryz.func71.trans (congrArg some (by kernel_rfl))⟩
 f23:=⟨ "slices.choosePivotCmpFunc[sixdot/api.Change]",by decide,Tryz.func72.trans (congrArg some (by kernel_rfl))⟩
 f24:=⟨ "slices.reverseRangeCmpFunc[sixdot/api.Change]",by decide,Tryz.func73.trans (congrArg some (by kernel_rfl))⟩
 f25:=⟨ "slices.partialInsertionSortCmpFunc[sixdot/api.Change]",by decide,Tryz.func74.trans (congrArg some (by kernel_rfl))⟩
 f26:=⟨ "slices.partitionEqualCmpFunc[sixdot/api.Change]",by decide,Tryz.func75.trans (congrArg some (by kernel_rfl))⟩
 f27:=⟨ "slices.partitionCmpFunc[sixdot/api.Change]",by decide,Tryz.func76.trans (congrArg some (by kernel_rfl))⟩
 f28:=Tryz.func77.trans (congrArg some (by kernel_rfl))
 f29:=Tryz.func78.trans (congrArg some (by kernel_rfl))
 f46:=⟨ "slices.siftDownCmpFunc[sixdot/api.Change]",by decide,Tryz.func88.trans (congrArg some (by kernel_rfl))⟩
 f47:=Tryz.func89.trans (congrArg some (by kernel_rfl))
 f48:=Tryz.func90.trans (congrArg some (by kernel_rfl))
 f49:=⟨ "slices.medianAdjacentCmpFunc[sixdot/api.Change]",by decide,Tryz.func91.trans (congrArg some (by kernel_rfl))⟩
 f50:=⟨ "slices.medianCmpFunc[sixdot/api.Change]",by decide,Tryz.func92.trans (congrArg some (by kernel_rfl))⟩
 f57:=⟨ "slices.order2CmpFunc[sixdot/api.Change]",by decide,Tryz.func102.trans (congrArg some (by kernel_rfl))⟩
 t0:=Tryz.underlying0
 a0:=Tryz.isAgg0
 z0:=Tryz.sizeOf0
 v0:=Tryz.zeroValue0
 t3:=Tryz.underlying3
 a3:=Tryz.isAgg3
 z3:=Tryz.sizeOf3
 v3:=Tryz.zeroValue3
 t4:=Tryz.underlying4
 a4:=Tryz.isAgg4
 z4:=Tryz.sizeOf4
 v4:=Tryz.zeroValue4
 t5:=Tryz.underlying5
 a5:=Tryz.isAgg5
 z5:=Tryz.sizeOf5
 v5:=Tryz.zeroValue5
 t9:=Tryz.underlying9
 a9:=Tryz.isAgg9
 z9:=Tryz.sizeOf9
 v9:=Tryz.zeroValue9
 t22:=Tryz.underlying35
 a22:=Tryz.isAgg35
 z22:=Tryz.sizeOf35
 v22:=Tryz.zeroValue35
 t25:=Tryz.underlying88
 a25:=Tryz.isAgg88
 z25:=Tryz.sizeOf88
 v25:=Tryz.zeroValue88
 t39:=Tryz.underlying108
 a39:=Tryz.isAgg108
 z39:=Tryz.sizeOf108
 v39:=Tryz.zeroValue108
 t45:=Tryz.underlying126
 a45:=Tryz.isAgg126
 z45:=Tryz.sizeOf126
 v45:=Tryz.zeroValue126
 t46:=Tryz.underlying127
 a46:=Tryz.isAgg127
 z46:=Tryz.sizeOf127
 v46:=Tryz.zeroValue127
 t50:=Tryz.underlying131
 a50:=Tryz.isAgg131
 z50:=Tryz.sizeOf131
 v50:=Tryz.zeroValue131
 t53:=Tryz.underlying134
 a53:=Tryz.isAgg134
 z53:=Tryz.sizeOf134
 v53:=Tryz.zeroValue134
 t55:=Tryz.underlying136
 a55:=Tryz.isAgg136
 z55:=Tryz.sizeOf136
 v55:=Tryz.zeroValue136
 t66:=Tryz.underlying149
 a66:=Tryz.isAgg149
 z66:=Tryz.sizeOf149
 v66:=Tryz.zeroValue149
 t70:=Tryz.underlying153
 a70:=Tryz.isAgg153
 z70:=Tryz.sizeOf153
 v70:=Tryz.zeroValue153
 t76:=Tryz.underlying164
 a76:=Tryz.isAgg164
 z76:=Tryz.sizeOf164
 v76:=Tryz.zeroValue164
 t77:=Tryz.underlying165
 a77:=Tryz.isAgg165
 z77:=Tryz.sizeOf165
 v77:=Tryz.zeroValue165 }
end Go.Proofs
end
section
namespace Go.AI
variable {P:Program} {F:Nat->Option Obj} {ρ:Nat->Option Loc} {w:World}
theorem RG:∀ (a r:List TK) (l l':List AV) (b:Bool),AM (a++r) l l'=some b->∃ b1 b2,AM a (l.take a.length) (l'.take a.length)=some b1/\AM r (l.drop a.length) (l'.drop a.length)=some b2/\b=(b1&&b2):=by
 intro a
 induction a with
 | nil=>intro r l l' b h;exact ⟨true,b,by simp [AM],by simpa using h,by simp⟩
 | cons k a ih=>
  intro r l l' b h
  rw [List.cons_append] at h
  unfold AM at h
  split at h
  ·rename_i heq;cases heq
  all_goals (first|(cases h;done)|skip)
  ·rename_i k0 ks0 k1 x xs0 k2 y ys0 e0
   cases e0
   split at h
   ·rename_i r' hr'
    obtain ⟨b1,b2,h1,h2,h3⟩:=ih r _ _ _ hr'
    cases hk:(k1==k2) with
    | false=>rw [hk] at h;cases h
    | true=>
     rw [hk,cond_true] at h;cases h
     exact ⟨(x==y)&&b1,b2,by simp [AM,h1,hk],by simpa using h2,by rw [h3,Bool.and_assoc]⟩
   ·cases h
  ·rename_i ks0 x xs0 y ys0 e0
   cases e0
   split at h
   ·rename_i r' hr'
    obtain ⟨b1,b2,h1,h2,h3⟩:=ih r _ _ _ hr'
    cases h
    exact ⟨(x==y)&&b1,b2,by simp [AM,h1],by simpa using h2,by rw [h3,Bool.and_assoc]⟩
   ·cases h
  ·rename_i ks0 x xs0 y ys0 e0
   cases e0
   split at h
   ·rename_i r' hr'
    obtain ⟨b1,b2,h1,h2,h3⟩:=ih r _ _ _ hr'
    cases h
    exact ⟨(x==y)&&b1,b2,by simp [AM,h1],by simpa using h2,by rw [h3,Bool.and_assoc]⟩
   ·cases h
def JfN (P:Program) (t:TypeId) (a:List TK):Prop:=∃ fields i,P.underlying t=some (.struct fields)/\P.stoodInHeld t=false/\P.info? t=some i/\i.size=a.length/\fields.size=a.length/\∀ (j:Nat) f k,fields[j]? = some f->a[j]? = some k->f.name ≠ "_"/\f.offset=j/\JaS P f.type k
inductive JdL (P:Program) (t:TypeId):List TK->Prop
 | one {k:TK} (h:JaS P t k):JdL P t [k]
 | nest {a:List TK} (h:JfN P t a):JdL P t a
inductive Jby (P:Program):List Field->Nat->List TK->Prop
 | nil {i:Nat}:Jby P [] i []
 | cons {f:Field} {fs:List Field} {i:Nat} {a r:List TK} (h0:f.name ≠ "_"/\f.offset=i) (h:JdL P f.type a) (hr:Jby P fs (i+a.length) r):Jby P (f::fs) i (a++r)
def At (F:Nat->Option Obj) (ρ:Nat->Option Loc) (xs:Array Value) (o:Nat) (l:List AV):Prop:=∀ (j:Nat) a,l[j]? = some a->∃ v,xs[o+j]? = some v/\Ah F ρ a v
theorem At.take {xs:Array Value} {o:Nat} {l:List AV} (h:At F ρ xs o l) (n:Nat):At F ρ xs o (l.take n):=λ j a ha=>by
 rw [List.getElem?_take] at ha
 split at ha
 ·exact h j a ha
 ·cases ha
theorem At.drop {xs:Array Value} {o:Nat} {l:List AV} (h:At F ρ xs o l) (n:Nat):At F ρ xs (o+n) (l.drop n):=λ j a ha=>by
 rw [JmH] at ha
 rw [JmI];exact h _ a ha
theorem L8 {t:TypeId} {a:List TK} (h:JfN P t a) (cs:Array Value) (o:Nat):(part t cs o).run P w=.ok (.agg (cs.extract o (o+a.length))) w:=by
 obtain ⟨fields,i,h1,_,h3,h4,_⟩:=h
 simp only [part,Jmw,Lh w h1,Jmu,Hs,if_true,AN w h3,h4,Jmx]
theorem ZL {t:TypeId} {a:List TK} (h:JdL P t a) (d:Nat) {xs ys:Array Value} {o:Nat} {l l':List AV} {b:Bool} (he:AM a l l'=some b) (hx:At F ρ xs o l) (hy:At F ρ ys o l') :
  ∃ u v,(part t xs o).run P w=.ok u w/\(part t ys o).run P w=.ok v w/\(Op.equalIn (d+1+1) t u v).run P w=.ok b w:=by
 obtain ⟨e1,e2⟩:=V1 _ _ _ _ he
 cases h with
 | @one k hk=>
  match l,e1 with
  | [x],_=>
   match l',e2 with
   | [y],_=>
    obtain ⟨u,hu,hux⟩:=hx 0 x rfl
    obtain ⟨v,hv,hvy⟩:=hy 0 y rfl
    refine ⟨u,v,CA (Ms hk) (by simpa using hu),CA (Ms hk) (by simpa using hv),?_⟩
    unfold AM at he
    split at he
    ·rename_i heq;cases heq
    ·rename_i k0 ks0 k1 p xs0 k2 q ys0 e0 e3 e4
     cases e0
     simp only [List.cons.injEq] at e3 e4
     obtain ⟨rfl,rfl⟩:=e3
     obtain ⟨rfl,rfl⟩:=e4
     simp only [AM] at he
     cases hkk:(k1==k2) with
     | false=>rw [hkk] at he;cases he
     | true=>
      rw [hkk,cond_true] at he
      have:k1=k2:=by simpa using hkk
      subst this
      cases he
      rw [hux.int,hvy.int,Bool.and_true]
      obtain ⟨k3,hk3⟩:=hk
      exact run_equalIn_int w (d+1) t k1 k3 p q hk3
    ·rename_i e0 e3 e4
     cases e0
     simp only [List.cons.injEq] at e3 e4
     obtain ⟨rfl,rfl⟩:=e3
     obtain ⟨rfl,rfl⟩:=e4
     simp only [AM,JmX] at he
     subst he
     rw [hux.bool,hvy.bool,Bool.and_true]
     exact run_equalIn_bool' w (d+1) t _ _ hk
    ·rename_i e0 e3 e4
     cases e0
     simp only [List.cons.injEq] at e3 e4
     obtain ⟨rfl,rfl⟩:=e3
     obtain ⟨rfl,rfl⟩:=e4
     simp only [AM,JmX] at he
     subst he
     rw [hux.str,hvy.str,run_equalIn_string w (d+1) t _ _ hk,BR,BR,Bool.and_true]
    ·cases he
 | nest hn=>
  refine ⟨_,_,L8 hn xs o,L8 hn ys o,?_⟩
  obtain ⟨fields,i,h1,h2,h3,h4,h5,h6⟩:=hn
  have hfo:P.fieldsOf t=fields:=by simp [Program.fieldsOf,h1]
  rw [run_equalIn_struct w (d+1) t _ _ (by rw [hfo];exact h1) h2,hfo]
  have hex:∀ (zs:Array Value) (m:List AV),m.length=a.length->At F ρ zs o m->∀ (j:Nat) c,m[j]? = some c->∃ v,(zs.extract o (o+a.length))[0+j]? = some v/\Ah F ρ c v:=λ zs m hm hz j c hc=>by
   obtain ⟨v,hv,hr⟩:=hz j c hc
   have hj:=Ad hc
   refine ⟨v,?_,hr⟩
   rw [Jm0,Array.getElem?_extract,if_pos (by have:=Ap hv;omega)]
   exact hv
  refine Nt (F:=F) (ρ:=ρ) d _ _ fields.toList a 0 l l' b (by simpa using h5) (λ j f k q1 q2=>?_) he (hex xs l e1 hx) (hex ys l' e2 hy)
  obtain ⟨a1,a2,a3⟩:=h6 j f k (by simpa using q1) q2
  exact ⟨a1,by omega,a3⟩
theorem Un (d:Nat) {xs ys:Array Value} {fs:List Field} {i:Nat} {ks:List TK} (hs:Jby P fs i ks):∀ {l l':List AV} {r:Bool},AM ks l l'=some r->At F ρ xs i l->At F ρ ys i l'->(Op.eqFields (d+1+1) xs ys fs).run P w=.ok r w:=by
 induction hs with
 | nil=>
  intro l l' r h _ _
  cases l with
  | cons=>simp [AM] at h
  | nil=>cases l' with
   | cons=>simp [AM] at h
   | nil=>simp [AM] at h;subst h;rfl
 | @cons f fs i a rs h0 hl _ ih=>
  intro l l' r h hx hy
  obtain ⟨b1,b2,h1,h2,rfl⟩:=RG _ _ _ _ _ h
  obtain ⟨u,v,q1,q2,q3⟩:=ZL (F:=F) (ρ:=ρ) (w:=w) hl d h1 (hx.take _) (hy.take _)
  obtain ⟨hnm,hoff⟩:=h0
  simp only [Op.eqFields]
  rw [if_pos hnm,hoff]
  simp only [Jmw,q1,q2,Jmu,q3]
  cases b1 with
  | false=>simp
  | true=>simp only [JmC,JmY,if_false,Bool.true_and];exact ih h2 (hx.drop _) (hy.drop _)
theorem Jbz {l:List AV} {xs:Array Value} (h:Ah F ρ (.agg l) (.agg xs)):At F ρ xs 0 l:=by
 cases h with
 | agg _ _ hl hr=>
  intro j a ha
  have hj:=Ad ha
  refine ⟨xs[j],?_,hr j a _ ha (JmR (by omega))⟩
  rw [Jm0];exact JmR (by omega)
theorem JdM {t:TypeId} {fields:Array Field} {ks:List TK} (hd:P.underlying t=some (.struct fields)) (hst:P.stoodInHeld t=false) (hg:P.eqGuardType P.depth t=false) (hs:Jby P fields.toList 0 ks):Nc P t ks:=by
 intro l l' r xs ys F ρ w x y h hx hy
 have hfo:P.fieldsOf t=fields:=by simp [Program.fieldsOf,hd]
 have hrun:(Op.equalIn 10000 t (.agg xs) (.agg ys)).run P w=.ok r w:=by
  rw [run_equalIn_struct w 9999 t xs ys (by rw [hfo];exact hd) hst,hfo]
  exact Un 9997 hs h (Jbz hx) (Jbz hy)
 constructor
 ·simp only [Jmw,run_eqGuard_agg w .eql t x y xs ys hg,Jmu]
  rw [run_eql_struct,hrun];rfl
 ·simp only [Jmw,run_eqGuard_agg w .neq t x y xs ys hg,Jmu]
  rw [run_neq_struct,hrun];rfl
end Go.AI
end
section
namespace Go.AI
open Go.Proofs
set_option maxRecDepth 100000
theorem GS:Inf Tryz.prog 3 1 8 (.int .i64 0):=AK (by kernel_rfl)
theorem JgK:Inf Tryz.prog 4 1 1 (.bool false):=AK (by kernel_rfl)
theorem LE:Inf Tryz.prog 5 1 1 (.int .u8 0):=AK (by kernel_rfl)
theorem JdN:Inf Tryz.prog 9 1 16 (.string ⟨#[]⟩):=AK (by kernel_rfl)
theorem JkF:Inf Tryz.prog 22 1 24 (.slice none 0 0):=AK (by kernel_rfl)
theorem JbA:Inf Tryz.prog 23 1 24 (.slice none 0 0):=AK (by kernel_rfl)
theorem JfO:Inf Tryz.prog 25 4 32 (.agg #[.int .u8 0,.int .u8 0,.int .u8 0,.slice none 0 0]):=AK (by kernel_rfl)
theorem JbB:Inf Tryz.prog 26 1 1 (.int .i8 0):=AK (by kernel_rfl)
theorem JkG:Inf Tryz.prog 27 3 3 (.agg #[.int .i8 0,.int .i8 0,.int .i8 0]):=AK (by kernel_rfl)
theorem JkH:Inf Tryz.prog 30 1 24 (.slice none 0 0):=AK (by kernel_rfl)
theorem Yy:Inf Tryz.prog 33 4 40 (.agg #[.int .i64 0,.int .i64 0,.int .i64 0,.string ⟨#[]⟩]):=AK (by kernel_rfl)
theorem JfP:Inf Tryz.prog 35 1 24 (.slice none 0 0):=AK (by kernel_rfl)
theorem JbC:Inf Tryz.prog 36 1 8 (.int .i64 0):=AK (by kernel_rfl)
theorem JkI:Inf Tryz.prog 45 1 24 (.slice none 0 0):=AK (by kernel_rfl)
theorem JkJ:Inf Tryz.prog 46 1 24 (.slice none 0 0):=AK (by kernel_rfl)
theorem JfQ:Inf Tryz.prog 48 1 24 (.slice none 0 0):=AK (by kernel_rfl)
theorem JkK:Inf Tryz.prog 50 2 48 (.agg #[.slice none 0 0,.slice none 0 0]):=AK (by kernel_rfl)
theorem JfR:Inf Tryz.prog 54 2 16 (.agg #[.int .i64 0,.int .i64 0]):=AK (by kernel_rfl)
theorem JfS:Inf Tryz.prog 56 5 48 (.agg #[.int .i64 0,.int .i64 0,.int .i64 0,.int .i64 0,.string ⟨#[]⟩]):=AK (by kernel_rfl)
theorem JfT:Inf Tryz.prog 60 1 24 (.slice none 0 0):=AK (by kernel_rfl)
theorem JfU:Inf Tryz.prog 62 1 24 (.slice none 0 0):=AK (by kernel_rfl)
theorem JfV:Inf Tryz.prog 63 1 24 (.slice none 0 0):=AK (by kernel_rfl)
theorem JfW:Inf Tryz.prog 65 4 48 (.agg #[.int .i64 0,.int .i64 0,.int .i64 0,.slice none 0 0]):=AK (by kernel_rfl)
theorem JfX:Inf Tryz.prog 67 10 136 (.agg #[.int .i64 0,.int .i64 0,.string ⟨#[]⟩,.slice none 0 0,.slice none 0 0,.int .i64 0,.int .i64 0,.int .i64 0,.slice none 0 0,.int .i64 0]):=AK (by kernel_rfl)
theorem JfY:Inf Tryz.prog 78 1 24 (.slice none 0 0):=AK (by kernel_rfl)
theorem JkL:Inf Tryz.prog 86 1 24 (.slice none 0 0):=AK (by kernel_rfl)
theorem JkM:Inf Tryz.prog 88 1 8 (.nilFunc):=AK (by kernel_rfl)
theorem JfZ:Inf Tryz.prog 92 1 24 (.slice none 0 0):=AK (by kernel_rfl)
theorem Jf0:Inf Tryz.prog 94 3 32 (.agg #[.int .u8 0,.int .u8 0,.slice none 0 0]):=AK (by kernel_rfl)
theorem Jf1:Inf Tryz.prog 95 1 24 (.slice none 0 0):=AK (by kernel_rfl)
theorem Jf2:Inf Tryz.prog 97 4 32 (.agg #[.int .u8 0,.int .u8 0,.int .u8 0,.slice none 0 0]):=AK (by kernel_rfl)
theorem Jf3:Inf Tryz.prog 99 10 96 (.agg #[.int .u8 0,.int .u8 0,.slice none 0 0,.int .u8 0,.int .u8 0,.slice none 0 0,.int .u8 0,.int .u8 0,.int .u8 0,.slice none 0 0]):=AK (by kernel_rfl)
theorem JgL:Inf Tryz.prog 108 1 8 (.int .u64 0):=AK (by kernel_rfl)
theorem JbD:Inf Tryz.prog 112 1 24 (.slice none 0 0):=AK (by kernel_rfl)
theorem JbE:Inf Tryz.prog 119 2 16 (.agg #[.int .i64 0,.int .i64 0]):=AK (by kernel_rfl)
theorem Uo:Inf Tryz.prog 120 1 24 (.slice none 0 0):=AK (by kernel_rfl)
theorem JbF:Inf Tryz.prog 122 3 40 (.agg #[.int .i64 0,.int .i64 0,.slice none 0 0]):=AK (by kernel_rfl)
theorem JbG:Inf Tryz.prog 124 2 16 (.agg #[.int .i64 0,.int .i64 0]):=AK (by kernel_rfl)
theorem JgM:Inf Tryz.prog 126 1 8 (.int .i64 0):=AK (by kernel_rfl)
theorem JgN:Inf Tryz.prog 134 1 4 (.int .u32 0):=AK (by kernel_rfl)
theorem JgO:Inf Tryz.prog 136 1 8 (.int .u64 0):=AK (by kernel_rfl)
theorem JbH:Inf Tryz.prog 139 2 2 (.agg #[.int .u8 0,.int .u8 0]):=AK (by kernel_rfl)
theorem JbI:Inf Tryz.prog 141 6 6 (.agg #[.int .u8 0,.int .u8 0,.int .u8 0,.int .u8 0,.int .u8 0,.int .u8 0]):=AK (by kernel_rfl)
theorem JgP:Inf Tryz.prog 143 3 24 (.agg #[.int .i64 0,.int .i64 0,.int .i64 0]):=AK (by kernel_rfl)
theorem JgQ:Inf Tryz.prog 146 3 40 (.agg #[.slice none 0 0,.int .i64 0,.int .i64 0]):=AK (by kernel_rfl)
theorem JgR:Inf Tryz.prog 149 1 8 (.int .u64 0):=AK (by kernel_rfl)
theorem JgS:Inf Tryz.prog 153 1 8 (.pointer none):=AK (by kernel_rfl)
theorem JgT:Inf Tryz.prog 155 1 24 (.slice none 0 0):=AK (by kernel_rfl)
theorem JgU:Inf Tryz.prog 157 1 24 (.slice none 0 0):=AK (by kernel_rfl)
theorem JgV:Inf Tryz.prog 182 1 24 (.slice none 0 0):=AK (by kernel_rfl)
theorem JbJ:Inf Tryz.prog 184 1 1 (.int .u8 0):=AK (by kernel_rfl)
theorem JbK:Inf Tryz.prog 185 60 60 (.agg (Array.replicate 60 (.bool false))):=AK (by kernel_rfl)
theorem JgW:Inf Tryz.prog 186 3600 3600 (.agg (Array.replicate 3600 (.bool false))):=AK (by kernel_rfl)
def ty:Nat->Ty
 | 3=>⟨true,[],1,false,[.int .i64 0],.int .i64⟩
 | 4=>⟨true,[],1,false,[.bool false],.bool⟩
 | 5=>⟨true,[],1,false,[.int .u8 0],.int .u8⟩
 | 9=>⟨true,[],1,false,[.str []],.string⟩
 | 22=>⟨true,[],1,false,[.nil],.slice 10 96 [.int .u8 0,.int .u8 0,.nil,.int .u8 0,.int .u8 0,.nil,.int .u8 0,.int .u8 0,.int .u8 0,.nil]⟩
 | 23=>⟨true,[],1,false,[.nil],.slice 1 1 [.int .u8 0]⟩
 | 25=>⟨true,[],4,true,[.int .u8 0,.int .u8 0,.int .u8 0,.nil],.struct [(0,1),(1,1),(2,1),(3,1)]⟩
 | 26=>⟨true,[],1,false,[.int .i8 0],.int .i8⟩
 | 27=>⟨true,[.int .i8,.int .i8,.int .i8],3,true,[.int .i8 0,.int .i8 0,.int .i8 0],.array 3 1⟩
 | 30=>⟨true,[],1,false,[.nil],.slice 10 136 [.int .i64 0,.int .i64 0,.str [],.nil,.nil,.int .i64 0,.int .i64 0,.int .i64 0,.nil,.int .i64 0]⟩
 | 33=>⟨true,[.int .i64,.int .i64,.int .i64,.string],4,true,[.int .i64 0,.int .i64 0,.int .i64 0,.str []],.struct [(0,1),(1,1),(2,1),(3,1)]⟩
 | 35=>⟨true,[],1,false,[.nil],.slice 4 40 [.int .i64 0,.int .i64 0,.int .i64 0,.str []]⟩
 | 36=>⟨true,[],1,false,[.int .i64 0],.int .i64⟩
 | 45=>⟨true,[],1,false,[.nil],.slice 4 32 [.int .u8 0,.int .u8 0,.int .u8 0,.nil]⟩
 | 46=>⟨true,[],1,false,[.nil],.slice 5 48 [.int .i64 0,.int .i64 0,.int .i64 0,.int .i64 0,.str []]⟩
 | 48=>⟨true,[],1,false,[.nil],.slice 2 16 [.int .i64 0,.int .i64 0]⟩
 | 50=>⟨true,[],2,true,[.nil,.nil],.struct [(0,1),(1,1)]⟩
 | 54=>⟨true,[.int .i64,.int .i64],2,true,[.int .i64 0,.int .i64 0],.array 2 1⟩
 | 56=>⟨true,[.int .i64,.int .i64,.int .i64,.int .i64,.string],5,true,[.int .i64 0,.int .i64 0,.int .i64 0,.int .i64 0,.str []],.struct [(0,1),(1,4)]⟩
 | 60=>⟨true,[],1,false,[.nil],.slice 1 24 [.nil]⟩
 | 62=>⟨true,[],1,false,[.nil],.slice 2 16 [.int .i64 0,.int .i64 0]⟩
 | 63=>⟨true,[],1,false,[.nil],.slice 3 40 [.int .i64 0,.int .i64 0,.nil]⟩
 | 65=>⟨true,[],4,true,[.int .i64 0,.int .i64 0,.int .i64 0,.nil],.struct [(0,1),(1,1),(2,1),(3,1)]⟩
 | 67=>⟨true,[],10,true,[.int .i64 0,.int .i64 0,.str [],.nil,.nil,.int .i64 0,.int .i64 0,.int .i64 0,.nil,.int .i64 0],.struct [(0,1),(1,1),(2,1),(3,1),(4,1),(5,4),(9,1)]⟩
 | 78=>⟨true,[],1,false,[.nil],.slice 1 8 [.int .i64 0]⟩
 | 86=>⟨true,[],1,false,[.nil],.slice 1 1 [.bool false]⟩
 | 88=>⟨true,[],1,false,[.nilf],.other⟩
 | 92=>⟨true,[],1,false,[.nil],.slice 2 2 [.int .u8 0,.int .u8 0]⟩
 | 94=>⟨true,[],3,true,[.int .u8 0,.int .u8 0,.nil],.struct [(0,1),(1,1),(2,1)]⟩
 | 95=>⟨true,[],1,false,[.nil],.slice 6 6 [.int .u8 0,.int .u8 0,.int .u8 0,.int .u8 0,.int .u8 0,.int .u8 0]⟩
 | 97=>⟨true,[],4,true,[.int .u8 0,.int .u8 0,.int .u8 0,.nil],.struct [(0,1),(1,1),(2,1),(3,1)]⟩
 | 99=>⟨true,[],10,true,[.int .u8 0,.int .u8 0,.nil,.int .u8 0,.int .u8 0,.nil,.int .u8 0,.int .u8 0,.int .u8 0,.nil],.struct [(0,1),(1,1),(2,1),(3,3),(6,4)]⟩
 | 108=>⟨true,[],1,false,[.int .u64 0],.int .u64⟩
 | 112=>⟨true,[],1,false,[.nil],.slice 1 16 [.str []]⟩
 | 119=>⟨true,[.int .i64,.int .i64],2,true,[.int .i64 0,.int .i64 0],.struct [(0,1),(1,1)]⟩
 | 120=>⟨true,[],1,false,[.nil],.slice 2 16 [.int .i64 0,.int .i64 0]⟩
 | 122=>⟨true,[],3,true,[.int .i64 0,.int .i64 0,.nil],.struct [(0,1),(1,1),(2,1)]⟩
 | 124=>⟨true,[.int .i64,.int .i64],2,true,[.int .i64 0,.int .i64 0],.struct [(0,1),(1,1)]⟩
 | 126=>⟨true,[],1,false,[.int .i64 0],.int .i64⟩
 | 134=>⟨true,[],1,false,[.int .u32 0],.int .u32⟩
 | 136=>⟨true,[],1,false,[.int .u64 0],.int .u64⟩
 | 139=>⟨true,[.int .u8,.int .u8],2,true,[.int .u8 0,.int .u8 0],.array 2 1⟩
 | 141=>⟨true,[.int .u8,.int .u8,.int .u8,.int .u8,.int .u8,.int .u8],6,true,[.int .u8 0,.int .u8 0,.int .u8 0,.int .u8 0,.int .u8 0,.int .u8 0],.array 6 1⟩
 | 143=>⟨true,[.int .i64,.int .i64,.int .i64],3,true,[.int .i64 0,.int .i64 0,.int .i64 0],.struct [(0,1),(1,1),(2,1)]⟩
 | 146=>⟨true,[],3,true,[.nil,.int .i64 0,.int .i64 0],.struct [(0,1),(1,1),(2,1)]⟩
 | 149=>⟨true,[],1,false,[.int .u64 0],.int .u64⟩
 | 153=>⟨true,[],1,false,[.nilp],.other⟩
 | 155=>⟨true,[],1,false,[.nil],.slice 1 24 [.nil]⟩
 | 157=>⟨true,[],1,false,[.nil],.slice 1 24 [.nil]⟩
 | 182=>⟨true,[],1,false,[.nil],.slice 1 1 [.int .u8 0]⟩
 | 184=>⟨true,[],1,false,[.int .u8 0],.int .u8⟩
 | 185=>⟨true,[],60,true,(List.replicate 60 (.bool false)),.array 60 1⟩
 | 186=>⟨true,[],3600,true,(List.replicate 3600 (.bool false)),.array 60 60⟩
 | _=>⟨false,[],0,false,[],.other⟩
theorem tf3:Az Tryz.prog 3 (ty 3):=tfM GS Tryz.underlying3 rfl
theorem tf4:Az Tryz.prog 4 (ty 4):=tfM JgK Tryz.underlying4 rfl
theorem tf5:Az Tryz.prog 5 (ty 5):=tfM LE Tryz.underlying5 rfl
theorem tf9:Az Tryz.prog 9 (ty 9):=tfM JdN Tryz.underlying9 rfl
theorem JlO:Az Tryz.prog 22 (ty 22):=tfM JkF Tryz.underlying22 (slK Jf3)
theorem JlP:Az Tryz.prog 23 (ty 23):=tfM JbA Tryz.underlying23 (slK LE (λ _=>Tryz.underlying5))
theorem JlQ:Az Tryz.prog 25 (ty 25):=tfM JfO Tryz.underlying25 (stF (AZ (B5 LE Tryz.underlying5) (AZ (B5 LE Tryz.underlying5) (AZ (B5 LE Tryz.underlying5) (AZ (B5 JbA Tryz.underlying23) Hy)))))
theorem JlR:Az Tryz.prog 26 (ty 26):=tfM JbB Tryz.underlying26 rfl
theorem JlS:Az Tryz.prog 27 (ty 27):=tfM JkG Tryz.underlying27 (arK JbB) (λ _=>Uc Tryz.underlying27 Tryz.underlying26 JbB (by kernel_rfl))
theorem JlT:Az Tryz.prog 30 (ty 30):=tfM JkH Tryz.underlying30 (slK JfX)
theorem JlU:Az Tryz.prog 33 (ty 33):=tfM Yy Tryz.underlying33 (stF (AZ (B5 GS Tryz.underlying3) (AZ (B5 GS Tryz.underlying3) (AZ (B5 GS Tryz.underlying3) (AZ (B5 JdN Tryz.underlying9) Hy))))) (λ _=>Qz Tryz.underlying33 (by kernel_rfl) (by kernel_rfl) rfl λ j f k h1 h2=>match j,h1,h2 with|0,h1,h2=>(by cases h1;cases h2;exact ⟨by decide,rfl,⟨_,Tryz.underlying3⟩⟩)|1,h1,h2=>(by cases h1;cases h2;exact ⟨by decide,rfl,⟨_,Tryz.underlying3⟩⟩)|2,h1,h2=>(by cases h1;cases h2;exact ⟨by decide,rfl,⟨_,Tryz.underlying3⟩⟩)|3,h1,h2=>(by cases h1;cases h2;exact ⟨by decide,rfl,Tryz.underlying9⟩)|n+4,h1,_=>by simp at h1)
theorem JlV:Az Tryz.prog 35 (ty 35):=tfM JfP Tryz.underlying35 (slK Yy)
theorem JlW:Az Tryz.prog 36 (ty 36):=tfM JbC Tryz.underlying36 rfl
theorem JlX:Az Tryz.prog 45 (ty 45):=tfM JkI Tryz.underlying45 (slK JfO)
theorem JlY:Az Tryz.prog 46 (ty 46):=tfM JkJ Tryz.underlying46 (slK JfS)
theorem JlZ:Az Tryz.prog 48 (ty 48):=tfM JfQ Tryz.underlying48 (slK JfR)
theorem Jl0:Az Tryz.prog 50 (ty 50):=tfM JkK Tryz.underlying50 (stF (AZ (B5 JfP Tryz.underlying35) (AZ (B5 JfQ Tryz.underlying48) Hy)))
theorem Jl1:Az Tryz.prog 54 (ty 54):=tfM JfR Tryz.underlying54 (arK GS) (λ _=>Uc Tryz.underlying54 Tryz.underlying3 GS (by kernel_rfl))
theorem Jl2:Az Tryz.prog 56 (ty 56):=tfM JfS Tryz.underlying56 (stF (AZ (B5 GS Tryz.underlying3) (AZ (B5 Yy Tryz.underlying33) Hy))) (λ _=>JdM Tryz.underlying56 (by kernel_rfl) (by kernel_rfl) (.cons (a:=[.int .i64]) ⟨by decide,rfl⟩ (.one ⟨_,Tryz.underlying3⟩) (.cons (a:=[.int .i64,.int .i64,.int .i64,.string]) ⟨by decide,rfl⟩ (.nest (by obtain ⟨j,h1,h2,_⟩:=Yy;exact ⟨_,j,Tryz.underlying33,(by kernel_rfl),h1,h2,rfl,λ j f k h1 h2=>match j,h1,h2 with|0,h1,h2=>(by cases h1;cases h2;exact ⟨by decide,rfl,⟨_,Tryz.underlying3⟩⟩)|1,h1,h2=>(by cases h1;cases h2;exact ⟨by decide,rfl,⟨_,Tryz.underlying3⟩⟩)|2,h1,h2=>(by cases h1;cases h2;exact ⟨by decide,rfl,⟨_,Tryz.underlying3⟩⟩)|3,h1,h2=>(by cases h1;cases h2;exact ⟨by decide,rfl,Tryz.underlying9⟩)|n+4,h1,_=>by simp at h1⟩)) .nil)))
theorem Jl3:Az Tryz.prog 60 (ty 60):=tfM JfT Tryz.underlying60 (slK JbD)
theorem Jl4:Az Tryz.prog 62 (ty 62):=tfM JfU Tryz.underlying62 (slK JbE)
theorem Jl5:Az Tryz.prog 63 (ty 63):=tfM JfV Tryz.underlying63 (slK JbF)
theorem Jl6:Az Tryz.prog 65 (ty 65):=tfM JfW Tryz.underlying65 (stF (AZ (B5 GS Tryz.underlying3) (AZ (B5 GS Tryz.underlying3) (AZ (B5 GS Tryz.underlying3) (AZ (B5 JfV Tryz.underlying63) Hy)))))
theorem Jl7:Az Tryz.prog 67 (ty 67):=tfM JfX Tryz.underlying67 (stF (AZ (B5 GS Tryz.underlying3) (AZ (B5 GS Tryz.underlying3) (AZ (B5 JdN Tryz.underlying9) (AZ (B5 JfT Tryz.underlying60) (AZ (B5 JfU Tryz.underlying62) (AZ (B5 JfW Tryz.underlying65) (AZ (B5 GS Tryz.underlying3) Hy))))))))
theorem Jl8:Az Tryz.prog 78 (ty 78):=tfM JfY Tryz.underlying78 (slK GS)
theorem Jl9:Az Tryz.prog 86 (ty 86):=tfM JkL Tryz.underlying86 (slK JgK)
theorem Jma:Az Tryz.prog 88 (ty 88):=tfM JkM Tryz.underlying88 trivial
theorem Jmb:Az Tryz.prog 92 (ty 92):=tfM JfZ Tryz.underlying92 (slK JbH)
theorem Jmc:Az Tryz.prog 94 (ty 94):=tfM Jf0 Tryz.underlying94 (stF (AZ (B5 LE Tryz.underlying5) (AZ (B5 LE Tryz.underlying5) (AZ (B5 JfZ Tryz.underlying92) Hy))))
theorem Jmd:Az Tryz.prog 95 (ty 95):=tfM Jf1 Tryz.underlying95 (slK JbI)
theorem Jme:Az Tryz.prog 97 (ty 97):=tfM Jf2 Tryz.underlying97 (stF (AZ (B5 LE Tryz.underlying5) (AZ (B5 LE Tryz.underlying5) (AZ (B5 LE Tryz.underlying5) (AZ (B5 Jf1 Tryz.underlying95) Hy)))))
theorem Jmf:Az Tryz.prog 99 (ty 99):=tfM Jf3 Tryz.underlying99 (stF (AZ (B5 LE Tryz.underlying5) (AZ (B5 LE Tryz.underlying5) (AZ (B5 JbA Tryz.underlying23) (AZ (B5 Jf0 Tryz.underlying94) (AZ (B5 Jf2 Tryz.underlying97) Hy))))))
theorem JkN:Az Tryz.prog 108 (ty 108):=tfM JgL Tryz.underlying108 rfl
theorem JkO:Az Tryz.prog 112 (ty 112):=tfM JbD Tryz.underlying112 (slK JdN)
theorem JkP:Az Tryz.prog 119 (ty 119):=tfM JbE Tryz.underlying119 (stF (AZ (B5 GS Tryz.underlying3) (AZ (B5 GS Tryz.underlying3) Hy))) (λ _=>Qz Tryz.underlying119 (by kernel_rfl) (by kernel_rfl) rfl λ j f k h1 h2=>match j,h1,h2 with|0,h1,h2=>(by cases h1;cases h2;exact ⟨by decide,rfl,⟨_,Tryz.underlying3⟩⟩)|1,h1,h2=>(by cases h1;cases h2;exact ⟨by decide,rfl,⟨_,Tryz.underlying3⟩⟩)|n+2,h1,_=>by simp at h1)
theorem JkQ:Az Tryz.prog 120 (ty 120):=tfM Uo Tryz.underlying120 (slK JbG)
theorem JkR:Az Tryz.prog 122 (ty 122):=tfM JbF Tryz.underlying122 (stF (AZ (B5 GS Tryz.underlying3) (AZ (B5 GS Tryz.underlying3) (AZ (B5 Uo Tryz.underlying120) Hy))))
theorem JkS:Az Tryz.prog 124 (ty 124):=tfM JbG Tryz.underlying124 (stF (AZ (B5 GS Tryz.underlying3) (AZ (B5 GS Tryz.underlying3) Hy))) (λ _=>Qz Tryz.underlying124 (by kernel_rfl) (by kernel_rfl) rfl λ j f k h1 h2=>match j,h1,h2 with|0,h1,h2=>(by cases h1;cases h2;exact ⟨by decide,rfl,⟨_,Tryz.underlying3⟩⟩)|1,h1,h2=>(by cases h1;cases h2;exact ⟨by decide,rfl,⟨_,Tryz.underlying3⟩⟩)|n+2,h1,_=>by simp at h1)
theorem JkT:Az Tryz.prog 126 (ty 126):=tfM JgM Tryz.underlying126 rfl
theorem JkU:Az Tryz.prog 134 (ty 134):=tfM JgN Tryz.underlying134 rfl
theorem JkV:Az Tryz.prog 136 (ty 136):=tfM JgO Tryz.underlying136 rfl
theorem JkW:Az Tryz.prog 139 (ty 139):=tfM JbH Tryz.underlying139 (arK LE) (λ _=>Uc Tryz.underlying139 Tryz.underlying5 LE (by kernel_rfl))
theorem JkX:Az Tryz.prog 141 (ty 141):=tfM JbI Tryz.underlying141 (arK LE) (λ _=>Uc Tryz.underlying141 Tryz.underlying5 LE (by kernel_rfl))
theorem JkY:Az Tryz.prog 143 (ty 143):=tfM JgP Tryz.underlying143 (stF (AZ (B5 GS Tryz.underlying3) (AZ (B5 GS Tryz.underlying3) (AZ (B5 JbC Tryz.underlying36) Hy)))) (λ _=>Qz Tryz.underlying143 (by kernel_rfl) (by kernel_rfl) rfl λ j f k h1 h2=>match j,h1,h2 with|0,h1,h2=>(by cases h1;cases h2;exact ⟨by decide,rfl,⟨_,Tryz.underlying3⟩⟩)|1,h1,h2=>(by cases h1;cases h2;exact ⟨by decide,rfl,⟨_,Tryz.underlying3⟩⟩)|2,h1,h2=>(by cases h1;cases h2;exact ⟨by decide,rfl,⟨_,Tryz.underlying36⟩⟩)|n+3,h1,_=>by simp at h1)
theorem JkZ:Az Tryz.prog 146 (ty 146):=tfM JgQ Tryz.underlying146 (stF (AZ (B5 Uo Tryz.underlying120) (AZ (B5 GS Tryz.underlying3) (AZ (B5 JbC Tryz.underlying36) Hy))))
theorem Jk0:Az Tryz.prog 149 (ty 149):=tfM JgR Tryz.underlying149 rfl
theorem Jk1:Az Tryz.prog 153 (ty 153):=tfM JgS Tryz.underlying153 trivial
theorem Jk2:Az Tryz.prog 155 (ty 155):=tfM JgT Tryz.underlying155 (slK Uo)
theorem Jk3:Az Tryz.prog 157 (ty 157):=tfM JgU Tryz.underlying157 (slK JfY)
theorem Jk4:Az Tryz.prog 182 (ty 182):=tfM JgV Tryz.underlying182 (slK JbJ (λ _=>Tryz.underlying184))
theorem Jk5:Az Tryz.prog 184 (ty 184):=tfM JbJ Tryz.underlying184 rfl
theorem Jk6:Az Tryz.prog 185 (ty 185):=tfM JbK Tryz.underlying185 (arK JgK)
theorem Jk7:Az Tryz.prog 186 (ty 186):=tfM JgW Tryz.underlying186 (arK JbK)
theorem tyOK:I8 Tryz.prog ty:=by
 intro t h
 unfold ty at h
 split at h
 ·exact tf3
 ·exact tf4
 ·exact tf5
 ·exact tf9
 ·exact JlO
 ·exact JlP
 ·exact JlQ
 ·exact JlR
 ·exact JlS
 ·exact JlT
 ·exact JlU
 ·exact JlV
 ·exact JlW
 ·exact JlX
 ·exact JlY
 ·exact JlZ
 ·exact Jl0
 ·exact Jl1
 ·exact Jl2
 ·exact Jl3
 ·exact Jl4
 ·exact Jl5
 ·exact Jl6
 ·exact Jl7
 ·exact Jl8
 ·exact Jl9
 ·exact Jma
 ·exact Jmb
 ·exact Jmc
 ·exact Jmd
 ·exact Jme
 ·exact Jmf
 ·exact JkN
 ·exact JkO
 ·exact JkP
 ·exact JkQ
 ·exact JkR
 ·exact JkS
 ·exact JkT
 ·exact JkU
 ·exact JkV
 ·exact JkW
 ·exact JkX
 ·exact JkY
 ·exact JkZ
 ·exact Jk0
 ·exact Jk1
 ·exact Jk2
 ·exact Jk3
 ·exact Jk4
 ·exact Jk5
 ·exact Jk6
 ·exact Jk7
 ·cases h
theorem follows:Tryz.prog.follows .mixedOrders=true:=by kernel_rfl
def qfT:List (Nat×Nat):=[]
theorem Jmg:∀ f k,(f,k)∈qfT->∀ vs:Array Value,vs.size=k->QD Tryz.prog (Nb f vs):=λ _ _ h=>by cases h
def cxk (n nk:Nat):Cx:=⟨ty,⟨n,[],nk,qfT⟩,Aq Tryz.prog,BM Tryz.prog,PH Tryz.prog,Ov Tryz.prog,Hu Tryz.prog,false⟩
theorem Jf4 (n nk:Nat):FG Tryz.prog (cxk n nk):=⟨tyOK,λ _ _ _ h=>h,λ _ _ _ _ _ _ h=>h,λ _ _ _ _ _ h=>h,λ _ _ _ _ h=>h,λ _ _ _ _ _ h=>h,Jmg,λ h=>by cases h⟩
end Go.AI
end
section
namespace Go.AI
structure Ab where
 Block:Int
 At:Int
 Cut:Int
 Put:(List UInt8)
 deriving DecidableEq,Inhabited
structure Am where
 Op:Int
 N:Int
 deriving DecidableEq,Inhabited
structure Aa where
 X:Int
 Y:Int
 deriving DecidableEq,Inhabited
structure Ax where
 Kind:Int
 Texture:Int
 P:(List Aa)
 deriving DecidableEq,Inhabited
structure Af where
 W:Int
 H:Int
 Gap:Int
 F:(List Ax)
 deriving DecidableEq,Inhabited
structure Ag where
 Kind:Int
 Level:Int
 Text:(List UInt8)
 Rows:(List (List (List UInt8)))
 F:(List Am)
 Pic:Af
 Page:Int
 deriving DecidableEq,Inhabited
structure AB where
 Reader:Int
 C:Ab
 deriving DecidableEq,Inhabited
structure CB (α:Type) where
 a0:α
 a1:α
 deriving DecidableEq,Inhabited
structure Ao where
 Agreed:(List Ab)
 Quarrels:(List (CB Int))
 deriving DecidableEq,Inhabited
structure RH where
 Kind:Int
 N:Int
 L:(List (CB Int))
 deriving DecidableEq,Inhabited
structure Wc (α:Type) where
 a0:α
 a1:α
 a2:α
 a3:α
 a4:α
 a5:α
 deriving DecidableEq,Inhabited
structure Br where
 W:Int
 H:Int
 Gap:Int
 F:(List (Wc Int))
 deriving DecidableEq,Inhabited
structure Cm where
 I:Int
 J:Int
 E:Int
 deriving DecidableEq,Inhabited
structure Jl where
 L:(List Aa)
 At:Int
 E:Int
 deriving DecidableEq,Inhabited
structure Bd where
 Kind:Int
 N:Int
 T:(List Int)
 F:RH
 P:Br
 deriving DecidableEq,Inhabited
structure AS where
 Block:Int
 At:Int
 Cut:Int
 Put:(List Int)
 deriving DecidableEq,Inhabited
structure Jmt (α:Type) where
 a0:α
 a1:α
 a2:α
 deriving DecidableEq,Inhabited
def AL (_:Nat) (p0_:Int) (p1_:Int) (p2_:(List UInt8)):Option Ab:=
 some ({ Block:=0,At:=p0_,Cut:=p1_,Put:=p2_ }:Ab)
def F4 (_:Nat) (p0_:Int):Option Bool:=
 some ((decide (32<=Ei .u8 p0_ 127))&&(decide (Ei .u8 p0_ 127<=126)))
def HA (n:Nat) (p0_:(List UInt8)) (x_1:Int):Option (Int⊕(Unit⊕(Int×Int))):=
 if decide (x_1<((p0_.length:Nat):Int))=true then
  (Jj p0_ x_1).bind λ b1=>
  (F4 n b1).bind λ r1=>
  if (!r1)=true then
   some (.inr (.inr (x_1,60)))
  else
   some (.inl (Ai .i64 x_1 1))
 else
  some (.inr (.inl ()))
def Ny (n:Nat) (p0_:(List UInt8)):Option (Int×Int):=
 (whl (λ (x:Int)=>HA n p0_ x) n 0).bind λ y1=>
 match y1 with
 | Sum.inl _=>
  some (((p0_.length:Nat):Int),0)
 | Sum.inr y3=>
  some y3
def Lm (_:Nat) (p0_:Int):Option Int:=
 if ((decide (97<=Ei .u8 p0_ 127))&&(decide (Ei .u8 p0_ 127<=122)))=true then
  some 1
 else
  if ((decide (65<=Ei .u8 p0_ 127))&&(decide (Ei .u8 p0_ 127<=90)))=true then
   some 2
  else
   if ((decide (48<=Ei .u8 p0_ 127))&&(decide (Ei .u8 p0_ 127<=57)))=true then
    some 3
   else
    if ((Ei .u8 p0_ 127)==32)=true then
     some 4
    else
     some 5
def Gp (n:Nat) (p0_:(List UInt8)) (last_1:Int) (x_2:Int):Option ((Int×Int)⊕(Int⊕Bool)):=
 if decide (x_2<((p0_.length:Nat):Int))=true then
  (Jj p0_ x_2).bind λ b2=>
  (Lm n b2).bind λ r3=>
  if ((r3==4)&&((last_1==0)||(last_1==4)))=true then
   some (.inr (.inr false))
  else
   some (.inl (r3,(Ai .i64 x_2 1)))
 else
  some (.inr (.inl last_1))
def Is (n:Nat) (p0_:(List UInt8)):Option Bool:=
 if ((decide (((p0_.length:Nat):Int)<1))||(decide (((p0_.length:Nat):Int)>400)))=true then
  some false
 else
  (Ny n p0_).bind λ r2=>
  if (r2.2 != 0)=true then
   some false
  else
   (whl (λ (x:(Int×Int))=>Gp n p0_ x.1 x.2) n (0,0)).bind λ y4=>
   match y4 with
   | Sum.inl y5=>
    some (y5 != 4)
   | Sum.inr y6=>
    some y6
noncomputable def GT (_:Nat) (p0_:(List Ag)):Option (List Ag):=
 dem (nlS p0_) λ (b3:Bool)=>
 if b3=true then
  some []
 else
  (app 136 ([]:List Ag) p0_).bind λ l1=>
  some l1
noncomputable def Dj (n:Nat) (p0_:(List Ag)) (p1_:Ab) (x1:Ag) (x_3:Bool):Option ((List Ag)×Int):=
 if x_3=true then
  if ((((decide (p1_.At<0))||(decide (p1_.Cut<0)))||(decide (p1_.At>((x1.Text.length:Nat):Int))))||(decide (p1_.Cut>AU .i64 ((x1.Text.length:Nat):Int) p1_.At)))=true then
   some ([],320)
  else
   (sub x1.Text 0 p1_.At).bind λ s1=>
   (cat s1 p1_.Put).bind λ s2=>
   (sub x1.Text (Ai .i64 p1_.At p1_.Cut) ((x1.Text.length:Nat):Int)).bind λ s3=>
   (cat s2 s3).bind λ s4=>
   (Is n s4).bind λ r4=>
   if (!r4)=true then
    some ([],320)
   else
    (GT n p0_).bind λ r5=>
    (idx r5 p1_.Block).bind λ _=>
    (put r5 p1_.Block ({ Kind:=x1.Kind,Level:=x1.Level,Text:=s4,Rows:=x1.Rows,F:=x1.F,Pic:=x1.Pic,Page:=x1.Page }:Ag)).bind λ l2=>
    some (l2,0)
 else
  some ([],320)
noncomputable def Iu (n:Nat) (p0_:(List Ag)) (p1_:Ab):Option ((List Ag)×Int):=
 if ((decide (p1_.Block<0))||(decide (p1_.Block>=((p0_.length:Nat):Int))))=true then
  some ([],320)
 else
  (idx p0_ p1_.Block).bind λ x1=>
  if (x1.Kind==1)=true then
   Dj n p0_ p1_ x1 (x1.Kind==1)
  else
   if (x1.Kind==2)=true then
    Dj n p0_ p1_ x1 (x1.Kind==2)
   else
    Dj n p0_ p1_ x1 (x1.Kind==4)
def Fd (_:Nat) (p0_:Ab) (p1_:Ab):Option Bool:=
 some ((p0_.Block==p1_.Block)&&(decide (p0_.Cut<=AU .i64 p1_.At p0_.At)))
def Kp (n:Nat) (p0_:Ab) (p1_:Ab):Option Bool:=
 (if (!(p0_.Block != p1_.Block))=true then Fd n p0_ p1_ else some default).bind λ r6=>
 (if (!(p0_.Block != p1_.Block))=true then Fd n p1_ p0_ else some default).bind λ r7=>
 some ((p0_.Block != p1_.Block)||(!(r6==r7)))
def Kq (_:Nat) (c_1:Ab):Option (Ab×Bool):=
 some (c_1,true)
def DC (n:Nat) (p0_:Ab) (p1_:Ab):Option (Ab×Bool):=
 (Kp n p0_ p1_).bind λ r8=>
 if (!r8)=true then
  some (({ Block:=0,At:=0,Cut:=0,Put:=[] }:Ab),false)
 else
  (Fd n p1_ p0_).bind λ r9=>
  if r9=true then
   Kq n ({ Block:=p0_.Block,At:=Ai .i64 p0_.At (AU .i64 ((p1_.Put.length:Nat):Int) p1_.Cut),Cut:=p0_.Cut,Put:=p0_.Put }:Ab)
  else
   Kq n p0_
def Ek (_:Nat) (p0_:Int):Option Bool:=
 some (p0_ != p0_)
def B6 (n:Nat) (p0_:Int) (p1_:Int):Option Int:=
 (Ek n p0_).bind λ r10=>
 (Ek n p1_).bind λ r11=>
 if r10=true then
  if r11=true then
   some 0
  else
   some (-1)
 else
  if r11=true then
   some 1
  else
   if decide (p0_<p1_)=true then
    some (-1)
   else
    if decide (p0_>p1_)=true then
     some 1
    else
     some 0
def C3 (_:Nat) (p0_:(List UInt8)):Option Bool:=
 some (!(p0_==p0_))
def Cs (n:Nat) (p0_:(List UInt8)) (p1_:(List UInt8)):Option Int:=
 (C3 n p0_).bind λ r12=>
 (C3 n p1_).bind λ r13=>
 if r12=true then
  if r13=true then
   some 0
  else
   some (-1)
 else
  if r13=true then
   some 1
  else
   if (Op.bytesLess p0_ p1_)=true then
    some (-1)
   else
    if (!(Op.bytesLess p0_ p1_||p0_==p1_))=true then
     some 1
    else
     some 0
def GU (_:Nat) (p0_:(List Int)) (x_4:Int):Option (Int⊕(Unit⊕Int)):=
 if decide (x_4<((p0_.length:Nat):Int))=true then
  (idx p0_ x_4).bind λ x3=>
  if (x3 != 0)=true then
   some (.inr (.inr x3))
  else
   some (.inl (Ai .i64 x_4 1))
 else
  some (.inr (.inl ()))
def HB (n:Nat) (p0_:(List Int)):Option Int:=
 (whl (λ (x:Int)=>GU n p0_ x) n 0).bind λ y7=>
 match y7 with
 | Sum.inl _=>
  some 0
 | Sum.inr y9=>
  some y9
def GL (n:Nat) (p0_:Ab) (p1_:Ab):Option Int:=
 (B6 n p0_.Block p1_.Block).bind λ r14=>
 (B6 n p0_.At p1_.At).bind λ r15=>
 (B6 n p0_.Cut p1_.Cut).bind λ r16=>
 (Cs n p0_.Put p1_.Put).bind λ r17=>
 (HB n [r14,r15,r16,r17]).bind λ r18=>
 some r18
def Gq (n:Nat) (p1_:(List Ab)) (c_2:Ab) (x_5:Int):Option ((Ab×Int)⊕(Ab⊕(Ab×Int×Bool))):=
 if decide (x_5<((p1_.length:Nat):Int))=true then
  (idx p1_ x_5).bind λ x4=>
  (DC n c_2 x4).bind λ r19=>
  if (!r19.2)=true then
   some (.inr (.inr (({ Block:=0,At:=0,Cut:=0,Put:=[] }:Ab),x_5,false)))
  else
   some (.inl (r19.1,(Ai .i64 x_5 1)))
 else
  some (.inr (.inl c_2))
def Iv (n:Nat) (p0_:Ab) (p1_:(List Ab)):Option (Ab×Int×Bool):=
 (whl (λ (x:(Ab×Int))=>Gq n p1_ x.1 x.2) n (p0_,0)).bind λ y10=>
 match y10 with
 | Sum.inl y11=>
  some (y11,((p1_.length:Nat):Int),true)
 | Sum.inr y12=>
  some y12
noncomputable def RI (n:Nat) (o0_:(List Ab)):Option (List Ab):=
 sortC (λ (x:Ab) (y:Ab)=>GL n x y) o0_
def GV (_:Nat) (k2_1:Int) (s_3:(List Ab)) (k_4:Int):Option (((List Ab)×Int×Int)⊕((List Ab)×Int)):=
 some (.inl (s_3,k_4,(Ai .i64 k2_1 1)))
def GW (n:Nat) (o0_:(List Ab)) (k_1:Int) (s_1:(List Ab)) (k_2:Int) (k2_1:Int):Option (((List Ab)×Int×Int)⊕((List Ab)×Int)):=
 if decide (k2_1<((((0+Int.toNat k_1,Int.toNat ((o0_.length:Nat):Int)-Int.toNat k_1):Nat×Nat).2:Nat):Int))=true then
  (ixP s_1 ((0+Int.toNat k_1,Int.toNat ((o0_.length:Nat):Int)-Int.toNat k_1):Nat×Nat) k2_1).bind λ x7=>
  (ixP s_1 ((0+Int.toNat k_1,Int.toNat ((o0_.length:Nat):Int)-Int.toNat k_1):Nat×Nat) (AU .i64 k2_1 1)).bind λ x8=>
  if (!((x7.Block==x8.Block)&&((x7.At==x8.At)&&((x7.Cut==x8.Cut)&&((x7.Put==x8.Put)&&true)))))=true then
   (ixP s_1 ((0+Int.toNat k_1,Int.toNat ((o0_.length:Nat):Int)-Int.toNat k_1):Nat×Nat) k2_1).bind λ x9=>
   (idx s_1 k_2).bind λ _=>
   (put s_1 k_2 x9).bind λ l4=>
   GV n k2_1 l4 (Ai .i64 k_2 1)
  else
   GV n k2_1 s_1 k_2
 else
  some (.inr (s_1,k_2))
def GX (n:Nat) (o0_:(List Ab)) (k_1:Int):Option (Int⊕(Unit⊕((List Ab)×(Nat×Nat)))):=
 if decide (k_1<((o0_.length:Nat):Int))=true then
  (idx o0_ k_1).bind λ x5=>
  (idx o0_ (AU .i64 k_1 1)).bind λ x6=>
  if ((x5.Block==x6.Block)&&((x5.At==x6.At)&&((x5.Cut==x6.Cut)&&((x5.Put==x6.Put)&&true))))=true then
   (sub o0_ k_1 ((o0_.length:Nat):Int)).bind λ _=>
   (whl (λ (x:((List Ab)×Int×Int))=>GW n o0_ k_1 x.1 x.2.1 x.2.2) n (o0_,k_1,1)).bind λ y13=>
   (sub y13.1 y13.2 ((y13.1.length:Nat):Int)).bind λ _=>
   (ZB y13.1 ((0+Int.toNat y13.2,Int.toNat ((y13.1.length:Nat):Int)-Int.toNat y13.2):Nat×Nat).1 ((0+Int.toNat y13.2,Int.toNat ((y13.1.length:Nat):Int)-Int.toNat y13.2):Nat×Nat).2 (⟨0,0,0,[]⟩:Ab)).bind λ l6=>
   (sub l6 0 y13.2).bind λ _=>
   some (.inr (.inr (l6,((0+Int.toNat 0,Int.toNat y13.2-Int.toNat 0):Nat×Nat))))
  else
   some (.inl (Ai .i64 k_1 1))
 else
  some (.inr (.inl ()))
def Kr (n:Nat) (o0_:(List Ab)):Option ((List Ab)×(Nat×Nat)):=
 if decide (((o0_.length:Nat):Int)<2)=true then
  some (o0_,((0,List.length o0_):Nat×Nat))
 else
  (whl (λ (x:Int)=>GX n o0_ x) n 1).bind λ y14=>
  match y14 with
  | Sum.inl _=>
   some (o0_,((0,List.length o0_):Nat×Nat))
  | Sum.inr y16=>
   some y16
def Ks (_:Nat) (j_1:Int) (v_5:Ao) (loud_5:(List Bool)):Option ((Ao×(List Bool)×Int)⊕(Ao×(List Bool))):=
 some (.inl (v_5,loud_5,(Ai .i64 j_1 1)))
def Kt (n:Nat) (p0_:(List AB)) (x_8:Int) (v_3:Ao) (loud_3:(List Bool)) (j_1:Int):Option ((Ao×(List Bool)×Int)⊕(Ao×(List Bool))):=
 if decide (j_1<((p0_.length:Nat):Int))=true then
  (idx p0_ x_8).bind λ x11=>
  (idx p0_ j_1).bind λ x12=>
  (if (!((x11.C.Block==x12.C.Block)&&((x11.C.At==x12.C.At)&&((x11.C.Cut==x12.C.Cut)&&((x11.C.Put==x12.C.Put)&&true)))))=true then idx p0_ x_8 else some default).bind λ x13=>
  (if (!((x11.C.Block==x12.C.Block)&&((x11.C.At==x12.C.At)&&((x11.C.Cut==x12.C.Cut)&&((x11.C.Put==x12.C.Put)&&true)))))=true then idx p0_ j_1 else some default).bind λ x14=>
  (if (!((x11.C.Block==x12.C.Block)&&((x11.C.At==x12.C.At)&&((x11.C.Cut==x12.C.Cut)&&((x11.C.Put==x12.C.Put)&&true)))))=true then Kp n x13.C x14.C else some default).bind λ r20=>
  if ((!((x11.C.Block==x12.C.Block)&&((x11.C.At==x12.C.At)&&((x11.C.Cut==x12.C.Cut)&&((x11.C.Put==x12.C.Put)&&true)))))&&(!r20))=true then
   (app 16 v_3.Quarrels [({ a0:=x_8,a1:=j_1 }:(CB Int))]).bind λ l9=>
   (idx loud_3 x_8).bind λ _=>
   (put loud_3 x_8 true).bind λ l10=>
   (idx l10 j_1).bind λ _=>
   (put l10 j_1 true).bind λ l11=>
   Ks n j_1 ({ Agreed:=v_3.Agreed,Quarrels:=l9 }:Ao) l11
  else
   Ks n j_1 v_3 loud_3
 else
  some (.inr (v_3,loud_3))
def HC (n:Nat) (p0_:(List AB)) (v_1:Ao) (loud_1:(List Bool)) (x_8:Int):Option ((Ao×(List Bool)×Int)⊕(Ao×(List Bool))):=
 if decide (x_8<((p0_.length:Nat):Int))=true then
  (whl (λ (x:(Ao×(List Bool)×Int))=>Kt n p0_ x_8 x.1 x.2.1 x.2.2) n (v_1,loud_1,(Ai .i64 x_8 1))).bind λ y17=>
  some (.inl (y17.1,y17.2,(Ai .i64 x_8 1)))
 else
  some (.inr (v_1,loud_1))
def Ku (_:Nat) (x_9:Int) (agreed_3:(List Ab)):Option (((List Ab)×Int)⊕(List Ab)):=
 some (.inl (agreed_3,(Ai .i64 x_9 1)))
def FN (n:Nat) (p0_:(List AB)) (y18:(Ao×(List Bool))) (agreed_1:(List Ab)) (x_9:Int):Option (((List Ab)×Int)⊕(List Ab)):=
 if decide (x_9<((p0_.length:Nat):Int))=true then
  (idx p0_ x_9).bind λ x17=>
  (idx y18.2 x_9).bind λ x18=>
  if (!x18)=true then
   (app 40 agreed_1 [x17.C]).bind λ l12=>
   Ku n x_9 l12
  else
   Ku n x_9 agreed_1
 else
  some (.inr agreed_1)
def Kv (_:Nat) (x_10:Int) (v_8:Ao):Option ((Ao×Int)⊕Ao):=
 some (.inl (v_8,(Ai .i64 x_10 1)))
def HD (n:Nat) (r22:((List Ab)×(Nat×Nat))) (v_6:Ao) (x_10:Int):Option ((Ao×Int)⊕Ao):=
 if decide (x_10<((r22.2.2:Nat):Int))=true then
  (ixP r22.1 r22.2 x_10).bind λ x19=>
  (Iv n x19 v_6.Agreed).bind λ r23=>
  if r23.2.2=true then
   (app 40 v_6.Agreed [r23.1]).bind λ l13=>
   Kv n x_10 ({ Agreed:=l13,Quarrels:=v_6.Quarrels }:Ao)
  else
   Kv n x_10 v_6
 else
  some (.inr v_6)
noncomputable def Iw (n:Nat) (p0_:(List AB)):Option Ao:=
 (mkl 1 ((p0_.length:Nat):Int) (false:Bool)).bind λ l8=>
 (whl (λ (x:(Ao×(List Bool)×Int))=>HC n p0_ x.1 x.2.1 x.2.2) n (({ Agreed:=([]:List Ab),Quarrels:=([]:List (CB Int)) }:Ao),l8,0)).bind λ y18=>
 (whl (λ (x:((List Ab)×Int))=>FN n p0_ y18 x.1 x.2) n (([]:List Ab),0)).bind λ y19=>
 (RI n y19).bind λ r21=>
 (BJ (decide (List.length y19=List.length r21))).bind λ _=>
 (Kr n r21).bind λ r22=>
 (whl (λ (x:(Ao×Int))=>HD n r22 x.1 x.2) n (y18.1,0)).bind λ y20=>
 some y20
def Gr (_:Nat) (p0_:(List Am)) (p1_:(List Am)) (i_1:Int):Option (Int⊕(Unit⊕Bool)):=
 if decide (i_1<((p0_.length:Nat):Int))=true then
  (idx p0_ i_1).bind λ x20=>
  (idx p1_ i_1).bind λ x21=>
  if (!((x20.Op==x21.Op)&&((x20.N==x21.N)&&true)))=true then
   some (.inr (.inr false))
  else
   some (.inl (Ai .i64 i_1 1))
 else
  some (.inr (.inl ()))
def OD (n:Nat) (p0_:(List Am)) (p1_:(List Am)):Option Bool:=
 if (((p0_.length:Nat):Int) != ((p1_.length:Nat):Int))=true then
  some false
 else
  (whl (λ (x:Int)=>Gr n p0_ p1_ x) n 0).bind λ y21=>
  match y21 with
  | Sum.inl _=>
   some true
  | Sum.inr y23=>
   some y23
def Dk (_:Nat) (p0_:(List (List (List UInt8)))) (p1_:(List (List (List UInt8)))) (i_2:Int) (k_5:Int):Option (Int⊕(Unit⊕Bool)):=
 (idx p0_ i_2).bind λ x24=>
 if decide (k_5<((x24.length:Nat):Int))=true then
  (idx p0_ i_2).bind λ x25=>
  (idx x25 k_5).bind λ x26=>
  (idx p1_ i_2).bind λ x27=>
  (idx x27 k_5).bind λ x28=>
  if (!(x26==x28))=true then
   some (.inr (.inr false))
  else
   some (.inl (Ai .i64 k_5 1))
 else
  some (.inr (.inl ()))
def Dl (n:Nat) (p0_:(List (List (List UInt8)))) (p1_:(List (List (List UInt8)))) (i_2:Int):Option (Int⊕(Unit⊕Bool)):=
 if decide (i_2<((p0_.length:Nat):Int))=true then
  (idx p0_ i_2).bind λ x22=>
  (idx p1_ i_2).bind λ x23=>
  if (((x22.length:Nat):Int) != ((x23.length:Nat):Int))=true then
   some (.inr (.inr false))
  else
   (whl (λ (x:Int)=>Dk n p0_ p1_ i_2 x) n 0).bind λ y24=>
   match y24 with
   | Sum.inl _=>
    some (.inl (Ai .i64 i_2 1))
   | Sum.inr y26=>
    some (.inr (.inr y26))
 else
  some (.inr (.inl ()))
def H8 (n:Nat) (p0_:(List (List (List UInt8)))) (p1_:(List (List (List UInt8)))):Option Bool:=
 if (((p0_.length:Nat):Int) != ((p1_.length:Nat):Int))=true then
  some false
 else
  (whl (λ (x:Int)=>Dl n p0_ p1_ x) n 0).bind λ y27=>
  match y27 with
  | Sum.inl _=>
   some true
  | Sum.inr y29=>
   some y29
def Ct (_:Nat) (_:Af) (_:Af) (_:Int) (x29:Ax) (x30:Ax) (k_6:Int):Option (Int⊕(Unit⊕Bool)):=
 if decide (k_6<((x29.P.length:Nat):Int))=true then
  (idx x29.P k_6).bind λ x31=>
  (idx x30.P k_6).bind λ x32=>
  if (!((x31.X==x32.X)&&((x31.Y==x32.Y)&&true)))=true then
   some (.inr (.inr false))
  else
   some (.inl (Ai .i64 k_6 1))
 else
  some (.inr (.inl ()))
def Cu (n:Nat) (p0_:Af) (p1_:Af) (i_3:Int):Option (Int⊕(Unit⊕Bool)):=
 if decide (i_3<((p0_.F.length:Nat):Int))=true then
  (idx p0_.F i_3).bind λ x29=>
  (idx p1_.F i_3).bind λ x30=>
  if (((x29.Kind != x30.Kind)||(x29.Texture != x30.Texture))||(((x29.P.length:Nat):Int) != ((x30.P.length:Nat):Int)))=true then
   some (.inr (.inr false))
  else
   (whl (λ (x:Int)=>Ct n p0_ p1_ i_3 x29 x30 x) n 0).bind λ y30=>
   match y30 with
   | Sum.inl _=>
    some (.inl (Ai .i64 i_3 1))
   | Sum.inr y32=>
    some (.inr (.inr y32))
 else
  some (.inr (.inl ()))
def Fe (n:Nat) (p0_:Af) (p1_:Af):Option Bool:=
 if ((((p0_.W != p1_.W)||(p0_.H != p1_.H))||(p0_.Gap != p1_.Gap))||(((p0_.F.length:Nat):Int) != ((p1_.F.length:Nat):Int)))=true then
  some false
 else
  (whl (λ (x:Int)=>Cu n p0_ p1_ x) n 0).bind λ y33=>
  match y33 with
  | Sum.inl _=>
   some true
  | Sum.inr y35=>
   some y35
def GY (n:Nat) (p0_:Ag) (p1_:Ag):Option Bool:=
 (if (!((((p0_.Kind != p1_.Kind)||(p0_.Level != p1_.Level))||(!(p0_.Text==p1_.Text)))||(p0_.Page != p1_.Page)))=true then OD n p0_.F p1_.F else some default).bind λ r24=>
 if (((((p0_.Kind != p1_.Kind)||(p0_.Level != p1_.Level))||(!(p0_.Text==p1_.Text)))||(p0_.Page != p1_.Page))||(!r24))=true then
  some false
 else
  (H8 n p0_.Rows p1_.Rows).bind λ r25=>
  (if r25=true then Fe n p0_.Pic p1_.Pic else some default).bind λ r26=>
  some (r25&&r26)
def Gs (n:Nat) (p0_:(List Ag)) (p1_:(List Ag)) (i_4:Int):Option (Int⊕(Unit⊕Bool)):=
 if decide (i_4<((p0_.length:Nat):Int))=true then
  (idx p0_ i_4).bind λ x33=>
  (idx p1_ i_4).bind λ x34=>
  (GY n x33 x34).bind λ r27=>
  if (!r27)=true then
   some (.inr (.inr false))
  else
   some (.inl (Ai .i64 i_4 1))
 else
  some (.inr (.inl ()))
def Ix (n:Nat) (p0_:(List Ag)) (p1_:(List Ag)):Option Bool:=
 if (((p0_.length:Nat):Int) != ((p1_.length:Nat):Int))=true then
  some false
 else
  (whl (λ (x:Int)=>Gs n p0_ p1_ x) n 0).bind λ y36=>
  match y36 with
  | Sum.inl _=>
   some true
  | Sum.inr y38=>
   some y38
def Cv (_:Nat) (p0_:(List Ab)) (p1_:(List Ab)) (i_5:Int):Option (Int⊕(Unit⊕Bool)):=
 if decide (i_5<((p0_.length:Nat):Int))=true then
  (idx p0_ i_5).bind λ x35=>
  (idx p1_ i_5).bind λ x36=>
  if (!((x35.Block==x36.Block)&&((x35.At==x36.At)&&((x35.Cut==x36.Cut)&&((x35.Put==x36.Put)&&true)))))=true then
   some (.inr (.inr false))
  else
   some (.inl (Ai .i64 i_5 1))
 else
  some (.inr (.inl ()))
def Dm (n:Nat) (p0_:(List Ab)) (p1_:(List Ab)):Option Bool:=
 if (((p0_.length:Nat):Int) != ((p1_.length:Nat):Int))=true then
  some false
 else
  (whl (λ (x:Int)=>Cv n p0_ p1_ x) n 0).bind λ y39=>
  match y39 with
  | Sum.inl _=>
   some true
  | Sum.inr y41=>
   some y41
def Gt (_:Nat) (p0_:Ao) (p1_:Ao) (i_6:Int):Option (Int⊕(Unit⊕Bool)):=
 if decide (i_6<((p0_.Quarrels.length:Nat):Int))=true then
  (idx p0_.Quarrels i_6).bind λ x37=>
  (idx p1_.Quarrels i_6).bind λ x38=>
  if (!((x37.a0==x38.a0)&&((x37.a1==x38.a1)&&true)))=true then
   some (.inr (.inr false))
  else
   some (.inl (Ai .i64 i_6 1))
 else
  some (.inr (.inl ()))
def OE (n:Nat) (p0_:Ao) (p1_:Ao):Option Bool:=
 (Dm n p0_.Agreed p1_.Agreed).bind λ r28=>
 if ((!r28)||(((p0_.Quarrels.length:Nat):Int) != ((p1_.Quarrels.length:Nat):Int)))=true then
  some false
 else
  (whl (λ (x:Int)=>Gt n p0_ p1_ x) n 0).bind λ y42=>
  match y42 with
  | Sum.inl _=>
   some true
  | Sum.inr y44=>
   some y44
noncomputable def El (n:Nat) (_:((List Ag)×Int)) (r31:Ab) (r32:Ab) (r33:Ab) (r34:Ab) (i_7:Int):Option (Int⊕(Unit⊕Bool)):=
 if decide (i_7<((List.length ([r31,r32,({ Block:=1,At:=0,Cut:=0,Put:=[97] }:Ab),r33,r34]):Nat):Int))=true then
  (idx ([r31,r32,({ Block:=1,At:=0,Cut:=0,Put:=[97] }:Ab),r33,r34]) i_7).bind λ x39=>
  (Iu n ([({ Kind:=1,Level:=0,Text:=[97,98,99],Rows:=[],F:=[],Pic:=({ W:=0,H:=0,Gap:=0,F:=[] }:Af),Page:=0 }:Ag)]) x39).bind λ r35=>
  if (r35.2 != 320)=true then
   some (.inr (.inr false))
  else
   some (.inl (Ai .i64 i_7 1))
 else
  some (.inr (.inl ()))
noncomputable def HE (n:Nat) :Option Bool:=
 (AL n 1 1 [120,121]).bind λ r29=>
 (Iu n ([({ Kind:=1,Level:=0,Text:=[97,98,99],Rows:=[],F:=[],Pic:=({ W:=0,H:=0,Gap:=0,F:=[] }:Af),Page:=0 }:Ag)]) r29).bind λ r30=>
 (AL n 0 3 []).bind λ r31=>
 (AL n 4 0 [97]).bind λ r32=>
 (AL n (-1) 0 [97]).bind λ r33=>
 (AL n 0 0 [32]).bind λ r34=>
 (whl (λ (x:Int)=>El n r30 r31 r32 r33 r34 x) n 0).bind λ y45=>
 match y45 with
 | Sum.inl _=>
  (AL n 2 1 []).bind λ r36=>
  (AL n 0 1 [120,121,122]).bind λ r37=>
  (DC n r36 r37).bind λ r38=>
  (AL n 1 0 [97]).bind λ r39=>
  (AL n 1 0 [98]).bind λ r40=>
  (DC n r39 r40).bind λ r41=>
  (AL n 0 2 []).bind λ r42=>
  (AL n 1 2 []).bind λ r43=>
  (DC n r42 r43).bind λ r44=>
  (AL n 1 0 [97]).bind λ r45=>
  (AL n 1 1 []).bind λ r46=>
  (DC n r45 r46).bind λ r47=>
  (AL n 1 1 []).bind λ r48=>
  (AL n 1 0 [97]).bind λ r49=>
  (DC n r48 r49).bind λ r50=>
  (AL n 2 1 [122]).bind λ r51=>
  (AL n 0 1 [120,121]).bind λ r52=>
  (AL n 1 0 [112]).bind λ r53=>
  (AL n 1 0 [113]).bind λ r54=>
  (Iw n [({ Reader:=0,C:=r51 }:AB),({ Reader:=0,C:=r51 }:AB),({ Reader:=0,C:=r52 }:AB),({ Reader:=0,C:=r53 }:AB),({ Reader:=0,C:=r54 }:AB)]).bind λ r55=>
  (AL n 1 0 [97]).bind λ r56=>
  (AL n 0 0 [98]).bind λ r57=>
  (AL n 2 0 [99]).bind λ r58=>
  (Iv n r56 [r57,r58]).bind λ r59=>
  (if (r30.2==0)=true then Ix n r30.1 ([({ Kind:=1,Level:=0,Text:=[97,120,121,99],Rows:=[],F:=[],Pic:=({ W:=0,H:=0,Gap:=0,F:=[] }:Af),Page:=0 }:Ag)]) else some default).bind λ r60=>
  (if (((r30.2==0)&&r60)&&r38.2)=true then AL n 4 1 [] else some default).bind λ r61=>
  (if (((((((r30.2==0)&&r60)&&r38.2)&&((r38.1.Block==r61.Block)&&((r38.1.At==r61.At)&&((r38.1.Cut==r61.Cut)&&((r38.1.Put==r61.Put)&&true)))))&&(!r41.2))&&(!r44.2))&&r47.2)=true then AL n 1 0 [97] else some default).bind λ r62=>
  (if (((((((((r30.2==0)&&r60)&&r38.2)&&((r38.1.Block==r61.Block)&&((r38.1.At==r61.At)&&((r38.1.Cut==r61.Cut)&&((r38.1.Put==r61.Put)&&true)))))&&(!r41.2))&&(!r44.2))&&r47.2)&&((r47.1.Block==r62.Block)&&((r47.1.At==r62.At)&&((r47.1.Cut==r62.Cut)&&((r47.1.Put==r62.Put)&&true)))))&&r50.2)=true then AL n 2 1 [] else some default).bind λ r63=>
  (if ((((((((((r30.2==0)&&r60)&&r38.2)&&((r38.1.Block==r61.Block)&&((r38.1.At==r61.At)&&((r38.1.Cut==r61.Cut)&&((r38.1.Put==r61.Put)&&true)))))&&(!r41.2))&&(!r44.2))&&r47.2)&&((r47.1.Block==r62.Block)&&((r47.1.At==r62.At)&&((r47.1.Cut==r62.Cut)&&((r47.1.Put==r62.Put)&&true)))))&&r50.2)&&((r50.1.Block==r63.Block)&&((r50.1.At==r63.At)&&((r50.1.Cut==r63.Cut)&&((r50.1.Put==r63.Put)&&true)))))=true then AL n 0 1 [120,121] else some default).bind λ r64=>
  (if ((((((((((r30.2==0)&&r60)&&r38.2)&&((r38.1.Block==r61.Block)&&((r38.1.At==r61.At)&&((r38.1.Cut==r61.Cut)&&((r38.1.Put==r61.Put)&&true)))))&&(!r41.2))&&(!r44.2))&&r47.2)&&((r47.1.Block==r62.Block)&&((r47.1.At==r62.At)&&((r47.1.Cut==r62.Cut)&&((r47.1.Put==r62.Put)&&true)))))&&r50.2)&&((r50.1.Block==r63.Block)&&((r50.1.At==r63.At)&&((r50.1.Cut==r63.Cut)&&((r50.1.Put==r63.Put)&&true)))))=true then AL n 3 1 [122] else some default).bind λ r65=>
  (if ((((((((((r30.2==0)&&r60)&&r38.2)&&((r38.1.Block==r61.Block)&&((r38.1.At==r61.At)&&((r38.1.Cut==r61.Cut)&&((r38.1.Put==r61.Put)&&true)))))&&(!r41.2))&&(!r44.2))&&r47.2)&&((r47.1.Block==r62.Block)&&((r47.1.At==r62.At)&&((r47.1.Cut==r62.Cut)&&((r47.1.Put==r62.Put)&&true)))))&&r50.2)&&((r50.1.Block==r63.Block)&&((r50.1.At==r63.At)&&((r50.1.Cut==r63.Cut)&&((r50.1.Put==r63.Put)&&true)))))=true then OE n r55 ({ Agreed:=[r64,r65],Quarrels:=[({ a0:=3,a1:=4 }:(CB Int))] }:Ao) else some default).bind λ r66=>
  some (((((((((((((r30.2==0)&&r60)&&r38.2)&&((r38.1.Block==r61.Block)&&((r38.1.At==r61.At)&&((r38.1.Cut==r61.Cut)&&((r38.1.Put==r61.Put)&&true)))))&&(!r41.2))&&(!r44.2))&&r47.2)&&((r47.1.Block==r62.Block)&&((r47.1.At==r62.At)&&((r47.1.Cut==r62.Cut)&&((r47.1.Put==r62.Put)&&true)))))&&r50.2)&&((r50.1.Block==r63.Block)&&((r50.1.At==r63.At)&&((r50.1.Cut==r63.Cut)&&((r50.1.Put==r63.Put)&&true)))))&&r66)&&(r59.2.1==1))&&(!r59.2.2))
 | Sum.inr y47=>
  some y47
def Gu (_:Nat) (i_8:Int) (out_3:(List UInt8)):Option (((List UInt8)×Int)⊕(List UInt8)):=
 some (.inl (out_3,(Ai .i64 i_8 1)))
def Gv (n:Nat) (p0_:(List Int)) (p1_:Int) (p2_:(List UInt8)) (out_1:(List UInt8)) (i_8:Int):Option (((List UInt8)×Int)⊕(List UInt8)):=
 if ((decide (i_8<((p0_.length:Nat):Int)))&&(decide (((out_1.length:Nat):Int)<p1_)))=true then
  (idx p0_ i_8).bind λ x40=>
  (BJ (!((Ai .i64 ((p2_.length:Nat):Int) 1)==0))).bind λ _=>
  if decide (Al (IntKind.i64.wrap x40) (Ai .i64 ((p2_.length:Nat):Int) 1)>0)=true then
   (sub p2_ (AU .i64 (Al (IntKind.i64.wrap x40) (Ai .i64 ((p2_.length:Nat):Int) 1)) 1) (Al (IntKind.i64.wrap x40) (Ai .i64 ((p2_.length:Nat):Int) 1))).bind λ s5=>
   (cat out_1 s5).bind λ s6=>
   Gu n i_8 s6
  else
   (if ((decide (((out_1.length:Nat):Int)>0))&&(decide (((out_1.length:Nat):Int)<AU .i64 p1_ 1)))=true then Jj out_1 (AU .i64 ((out_1.length:Nat):Int) 1) else some default).bind λ b4=>
   if (((decide (((out_1.length:Nat):Int)>0))&&(decide (((out_1.length:Nat):Int)<AU .i64 p1_ 1)))&&(b4 != 32))=true then
    (cat out_1 [32]).bind λ s7=>
    Gu n i_8 s7
   else
    Gu n i_8 out_1
 else
  some (.inr out_1)
def Em (_:Nat) (p2_:(List UInt8)) (out_4:(List UInt8)):Option (List UInt8):=
 if (out_4==[])=true then
  (sub p2_ 0 1).bind λ s8=>
  some s8
 else
  some out_4
def Iy (n:Nat) (p0_:(List Int)) (p1_:Int) (p2_:(List UInt8)):Option (List UInt8):=
 (whl (λ (x:((List UInt8)×Int))=>Gv n p0_ p1_ p2_ x.1 x.2) n ([],0)).bind λ y48=>
 (if decide (((y48.length:Nat):Int)>0)=true then Jj y48 (AU .i64 ((y48.length:Nat):Int) 1) else some default).bind λ b5=>
 if ((decide (((y48.length:Nat):Int)>0))&&(b5==32))=true then
  (sub y48 0 (AU .i64 ((y48.length:Nat):Int) 1)).bind λ s9=>
  Em n p2_ s9
 else
  Em n p2_ y48
def Ff (_:Nat) (p0_:Int) (p1_:Int):Option (List Am):=
 if ((Al p0_ 8)==1)=true then
  some [({ Op:=1,N:=IntKind.i64.wrap (Al p1_ 26) }:Am)]
 else
  if ((Al p0_ 8)==2)=true then
   some [({ Op:=2,N:=0 }:Am),({ Op:=1,N:=IntKind.i64.wrap (Al p1_ 26) }:Am),({ Op:=0,N:=IntKind.i64.wrap p1_ }:Am)]
  else
   if ((Al p0_ 8)==3)=true then
    some [({ Op:=3,N:=0 }:Am),({ Op:=0,N:=IntKind.i64.wrap p1_ }:Am),({ Op:=1,N:=IntKind.i64.wrap (Al p1_ 26) }:Am)]
   else
    if ((Al p0_ 8)==4)=true then
     some [({ Op:=4,N:=0 }:Am),({ Op:=0,N:=IntKind.i64.wrap p1_ }:Am),({ Op:=1,N:=IntKind.i64.wrap (Al p1_ 26) }:Am)]
    else
     if ((Al p0_ 8)==5)=true then
      some [({ Op:=7,N:=0 }:Am),({ Op:=1,N:=IntKind.i64.wrap (Al p1_ 26) }:Am),({ Op:=0,N:=IntKind.i64.wrap p1_ }:Am)]
     else
      if ((Al p0_ 8)==6)=true then
       some [({ Op:=9,N:=0 }:Am),({ Op:=10,N:=0 }:Am),({ Op:=2,N:=0 }:Am),({ Op:=1,N:=IntKind.i64.wrap (Al p1_ 26) }:Am),({ Op:=0,N:=IntKind.i64.wrap p1_ }:Am)]
      else
       if ((Al p0_ 8)==7)=true then
        some [({ Op:=6,N:=0 }:Am),({ Op:=0,N:=IntKind.i64.wrap p1_ }:Am),({ Op:=1,N:=IntKind.i64.wrap (Al p1_ 26) }:Am)]
       else
        some [({ Op:=0,N:=IntKind.i64.wrap p1_ }:Am)]
def Bm (_:Nat) :Option Int:=
 some (-1)
def Cn (n:Nat) (p0_:Am) (x_12:Bool):Option Int:=
 if x_12=true then
  if (p0_.N==0)=true then
   some 1
  else
   Bm n
 else
  if (p0_.Op==12)=true then
   if ((decide (p0_.N>=2))&&(decide (p0_.N<=5)))=true then
    some (Ai .i64 p0_.N 1)
   else
    Bm n
  else
   if (p0_.Op==13)=true then
    if (((((decide (p0_.N>0))&&(decide (Dv .i64 p0_.N 8>=1)))&&(decide (Dv .i64 p0_.N 8<=4)))&&(decide (Al p0_.N 8>=1)))&&(decide (Al p0_.N 8<=4)))=true then
     some (BV .i64 (Dv .i64 p0_.N 8) (Al p0_.N 8))
    else
     Bm n
   else
    Bm n
def Bn (n:Nat) (p0_:Am) (x_11:Bool):Option Int:=
 if x_11=true then
  if (p0_.N==0)=true then
   some 2
  else
   Bm n
 else
  if (p0_.Op==9)=true then
   Cn n p0_ (p0_.Op==9)
  else
   if (p0_.Op==10)=true then
    Cn n p0_ (p0_.Op==10)
   else
    Cn n p0_ (p0_.Op==11)
def Cg (n:Nat) (p0_:Am):Option Int:=
 if (p0_.Op==0)=true then
  if ((decide (p0_.N>=0))&&(decide (p0_.N<=99999)))=true then
   some 0
  else
   Bm n
 else
  if (p0_.Op==1)=true then
   if ((decide (p0_.N>=0))&&(decide (p0_.N<=25)))=true then
    some 0
   else
    Bm n
  else
   if (p0_.Op==2)=true then
    Bn n p0_ (p0_.Op==2)
   else
    if (p0_.Op==3)=true then
     Bn n p0_ (p0_.Op==3)
    else
     if (p0_.Op==4)=true then
      Bn n p0_ (p0_.Op==4)
     else
      if (p0_.Op==5)=true then
       Bn n p0_ (p0_.Op==5)
      else
       if (p0_.Op==6)=true then
        Bn n p0_ (p0_.Op==6)
       else
        if (p0_.Op==7)=true then
         Bn n p0_ (p0_.Op==7)
        else
         Bn n p0_ (p0_.Op==8)
def GZ (n:Nat) (p0_:(List Am)) (i_9:Int) (open_1:Int):Option ((Int×Int)⊕(Int⊕Int)):=
 if decide (open_1>0)=true then
  (if (!((decide (i_9<0))||(decide (i_9>=((p0_.length:Nat):Int)))))=true then idx p0_ i_9 else some default).bind λ x41=>
  (if (!((decide (i_9<0))||(decide (i_9>=((p0_.length:Nat):Int)))))=true then Cg n x41 else some default).bind λ r67=>
  if (((decide (i_9<0))||(decide (i_9>=((p0_.length:Nat):Int))))||(decide (r67<0)))=true then
   some (.inr (.inr (-1)))
  else
   (idx p0_ i_9).bind λ x42=>
   (Cg n x42).bind λ r68=>
   some (.inl ((Ai .i64 i_9 1),(Ai .i64 open_1 (AU .i64 r68 1))))
 else
  some (.inr (.inl i_9))
def Ln (n:Nat) (p0_:(List Am)) (p1_:Int):Option Int:=
 (whl (λ (x:(Int×Int))=>GZ n p0_ x.1 x.2) n (p1_,1)).bind λ y49=>
 match y49 with
 | Sum.inl y50=>
  some y50
 | Sum.inr y51=>
  some y51
def Ch (n:Nat) (p0_:(List Am)) (p1_:Int) (out_5:(List Int)) (at_1:Int) (k_7:Int):Option (((List Int)×Int×Int)⊕(List Int)):=
 (idx p0_ p1_).bind λ x43=>
 (Cg n x43).bind λ r69=>
 if decide (k_7<r69)=true then
  (app 8 out_5 [at_1]).bind λ l14=>
  (Ln n p0_ at_1).bind λ r70=>
  some (.inl (l14,r70,(Ai .i64 k_7 1)))
 else
  some (.inr out_5)
def Dn (n:Nat) (p0_:(List Am)) (p1_:Int):Option (List Int):=
 (whl (λ (x:((List Int)×Int×Int))=>Ch n p0_ p1_ x.1 x.2.1 x.2.2) n (([]:List Int),(Ai .i64 p1_ 1),0)).bind λ y52=>
 some y52
def C4 (_:Nat) (p0_:Int) (x_13:Bool):Option Int:=
 if x_13=true then
  some 2
 else
  if (p0_==4)=true then
   some 3
  else
   some 4
def CC (n:Nat) (p0_:Int):Option Int:=
 if (p0_==5)=true then
  some 1
 else
  if (p0_==2)=true then
   C4 n p0_ (p0_==2)
  else
   C4 n p0_ (p0_==3)
def Gw (_:Nat) :Option Bool:=
 some true
def Gx (_:Nat) (p0_:(List Am)) (r71:(List Int)) (k_8:Int):Option (Int⊕(Unit⊕Bool)):=
 if decide (k_8<((r71.length:Nat):Int))=true then
  (idx r71 k_8).bind λ x50=>
  (idx p0_ x50).bind λ x51=>
  if (x51.Op != 0)=true then
   some (.inr (.inr false))
  else
   some (.inl (Ai .i64 k_8 1))
 else
  some (.inr (.inl ()))
def CN (n:Nat) (p0_:(List Am)) (p1_:Int) (r71:(List Int)) (x44:Am) (x_14:Bool):Option Bool:=
 if x_14=true then
  (idx p0_ p1_).bind λ x45=>
  (CC n x45.Op).bind λ r72=>
  (idx r71 0).bind λ x46=>
  (idx p0_ x46).bind λ x47=>
  (CC n x47.Op).bind λ r73=>
  (if decide (r73>=r72)=true then idx r71 1 else some default).bind λ x48=>
  (if decide (r73>=r72)=true then idx p0_ x48 else some default).bind λ x49=>
  (if decide (r73>=r72)=true then CC n x49.Op else some default).bind λ r74=>
  some ((decide (r73>=r72))&&(decide (r74>r72)))
 else
  if (x44.Op==12)=true then
   (whl (λ (x:Int)=>Gx n p0_ r71 x) n 0).bind λ y53=>
   match y53 with
   | Sum.inl _=>
    Gw n
   | Sum.inr y55=>
    some y55
  else
   Gw n
def OF (n:Nat) (p0_:(List Am)) (p1_:Int):Option Bool:=
 (Dn n p0_ p1_).bind λ r71=>
 (idx p0_ p1_).bind λ x44=>
 if (x44.Op==2)=true then
  CN n p0_ p1_ r71 x44 (x44.Op==2)
 else
  if (x44.Op==3)=true then
   CN n p0_ p1_ r71 x44 (x44.Op==3)
  else
   if (x44.Op==4)=true then
    CN n p0_ p1_ r71 x44 (x44.Op==4)
   else
    CN n p0_ p1_ r71 x44 (x44.Op==5)
def HF (n:Nat) (p0_:(List Am)) (i_11:Int):Option (Int⊕(Unit⊕Bool)):=
 if decide (i_11<((p0_.length:Nat):Int))=true then
  (OF n p0_ i_11).bind λ r76=>
  if (!r76)=true then
   some (.inr (.inr false))
  else
   some (.inl (Ai .i64 i_11 1))
 else
  some (.inr (.inl ()))
def Nz (n:Nat) (p0_:(List Am)):Option Bool:=
 (if (!((((p0_.length:Nat):Int)==0)||(decide (((p0_.length:Nat):Int)>200))))=true then Ln n p0_ 0 else some default).bind λ r75=>
 if (((((p0_.length:Nat):Int)==0)||(decide (((p0_.length:Nat):Int)>200)))||(r75 != ((p0_.length:Nat):Int)))=true then
  some false
 else
  (whl (λ (x:Int)=>HF n p0_ x) n 0).bind λ y56=>
  match y56 with
  | Sum.inl _=>
   some true
  | Sum.inr y58=>
   some y58
def CO (_:Nat) (rec101_:((List Am)->Int->Option Int)) (p0_:(List Am)) (r78:(List Int)) (out_7:Int) (k_9:Int):Option ((Int×Int)⊕Int):=
 if decide (k_9<((r78.length:Nat):Int))=true then
  (idx r78 k_9).bind λ x52=>
  (rec101_ p0_ x52).bind λ r79=>
  some (.inl ((if r79>out_7 then r79 else out_7),(Ai .i64 k_9 1)))
 else
  some (.inr out_7)
def BG (n:Nat) (rec101_:((List Am)->Int->Option Int)) (p0_:(List Am)) (p1_:Int):Option Int:=
 (Dn n p0_ p1_).bind λ r78=>
 (whl (λ (x:(Int×Int))=>CO n rec101_ p0_ r78 x.1 x.2) n (0,0)).bind λ y59=>
 some (Ai .i64 y59 1)
def OG (n:Nat) (p0_:(List Am)) (p1_:Int):Option Int:=
 J3 (λ _ _=>none) (BG n) n p0_ p1_
def TB (n:Nat) (p0_:(List Am)):Option Int:=
 (OG n p0_ 0).bind λ r80=>
 some r80
def Fg (n:Nat) (p0_:(List Am)):Option Bool:=
 (if decide (((p0_.length:Nat):Int)<=60)=true then Nz n p0_ else some default).bind λ r81=>
 (if ((decide (((p0_.length:Nat):Int)<=60))&&r81)=true then TB n p0_ else some default).bind λ r82=>
 some (((decide (((p0_.length:Nat):Int)<=60))&&r81)&&(decide (r82<=8)))
def Jm (_:Nat) (i_12:Int) (out_12:(List Am)):Option (((List Am)×Int)⊕(List Am)):=
 some (.inl (out_12,(Ai .i64 i_12 1)))
def En (n:Nat) (p0_:RH) (out_10:(List Am)) (i_12:Int) (k_10:(CB Int)):Option (((List Am)×Int)⊕(List Am)):=
 if ((Al p0_.Kind 4)==0)=true then
  (app 16 out_10 [({ Op:=0,N:=BV .i64 (IntKind.i64.wrap k_10.a0) (IntKind.i64.wrap k_10.a1) }:Am)]).bind λ l15=>
  Jm n i_12 l15
 else
  (Ff n k_10.a0 k_10.a1).bind λ r83=>
  (app 16 out_10 r83).bind λ l16=>
  Jm n i_12 l16
def Gy (n:Nat) (p0_:RH) (n_1:Int) (out_10:(List Am)) (i_12:Int):Option (((List Am)×Int)⊕(List Am)):=
 if decide (i_12<n_1)=true then
  if decide (i_12<((p0_.L.length:Nat):Int))=true then
   (idx p0_.L i_12).bind λ x53=>
   En n p0_ out_10 i_12 x53
  else
   En n p0_ out_10 i_12 ({ a0:=0,a1:=0 }:(CB Int))
 else
  some (.inr out_10)
def Do (n:Nat) (p0_:RH) (out_9:(List Am)) (n_1:Int):Option (List Am):=
 (whl (λ (x:((List Am)×Int))=>Gy n p0_ n_1 x.1 x.2) n (out_9,0)).bind λ y60=>
 (Fg n y60).bind λ r84=>
 if (!r84)=true then
  (Ff n 0 p0_.N).bind λ r85=>
  some r85
 else
  some y60
def Lp (n:Nat) (p0_:RH):Option (List Am):=
 if ((Al p0_.Kind 4)==0)=true then
  Do n p0_ [({ Op:=12,N:=AU .i64 (Ai .i64 3 (IntKind.i64.wrap (Al p0_.N 4))) 1 }:Am)] (Ai .i64 3 (IntKind.i64.wrap (Al p0_.N 4)))
 else
  if ((Al p0_.Kind 4)==1)=true then
   Do n p0_ [({ Op:=13,N:=Ai .i64 (BV .i64 8 (Ai .i64 1 (IntKind.i64.wrap (Al p0_.N 4)))) (Ai .i64 1 (IntKind.i64.wrap (Al (Dv .u8 p0_.N 4) 4))) }:Am)] (BV .i64 (Ai .i64 1 (IntKind.i64.wrap (Al p0_.N 4))) (Ai .i64 1 (IntKind.i64.wrap (Al (Dv .u8 p0_.N 4) 4))))
  else
   if ((Al p0_.Kind 4)==3)=true then
    (Ff n p0_.N (Dv .u8 p0_.N 8)).bind λ r86=>
    some r86
   else
    Do n p0_ [({ Op:=6,N:=0 }:Am)] 2
def DM (_:Nat) (p0_:(Wc Int)) (out_13:(List Aa)):Option Ax:=
 some ({ Kind:=Ai .i64 1 (IntKind.i64.wrap (Al p0_.a0 3)),Texture:=0,P:=out_13 }:Ax)
def DN (_:Nat) (p0_:(Wc Int)) (out_14:(List Aa)):Option Ax:=
 some ({ Kind:=Ai .i64 1 (IntKind.i64.wrap (Al p0_.a0 3)),Texture:=IntKind.i64.wrap (Al (Dv .u8 p0_.a0 3) 4),P:=out_14 }:Ax)
def Gz (n:Nat) (p0_:(Wc Int)) (p1_:Int) (p2_:Int):Option Ax:=
 (BJ (!(p1_==0))).bind λ _=>
 (BJ (!(p2_==0))).bind λ _=>
 if ((Ai .i64 1 (IntKind.i64.wrap (Al p0_.a0 3)))==1)=true then
  some ({ Kind:=Ai .i64 1 (IntKind.i64.wrap (Al p0_.a0 3)),Texture:=0,P:=[({ X:=Al (IntKind.i64.wrap p0_.a1) p1_,Y:=Al (IntKind.i64.wrap p0_.a2) p2_ }:Aa)] }:Ax)
 else
  if ((Ai .i64 1 (IntKind.i64.wrap (Al p0_.a0 3)))==2)=true then
   if ((Al p0_.a5 2)==1)=true then
    (app 16 [({ X:=Al (IntKind.i64.wrap p0_.a1) p1_,Y:=Al (IntKind.i64.wrap p0_.a2) p2_ }:Aa),({ X:=(if AU .i64 p1_ 1<Ai .i64 (Al (IntKind.i64.wrap p0_.a1) p1_) (Ai .i64 1 (Al (IntKind.i64.wrap p0_.a3) 8)) then AU .i64 p1_ 1 else Ai .i64 (Al (IntKind.i64.wrap p0_.a1) p1_) (Ai .i64 1 (Al (IntKind.i64.wrap p0_.a3) 8))),Y:=(if AU .i64 p2_ 1<Ai .i64 (Al (IntKind.i64.wrap p0_.a2) p2_) (Ai .i64 1 (Al (IntKind.i64.wrap p0_.a4) 8)) then AU .i64 p2_ 1 else Ai .i64 (Al (IntKind.i64.wrap p0_.a2) p2_) (Ai .i64 1 (Al (IntKind.i64.wrap p0_.a4) 8))) }:Aa)] [({ X:=Al (IntKind.i64.wrap p0_.a1) p1_,Y:=(if AU .i64 p2_ 1<Ai .i64 (Al (IntKind.i64.wrap p0_.a2) p2_) (Ai .i64 1 (Al (IntKind.i64.wrap p0_.a4) 8)) then AU .i64 p2_ 1 else Ai .i64 (Al (IntKind.i64.wrap p0_.a2) p2_) (Ai .i64 1 (Al (IntKind.i64.wrap p0_.a4) 8))) }:Aa)]).bind λ l17=>
    DM n p0_ l17
   else
    DM n p0_ [({ X:=Al (IntKind.i64.wrap p0_.a1) p1_,Y:=Al (IntKind.i64.wrap p0_.a2) p2_ }:Aa),({ X:=(if AU .i64 p1_ 1<Ai .i64 (Al (IntKind.i64.wrap p0_.a1) p1_) (Ai .i64 1 (Al (IntKind.i64.wrap p0_.a3) 8)) then AU .i64 p1_ 1 else Ai .i64 (Al (IntKind.i64.wrap p0_.a1) p1_) (Ai .i64 1 (Al (IntKind.i64.wrap p0_.a3) 8))),Y:=(if AU .i64 p2_ 1<Ai .i64 (Al (IntKind.i64.wrap p0_.a2) p2_) (Ai .i64 1 (Al (IntKind.i64.wrap p0_.a4) 8)) then AU .i64 p2_ 1 else Ai .i64 (Al (IntKind.i64.wrap p0_.a2) p2_) (Ai .i64 1 (Al (IntKind.i64.wrap p0_.a4) 8))) }:Aa)]
  else
   if ((Al p0_.a5 2)==1)=true then
    (app 16 [({ X:=Al (IntKind.i64.wrap p0_.a1) p1_,Y:=Al (IntKind.i64.wrap p0_.a2) p2_ }:Aa),({ X:=(if AU .i64 p1_ 1<Ai .i64 (Al (IntKind.i64.wrap p0_.a1) p1_) (Ai .i64 1 (Al (IntKind.i64.wrap p0_.a3) 8)) then AU .i64 p1_ 1 else Ai .i64 (Al (IntKind.i64.wrap p0_.a1) p1_) (Ai .i64 1 (Al (IntKind.i64.wrap p0_.a3) 8))),Y:=Al (IntKind.i64.wrap p0_.a2) p2_ }:Aa),({ X:=(if AU .i64 p1_ 1<Ai .i64 (Al (IntKind.i64.wrap p0_.a1) p1_) (Ai .i64 1 (Al (IntKind.i64.wrap p0_.a3) 8)) then AU .i64 p1_ 1 else Ai .i64 (Al (IntKind.i64.wrap p0_.a1) p1_) (Ai .i64 1 (Al (IntKind.i64.wrap p0_.a3) 8))),Y:=(if AU .i64 p2_ 1<Ai .i64 (Al (IntKind.i64.wrap p0_.a2) p2_) (Ai .i64 1 (Al (IntKind.i64.wrap p0_.a4) 8)) then AU .i64 p2_ 1 else Ai .i64 (Al (IntKind.i64.wrap p0_.a2) p2_) (Ai .i64 1 (Al (IntKind.i64.wrap p0_.a4) 8))) }:Aa)] [({ X:=Al (IntKind.i64.wrap p0_.a1) p1_,Y:=(if AU .i64 p2_ 1<Ai .i64 (Al (IntKind.i64.wrap p0_.a2) p2_) (Ai .i64 1 (Al (IntKind.i64.wrap p0_.a4) 8)) then AU .i64 p2_ 1 else Ai .i64 (Al (IntKind.i64.wrap p0_.a2) p2_) (Ai .i64 1 (Al (IntKind.i64.wrap p0_.a4) 8))) }:Aa)]).bind λ l18=>
    DN n p0_ l18
   else
    DN n p0_ [({ X:=Al (IntKind.i64.wrap p0_.a1) p1_,Y:=Al (IntKind.i64.wrap p0_.a2) p2_ }:Aa),({ X:=(if AU .i64 p1_ 1<Ai .i64 (Al (IntKind.i64.wrap p0_.a1) p1_) (Ai .i64 1 (Al (IntKind.i64.wrap p0_.a3) 8)) then AU .i64 p1_ 1 else Ai .i64 (Al (IntKind.i64.wrap p0_.a1) p1_) (Ai .i64 1 (Al (IntKind.i64.wrap p0_.a3) 8))),Y:=Al (IntKind.i64.wrap p0_.a2) p2_ }:Aa),({ X:=(if AU .i64 p1_ 1<Ai .i64 (Al (IntKind.i64.wrap p0_.a1) p1_) (Ai .i64 1 (Al (IntKind.i64.wrap p0_.a3) 8)) then AU .i64 p1_ 1 else Ai .i64 (Al (IntKind.i64.wrap p0_.a1) p1_) (Ai .i64 1 (Al (IntKind.i64.wrap p0_.a3) 8))),Y:=(if AU .i64 p2_ 1<Ai .i64 (Al (IntKind.i64.wrap p0_.a2) p2_) (Ai .i64 1 (Al (IntKind.i64.wrap p0_.a4) 8)) then AU .i64 p2_ 1 else Ai .i64 (Al (IntKind.i64.wrap p0_.a2) p2_) (Ai .i64 1 (Al (IntKind.i64.wrap p0_.a4) 8))) }:Aa)]
def GA (n:Nat) (p0_:Br) (p_1:Af) (i_13:Int):Option ((Af×Int)⊕Af):=
 if ((decide (i_13<((p0_.F.length:Nat):Int)))&&(decide (i_13<4)))=true then
  (idx p0_.F i_13).bind λ x54=>
  (Gz n x54 p_1.W p_1.H).bind λ r87=>
  (app 40 p_1.F [r87]).bind λ l19=>
  some (.inl (({ W:=p_1.W,H:=p_1.H,Gap:=p_1.Gap,F:=l19 }:Af),(Ai .i64 i_13 1)))
 else
  some (.inr p_1)
def Jn (_:Nat) (p_3:Af):Option Af:=
 some p_3
def Lq (n:Nat) (p0_:Br):Option Af:=
 (whl (λ (x:(Af×Int))=>GA n p0_ x.1 x.2) n (({ W:=Ai .i64 12 (BV .i64 2 (IntKind.i64.wrap (Al p0_.W 13))),H:=Ai .i64 12 (BV .i64 3 (IntKind.i64.wrap (Al p0_.H 9))),Gap:=Ai .i64 2 (IntKind.i64.wrap (Al p0_.Gap 3)),F:=([]:List Ax) }:Af),0)).bind λ y61=>
 if (((y61.F.length:Nat):Int)==0)=true then
  Jn n ({ W:=y61.W,H:=y61.H,Gap:=y61.Gap,F:=[({ Kind:=1,Texture:=0,P:=[({ X:=1,Y:=1 }:Aa)] }:Ax)] }:Af)
 else
  Jn n y61
def Ft (_:Nat) (p0_:Ax) (i_14:Int):Option (Int⊕(Unit⊕Bool)):=
 if decide (i_14<((p0_.P.length:Nat):Int))=true then
  (idx p0_.P i_14).bind λ x55=>
  if ((((decide (x55.X<0))||(decide (x55.Y<0)))||(decide (x55.X>=60)))||(decide (x55.Y>=60)))=true then
   some (.inr (.inr false))
  else
   some (.inl (Ai .i64 i_14 1))
 else
  some (.inr (.inl ()))
def MB (n:Nat) (p0_:Ax):Option Bool:=
 (whl (λ (x:Int)=>Ft n p0_ x) n 0).bind λ y62=>
 match y62 with
 | Sum.inl _=>
  if decide (((p0_.P.length:Nat):Int)>12)=true then
   some false
  else
   if (p0_.Kind==1)=true then
    some ((((p0_.P.length:Nat):Int)==1)&&(p0_.Texture==0))
   else
    if (p0_.Kind==2)=true then
     some ((decide (((p0_.P.length:Nat):Int)>=2))&&(p0_.Texture==0))
    else
     if (p0_.Kind==3)=true then
      some (((decide (((p0_.P.length:Nat):Int)>=3))&&(decide (p0_.Texture>=0)))&&(decide (p0_.Texture<=3)))
     else
      some false
 | Sum.inr y64=>
  some y64
def Iz (_:Nat) (p0_:(List Aa)) (p1_:Int):Option (Aa×Aa):=
 (idx p0_ p1_).bind λ x56=>
 (BJ (!(((p0_.length:Nat):Int)==0))).bind λ _=>
 (idx p0_ (Al (Ai .i64 p1_ 1) ((p0_.length:Nat):Int))).bind λ x57=>
 some (x56,x57)
def IA (_:Nat) (p0_:Int):Option Int:=
 some (if Jgp .i64 p0_>p0_ then Jgp .i64 p0_ else p0_)
def G0 (n:Nat) (p0_:Aa) (p1_:Aa):Option Int:=
 (IA n (AU .i64 p0_.X p1_.X)).bind λ r88=>
 (IA n (AU .i64 p0_.Y p1_.Y)).bind λ r89=>
 some (if r89>r88 then r89 else r88)
def Fu (_:Nat) (q_1:Int):Option Int:=
 some q_1
def G1 (n:Nat) (p0_:Int) (p1_:Int):Option Int:=
 (BJ (!(p1_==0))).bind λ _=>
 (BJ (!(p1_==0))).bind λ _=>
 if decide (Al p0_ p1_<0)=true then
  Fu n (AU .i64 (Dv .i64 p0_ p1_) 1)
 else
  Fu n (Dv .i64 p0_ p1_)
def GB (n:Nat) (p0_:Aa) (p1_:Aa) (r90:Int) (out_15:(List Aa)) (k_11:Int):Option (((List Aa)×Int)⊕(List Aa)):=
 if decide (k_11<=r90)=true then
  (G1 n (Ai .i64 (BV .i64 2 (Ai .i64 (BV .i64 p0_.X r90) (BV .i64 k_11 (AU .i64 p1_.X p0_.X)))) r90) (BV .i64 2 r90)).bind λ r91=>
  (G1 n (Ai .i64 (BV .i64 2 (Ai .i64 (BV .i64 p0_.Y r90) (BV .i64 k_11 (AU .i64 p1_.Y p0_.Y)))) r90) (BV .i64 2 r90)).bind λ r92=>
  (app 16 out_15 [({ X:=r91,Y:=r92 }:Aa)]).bind λ l20=>
  some (.inl (l20,(Ai .i64 k_11 1)))
 else
  some (.inr out_15)
def OH (n:Nat) (p0_:Aa) (p1_:Aa):Option (List Aa):=
 (G0 n p0_ p1_).bind λ r90=>
 if (r90==0)=true then
  some [p0_]
 else
  (whl (λ (x:((List Aa)×Int))=>GB n p0_ p1_ r90 x.1 x.2) n (([]:List Aa),0)).bind λ y65=>
  some y65
def Fv (n:Nat) (p0_:(List Aa)) (p1_:Int) (out_17:(List Aa)) (i_15:Int):Option (((List Aa)×Int)⊕(List Aa)):=
 if decide (i_15<p1_)=true then
  (Iz n p0_ i_15).bind λ r93=>
  (OH n r93.1 r93.2).bind λ r94=>
  (app 16 out_17 r94).bind λ l21=>
  some (.inl (l21,(Ai .i64 i_15 1)))
 else
  some (.inr out_17)
def Jo (n:Nat) (p0_:(List Aa)) (p1_:Int):Option (List Aa):=
 (whl (λ (x:((List Aa)×Int))=>Fv n p0_ p1_ x.1 x.2) n (([]:List Aa),0)).bind λ y66=>
 some y66
def Eo (_:Nat) (i_16:Int) (there_3:(List (List Bool))):Option (((List (List Bool))×Int)⊕(List (List Bool))):=
 some (.inl (there_3,(Ai .i64 i_16 1)))
def Ep (n:Nat) (p0_:(List Aa)) (there_1:(List (List Bool))) (i_16:Int):Option (((List (List Bool))×Int)⊕(List (List Bool))):=
 if decide (i_16<((p0_.length:Nat):Int))=true then
  (idx p0_ i_16).bind λ x58=>
  if ((((decide (x58.X>=0))&&(decide (x58.Y>=0)))&&(decide (x58.X<60)))&&(decide (x58.Y<60)))=true then
   (BJ (decide ((0:Int)<=x58.Y/\x58.Y<((60:Nat):Int)))).bind λ _=>
   (BJ (decide ((0:Int)<=x58.X/\x58.X<((60:Nat):Int)))).bind λ _=>
   (ZI there_1 x58.Y x58.X true).bind λ l22=>
   Eo n i_16 l22
  else
   Eo n i_16 there_1
 else
  some (.inr there_1)
def Er (_:Nat) (x_15:Int) (out_23:(List Aa)):Option (((List Aa)×Int)⊕(List Aa)):=
 some (.inl (out_23,(Ai .i64 x_15 1)))
def Es (n:Nat) (y67:(List (List Bool))) (y_1:Int) (out_21:(List Aa)) (x_15:Int):Option (((List Aa)×Int)⊕(List Aa)):=
 if decide (x_15<60)=true then
  (BJ (decide ((0:Int)<=y_1/\y_1<((60:Nat):Int)))).bind λ _=>
  (BJ (decide ((0:Int)<=x_15/\x_15<((60:Nat):Int)))).bind λ _=>
  (ZH y67 y_1 x_15).bind λ x59=>
  if x59=true then
   (app 16 out_21 [({ X:=x_15,Y:=y_1 }:Aa)]).bind λ l23=>
   Er n x_15 l23
  else
   Er n x_15 out_21
 else
  some (.inr out_21)
def Et (n:Nat) (y67:(List (List Bool))) (out_19:(List Aa)) (y_1:Int):Option (((List Aa)×Int)⊕(List Aa)):=
 if decide (y_1<60)=true then
  (whl (λ (x:((List Aa)×Int))=>Es n y67 y_1 x.1 x.2) n (out_19,0)).bind λ y68=>
  some (.inl (y68,(Ai .i64 y_1 1)))
 else
  some (.inr out_19)
def HG (n:Nat) (p0_:(List Aa)):Option (List Aa):=
 (whl (λ (x:((List (List Bool))×Int))=>Ep n p0_ x.1 x.2) n ((List.replicate 60 (List.replicate 60 (false:Bool))),0)).bind λ y67=>
 (whl (λ (x:((List Aa)×Int))=>Et n y67 x.1 x.2) n (([]:List Aa),0)).bind λ y69=>
 some y69
def GC (_:Nat) (p0_:Int) (p1_:Aa):Option Bool:=
 some (((p0_==3)||((p0_==2)&&((Al p1_.Y 2)==0)))||((p0_==1)&&((Al (Ai .i64 p1_.X p1_.Y) 2)==0)))
def OI (_:Nat) (p0_:Aa) (p1_:Aa) (p2_:Aa):Option Int:=
 some (AU .i64 (BV .i64 (AU .i64 p1_.X p0_.X) (AU .i64 p2_.Y p0_.Y)) (BV .i64 (AU .i64 p1_.Y p0_.Y) (AU .i64 p2_.X p0_.X)))
def QE (n:Nat) (p0_:Aa) (p1_:Aa) (p2_:Aa):Option Bool:=
 (OI n p0_ p1_ p2_).bind λ r95=>
 some (((((r95==0)&&(decide (p2_.X>=(if p1_.X<p0_.X then p1_.X else p0_.X))))&&(decide (p2_.X<=(if p1_.X>p0_.X then p1_.X else p0_.X))))&&(decide (p2_.Y>=(if p1_.Y<p0_.Y then p1_.Y else p0_.Y))))&&(decide (p2_.Y<=(if p1_.Y>p0_.Y then p1_.Y else p0_.Y))))
def HH (_:Nat) (p0_:Aa) (p1_:Aa) (p2_:Aa):Option Bool:=
 if ((decide (p0_.Y<=p2_.Y))==(decide (p1_.Y<=p2_.Y)))=true then
  some false
 else
  if decide (p1_.Y>p0_.Y)=true then
   some (decide (BV .i64 (AU .i64 p2_.X p0_.X) (AU .i64 p1_.Y p0_.Y)<BV .i64 (AU .i64 p2_.Y p0_.Y) (AU .i64 p1_.X p0_.X)))
  else
   some (decide (BV .i64 (AU .i64 p2_.X p0_.X) (AU .i64 p1_.Y p0_.Y)>BV .i64 (AU .i64 p2_.Y p0_.Y) (AU .i64 p1_.X p0_.X)))
def Eu (_:Nat) (i_17:Int) (odd_3:Bool):Option ((Bool×Int)⊕(Bool⊕Bool)):=
 some (.inl (odd_3,(Ai .i64 i_17 1)))
def Ew (n:Nat) (p0_:(List Aa)) (p1_:Aa) (odd_1:Bool) (i_17:Int):Option ((Bool×Int)⊕(Bool⊕Bool)):=
 if decide (i_17<((p0_.length:Nat):Int))=true then
  (Iz n p0_ i_17).bind λ r96=>
  (QE n r96.1 r96.2 p1_).bind λ r97=>
  if r97=true then
   some (.inr (.inr true))
  else
   (HH n r96.1 r96.2 p1_).bind λ r98=>
   if r98=true then
    Eu n i_17 (!odd_1)
   else
    Eu n i_17 odd_1
 else
  some (.inr (.inl odd_1))
def Kw (n:Nat) (p0_:(List Aa)) (p1_:Aa):Option Bool:=
 (whl (λ (x:(Bool×Int))=>Ew n p0_ p1_ x.1 x.2) n (false,0)).bind λ y70=>
 match y70 with
 | Sum.inl y71=>
  some y71
 | Sum.inr y72=>
  some y72
def Ey (_:Nat) (x_16:Int) (out_28:(List Aa)):Option (((List Aa)×Int)⊕(List Aa)):=
 some (.inl (out_28,(Ai .i64 x_16 1)))
def Ez (n:Nat) (p0_:Ax) (y_2:Int) (out_26:(List Aa)) (x_16:Int):Option (((List Aa)×Int)⊕(List Aa)):=
 if decide (x_16<60)=true then
  (GC n p0_.Texture ({ X:=x_16,Y:=y_2 }:Aa)).bind λ r102=>
  (if r102=true then Kw n p0_.P ({ X:=x_16,Y:=y_2 }:Aa) else some default).bind λ r103=>
  if (r102&&r103)=true then
   (app 16 out_26 [({ X:=x_16,Y:=y_2 }:Aa)]).bind λ l24=>
   Ey n x_16 l24
  else
   Ey n x_16 out_26
 else
  some (.inr out_26)
def EA (n:Nat) (p0_:Ax) (out_24:(List Aa)) (y_2:Int):Option (((List Aa)×Int)⊕(List Aa)):=
 if decide (y_2<60)=true then
  (whl (λ (x:((List Aa)×Int))=>Ez n p0_ y_2 x.1 x.2) n (out_24,0)).bind λ y73=>
  some (.inl (y73,(Ai .i64 y_2 1)))
 else
  some (.inr out_24)
def Dd (n:Nat) (p0_:Ax):Option (List Aa):=
 if (p0_.Kind==1)=true then
  some p0_.P
 else
  if (p0_.Kind==2)=true then
   (Jo n p0_.P (AU .i64 ((p0_.P.length:Nat):Int) 1)).bind λ r99=>
   (HG n r99).bind λ r100=>
   some r100
  else
   (Jo n p0_.P ((p0_.P.length:Nat):Int)).bind λ r101=>
   (whl (λ (x:((List Aa)×Int))=>EA n p0_ x.1 x.2) n (r101,0)).bind λ y74=>
   (HG n y74).bind λ r104=>
   some r104
def EB (_:Nat) (p0_:(List Aa)) (p1_:Int) (p2_:Int) (i_18:Int):Option (Int⊕(Unit⊕Bool)):=
 if decide (i_18<((p0_.length:Nat):Int))=true then
  (idx p0_ i_18).bind λ x60=>
  (if (!(decide (x60.X<0)))=true then idx p0_ i_18 else some default).bind λ x61=>
  (if (!((decide (x60.X<0))||(decide (x61.X>=p1_))))=true then idx p0_ i_18 else some default).bind λ x62=>
  (if (!(((decide (x60.X<0))||(decide (x61.X>=p1_)))||(decide (x62.Y<0))))=true then idx p0_ i_18 else some default).bind λ x63=>
  if ((((decide (x60.X<0))||(decide (x61.X>=p1_)))||(decide (x62.Y<0)))||(decide (x63.Y>=p2_)))=true then
   some (.inr (.inr false))
  else
   some (.inl (Ai .i64 i_18 1))
 else
  some (.inr (.inl ()))
def Kx (n:Nat) (p0_:(List Aa)) (p1_:Int) (p2_:Int):Option Bool:=
 (whl (λ (x:Int)=>EB n p0_ p1_ p2_ x) n 0).bind λ y75=>
 match y75 with
 | Sum.inl _=>
  some true
 | Sum.inr y77=>
  some y77
def Fw (n:Nat) (p0_:Af) (i_19:Int):Option (Int⊕(Unit⊕Bool)):=
 if decide (i_19<((p0_.F.length:Nat):Int))=true then
  (idx p0_.F i_19).bind λ x64=>
  (MB n x64).bind λ r105=>
  (if (!(!r105))=true then idx p0_.F i_19 else some default).bind λ x65=>
  (if (!(!r105))=true then Dd n x65 else some default).bind λ r106=>
  (if (!(!r105))=true then Kx n r106 p0_.W p0_.H else some default).bind λ r107=>
  if ((!r105)||(!r107))=true then
   some (.inr (.inr false))
  else
   some (.inl (Ai .i64 i_19 1))
 else
  some (.inr (.inl ()))
def Fh (n:Nat) (p0_:Af):Option Bool:=
 if ((((((((((decide (p0_.W<4))||(decide (p0_.W>60)))||((Al p0_.W 2) != 0))||(decide (p0_.H<3)))||(decide (p0_.H>60)))||((Al p0_.H 3) != 0))||(decide (p0_.Gap<2)))||(decide (p0_.Gap>6)))||(decide (((p0_.F.length:Nat):Int)<1)))||(decide (((p0_.F.length:Nat):Int)>8)))=true then
  some false
 else
  (whl (λ (x:Int)=>Fw n p0_ x) n 0).bind λ y78=>
  match y78 with
  | Sum.inl _=>
   some true
  | Sum.inr y80=>
   some y80
def EC (n:Nat) (p0_:Af) (out_29:(List (List Aa))) (i_20:Int):Option (((List (List Aa))×Int)⊕(List (List Aa))):=
 if decide (i_20<((p0_.F.length:Nat):Int))=true then
  (idx p0_.F i_20).bind λ x66=>
  (Dd n x66).bind λ r108=>
  (app 24 out_29 [r108]).bind λ l25=>
  some (.inl (l25,(Ai .i64 i_20 1)))
 else
  some (.inr out_29)
def FO (n:Nat) (p0_:Af):Option (List (List Aa)):=
 (whl (λ (x:((List (List Aa))×Int))=>EC n p0_ x.1 x.2) n (([]:List (List Aa)),0)).bind λ y81=>
 some y81
def CD (_:Nat) (k_12:Int) (out_35:Int):Option ((Int×Int)⊕Int):=
 some (.inl (out_35,(Ai .i64 k_12 1)))
def B7 (n:Nat) (p0_:(List Aa)) (p1_:(List Aa)) (i_21:Int) (out_33:Int) (k_12:Int):Option ((Int×Int)⊕Int):=
 if decide (k_12<((p1_.length:Nat):Int))=true then
  (idx p0_ i_21).bind λ x67=>
  (idx p1_ k_12).bind λ x68=>
  (G0 n x67 x68).bind λ r109=>
  if ((decide (out_33<0))||(decide (r109<out_33)))=true then
   CD n k_12 r109
  else
   CD n k_12 out_33
 else
  some (.inr out_33)
def B8 (n:Nat) (p0_:(List Aa)) (p1_:(List Aa)) (out_31:Int) (i_21:Int):Option ((Int×Int)⊕Int):=
 if decide (i_21<((p0_.length:Nat):Int))=true then
  (whl (λ (x:(Int×Int))=>B7 n p0_ p1_ i_21 x.1 x.2) n (out_31,0)).bind λ y82=>
  some (.inl (y82,(Ai .i64 i_21 1)))
 else
  some (.inr out_31)
def BC (n:Nat) (p0_:(List Aa)) (p1_:(List Aa)):Option Int:=
 (whl (λ (x:(Int×Int))=>B8 n p0_ p1_ x.1 x.2) n ((-1),0)).bind λ y83=>
 some y83
def C5 (n:Nat) (r111:(List (List Aa))) (_:(List (List Int))) (i_22:Int) (row_1:(List Int)) (k_13:Int):Option (((List Int)×Int)⊕(List Int)):=
 if decide (k_13<((r111.length:Nat):Int))=true then
  (idx r111 i_22).bind λ x69=>
  (idx r111 k_13).bind λ x70=>
  (BC n x69 x70).bind λ r112=>
  (app 8 row_1 [r112]).bind λ l26=>
  some (.inl (l26,(Ai .i64 k_13 1)))
 else
  some (.inr row_1)
def C6 (n:Nat) (r111:(List (List Aa))) (out_36:(List (List Int))) (i_22:Int):Option (((List (List Int))×Int)⊕(List (List Int))):=
 if decide (i_22<((r111.length:Nat):Int))=true then
  (whl (λ (x:((List Int)×Int))=>C5 n r111 out_36 i_22 x.1 x.2) n (([]:List Int),0)).bind λ y84=>
  (app 24 out_36 [y84]).bind λ l27=>
  some (.inl (l27,(Ai .i64 i_22 1)))
 else
  some (.inr out_36)
def G2 (n:Nat) (p0_:Af):Option (List (List Int)):=
 (Fh n p0_).bind λ r110=>
 if (!r110)=true then
  some []
 else
  (FO n p0_).bind λ r111=>
  (whl (λ (x:((List (List Int))×Int))=>C6 n r111 x.1 x.2) n (([]:List (List Int)),0)).bind λ y85=>
  some y85
def HI (_:Nat) (p0_:(List Aa)) (p1_:Aa) (i_23:Int):Option (Int⊕(Unit⊕Bool)):=
 if decide (i_23<((p0_.length:Nat):Int))=true then
  (idx p0_ i_23).bind λ x71=>
  if ((x71.X==p1_.X)&&((x71.Y==p1_.Y)&&true))=true then
   some (.inr (.inr true))
  else
   some (.inl (Ai .i64 i_23 1))
 else
  some (.inr (.inl ()))
def Ky (n:Nat) (p0_:(List Aa)) (p1_:Aa):Option Bool:=
 (whl (λ (x:Int)=>HI n p0_ p1_ x) n 0).bind λ y86=>
 match y86 with
 | Sum.inl _=>
  some false
 | Sum.inr y88=>
  some y88
def PT (_:Nat) (p0_:Aa) (p1_:Aa):Option Bool:=
 some ((decide (p0_.Y<p1_.Y))||((p0_.Y==p1_.Y)&&(decide (p0_.X<p1_.X))))
def G3 (_:Nat) (i_24:Int) (out_40:(List Aa)):Option (((List Aa)×Int)⊕(List Aa)):=
 some (.inl (out_40,(Ai .i64 i_24 1)))
def G4 (n:Nat) (p0_:(List Aa)) (out_38:(List Aa)) (i_24:Int) (at_2:Int):Option (Int⊕Int):=
 (if decide (at_2>0)=true then idx p0_ i_24 else some default).bind λ x73=>
 (if decide (at_2>0)=true then idx out_38 (AU .i64 at_2 1) else some default).bind λ x74=>
 (if decide (at_2>0)=true then PT n x73 x74 else some default).bind λ r114=>
 if ((decide (at_2>0))&&r114)=true then
  some (.inl (AU .i64 at_2 1))
 else
  some (.inr at_2)
def ED (n:Nat) (p0_:(List Aa)) (out_38:(List Aa)) (i_24:Int):Option (((List Aa)×Int)⊕(List Aa)):=
 if decide (i_24<((p0_.length:Nat):Int))=true then
  (idx p0_ i_24).bind λ x72=>
  (Ky n out_38 x72).bind λ r113=>
  if r113=true then
   G3 n i_24 out_38
  else
   (whl (λ (x:Int)=>G4 n p0_ out_38 i_24 x) n ((out_38.length:Nat):Int)).bind λ y89=>
   (sub out_38 y89 ((out_38.length:Nat):Int)).bind λ l28=>
   (app 16 ([]:List Aa) l28).bind λ l29=>
   (sub out_38 0 y89).bind λ l30=>
   (idx p0_ i_24).bind λ x75=>
   (app 16 l30 [x75]).bind λ l31=>
   (app 16 l31 l29).bind λ l32=>
   G3 n i_24 l32
 else
  some (.inr out_38)
def HJ (n:Nat) (p0_:(List Aa)):Option (List Aa):=
 (whl (λ (x:((List Aa)×Int))=>ED n p0_ x.1 x.2) n (([]:List Aa),0)).bind λ y90=>
 some y90
def Fi (_:Nat) (i_25:Int) (one_5:(List Aa)) (grown_4:Bool):Option (((List Aa)×Bool×Int)⊕((List Aa)×Bool)):=
 some (.inl (one_5,grown_4,(Ai .i64 i_25 1)))
def Dp (n:Nat) (p1_:Int) (rest_1:(List Aa)) (_:(List (List Aa))) (one_3:(List Aa)) (grown_2:Bool) (i_25:Int):Option (((List Aa)×Bool×Int)⊕((List Aa)×Bool)):=
 if decide (i_25<((rest_1.length:Nat):Int))=true then
  (idx rest_1 i_25).bind λ x77=>
  (Ky n one_3 x77).bind λ r116=>
  (if (!r116)=true then sub rest_1 i_25 (Ai .i64 i_25 1) else some default).bind λ l33=>
  (if (!r116)=true then BC n one_3 l33 else some default).bind λ r117=>
  if ((!r116)&&(decide (r117<=p1_)))=true then
   (idx rest_1 i_25).bind λ x78=>
   (app 16 one_3 [x78]).bind λ l34=>
   Fi n i_25 l34 true
  else
   Fi n i_25 one_3 grown_2
 else
  some (.inr (one_3,grown_2))
def Fj (n:Nat) (p1_:Int) (rest_1:(List Aa)) (out_41:(List (List Aa))) (one_1:(List Aa)) (grown_1:Bool):Option (((List Aa)×Bool)⊕(List Aa)):=
 if grown_1=true then
  (whl (λ (x:((List Aa)×Bool×Int))=>Dp n p1_ rest_1 out_41 x.1 x.2.1 x.2.2) n (one_1,false,0)).bind λ y91=>
  some (.inl (y91.1,y91.2))
 else
  some (.inr one_1)
def Fk (_:Nat) (i_26:Int) (left_3:(List Aa)):Option (((List Aa)×Int)⊕(List Aa)):=
 some (.inl (left_3,(Ai .i64 i_26 1)))
def Dq (n:Nat) (_:Int) (rest_1:(List Aa)) (_:(List (List Aa))) (y92:(List Aa)) (left_1:(List Aa)) (i_26:Int):Option (((List Aa)×Int)⊕(List Aa)):=
 if decide (i_26<((rest_1.length:Nat):Int))=true then
  (idx rest_1 i_26).bind λ x79=>
  (Ky n y92 x79).bind λ r118=>
  if (!r118)=true then
   (idx rest_1 i_26).bind λ x80=>
   (app 16 left_1 [x80]).bind λ l35=>
   Fk n i_26 l35
  else
   Fk n i_26 left_1
 else
  some (.inr left_1)
def Fl (n:Nat) (p1_:Int) (rest_1:(List Aa)) (out_41:(List (List Aa))):Option (((List Aa)×(List (List Aa)))⊕(List (List Aa))):=
 if decide (((rest_1.length:Nat):Int)>0)=true then
  (idx rest_1 0).bind λ x76=>
  (whl (λ (x:((List Aa)×Bool))=>Fj n p1_ rest_1 out_41 x.1 x.2) n ([x76],true)).bind λ y92=>
  (whl (λ (x:((List Aa)×Int))=>Dq n p1_ rest_1 out_41 y92 x.1 x.2) n (([]:List Aa),0)).bind λ y93=>
  (HJ n y92).bind λ r119=>
  (app 24 out_41 [r119]).bind λ l36=>
  some (.inl (y93,l36))
 else
  some (.inr out_41)
def H9 (n:Nat) (p0_:(List Aa)) (p1_:Int):Option (List (List Aa)):=
 (HJ n p0_).bind λ r115=>
 (whl (λ (x:((List Aa)×(List (List Aa))))=>Fl n p1_ x.1 x.2) n (r115,([]:List (List Aa)))).bind λ y94=>
 some y94
def Fx (n:Nat) (p0_:Af) (r121:(List (List Aa))) (_:(List (List Int))) (i_27:Int):Option (Int⊕(Unit⊕Cm)):=
 if decide (i_27<((r121.length:Nat):Int))=true then
  (idx r121 i_27).bind λ x81=>
  (H9 n x81 p0_.Gap).bind λ r123=>
  if (((r123.length:Nat):Int) != 1)=true then
   some (.inr (.inr ({ I:=i_27,J:=i_27,E:=130 }:Cm)))
  else
   some (.inl (Ai .i64 i_27 1))
 else
  some (.inr (.inl ()))
def Ia (_:Nat) (p0_:Af) (r121:(List (List Aa))) (r122:(List (List Int))) (i_28:Int) (k_14:Int):Option (Int⊕(Unit⊕Cm)):=
 if decide (k_14<((r121.length:Nat):Int))=true then
  (idx r122 i_28).bind λ x82=>
  (idx x82 k_14).bind λ x83=>
  if decide (x83<=p0_.Gap)=true then
   some (.inr (.inr ({ I:=i_28,J:=k_14,E:=140 }:Cm)))
  else
   some (.inl (Ai .i64 k_14 1))
 else
  some (.inr (.inl ()))
def DD (n:Nat) (p0_:Af) (r121:(List (List Aa))) (r122:(List (List Int))) (i_28:Int):Option (Int⊕(Unit⊕Cm)):=
 if decide (i_28<((r121.length:Nat):Int))=true then
  (whl (λ (x:Int)=>Ia n p0_ r121 r122 i_28 x) n (Ai .i64 i_28 1)).bind λ y98=>
  match y98 with
  | Sum.inl _=>
   some (.inl (Ai .i64 i_28 1))
  | Sum.inr y100=>
   some (.inr (.inr y100))
 else
  some (.inr (.inl ()))
def MC (n:Nat) (p0_:Af):Option Cm:=
 (Fh n p0_).bind λ r120=>
 if (!r120)=true then
  some ({ I:=0,J:=0,E:=1 }:Cm)
 else
  (FO n p0_).bind λ r121=>
  (G2 n p0_).bind λ r122=>
  (whl (λ (x:Int)=>Fx n p0_ r121 r122 x) n 0).bind λ y95=>
  match y95 with
  | Sum.inl _=>
   (whl (λ (x:Int)=>DD n p0_ r121 r122 x) n 0).bind λ y101=>
   match y101 with
   | Sum.inl _=>
    some ({ I:=0,J:=0,E:=0 }:Cm)
   | Sum.inr y103=>
    some y103
  | Sum.inr y97=>
   some y97
def Fm (_:Nat) (p0_:Int):Option (List Int):=
 (idx [1,3,9,25,17,11,27,19] p0_).bind λ x84=>
 some [60,x84]
def De (_:Nat) (k_15:Int) (out_47:(List Aa)):Option (((List Aa)×Int)⊕(List Aa)):=
 some (.inl (out_47,(Ai .i64 k_15 1)))
def CE (n:Nat) (p1_:Aa) (r124:(List Int)) (r_1:Int) (out_45:(List Aa)) (k_15:Int):Option (((List Aa)×Int)⊕(List Aa)):=
 if decide (k_15<4)=true then
  (idx r124 (Dv .i64 k_15 2)).bind λ x85=>
  (BJ (decide (0<=(Ai .i64 (BV .i64 3 (Al k_15 2)) r_1)))).bind λ _=>
  if ((Ei .u8 (JlF .u8 x85 (Ai .i64 (BV .i64 3 (Al k_15 2)) r_1)) 1)==1)=true then
   (app 16 out_45 [({ X:=Ai .i64 (BV .i64 2 p1_.X) k_15,Y:=Ai .i64 (BV .i64 3 p1_.Y) r_1 }:Aa)]).bind λ l37=>
   De n k_15 l37
  else
   De n k_15 out_45
 else
  some (.inr out_45)
def CF (n:Nat) (p1_:Aa) (r124:(List Int)) (out_43:(List Aa)) (r_1:Int):Option (((List Aa)×Int)⊕(List Aa)):=
 if decide (r_1<3)=true then
  (whl (λ (x:((List Aa)×Int))=>CE n p1_ r124 r_1 x.1 x.2) n (out_43,0)).bind λ y104=>
  some (.inl (y104,(Ai .i64 r_1 1)))
 else
  some (.inr out_43)
def Co (n:Nat) (p0_:Int) (p1_:Aa):Option (List Aa):=
 (Fm n p0_).bind λ r124=>
 (whl (λ (x:((List Aa)×Int))=>CF n p1_ r124 x.1 x.2) n (([]:List Aa),0)).bind λ y105=>
 some y105
def GD (n:Nat) (p0_:Af) (_:Int) (r125:(List (List Aa))) (r126:(List Aa)) (k_16:Int):Option (Int⊕(Unit⊕Bool)):=
 if decide (k_16<((r125.length:Nat):Int))=true then
  (idx r125 k_16).bind λ x86=>
  (BC n r126 x86).bind λ r127=>
  if decide (r127<=p0_.Gap)=true then
   some (.inr (.inr false))
  else
   some (.inl (Ai .i64 k_16 1))
 else
  some (.inr (.inl ()))
def OJ (n:Nat) (p0_:Af) (p1_:Int) (p2_:Aa):Option Bool:=
 if ((((((decide (p2_.X<0))||(decide (p2_.Y<0)))||(decide (p2_.X>60)))||(decide (p2_.Y>60)))||(decide (BV .i64 2 (Ai .i64 p2_.X 2)>p0_.W)))||(decide (BV .i64 3 (Ai .i64 p2_.Y 1)>p0_.H)))=true then
  some false
 else
  (FO n p0_).bind λ r125=>
  (Co n p1_ p2_).bind λ r126=>
  (whl (λ (x:Int)=>GD n p0_ p1_ r125 r126 x) n 0).bind λ y106=>
  match y106 with
  | Sum.inl _=>
   (idx r125 p1_).bind λ x87=>
   (BC n r126 x87).bind λ r128=>
   some (decide (r128<=BV .i64 3 p0_.Gap))
  | Sum.inr y108=>
   some y108
def D0 (_:Nat) (x_17:Int) (out_52:(List Aa)):Option (((List Aa)×Int)⊕(List Aa)):=
 some (.inl (out_52,(Ai .i64 x_17 1)))
def D1 (n:Nat) (p0_:Af) (p1_:Int) (y_3:Int) (out_50:(List Aa)) (x_17:Int):Option (((List Aa)×Int)⊕(List Aa)):=
 if decide (BV .i64 2 (Ai .i64 x_17 2)<=p0_.W)=true then
  (OJ n p0_ p1_ ({ X:=x_17,Y:=y_3 }:Aa)).bind λ r129=>
  if r129=true then
   (app 16 out_50 [({ X:=x_17,Y:=y_3 }:Aa)]).bind λ l38=>
   D0 n x_17 l38
  else
   D0 n x_17 out_50
 else
  some (.inr out_50)
def D2 (n:Nat) (p0_:Af) (p1_:Int) (out_48:(List Aa)) (y_3:Int):Option (((List Aa)×Int)⊕(List Aa)):=
 if decide (BV .i64 3 (Ai .i64 y_3 1)<=p0_.H)=true then
  (whl (λ (x:((List Aa)×Int))=>D1 n p0_ p1_ y_3 x.1 x.2) n (out_48,0)).bind λ y109=>
  some (.inl (y109,(Ai .i64 y_3 1)))
 else
  some (.inr out_48)
def F5 (n:Nat) (p0_:Af) (p1_:Int):Option (List Aa):=
 (whl (λ (x:((List Aa)×Int))=>D2 n p0_ p1_ x.1 x.2) n (([]:List Aa),0)).bind λ y110=>
 some y110
def CG (_:Nat) (n_4:Int):Option (Int⊕(Unit⊕(List Aa))):=
 some (.inl (Ai .i64 n_4 1))
def B9 (n:Nat) (p0_:Af) (o0_:(List Aa)) (o1_:(List (List Aa))) (n_4:Int) (free_5:Bool) (k_19:Int):Option ((Bool×Int)⊕Bool):=
 if decide (k_19<((o0_.length:Nat):Int))=true then
  (if free_5=true then idx o1_ ((o0_.length:Nat):Int) else some default).bind λ x101=>
  (if free_5=true then idx x101 n_4 else some default).bind λ x102=>
  (if free_5=true then Co n ((o0_.length:Nat):Int) x102 else some default).bind λ r138=>
  (if free_5=true then idx o0_ k_19 else some default).bind λ x103=>
  (if free_5=true then Co n k_19 x103 else some default).bind λ r139=>
  (if free_5=true then BC n r138 r139 else some default).bind λ r140=>
  some (.inl ((free_5&&(decide (r140>p0_.Gap))),(Ai .i64 k_19 1)))
 else
  some (.inr free_5)
def BN (n:Nat) (rec98k1_:(Af->(List Aa)->(List (List Aa))->Option (List Aa))) (p0_:Af) (o0_:(List Aa)) (o1_:(List (List Aa))) (n_4:Int):Option (Int⊕(Unit⊕(List Aa))):=
 (idx o1_ ((o0_.length:Nat):Int)).bind λ x100=>
 if decide (n_4<((x100.length:Nat):Int))=true then
  (whl (λ (x:(Bool×Int))=>B9 n p0_ o0_ o1_ n_4 x.1 x.2) n (true,0)).bind λ y119=>
  if (!y119)=true then
   CG n n_4
  else
   (app 16 ([]:List Aa) o0_).bind λ l43=>
   (idx o1_ ((o0_.length:Nat):Int)).bind λ x104=>
   (idx x104 n_4).bind λ x105=>
   (app 16 l43 [x105]).bind λ l44=>
   (rec98k1_ p0_ l44 o1_).bind λ r141=>
   if (((r141.length:Nat):Int)==((o1_.length:Nat):Int))=true then
    some (.inr (.inr r141))
   else
    CG n n_4
 else
  some (.inr (.inl ()))
def A7 (n:Nat) (rec98k1_:(Af->(List Aa)->(List (List Aa))->Option (List Aa))) (p0_:Af) (o0_:(List Aa)) (o1_:(List (List Aa))):Option (List Aa):=
 if (((o0_.length:Nat):Int)==((o1_.length:Nat):Int))=true then
  some o0_
 else
  (whl (λ (x:Int)=>BN n rec98k1_ p0_ o0_ o1_ x) n 0).bind λ y120=>
  match y120 with
  | Sum.inl _=>
   some ([]:List Aa)
  | Sum.inr y122=>
   some y122
def Ib (n:Nat) (p0_:Af) (o0_:(List Aa)) (o1_:(List (List Aa))):Option (List Aa):=
 J3 (λ _ _ _=>none) (A7 n) n p0_ o0_ o1_
def EE (_:Nat) (n_5:Int):Option (Int⊕(Unit⊕(List Aa))):=
 some (.inl (Ai .i64 n_5 1))
def EF (n:Nat) (p0_:Af) (o0_:(List (List Aa))) (n_5:Int) (free_7:Bool) (k_20:Int):Option ((Bool×Int)⊕Bool):=
 if decide (k_20<0)=true then
  (if free_7=true then idx o0_ 0 else some default).bind λ x107=>
  (if free_7=true then idx x107 n_5 else some default).bind λ x108=>
  (if free_7=true then Co n 0 x108 else some default).bind λ r142=>
  (if free_7=true then idx ([]:List Aa) k_20 else some default).bind λ x109=>
  (if free_7=true then Co n k_20 x109 else some default).bind λ r143=>
  (if free_7=true then BC n r142 r143 else some default).bind λ r144=>
  some (.inl ((free_7&&(decide (r144>p0_.Gap))),(Ai .i64 k_20 1)))
 else
  some (.inr free_7)
def C7 (n:Nat) (p0_:Af) (o0_:(List (List Aa))) (n_5:Int):Option (Int⊕(Unit⊕(List Aa))):=
 (idx o0_ 0).bind λ x106=>
 if decide (n_5<((x106.length:Nat):Int))=true then
  (whl (λ (x:(Bool×Int))=>EF n p0_ o0_ n_5 x.1 x.2) n (true,0)).bind λ y123=>
  if (!y123)=true then
   EE n n_5
  else
   (app 16 ([]:List Aa) ([]:List Aa)).bind λ l45=>
   (idx o0_ 0).bind λ x110=>
   (idx x110 n_5).bind λ x111=>
   (app 16 l45 [x111]).bind λ l46=>
   (Ib n p0_ l46 o0_).bind λ r145=>
   if (((r145.length:Nat):Int)==((o0_.length:Nat):Int))=true then
    some (.inr (.inr r145))
   else
    EE n n_5
 else
  some (.inr (.inl ()))
def Ca (n:Nat) (_:(Af->(List (List Aa))->Option (List Aa))) (p0_:Af) (o0_:(List (List Aa))):Option (List Aa):=
 if (0==((o0_.length:Nat):Int))=true then
  some ([]:List Aa)
 else
  (whl (λ (x:Int)=>C7 n p0_ o0_ x) n 0).bind λ y124=>
  match y124 with
  | Sum.inl _=>
   some ([]:List Aa)
  | Sum.inr y126=>
   some y126
def G5 (n:Nat) (p0_:Af) (o0_:(List (List Aa))):Option (List Aa):=
 J3 (λ _ _=>none) (Ca n) n p0_ o0_
def Fy (n:Nat) (p0_:Af) (all_1:(List (List Aa))) (best_1:(List Aa)) (i_29:Int):Option (((List (List Aa))×(List Aa)×Int)⊕((List Aa)⊕Jl)):=
 if decide (i_29<((p0_.F.length:Nat):Int))=true then
  (F5 n p0_ i_29).bind λ r146=>
  (app 24 all_1 [r146]).bind λ l47=>
  (G5 n p0_ l47).bind λ r147=>
  if decide (((r147.length:Nat):Int)<=i_29)=true then
   some (.inr (.inr ({ L:=[],At:=i_29,E:=150 }:Jl)))
  else
   some (.inl (l47,r147,(Ai .i64 i_29 1)))
 else
  some (.inr (.inl best_1))
def MD (n:Nat) (p0_:Af):Option Jl:=
 (whl (λ (x:((List (List Aa))×(List Aa)×Int))=>Fy n p0_ x.1 x.2.1 x.2.2) n (([]:List (List Aa)),([]:List Aa),0)).bind λ y127=>
 match y127 with
 | Sum.inl y128=>
  some ({ L:=y128,At:=((y128.length:Nat):Int),E:=0 }:Jl)
 | Sum.inr y129=>
  some y129
def D9 (n:Nat) (p0_:Af):Option Bool:=
 (MC n p0_).bind λ r148=>
 if (r148.E != 0)=true then
  some false
 else
  (MD n p0_).bind λ r149=>
  some (r149.E==0)
def Fz (_:Nat) (r150:(List UInt8)):Option Ag:=
 some ({ Kind:=1,Level:=0,Text:=r150,Rows:=[],F:=[],Pic:=({ W:=0,H:=0,Gap:=0,F:=[] }:Af),Page:=0 }:Ag)
def FA (n:Nat) (p0_:Bd) (p1_:(List UInt8)) (_:Ag) (i_30:Int) (row_3:(List (List UInt8))) (k_21:Int):Option (((List (List UInt8))×Int)⊕(List (List UInt8))):=
 if decide (k_21<Ai .i64 1 (IntKind.i64.wrap (Al p0_.N 3)))=true then
  (sub p0_.T (if ((p0_.T.length:Nat):Int)<BV .i64 2 (Ai .i64 i_30 k_21) then ((p0_.T.length:Nat):Int) else BV .i64 2 (Ai .i64 i_30 k_21)) ((p0_.T.length:Nat):Int)).bind λ l48=>
  (Iy n l48 4 p1_).bind λ r151=>
  (app 16 row_3 [r151]).bind λ l49=>
  some (.inl (l49,(Ai .i64 k_21 1)))
 else
  some (.inr row_3)
def FB (n:Nat) (p0_:Bd) (p1_:(List UInt8)) (out_53:Ag) (i_30:Int):Option ((Ag×Int)⊕Ag):=
 if decide (i_30<Ai .i64 1 (IntKind.i64.wrap (Al (Dv .u8 p0_.N 4) 3)))=true then
  (whl (λ (x:((List (List UInt8))×Int))=>FA n p0_ p1_ out_53 i_30 x.1 x.2) n (([]:List (List UInt8)),0)).bind λ y130=>
  (app 24 out_53.Rows [y130]).bind λ l50=>
  some (.inl (({ Kind:=out_53.Kind,Level:=out_53.Level,Text:=out_53.Text,Rows:=l50,F:=out_53.F,Pic:=out_53.Pic,Page:=out_53.Page }:Ag),(Ai .i64 i_30 1)))
 else
  some (.inr out_53)
def DE (n:Nat) (p0_:Bd) (r150:(List UInt8)) (x_27:Bool):Option Ag:=
 if x_27=true then
  some ({ Kind:=4,Level:=0,Text:=r150,Rows:=[],F:=[],Pic:=({ W:=0,H:=0,Gap:=0,F:=[] }:Af),Page:=0 }:Ag)
 else
  if ((Al p0_.Kind 9)==5)=true then
   (Lp n p0_.F).bind λ r152=>
   some ({ Kind:=5,Level:=0,Text:=[],Rows:=[],F:=r152,Pic:=({ W:=0,H:=0,Gap:=0,F:=[] }:Af),Page:=0 }:Ag)
  else
   if ((Al p0_.Kind 9)==6)=true then
    (sub p0_.P.F 0 (if 2<((p0_.P.F.length:Nat):Int) then 2 else ((p0_.P.F.length:Nat):Int))).bind λ l51=>
    (Lq n ({ W:=p0_.P.W,H:=p0_.P.H,Gap:=p0_.P.Gap,F:=l51 }:Br)).bind λ r153=>
    (D9 n r153).bind λ r154=>
    if r154=true then
     some ({ Kind:=6,Level:=0,Text:=[],Rows:=[],F:=[],Pic:=r153,Page:=0 }:Ag)
    else
     Fz n r150
   else
    if ((Al p0_.Kind 9)==7)=true then
     some ({ Kind:=7,Level:=0,Text:=[],Rows:=[],F:=[],Pic:=({ W:=0,H:=0,Gap:=0,F:=[] }:Af),Page:=Ai .i64 1 (IntKind.i64.wrap p0_.N) }:Ag)
    else
     Fz n r150
def ME (n:Nat) (p0_:Bd) (p1_:(List UInt8)):Option Ag:=
 (Iy n p0_.T 12 p1_).bind λ r150=>
 if ((Al p0_.Kind 9)==1)=true then
  some ({ Kind:=2,Level:=Ai .i64 1 (IntKind.i64.wrap (Al p0_.N 3)),Text:=r150,Rows:=[],F:=[],Pic:=({ W:=0,H:=0,Gap:=0,F:=[] }:Af),Page:=0 }:Ag)
 else
  if ((Al p0_.Kind 9)==2)=true then
   (whl (λ (x:(Ag×Int))=>FB n p0_ p1_ x.1 x.2) n (({ Kind:=3,Level:=0,Text:=[],Rows:=([]:List (List (List UInt8))),F:=([]:List Am),Pic:=({ W:=0,H:=0,Gap:=0,F:=([]:List Ax) }:Af),Page:=0 }:Ag),0)).bind λ y131=>
   some y131
  else
   if ((Al p0_.Kind 9)==3)=true then
    DE n p0_ r150 ((Al p0_.Kind 9)==3)
   else
    DE n p0_ r150 ((Al p0_.Kind 9)==4)
def Kz (_:Nat) (p0_:Af):Option Bool:=
 some ((((p0_.W==0)&&(p0_.H==0))&&(p0_.Gap==0))&&(((p0_.F.length:Nat):Int)==0))
def Ic (_:Nat) (p0_:Int):Option Bool:=
 some ((decide (Ei .u8 p0_ 127>=32))&&(decide (Ei .u8 p0_ 127<=126)))
end Go.AI
end
section
namespace Go.AI
def HK (n:Nat) (p0_:(List UInt8)) (i_31:Int):Option (Int⊕(Unit⊕(Int×Int))):=
 if decide (i_31<((p0_.length:Nat):Int))=true then
  (Jj p0_ i_31).bind λ b6=>
  (Ic n b6).bind λ r155=>
  if (!r155)=true then
   some (.inr (.inr (i_31,60)))
  else
   some (.inl (Ai .i64 i_31 1))
 else
  some (.inr (.inl ()))
def NA (n:Nat) (p0_:(List UInt8)):Option (Int×Int):=
 (whl (λ (x:Int)=>HK n p0_ x) n 0).bind λ y132=>
 match y132 with
 | Sum.inl _=>
  some (((p0_.length:Nat):Int),0)
 | Sum.inr y134=>
  some y134
def Jp (n:Nat) (p0_:(List UInt8)):Option Bool:=
 (NA n p0_).bind λ r156=>
 some (r156.2==0)
def GM (_:Nat) (p0_:Int):Option Bool:=
 some ((Ei .u8 p0_ 127)==32)
def Jq (n:Nat) (p0_:(List UInt8)) (i_32:Int):Option (Int⊕(Unit⊕Bool)):=
 if decide (i_32<((p0_.length:Nat):Int))=true then
  (Jj p0_ i_32).bind λ b9=>
  (GM n b9).bind λ r160=>
  (if r160=true then Jj p0_ (AU .i64 i_32 1) else some default).bind λ b10=>
  (if r160=true then GM n b10 else some default).bind λ r161=>
  if (r160&&r161)=true then
   some (.inr (.inr false))
  else
   some (.inl (Ai .i64 i_32 1))
 else
  some (.inr (.inl ()))
def GN (n:Nat) (p0_:(List UInt8)):Option Bool:=
 (Jp n p0_).bind λ r157=>
 (if (!(((!r157)||(((p0_.length:Nat):Int)==0))||(decide (((p0_.length:Nat):Int)>400))))=true then Jj p0_ 0 else some default).bind λ b7=>
 (if (!(((!r157)||(((p0_.length:Nat):Int)==0))||(decide (((p0_.length:Nat):Int)>400))))=true then GM n b7 else some default).bind λ r158=>
 (if (!((((!r157)||(((p0_.length:Nat):Int)==0))||(decide (((p0_.length:Nat):Int)>400)))||r158))=true then Jj p0_ (AU .i64 ((p0_.length:Nat):Int) 1) else some default).bind λ b8=>
 (if (!((((!r157)||(((p0_.length:Nat):Int)==0))||(decide (((p0_.length:Nat):Int)>400)))||r158))=true then GM n b8 else some default).bind λ r159=>
 if (((((!r157)||(((p0_.length:Nat):Int)==0))||(decide (((p0_.length:Nat):Int)>400)))||r158)||r159)=true then
  some false
 else
  (whl (λ (x:Int)=>Jq n p0_ x) n 1).bind λ y135=>
  match y135 with
  | Sum.inl _=>
   some true
  | Sum.inr y137=>
   some y137
def DO (n:Nat) (p0_:(List (List (List UInt8)))) (i_33:Int) (k_22:Int):Option (Int⊕(Unit⊕Bool)):=
 (idx p0_ i_33).bind λ x116=>
 if decide (k_22<((x116.length:Nat):Int))=true then
  (idx p0_ i_33).bind λ x117=>
  (idx x117 k_22).bind λ x118=>
  (GN n x118).bind λ r162=>
  (if (!(!r162))=true then idx p0_ i_33 else some default).bind λ x119=>
  (if (!(!r162))=true then idx x119 k_22 else some default).bind λ x120=>
  if ((!r162)||(decide (((x120.length:Nat):Int)>40)))=true then
   some (.inr (.inr false))
  else
   some (.inl (Ai .i64 k_22 1))
 else
  some (.inr (.inl ()))
def DP (n:Nat) (p0_:(List (List (List UInt8)))) (i_33:Int):Option (Int⊕(Unit⊕Bool)):=
 if decide (i_33<((p0_.length:Nat):Int))=true then
  (idx p0_ i_33).bind λ x112=>
  (idx p0_ 0).bind λ x113=>
  (if (!(((x112.length:Nat):Int) != ((x113.length:Nat):Int)))=true then idx p0_ i_33 else some default).bind λ x114=>
  (if (!((((x112.length:Nat):Int) != ((x113.length:Nat):Int))||(decide (((x114.length:Nat):Int)<1))))=true then idx p0_ i_33 else some default).bind λ x115=>
  if (((((x112.length:Nat):Int) != ((x113.length:Nat):Int))||(decide (((x114.length:Nat):Int)<1)))||(decide (((x115.length:Nat):Int)>4)))=true then
   some (.inr (.inr false))
  else
   (whl (λ (x:Int)=>DO n p0_ i_33 x) n 0).bind λ y138=>
   match y138 with
   | Sum.inl _=>
    some (.inl (Ai .i64 i_33 1))
   | Sum.inr y140=>
    some (.inr (.inr y140))
 else
  some (.inr (.inl ()))
def EG (n:Nat) (p0_:(List (List (List UInt8)))):Option Bool:=
 if ((decide (((p0_.length:Nat):Int)<1))||(decide (((p0_.length:Nat):Int)>6)))=true then
  some false
 else
  (whl (λ (x:Int)=>DP n p0_ x) n 0).bind λ y141=>
  match y141 with
  | Sum.inl _=>
   some true
  | Sum.inr y143=>
   some y143
def B4 (_:Nat) (text_1:Bool) (level_1:Bool) (rows_1:Bool) (tree_1:Bool) (picture_1:Bool) (page_1:Bool):Option Bool:=
 some (((((text_1&&level_1)&&rows_1)&&tree_1)&&picture_1)&&page_1)
def FC (_:Nat) (p0_:(List Ag)) (p1_:Int) (x121:Ag) (_:Bool) (page_2:Bool) (k_23:Int):Option ((Bool×Int)⊕Bool):=
 if decide (k_23<p1_)=true then
  (if page_2=true then idx p0_ k_23 else some default).bind λ x124=>
  (if (page_2&&!(x124.Kind != 7))=true then idx p0_ k_23 else some default).bind λ x125=>
  some (.inl ((page_2&&((x124.Kind != 7)||(decide (x125.Page<x121.Page)))),(Ai .i64 k_23 1)))
 else
  some (.inr page_2)
def MF (n:Nat) (p0_:(List Ag)) (p1_:Int):Option Bool:=
 (idx p0_ p1_).bind λ x121=>
 (Kz n x121.Pic).bind λ r163=>
 if (x121.Kind==1)=true then
  (GN n x121.Text).bind λ r164=>
  B4 n r164 (x121.Level==0) (((x121.Rows.length:Nat):Int)==0) (((x121.F.length:Nat):Int)==0) r163 (x121.Page==0)
 else
  if (x121.Kind==2)=true then
   (GN n x121.Text).bind λ r165=>
   B4 n r165 ((decide (x121.Level>=1))&&(decide (x121.Level<=3))) (((x121.Rows.length:Nat):Int)==0) (((x121.F.length:Nat):Int)==0) r163 (x121.Page==0)
  else
   if (x121.Kind==3)=true then
    (EG n x121.Rows).bind λ r166=>
    B4 n (x121.Text==[]) (x121.Level==0) r166 (((x121.F.length:Nat):Int)==0) r163 (x121.Page==0)
   else
    if (x121.Kind==4)=true then
     (GN n x121.Text).bind λ r167=>
     (if (r167&&(decide (p1_>0)))=true then idx p0_ (AU .i64 p1_ 1) else some default).bind λ x122=>
     (if ((r167&&(decide (p1_>0)))&&!(x122.Kind==1))=true then idx p0_ (AU .i64 p1_ 1) else some default).bind λ x123=>
     B4 n ((r167&&(decide (p1_>0)))&&((x122.Kind==1)||(x123.Kind==4))) (x121.Level==0) (((x121.Rows.length:Nat):Int)==0) (((x121.F.length:Nat):Int)==0) r163 (x121.Page==0)
    else
     if (x121.Kind==5)=true then
      (Fg n x121.F).bind λ r168=>
      B4 n (x121.Text==[]) (x121.Level==0) (((x121.Rows.length:Nat):Int)==0) r168 r163 (x121.Page==0)
     else
      if (x121.Kind==6)=true then
       (D9 n x121.Pic).bind λ r169=>
       B4 n (x121.Text==[]) (x121.Level==0) (((x121.Rows.length:Nat):Int)==0) (((x121.F.length:Nat):Int)==0) r169 (x121.Page==0)
      else
       if (x121.Kind==7)=true then
        (whl (λ (x:(Bool×Int))=>FC n p0_ p1_ x121 r163 x.1 x.2) n (((decide (x121.Page>=1))&&(decide (x121.Page<=9999))),0)).bind λ y144=>
        B4 n (x121.Text==[]) (x121.Level==0) (((x121.Rows.length:Nat):Int)==0) (((x121.F.length:Nat):Int)==0) r163 y144
       else
        some false
def Jr (_:Nat) (i_34:Int) (out_57:(List Ag)):Option (((List Ag)×Int)⊕(List Ag)):=
 some (.inl (out_57,(Ai .i64 i_34 1)))
def GE (n:Nat) (p0_:(List Bd)) (p1_:Int) (p2_:(List UInt8)) (out_55:(List Ag)) (i_34:Int):Option (((List Ag)×Int)⊕(List Ag)):=
 if ((decide (i_34<((p0_.length:Nat):Int)))&&(decide (i_34<p1_)))=true then
  (idx p0_ i_34).bind λ x126=>
  (ME n x126 p2_).bind λ r170=>
  (app 136 out_55 [r170]).bind λ l52=>
  (MF n l52 (AU .i64 ((l52.length:Nat):Int) 1)).bind λ r171=>
  if (!r171)=true then
   (sub l52 0 (AU .i64 ((l52.length:Nat):Int) 1)).bind λ l53=>
   Jr n i_34 l53
  else
   Jr n i_34 l52
 else
  some (.inr out_55)
def OK (n:Nat) (p0_:(List Bd)) (p1_:Int) (p2_:(List UInt8)):Option (List Ag):=
 (whl (λ (x:((List Ag)×Int))=>GE n p0_ p1_ p2_ x.1 x.2) n (([]:List Ag),0)).bind λ y145=>
 some y145
def OL (n:Nat) (p0_:(List Bd)):Option (List Ag):=
 (OK n p0_ 5 [97,98,99]).bind λ r172=>
 some r172
def FP (_:Nat) (p0_:(List Ag)) (p1_:Int):Option Bool:=
 (if ((decide (p1_>=0))&&(decide (p1_<((p0_.length:Nat):Int))))=true then idx p0_ p1_ else some default).bind λ x127=>
 (if (((decide (p1_>=0))&&(decide (p1_<((p0_.length:Nat):Int))))&&!(x127.Kind==1))=true then idx p0_ p1_ else some default).bind λ x128=>
 (if (((decide (p1_>=0))&&(decide (p1_<((p0_.length:Nat):Int))))&&!((x127.Kind==1)||(x128.Kind==2)))=true then idx p0_ p1_ else some default).bind λ x129=>
 some (((decide (p1_>=0))&&(decide (p1_<((p0_.length:Nat):Int))))&&(((x127.Kind==1)||(x128.Kind==2))||(x129.Kind==4)))
def Js (_:Nat) (i_35:Int) (l_3:(List Int)):Option (((List Int)×Int)⊕(List Int)):=
 some (.inl (l_3,(Ai .i64 i_35 1)))
def GG (n:Nat) (p0_:(List Ag)) (_:AS) (_:(List UInt8)) (l_1:(List Int)) (i_35:Int):Option (((List Int)×Int)⊕(List Int)):=
 if decide (i_35<((p0_.length:Nat):Int))=true then
  (FP n p0_ i_35).bind λ r173=>
  if r173=true then
   (app 8 l_1 [i_35]).bind λ l54=>
   Js n i_35 l54
  else
   Js n i_35 l_1
 else
  some (.inr l_1)
def Jt (_:Nat) (c_4:Ab):Option Ab:=
 some c_4
def OM (n:Nat) (p0_:(List Ag)) (p1_:AS) (p2_:(List UInt8)):Option Ab:=
 (whl (λ (x:((List Int)×Int))=>GG n p0_ p1_ p2_ x.1 x.2) n (([]:List Int),0)).bind λ y146=>
 if (((y146.length:Nat):Int)==0)=true then
  some ({ Block:=IntKind.i64.wrap p1_.Block,At:=0,Cut:=0,Put:=[] }:Ab)
 else
  (BJ (!(((y146.length:Nat):Int)==0))).bind λ _=>
  (idx y146 (Al (IntKind.i64.wrap p1_.Block) ((y146.length:Nat):Int))).bind λ x130=>
  (idx p0_ x130).bind λ x131=>
  (BJ (!((Ai .i64 ((x131.Text.length:Nat):Int) 1)==0))).bind λ _=>
  (BJ (!((Ai .i64 (AU .i64 ((x131.Text.length:Nat):Int) (Al (IntKind.i64.wrap p1_.At) (Ai .i64 ((x131.Text.length:Nat):Int) 1))) 1)==0))).bind λ _=>
  if decide (((p1_.Put.length:Nat):Int)>0)=true then
   (Iy n p1_.Put 4 p2_).bind λ r174=>
   Jt n ({ Block:=x130,At:=Al (IntKind.i64.wrap p1_.At) (Ai .i64 ((x131.Text.length:Nat):Int) 1),Cut:=Al (IntKind.i64.wrap (Al p1_.Cut 4)) (Ai .i64 (AU .i64 ((x131.Text.length:Nat):Int) (Al (IntKind.i64.wrap p1_.At) (Ai .i64 ((x131.Text.length:Nat):Int) 1))) 1),Put:=r174 }:Ab)
  else
   Jt n ({ Block:=x130,At:=Al (IntKind.i64.wrap p1_.At) (Ai .i64 ((x131.Text.length:Nat):Int) 1),Cut:=Al (IntKind.i64.wrap (Al p1_.Cut 4)) (Ai .i64 (AU .i64 ((x131.Text.length:Nat):Int) (Al (IntKind.i64.wrap p1_.At) (Ai .i64 ((x131.Text.length:Nat):Int) 1))) 1),Put:=[] }:Ab)
def Lr (_:Nat) (p0_:(List UInt8)) (p1_:Ab):Option ((List UInt8)×Bool):=
 if ((((decide (p1_.At<0))||(decide (p1_.Cut<0)))||(decide (p1_.At>((p0_.length:Nat):Int))))||(decide (p1_.Cut>AU .i64 ((p0_.length:Nat):Int) p1_.At)))=true then
  some ([],false)
 else
  (sub p0_ 0 p1_.At).bind λ s10=>
  (cat s10 p1_.Put).bind λ s11=>
  (sub p0_ (Ai .i64 p1_.At p1_.Cut) ((p0_.length:Nat):Int)).bind λ s12=>
  (cat s11 s12).bind λ s13=>
  some (s13,true)
def EH (n:Nat) (p0_:(List Ag)) (p1_:(List AS)) (p2_:Int) (out_58:(List AB)) (i_38:Int):Option (((List AB)×Int)⊕(List AB)):=
 if ((decide (i_38<((p1_.length:Nat):Int)))&&(decide (i_38<p2_)))=true then
  (idx p1_ i_38).bind λ x136=>
  (idx p1_ i_38).bind λ x137=>
  (OM n p0_ x137 [97,98,99]).bind λ r200=>
  (app 48 out_58 [({ Reader:=IntKind.i64.wrap (Dv .u8 x136.Cut 64),C:=r200 }:AB)]).bind λ l57=>
  some (.inl (l57,(Ai .i64 i_38 1)))
 else
  some (.inr out_58)
def KA (n:Nat) (p0_:(List Ag)) (p1_:(List AS)) (p2_:Int):Option (List AB):=
 (whl (λ (x:((List AB)×Int))=>EH n p0_ p1_ p2_ x.1 x.2) n (([]:List AB),0)).bind λ y153=>
 some y153
def FQ (_:Nat) (p0_:Ab) (p1_:Ab):Option Bool:=
 some ((p0_.Block==p1_.Block)&&(decide (Ai .i64 p0_.At p0_.Cut<=p1_.At)))
def Ls (n:Nat) (p0_:Ab) (p1_:Ab):Option Bool:=
 (if (!(p0_.Block != p1_.Block))=true then FQ n p0_ p1_ else some default).bind λ r201=>
 (if (!(p0_.Block != p1_.Block))=true then FQ n p1_ p0_ else some default).bind λ r202=>
 some ((p0_.Block != p1_.Block)||(!(r201==r202)))
def Lt (_:Nat) (p0_:Ab) (p1_:Ab):Option Bool:=
 if (p0_.Block != p1_.Block)=true then
  some (decide (p0_.Block<p1_.Block))
 else
  some ((decide (p0_.At<p1_.At))||((p0_.At==p1_.At)&&(decide (p0_.Cut<p1_.Cut))))
def DQ (_:Nat) (p1_:Ab) (o0_:(List Ab)) (i_41:Int):Option (Int⊕(Unit⊕(List Ab))):=
 if decide (i_41<((o0_.length:Nat):Int))=true then
  (idx o0_ i_41).bind λ x141=>
  if ((x141.Block==p1_.Block)&&((x141.At==p1_.At)&&((x141.Cut==p1_.Cut)&&((x141.Put==p1_.Put)&&true))))=true then
   some (.inr (.inr o0_))
  else
   some (.inl (Ai .i64 i_41 1))
 else
  some (.inr (.inl ()))
def F6 (_:Nat) (o0_:(List Ab)) (i_42:Int) (out_66:(List Ab)) (done_6:Bool):Option (((List Ab)×Bool×Int)⊕((List Ab)×Bool)):=
 (idx o0_ i_42).bind λ x142=>
 (app 40 out_66 [x142]).bind λ l61=>
 some (.inl (l61,done_6,(Ai .i64 i_42 1)))
def DR (n:Nat) (p1_:Ab) (o0_:(List Ab)) (out_64:(List Ab)) (done_4:Bool) (i_42:Int):Option (((List Ab)×Bool×Int)⊕((List Ab)×Bool)):=
 if decide (i_42<((o0_.length:Nat):Int))=true then
  (if (!done_4)=true then idx o0_ i_42 else some default).bind λ x143=>
  (if (!done_4)=true then Lt n p1_ x143 else some default).bind λ r204=>
  if ((!done_4)&&r204)=true then
   (app 40 out_64 [p1_]).bind λ l62=>
   F6 n o0_ i_42 l62 true
  else
   F6 n o0_ i_42 out_64 done_4
 else
  some (.inr (out_64,done_4))
def F7 (_:Nat) (out_67:(List Ab)):Option (List Ab):=
 some out_67
def Ju (n:Nat) (p1_:Ab) (o0_:(List Ab)):Option (List Ab):=
 (whl (λ (x:Int)=>DQ n p1_ o0_ x) n 0).bind λ y158=>
 match y158 with
 | Sum.inl _=>
  (whl (λ (x:((List Ab)×Bool×Int))=>DR n p1_ o0_ x.1 x.2.1 x.2.2) n (([]:List Ab),false,0)).bind λ y161=>
  if (!y161.2)=true then
   (app 40 y161.1 [p1_]).bind λ l63=>
   F7 n l63
  else
   F7 n y161.1
 | Sum.inr y160=>
  some y160
def G6 (_:Nat) (i_43:Int) (out_70:(List Ab)):Option (((List Ab)×Int)⊕(List Ab)):=
 some (.inl (out_70,(Ai .i64 i_43 1)))
def EI (n:Nat) (p0_:(List AB)) (_:(List Ab)) (i_43:Int) (free_9:Bool) (k_24:Int):Option ((Bool×Int)⊕Bool):=
 if decide (k_24<((p0_.length:Nat):Int))=true then
  (if free_9=true then idx p0_ i_43 else some default).bind λ x144=>
  (if free_9=true then idx p0_ k_24 else some default).bind λ x145=>
  (if (free_9&&!((x144.C.Block==x145.C.Block)&&((x144.C.At==x145.C.At)&&((x144.C.Cut==x145.C.Cut)&&((x144.C.Put==x145.C.Put)&&true)))))=true then idx p0_ i_43 else some default).bind λ x146=>
  (if (free_9&&!((x144.C.Block==x145.C.Block)&&((x144.C.At==x145.C.At)&&((x144.C.Cut==x145.C.Cut)&&((x144.C.Put==x145.C.Put)&&true)))))=true then idx p0_ k_24 else some default).bind λ x147=>
  (if (free_9&&!((x144.C.Block==x145.C.Block)&&((x144.C.At==x145.C.At)&&((x144.C.Cut==x145.C.Cut)&&((x144.C.Put==x145.C.Put)&&true)))))=true then Ls n x146.C x147.C else some default).bind λ r205=>
  some (.inl ((free_9&&(((x144.C.Block==x145.C.Block)&&((x144.C.At==x145.C.At)&&((x144.C.Cut==x145.C.Cut)&&((x144.C.Put==x145.C.Put)&&true))))||r205)),(Ai .i64 k_24 1)))
 else
  some (.inr free_9)
def EJ (n:Nat) (p0_:(List AB)) (out_68:(List Ab)) (i_43:Int):Option (((List Ab)×Int)⊕(List Ab)):=
 if decide (i_43<((p0_.length:Nat):Int))=true then
  (whl (λ (x:(Bool×Int))=>EI n p0_ out_68 i_43 x.1 x.2) n (true,0)).bind λ y162=>
  if y162=true then
   (idx p0_ i_43).bind λ x148=>
   (Ju n x148.C out_68).bind λ r206=>
   G6 n i_43 r206
  else
   G6 n i_43 out_68
 else
  some (.inr out_68)
def KB (n:Nat) (p0_:(List AB)):Option (List Ab):=
 (whl (λ (x:((List Ab)×Int))=>EJ n p0_ x.1 x.2) n (([]:List Ab),0)).bind λ y163=>
 some y163
def Fn (_:Nat) (i_48:Int) (out_73:(List UInt8)) (at_6:Int):Option (((List UInt8)×Int×Int)⊕((List UInt8)×Int)):=
 some (.inl (out_73,at_6,(Ai .i64 i_48 1)))
def Dr (n:Nat) (p0_:(List UInt8)) (p1_:(List Ab)) (p2_:Int) (out_71:(List UInt8)) (at_4:Int) (i_48:Int):Option (((List UInt8)×Int×Int)⊕((List UInt8)×Int)):=
 if decide (i_48<((p1_.length:Nat):Int))=true then
  (idx p1_ i_48).bind λ x159=>
  if (((x159.Block==p2_)&&(decide (x159.At>=at_4)))&&(decide (x159.Cut<=AU .i64 ((p0_.length:Nat):Int) x159.At)))=true then
   (sub p0_ at_4 x159.At).bind λ s14=>
   (cat s14 x159.Put).bind λ s15=>
   (cat out_71 s15).bind λ s16=>
   Fn n i_48 s16 (Ai .i64 x159.At x159.Cut)
  else
   Fn n i_48 out_71 at_4
 else
  some (.inr (out_71,at_4))
def Id (n:Nat) (p0_:(List UInt8)) (p1_:(List Ab)) (p2_:Int):Option (List UInt8):=
 (whl (λ (x:((List UInt8)×Int×Int))=>Dr n p0_ p1_ p2_ x.1 x.2.1 x.2.2) n ([],0,0)).bind λ y175=>
 (sub p0_ y175.2 ((p0_.length:Nat):Int)).bind λ s17=>
 (cat y175.1 s17).bind λ s18=>
 some s18
def Cw (_:Nat) (p2_:Int) (_:Bool) (_:(List Ag)) (r222:(List AB)) (_:Ao) (turned_1:(List AB)) (i_49:Int):Option (((List AB)×Int)⊕(List AB)):=
 if decide (i_49<((r222.length:Nat):Int))=true then
  (BJ (!(((r222.length:Nat):Int)==0))).bind λ _=>
  (idx r222 (Al (Ai .i64 i_49 (IntKind.i64.wrap p2_)) ((r222.length:Nat):Int))).bind λ x160=>
  (app 48 turned_1 [x160]).bind λ l66=>
  some (.inl (l66,(Ai .i64 i_49 1)))
 else
  some (.inr turned_1)
def Dw (_:Nat) (i_50:Int):Option (Int⊕(Unit⊕Bool)):=
 some (.inl (Ai .i64 i_50 1))
def Dx (_:Nat) (n_6:Int) (s_6:(List UInt8)):Option (((List UInt8)×Int)⊕((List UInt8)⊕Bool)):=
 some (.inl (s_6,(Ai .i64 n_6 1)))
def Cy (n:Nat) (_:Bool) (_:(List Ag)) (r223:Ao) (_:(List Ab)) (i_50:Int) (s_4:(List UInt8)) (n_6:Int):Option (((List UInt8)×Int)⊕((List UInt8)⊕Bool)):=
 if decide (n_6<((r223.Agreed.length:Nat):Int))=true then
  (idx r223.Agreed n_6).bind λ x162=>
  if (x162.Block != i_50)=true then
   Dx n n_6 s_4
  else
   (idx r223.Agreed n_6).bind λ x163=>
   (Lr n s_4 x163).bind λ r228=>
   if (!r228.2)=true then
    some (.inr (.inr false))
   else
    Dx n n_6 r228.1
 else
  some (.inr (.inl s_4))
def Cz (n:Nat) (r220:Bool) (r221:(List Ag)) (r223:Ao) (r226:(List Ab)) (i_50:Int):Option (Int⊕(Unit⊕Bool)):=
 if decide (i_50<((r221.length:Nat):Int))=true then
  (FP n r221 i_50).bind λ r227=>
  if (!r227)=true then
   Dw n i_50
  else
   (idx r221 i_50).bind λ x161=>
   (whl (λ (x:((List UInt8)×Int))=>Cy n r220 r221 r223 r226 i_50 x.1 x.2) n (x161.Text,0)).bind λ y177=>
   match y177 with
   | Sum.inl y178=>
    (idx r221 i_50).bind λ x164=>
    (Id n x164.Text r226 i_50).bind λ r229=>
    if (!(y178==r229))=true then
     some (.inr (.inr false))
    else
     Dw n i_50
   | Sum.inr y179=>
    some (.inr (.inr y179))
 else
  some (.inr (.inl ()))
noncomputable def Fp (n:Nat) (p0_:(List Bd)) (p1_:(List AS)) (p2_:Int):Option Bool:=
 (HE n).bind λ r220=>
 (OL n p0_).bind λ r221=>
 (KA n r221 p1_ 6).bind λ r222=>
 (Iw n r222).bind λ r223=>
 (whl (λ (x:((List AB)×Int))=>Cw n p2_ r220 r221 r222 r223 x.1 x.2) n (([]:List AB),0)).bind λ y176=>
 (Iw n y176).bind λ r224=>
 (Dm n r223.Agreed r224.Agreed).bind λ r225=>
 if ((!r225)||(decide (((r223.Agreed.length:Nat):Int)>((r222.length:Nat):Int))))=true then
  some false
 else
  (KB n r222).bind λ r226=>
  (whl (λ (x:Int)=>Cz n r220 r221 r223 r226 x) n 0).bind λ y180=>
  match y180 with
  | Sum.inl _=>
   some r220
  | Sum.inr y182=>
   some y182
end Go.AI
end
section
namespace Go.AI
open Go.Proofs
set_option maxRecDepth 10000
theorem xok (n kl:Nat):XOK Tryz.prog (cxk n kl):=⟨tyOK,rfl⟩
theorem fO (k:Nat) (s:St) {fn:Func} {f:FuncId} {args:List AV} {r:AV} (hf:Tryz.prog.funcs[f]? = some fn) (h:WP (cxk k 0) (Aw fn) [] (VY (cxk k 0).ty fn.results.toList r) s) (hb:fn.body=some (Aw fn):=by kernel_rfl) (hnm:(fn.name == "runtime.NumGoroutine")=false:=by kernel_rfl) (hnt:(cxk k 0).nt.n=fn.ntmps:=by kernel_rfl) (hlen:Nat.ble args.length fn.ntmps=true:=by kernel_rfl) (hs:(⟨(List.range args.length).zip args,[]⟩:St)=s:=by kernel_rfl):Aq Tryz.prog f args r:=fo follows (Jf4 k 0) hf h hb hnm hnt hlen hs
theorem fL (k nb:Nat) (s:St) {fn:Func} {f:FuncId} {args:List AV} {O0 O1:List (Option Ob)} {r:AV} (hf:Tryz.prog.funcs[f]? = some fn) (h:WP (cxk k nb) (Aw fn) [] (VZ nb (cxk k nb).ty fn.results.toList r O1) s) (hb:fn.body=some (Aw fn):=by kernel_rfl) (hnm:(fn.name == "runtime.NumGoroutine")=false:=by kernel_rfl) (hnt:(cxk k nb).nt=⟨fn.ntmps,[],nb,qfT⟩:=by kernel_rfl) (hlen:Nat.ble args.length fn.ntmps=true:=by kernel_rfl) (hs:(⟨(List.range args.length).zip args,O0⟩:St)=s:=by kernel_rfl):BM Tryz.prog f args O0 nb r O1:=fl follows (Jf4 k nb) hf h hb hnm hnt hlen hs
theorem yok (n kl:Nat):YOK Tryz.prog (cxk n kl):=⟨rfl⟩
variable {n:Nat}
def Ae (x:Ab):List D:=[.int .i64 x.Block,.int .i64 x.At,.int .i64 x.Cut,.str x.Put]
def AE (x:Am):List D:=[.int .i64 x.Op,.int .i64 x.N]
def Ac (x:Aa):List D:=[.int .i64 x.X,.int .i64 x.Y]
def As (x:Ax):List D:=[.int .i64 x.Kind,.int .i64 x.Texture,.sl (x.P.map Ac)]
def Ay (x:Ag):List D:=[.int .i64 x.Kind,.int .i64 x.Level,.str x.Text,.sl (x.Rows.map (eL eS)),.sl (x.F.map AE),.int .i64 x.Pic.W,.int .i64 x.Pic.H,.int .i64 x.Pic.Gap,.sl (x.Pic.F.map As),.int .i64 x.Page]
def A1 (x:AB):List D:=[.int .i64 x.Reader,.int .i64 x.C.Block,.int .i64 x.C.At,.int .i64 x.C.Cut,.str x.C.Put]
@[reducible] def Bc {α:Type} (e:α->List D) (x:CB α):List D:=e x.a0++e x.a1
def Jk8 (x:RH):List D:=[.int .u8 x.Kind,.int .u8 x.N,.sl (x.L.map (Bc eU8))]
@[reducible] def JH {α:Type} (e:α->List D) (x:Wc α):List D:=e x.a0++e x.a1++e x.a2++e x.a3++e x.a4++e x.a5
def ON (x:Br):List D:=[.int .u8 x.W,.int .u8 x.H,.int .u8 x.Gap,.sl (x.F.map (JH eU8))]
def BO (x:Bd):List D:=[.int .u8 x.Kind,.int .u8 x.N,.sl (x.T.map eU8),.int .u8 x.F.Kind,.int .u8 x.F.N,.sl (x.F.L.map (Bc eU8)),.int .u8 x.P.W,.int .u8 x.P.H,.int .u8 x.P.Gap,.sl (x.P.F.map (JH eU8))]
def A8 (x:AS):List D:=[.int .u8 x.Block,.int .u8 x.At,.int .u8 x.Cut,.sl (x.Put.map eU8)]
def Bi (x:Ab):List AV:=[.d (.int .i64 x.Block),.d (.int .i64 x.At),.d (.int .i64 x.Cut),.d (.str x.Put)]
def Up (x:Ag):List AV:=[.d (.int .i64 x.Kind),.d (.int .i64 x.Level),.d (.str x.Text),.d (.sl (x.Rows.map (eL eS))),.d (.sl (x.F.map AE)),.d (.int .i64 x.Pic.W),.d (.int .i64 x.Pic.H),.d (.int .i64 x.Pic.Gap),.d (.sl (x.Pic.F.map As)),.d (.int .i64 x.Page)]
def AH (x:Af):List AV:=[.d (.int .i64 x.W),.d (.int .i64 x.H),.d (.int .i64 x.Gap),.d (.sl (x.F.map As))]
def DF (x:Ax):List AV:=[.d (.int .i64 x.Kind),.d (.int .i64 x.Texture),.d (.sl (x.P.map Ac))]
def ZM (x:RH):List AV:=[.d (.int .u8 x.Kind),.d (.int .u8 x.N),.d (.sl (x.L.map (Bc eU8)))]
def JI (x:Br):List AV:=[.d (.int .u8 x.W),.d (.int .u8 x.H),.d (.int .u8 x.Gap),.d (.sl (x.F.map (JH eU8)))]
def MG (x:Af) (v3:AV):List AV:=[.d (.int .i64 x.W),.d (.int .i64 x.H),.d (.int .i64 x.Gap),v3]
def IB (x:Bd):List AV:=[.d (.int .u8 x.Kind),.d (.int .u8 x.N),.d (.sl (x.T.map eU8)),.d (.int .u8 x.F.Kind),.d (.int .u8 x.F.N),.d (.sl (x.F.L.map (Bc eU8))),.d (.int .u8 x.P.W),.d (.int .u8 x.P.H),.d (.int .u8 x.P.Gap),.d (.sl (x.P.F.map (JH eU8)))]
def GH (x:Ag) (v3:AV) (v4:AV) (v8:AV):List AV:=[.d (.int .i64 x.Kind),.d (.int .i64 x.Level),.d (.str x.Text),v3,v4,.d (.int .i64 x.Pic.W),.d (.int .i64 x.Pic.H),.d (.int .i64 x.Pic.Gap),v8,.d (.int .i64 x.Page)]
def DS (x:AS):List AV:=[.d (.int .u8 x.Block),.d (.int .u8 x.At),.d (.int .u8 x.Cut),.d (.sl (x.Put.map eU8))]
section
variable (p0_:Int) (p1_:Int) (p2_:(List UInt8))
def JgX:St:=⟨(0,.d (.int .i64 p0_))::(1,.d (.int .i64 p1_))::(2,.d (.str p2_))::[],[]⟩
variable {p0_ p1_ p2_}
theorem AA {z} (H:AL n p0_ p1_ p2_=some z):Aq Tryz.prog 27 [.d (.int .i64 p0_),.d (.int .i64 p1_),.d (.str p2_)] (.agg [.d (.int .i64 z.Block),.d (.int .i64 z.At),.d (.int .i64 z.Cut),.d (.str z.Put)]):=by
 exact fO 11 (JgX p0_ p1_ p2_) Tryz.func27 (sr (ck 1 (en (sr (ck 5 (en (re (by cases H;exact pr rd))))))))
end
section
variable (p0_:Int)
def JgY:St:=⟨(0,.d (.int .u8 p0_))::[],[]⟩
variable {p0_}
theorem MH {z} (H:F4 n p0_=some z):Aq Tryz.prog 67 [.d (.int .u8 p0_)] (.d (.bool z)):=by
 exact fO 12 (JgY p0_) Tryz.func67 (sr (ck 1 (en (sr (ck 3 (en (sr (ck 4 (gc 1 (decide (32<=Ei .u8 p0_ 127)) (pA (ck 1 (en (re (by cases H;exact pr rd))))))))))))))
end
section
variable (p0_:(List UInt8)) (x_1:Int)
def JgZ:St:=⟨(0,.d (.str p0_))::[],[]⟩
def Jg0:St:=⟨(0,.d (.str p0_))::(6,.d (.int .i64 ((p0_.length:Nat):Int)))::(7,.d (.int .i64 x_1))::[],[]⟩
def Jg1:St:=⟨(0,.d (.str p0_))::[],[]⟩
def SQ:(Unit⊕(Int×Int))->Ex->St->Prop:=xS (xX 0 0 (λ (y:Unit)=>Jg1 p0_)) (xR ty Tryz.f46 (λ (y:(Int×Int))=>.tup [.d (.int .i64 y.1),.d (.int .i64 y.2)]))
def L9:Int->St:=(λ (x:Int)=>Jg0 p0_ x)
variable {p0_ x_1}
theorem KC (x:Int) (z:(Int⊕(Unit⊕(Int×Int)))) (H:HA n p0_ x=some z):WP (cxk 19 0) (Aw Tryz.f46) [1,0,1,0,0] (Au 0 (L9 p0_) (SQ p0_) z) (L9 p0_ x):=by
 revert H
 generalize x=x_1
 intro H
 refine sr (ck 1 (en (sq (cn H (λ H=>?_) (λ H=>?_)))))
 ·refine sk (qz (sq (bk 1 (sr (ck 2 (en (sr (ck 2 (bx H λ b1 h1 H=>sp (Gm h1) (bx H λ r1 h2 H=>ca false (MH h2) (ck 1 (en (cn H (λ H=>?_) (λ H=>?_))))))))))))))
  ·exact sr (ck 3 (en (re (qR (qr (by cases H;exact ro rfl rdT))))))
  ·exact sk (qN (qz (rz (ck 2 (ae (by cases H;exact og (sg [0,6,7])))))))
 ·exact ex 0 (qx (by cases H;exact xo rfl (sg [0])))
theorem Wd {z} (H:Ny n p0_=some z):Aq Tryz.prog 46 [.d (.str p0_)] (.tup [.d (.int .i64 z.1),.d (.int .i64 z.2)]):=by
 refine fO 19 (JgZ p0_) Tryz.func46 (sr (ck 2 (en (sq (sr (ck 3 (en (bk 0 (bx H λ y1 h3 H=>?_)))))))))
 rcases y1 with y2|y3
 ·exact lX KC h3 (sg [0,6,7]) rfl λ s hE1=>qH (qs (hE1) (sr (ck 4 (en (re (by cases H;exact pr rdT))))))
 ·exact lR KC h3 (sg [0,6,7]) rfl λ s hE2=>qR (qr (by cases H;exact pr hE2))
end
section
variable (p0_:Int)
def Jg2:St:=⟨(0,.d (.int .u8 p0_))::[],[]⟩
variable {p0_}
theorem Uq {z} (H:Lm n p0_=some z):Aq Tryz.prog 47 [.d (.int .u8 p0_)] (.d (.int .i64 z)):=by
 refine fO 30 (Jg2 p0_) Tryz.func47 (sr (ck 1 (en (sr (ck 3 (en (sq (bk 0 (sr (ck 4 (gc 1 (decide (97<=Ei .u8 p0_ 127)) (pA (ck 1 (en (cn H (λ H=>?_) (λ H=>?_))))))))))))))))
 ·exact sr (ck 1 (en (re (qR (qr (by cases H;exact pr rd))))))
 ·refine sr (ck 4 (gc 1 (decide (65<=Ei .u8 p0_ 127)) (pA (ck 1 (en (cn H (λ H=>?_) (λ H=>?_)))))))
  ·exact sr (ck 1 (en (re (qR (qr (by cases H;exact pr rd))))))
  ·refine sr (ck 4 (gc 1 (decide (48<=Ei .u8 p0_ 127)) (pA (ck 1 (en (cn H (λ H=>?_) (λ H=>?_)))))))
   ·exact sr (ck 1 (en (re (qR (qr (by cases H;exact pr rd))))))
   ·refine sr (ck 3 (en (cn H (λ H=>?_) (λ H=>?_))))
    ·exact sr (ck 1 (en (re (qR (qr (by cases H;exact pr rd))))))
    ·exact sk (qN (qz (sr (ck 1 (en (re (by cases H;exact pr rd)))))))
end
section
variable (p0_:(List UInt8)) (last_1:Int) (x_2:Int) (last_2:Int)
def Jg3:St:=⟨(0,.d (.str p0_))::[],[]⟩
def Jg4:St:=⟨(0,.d (.str p0_))::(5,.d (.int .i64 last_1))::(24,.d (.int .i64 ((p0_.length:Nat):Int)))::(25,.d (.int .i64 x_2))::[],[]⟩
def Jg5:St:=⟨(5,.d (.int .i64 last_2))::[],[]⟩
def RJ:(Int⊕Bool)->Ex->St->Prop:=xS (xX 0 0 (λ (y:Int)=>Jg5 y)) (xR ty Tryz.f31 (λ (y:Bool)=>.d (.bool y)))
def KD:(Int×Int)->St:=(λ (x:(Int×Int))=>Jg4 p0_ x.1 x.2)
variable {p0_ last_1 x_2 last_2}
theorem JJ (x:(Int×Int)) (z:((Int×Int)⊕(Int⊕Bool))) (H:Gp n p0_ x.1 x.2=some z):WP (cxk 46 0) (Aw Tryz.f31) [1,1,1,1,0,1,0,0] (Au 0 (KD p0_) (RJ) z) (KD p0_ x):=by
 obtain ⟨last_1,x_2⟩:=x
 refine sr (ck 1 (en (sq (cn H (λ H=>?_) (λ H=>?_)))))
 ·refine sk (qz (sq (bk 1 (sr (ck 2 (en (sr (ck 2 (bx H λ b2 h5 H=>sp (Gm h5) (bx H λ r3 h6 H=>ca false (Uq h6) (ck 1 (en (sq (sr (ck 4 (gc 2 (r3==4) (ck 1 (gc 1 ((r3==4)&&!(last_1==0)) (pG (g:=(r3==4)) (v:=.d (.bool ((last_1==0)||(last_1==4)))) (λ hg=>CX (c:=.gv (r3==4) (.d (.bool (last_1==0)))) (a:=.d (.bool true)) (b:=.gv ((r3==4)&&!(last_1==0)) (.d (.bool (last_1==4)))) rfl rfl rfl ((λ hh=>hh) hg) trivial (λ ht=>by rw [(λ hh=>hh) hg,ht];rfl)) (pA (en (cn H (λ H=>?_) (λ H=>?_)))))))))))))))))))))))
  ·exact sr (ck 1 (en (re (qr (qR (qr (by cases H;exact ro rfl rd)))))))
  ·exact sk (qz (rz (ck 2 (ae (qN (qz (rz (ck 2 (ae (by cases H;exact og (sg [0,5,24,25])))))))))))
 ·exact ex 0 (qx (by cases H;exact xo rfl (sg [5])))
theorem Ur {z} (H:Is n p0_=some z):Aq Tryz.prog 31 [.d (.str p0_)] (.d (.bool z)):=by
 refine fO 46 (Jg3 p0_) Tryz.func31 (sr (ck 1 (en (sq (sr (ck 5 (gc 2 (!(decide (((p0_.length:Nat):Int)<1))) (pO (en (cn H (λ H=>?_) (λ H=>?_)))))))))))
 ·exact sr (ck 1 (en (re (qr (by cases H;exact pr rd)))))
 ·refine sk (qz (sq (sr (ck 1 (bx H λ r2 h4 H=>ca false (Wd h4) (ck 5 (en (sr (ck 2 (en (cn H (λ H=>?_) (λ H=>?_))))))))))))
  ·exact sr (ck 1 (en (re (qr (by cases H;exact pr rd)))))
  ·refine sk (qz (sr (ck 1 (en (sq (sr (ck 3 (en (bk 0 (bx H λ y4 h7 H=>?_))))))))))
   rcases y4 with y5|y6
   ·exact lX JJ h7 (sg [0,5,24,25]) rfl λ s hE3=>qH (qs (hE3) (sr (ck 3 (en (re (by cases H;exact pr rd))))))
   ·exact lR JJ h7 (sg [0,5,24,25]) rfl λ s hE4=>qR (qr (by cases H;exact pr hE4))
end
section
variable (p0_:(List Ag))
def Jg6:St:=⟨(0,.d (.sl (p0_.map Ay)))::[],[]⟩
variable {p0_}
theorem SR {z} (H:GT n p0_=some z):Aq Tryz.prog 32 [.d (.sl (p0_.map Ay))] (.own 10 (z.map Ay)):=by
 refine fO 8 (Jg6 p0_) Tryz.func32 (sr (ck 1 (en (sq (sq (rn 1 (.refl _) (ck 1 ?_)))))))
 have hD:=Jbs H
 refine nd0 (nl (yok _ _) (xok _ _) (xs:=p0_) (enc:=Ay) (λ b3 h8=>?_))
 have H:=hD b3 h8
 refine en (cn H (λ H=>?_) (λ H=>?_))
 ·exact sr (ck 1 (en (re (qr (by cases H;exact pr (rO (v:=.d (.nil)) [] (ad vz)))))))
 ·exact sk (qz (sr (ck 2 (bx H λ l1 h9 H=>sp (XE Ay 0 10 h9) (ck 1 (en (re (by cases H;exact pr (rO (v:=.osl 1 10 0 (z.length)) [1] (ao vo))))))))))
end
section
variable (p0_:(List Ag)) (p1_:Ab) (x1:Ag) (x_3:Bool)
def Jg7:St:=⟨(0,.d (.sl (p0_.map Ay)))::(1,.agg [.d (.int .i64 p1_.Block),.d (.int .i64 p1_.At),.d (.int .i64 p1_.Cut),.d (.str p1_.Put)])::[],[]⟩
def Jg8:St:=⟨(0,.d (.sl (p0_.map Ay)))::(3,.ptr 0 0)::(6,.ptr 1 0)::(26,.d (.bool x_3))::[],[some (.box (Bi p1_)),some (.box (Up x1))]⟩
variable {p0_ p1_ x1 x_3}
theorem NB {z} (H:Iu n p0_ p1_=some z):Aq Tryz.prog 11 [.d (.sl (p0_.map Ay)),.agg (Bi p1_)] (.tup [.own 10 (z.1.map Ay),.d (.int .i64 z.2)]):=by
 refine fO 86 (Jg7 p0_ p1_) Tryz.func11 (sr (ck 3 (en (sq (sr (ck 5 (gc 1 (!(decide (p1_.Block<0))) (ck 1 (sE (g:=(!(decide (p1_.Block<0)))) (λ hg=>Av Ay p0_) (gc 1 (!(decide (p1_.Block<0))) (pO (en (cn H (λ H=>?_) (λ H=>?_))))))))))))))
 ·exact sr (ck 2 (en (re (qr (by cases H;exact pr (rT (vs:=[.d (.nil),.d (.int .i64 320)]) [] (t1 (ad vz) (t1 (ad vd) (t0)))))))))
 ·refine sk (qz (sr (ck 3 (bx H λ x1 h10 H=>sp (Ak Ay h10) (ck 3 (en (sq (sr (ck 2 (en (bk 0 (sj (λ (x:Bool)=>Jg8 p0_ p1_ x1 x) (λ (x:Bool)=>Dj n p0_ p1_ x1 x) z ?_ (λ hFCa_Apply_J1=>?_)))))))))))))
  ·intro x_3 H
   refine cn H (λ H=>?_) (λ H=>?_)
   ·refine sk (qN (qz (sr (ck 4 (en (sq (sr (ck 5 (gc 2 (!(decide (p1_.At<0))) (pO (ck 2 (gc 1 (!((decide (p1_.At<0))||(decide (p1_.Cut<0)))) (ck 1 (gc 1 (!((decide (p1_.At<0))||(decide (p1_.Cut<0)))) (pO (ck 2 (gc 1 (!(((decide (p1_.At<0))||(decide (p1_.Cut<0)))||(decide (p1_.At>((x1.Text.length:Nat):Int))))) (ck 2 (gc 3 (!(((decide (p1_.At<0))||(decide (p1_.Cut<0)))||(decide (p1_.At>((x1.Text.length:Nat):Int))))) (pO (en (cn H (λ H=>?_) (λ H=>?_)))))))))))))))))))))))
    ·exact sr (ck 2 (en (re (qr (by cases H;exact pr (rT (vs:=[.d (.nil),.d (.int .i64 320)]) [] (t1 (ad vz) (t1 (ad vd) (t0)))))))))
    ·refine sk (qz (sr (ck 4 (bx H λ s1 h11 H=>sp (Gn h11) (ck 2 (bx H λ s2 h12 H=>sp (Jk h12) (ck 7 (bx H λ s3 h13 H=>sp (Gn h13) (bx H λ s4 h14 H=>sp (Jk h14) (ck 2 (en (sq (sr (ck 2 (bx H λ r4 h15 H=>ca false (Ur h15) (ck 1 (en (cn H (λ H=>?_) (λ H=>?_)))))))))))))))))))
     ·exact sr (ck 2 (en (re (qr (by cases H;exact pr (rT (vs:=[.d (.nil),.d (.int .i64 320)]) [] (t1 (ad vz) (t1 (ad vd) (t0)))))))))
     ·exact sk (qz (sr (ck 1 (bx H λ r5 h16 H=>cl [List.length r5] (SR h16) (ck 1 (en (sr (ck 4 (bx H λ x2 h17 H=>sp (Bl 2 10 h17) (bx H λ l2 h18 H=>stA Ay 2 0 (ty 67) h17 h18 (en (sq (rg (tr (tr (sn 79 2 10 (DL h18)) (sn 8 2 10 (DL h18))) (sn 80 2 10 (DL h18))) (ck 3 (en (re (by cases H;exact pr (rT (vs:=[.osl 2 10 0 (l2.length),.d (.int .i64 0)]) [2] (t1 (ao vo) (t1 (ad vd) (t0)))))))))))))))))))))
   ·exact sr (ck 2 (en (re (qR (qr (by cases H;exact pr (rT (vs:=[.d (.nil),.d (.int .i64 320)]) [] (t1 (ad vz) (t1 (ad vd) (t0))))))))))
  refine sr (ck 2 (en (cn H (λ H=>?_) (λ H=>?_))))
  ·exact sk (qs (sg [0,3,6,26]) (hFCa_Apply_J1 (x1.Kind==1) H))
  ·refine sr (ck 2 (en (cn H (λ H=>?_) (λ H=>?_))))
   ·exact sk (qs (sg [0,3,6,26]) (hFCa_Apply_J1 (x1.Kind==2) H))
   ·exact rz (ck 2 (ae (qs (sg [0,3,6,26]) (hFCa_Apply_J1 (x1.Kind==4) H))))
end
section
variable (p0_:Ab) (p1_:Ab)
def Jg9:St:=⟨(0,.agg [.d (.int .i64 p0_.Block),.d (.int .i64 p0_.At),.d (.int .i64 p0_.Cut),.d (.str p0_.Put)])::(1,.agg [.d (.int .i64 p1_.Block),.d (.int .i64 p1_.At),.d (.int .i64 p1_.Cut),.d (.str p1_.Put)])::[],[]⟩
variable {p0_ p1_}
theorem Ie {z} (H:Fd n p0_ p1_=some z):Aq Tryz.prog 37 [.agg (Bi p0_),.agg (Bi p1_)] (.d (.bool z)):=by
 exact fO 20 (Jg9 p0_ p1_) Tryz.func37 (sr (ck 3 (en (sr (ck 7 (gc 1 (p0_.Block==p1_.Block) (ck 1 (gc 1 (p0_.Block==p1_.Block) (ck 1 (gc 3 (p0_.Block==p1_.Block) (pA (ck 1 (en (re (by cases H;exact pr rd)))))))))))))))
end
section
variable (p0_:Ab) (p1_:Ab)
def Jha:St:=⟨(0,.agg [.d (.int .i64 p0_.Block),.d (.int .i64 p0_.At),.d (.int .i64 p0_.Cut),.d (.str p0_.Put)])::(1,.agg [.d (.int .i64 p1_.Block),.d (.int .i64 p1_.At),.d (.int .i64 p1_.Cut),.d (.str p1_.Put)])::[],[]⟩
variable {p0_ p1_}
theorem PU {z} (H:Kp n p0_ p1_=some z):Aq Tryz.prog 36 [.agg (Bi p0_),.agg (Bi p1_)] (.d (.bool z)):=by
 exact fO 19 (Jha p0_ p1_) Tryz.func36 (sr (ck 3 (en (sr (ck 8 (bx H λ r6 h19 H=>cG false (leZ) rfl (λ hg=>Ie (Ba h19 hg)) (Or.inl rfl) (BW (λ hh=>hh) (BW (λ hh=>hh) (C9))) rfl (ck 2 (bx H λ r7 h20 H=>cG false (leZ) rfl (λ hg=>Ie (Ba h20 hg)) (Or.inl rfl) (BW (λ hh=>hh) (BW (λ hh=>hh) (C9))) rfl (gc 1 (!(p0_.Block != p1_.Block)) (pO (ck 1 (en (re (by cases H;exact pr rd))))))))))))))
end
section
variable (p0_:Ab) (p1_:Ab) (c_1:Ab)
def Jhb:St:=⟨(0,.agg [.d (.int .i64 p0_.Block),.d (.int .i64 p0_.At),.d (.int .i64 p0_.Cut),.d (.str p0_.Put)])::(1,.agg [.d (.int .i64 p1_.Block),.d (.int .i64 p1_.At),.d (.int .i64 p1_.Cut),.d (.str p1_.Put)])::[],[]⟩
def Jhc:St:=⟨(2,.ptr 0 0)::(4,.ptr 1 0)::[],[some (.box (Bi c_1)),some (.box [.d (.int .i64 0),.d (.int .i64 0),.d (.int .i64 0),.d (.str [])])]⟩
variable {p0_ p1_ c_1}
theorem Ea {z} (H:DC n p0_ p1_=some z):Aq Tryz.prog 15 [.agg (Bi p0_),.agg (Bi p1_)] (.tup [.agg [.d (.int .i64 z.1.Block),.d (.int .i64 z.1.At),.d (.int .i64 z.1.Cut),.d (.str z.1.Put)],.d (.bool z.2)]):=by
 refine fO 25 (Jhb p0_ p1_) Tryz.func15 (sr (ck 4 (en (sq (sr (ck 2 (bx H λ r8 h21 H=>ca false (PU h21) (ck 1 (en (cn H (λ H=>?_) (λ H=>?_)))))))))))
 ·exact sr (ck 3 (en (re (qr (by cases H;exact pr rdT)))))
 ·refine sk (qz (sj (λ (x:Ab)=>Jhc x) (λ (x:Ab)=>Kq n x) z ?_ (λ hFCa_Over_J1=>?_)))
  ·intro c_1 H
   exact sr (ck 3 (en (re (by cases H;exact pr rdT))))
  refine sr (ck 2 (bx H λ r9 h22 H=>ca false (Ie h22) (en (cn H (λ H=>?_) (λ H=>?_)))))
  ·exact rz (ck 11 (ae (qs (sg [2,4]) (hFCa_Over_J1 ({ Block:=p0_.Block,At:=Ai .i64 p0_.At (AU .i64 ((p1_.Put.length:Nat):Int) p1_.Cut),Cut:=p0_.Cut,Put:=p0_.Put }:Ab) H))))
  ·exact sk (qs (sg [2,4]) (hFCa_Over_J1 p0_ H))
end
section
variable (p0_:Int)
def Jhd:St:=⟨(0,.d (.int .i64 p0_))::[],[]⟩
variable {p0_}
theorem HL {z} (H:Ek n p0_=some z):Aq Tryz.prog 79 [.d (.int .i64 p0_)] (.d (.bool z)):=by
 exact fO 6 (Jhd p0_) Tryz.func79 (sr (ck 1 (en (sr (ck 4 (en (re (by cases H;exact pr rd))))))))
end
section
variable (p0_:Int) (p1_:Int)
def Jhe:St:=⟨(0,.d (.int .i64 p0_))::(1,.d (.int .i64 p1_))::[],[]⟩
variable {p0_ p1_}
theorem Dy {z} (H:B6 n p0_ p1_=some z):Aq Tryz.prog 56 [.d (.int .i64 p0_),.d (.int .i64 p1_)] (.d (.int .i64 z)):=by
 refine fO 20 (Jhe p0_ p1_) Tryz.func56 (sr (ck 1 (en (sr (ck 1 (bx H λ r10 h23 H=>ca false (HL h23) (ck 1 (en (sr (ck 1 (bx H λ r11 h24 H=>ca false (HL h24) (ck 1 (en (sq (sr (ck 1 (en (cn H (λ H=>?_) (λ H=>?_)))))))))))))))))))
 ·refine sq (sr (ck 1 (en (cn H (λ H=>?_) (λ H=>?_)))))
  ·exact sr (ck 1 (en (re (qr (qr (by cases H;exact pr rd))))))
  ·exact sk (qz (sr (ck 1 (en (re (qr (by cases H;exact pr rd)))))))
 ·refine sk (qz (sq (sr (ck 1 (en (cn H (λ H=>?_) (λ H=>?_)))))))
  ·exact sr (ck 1 (en (re (qr (by cases H;exact pr rd)))))
  ·refine sk (qz (sq (sr (ck 3 (en (cn H (λ H=>?_) (λ H=>?_)))))))
   ·exact sr (ck 1 (en (re (qr (by cases H;exact pr rd)))))
   ·refine sk (qz (sq (sr (ck 3 (en (cn H (λ H=>?_) (λ H=>?_)))))))
    ·exact sr (ck 1 (en (re (qr (by cases H;exact pr rd)))))
    ·exact sk (qz (sr (ck 1 (en (re (by cases H;exact pr rd))))))
end
section
variable (p0_:(List UInt8))
def Jhf:St:=⟨(0,.d (.str p0_))::[],[]⟩
variable {p0_}
theorem FR {z} (H:C3 n p0_=some z):Aq Tryz.prog 80 [.d (.str p0_)] (.d (.bool z)):=by
 exact fO 6 (Jhf p0_) Tryz.func80 (sr (ck 1 (en (sr (ck 4 (en (re (by cases H;exact pr rd))))))))
end
section
variable (p0_:(List UInt8)) (p1_:(List UInt8))
def Jhg:St:=⟨(0,.d (.str p0_))::(1,.d (.str p1_))::[],[]⟩
variable {p0_ p1_}
theorem Jv {z} (H:Cs n p0_ p1_=some z):Aq Tryz.prog 57 [.d (.str p0_),.d (.str p1_)] (.d (.int .i64 z)):=by
 refine fO 20 (Jhg p0_ p1_) Tryz.func57 (sr (ck 1 (en (sr (ck 1 (bx H λ r12 h25 H=>ca false (FR h25) (ck 1 (en (sr (ck 1 (bx H λ r13 h26 H=>ca false (FR h26) (ck 1 (en (sq (sr (ck 1 (en (cn H (λ H=>?_) (λ H=>?_)))))))))))))))))))
 ·refine sq (sr (ck 1 (en (cn H (λ H=>?_) (λ H=>?_)))))
  ·exact sr (ck 1 (en (re (qr (qr (by cases H;exact pr rd))))))
  ·exact sk (qz (sr (ck 1 (en (re (qr (by cases H;exact pr rd)))))))
 ·refine sk (qz (sq (sr (ck 1 (en (cn H (λ H=>?_) (λ H=>?_)))))))
  ·exact sr (ck 1 (en (re (qr (by cases H;exact pr rd)))))
  ·refine sk (qz (sq (sr (ck 3 (en (cn H (λ H=>?_) (λ H=>?_)))))))
   ·exact sr (ck 1 (en (re (qr (by cases H;exact pr rd)))))
   ·refine sk (qz (sq (sr (ck 3 (en (cn H (λ H=>?_) (λ H=>?_)))))))
    ·exact sr (ck 1 (en (re (qr (by cases H;exact pr rd)))))
    ·exact sk (qz (sr (ck 1 (en (re (by cases H;exact pr rd))))))
end
section
variable (p0_:(List Int)) (x_4:Int)
def Jhh:St:=⟨(0,.d (.sl (p0_.map A6)))::[],[]⟩
def Jhi:St:=⟨(5,.d (.sl (p0_.map A6)))::(6,.d (.int .i64 ((p0_.length:Nat):Int)))::(7,.d (.int .i64 x_4))::[],[]⟩
def Jhj:St:=⟨[],[]⟩
def OO:(Unit⊕Int)->Ex->St->Prop:=xS (xX 0 0 (λ (y:Unit)=>Jhj)) (xR ty Tryz.f55 (λ (y:Int)=>.d (.int .i64 y)))
def IC:Int->St:=(λ (x:Int)=>Jhi p0_ x)
variable {p0_ x_4}
theorem HM (x:Int) (z:(Int⊕(Unit⊕Int))) (H:GU n p0_ x=some z):WP (cxk 15 0) (Aw Tryz.f55) [1,0,1,0,0] (Au 0 (IC p0_) (OO) z) (IC p0_ x):=by
 revert H
 generalize x=x_4
 intro H
 refine sr (ck 1 (en (sq (cn H (λ H=>?_) (λ H=>?_)))))
 ·refine sk (qz (sq (bk 1 (sr (bx H λ x3 h27 H=>sp (Ak A6 h27) (ck 2 (en (sr (ck 2 (en (cn H (λ H=>?_) (λ H=>?_))))))))))))
  ·exact sr (ck 2 (en (re (qR (qr (by cases H;exact ro rfl rd))))))
  ·exact sk (qN (qz (rz (ck 2 (ae (by cases H;exact og (sg [5,6,7])))))))
 ·exact ex 0 (qx (by cases H;exact xo rfl (sg [])))
theorem RM {z} (H:HB n p0_=some z):Aq Tryz.prog 55 [.d (.sl (p0_.map A6))] (.d (.int .i64 z)):=by
 refine fO 15 (Jhh p0_) Tryz.func55 (sr (ck 1 (en (sq (sr (ck 1 (sp (Av A6 p0_) (ck 1 (en (bk 0 (bx H λ y7 h28 H=>?_)))))))))))
 rcases y7 with y8|y9
 ·exact lX HM h28 (sg [5,6,7]) rfl λ s hE5=>qH (qs (hE5) (sr (ck 1 (en (re (by cases H;exact pr rd))))))
 ·exact lR HM h28 (sg [5,6,7]) rfl λ s hE6=>qR (qr (by cases H;exact pr hE6))
end
section
variable (p0_:Ab) (p1_:Ab)
def Jhk:St:=⟨(0,.agg [.d (.int .i64 p0_.Block),.d (.int .i64 p0_.At),.d (.int .i64 p0_.Cut),.d (.str p0_.Put)])::(1,.agg [.d (.int .i64 p1_.Block),.d (.int .i64 p1_.At),.d (.int .i64 p1_.Cut),.d (.str p1_.Put)])::[],[]⟩
variable {p0_ p1_}
theorem Us {z} (H:GL n p0_ p1_=some z):Aq Tryz.prog 39 [.agg (Bi p0_),.agg (Bi p1_)] (.d (.int .i64 z)):=by
 exact fO 27 (Jhk p0_ p1_) Tryz.func39 (sr (ck 3 (en (sr (ck 4 (bx H λ r14 h29 H=>ca false (Dy h29) (ck 4 (bx H λ r15 h30 H=>ca false (Dy h30) (ck 4 (bx H λ r16 h31 H=>ca false (Dy h31) (ck 4 (bx H λ r17 h32 H=>ca false (Jv h32) (ck 1 (bx H λ r18 h33 H=>cb (ks:=[2]) (obl:=[(0+List.length [r14,r15,r16,r17],List.length (List.map A6 [r14,r15,r16,r17]))]) true (leK leM (leZ)) (CJ Ga rfl) (RM h33) (Or.inr trivial) rfl (ck 1 (en (re (by cases H;exact pr rd))))))))))))))))))
end
section
variable (p0_:Ab) (p1_:(List Ab)) (c_2:Ab) (x_5:Int) (c_3:Ab)
def Jhl:St:=⟨(0,.agg [.d (.int .i64 p0_.Block),.d (.int .i64 p0_.At),.d (.int .i64 p0_.Cut),.d (.str p0_.Put)])::(1,.d (.sl (p1_.map Ae)))::[],[]⟩
def Jhm:St:=⟨(1,.d (.sl (p1_.map Ae)))::(2,.ptr 0 0)::(4,.ptr 1 0)::(11,.d (.sl (p1_.map Ae)))::(12,.d (.int .i64 ((p1_.length:Nat):Int)))::(13,.d (.int .i64 x_5))::[],[some (.box (Bi c_2)),some (.box [.d (.int .i64 0),.d (.int .i64 0),.d (.int .i64 0),.d (.str [])])]⟩
def Jhn:St:=⟨(1,.d (.sl (p1_.map Ae)))::(2,.ptr 0 0)::(4,.ptr 1 0)::[],[some (.box (Bi c_3)),some (.box [.d (.int .i64 0),.d (.int .i64 0),.d (.int .i64 0),.d (.str [])])]⟩
def RN:(Ab⊕(Ab×Int×Bool))->Ex->St->Prop:=xS (xX 0 0 (λ (y:Ab)=>Jhn p1_ y)) (xR ty Tryz.f28 (λ (y:(Ab×Int×Bool))=>.tup [.agg [.d (.int .i64 y.1.Block),.d (.int .i64 y.1.At),.d (.int .i64 y.1.Cut),.d (.str y.1.Put)],.d (.int .i64 y.2.1),.d (.bool y.2.2)]))
def KE:(Ab×Int)->St:=(λ (x:(Ab×Int))=>Jhm p1_ x.1 x.2)
variable {p0_ p1_ c_2 x_5 c_3}
theorem JK (x:(Ab×Int)) (z:((Ab×Int)⊕(Ab⊕(Ab×Int×Bool)))) (H:Gq n p1_ x.1 x.2=some z):WP (cxk 33 0) (Aw Tryz.f28) [1,0,1,0,0] (Au 0 (KE p1_) (RN p1_) z) (KE p1_ x):=by
 obtain ⟨c_2,x_5⟩:=x
 refine sr (ck 1 (en (sq (cn H (λ H=>?_) (λ H=>?_)))))
 ·refine sk (qz (sq (bk 1 (sr (ck 1 (bx H λ x4 h34 H=>sp (Ak Ae h34) (ck 4 (en (sr (ck 2 (bx H λ r19 h35 H=>ca false (Ea h35) (ck 6 (en (sq (sr (ck 2 (en (cn H (λ H=>?_) (λ H=>?_)))))))))))))))))))
  ·exact sr (ck 5 (en (re (qr (qR (qr (by cases H;exact ro rfl rdT)))))))
  ·exact sk (qz (rz (ck 2 (ae (qN (qz (rz (ck 2 (ae (by cases H;exact og (sg [1,2,4,11,12,13])))))))))))
 ·exact ex 0 (qx (by cases H;exact xo rfl (sg [1,2,4])))
theorem NC {z} (H:Iv n p0_ p1_=some z):Aq Tryz.prog 28 [.agg (Bi p0_),.d (.sl (p1_.map Ae))] (.tup [.agg [.d (.int .i64 z.1.Block),.d (.int .i64 z.1.At),.d (.int .i64 z.1.Cut),.d (.str z.1.Put)],.d (.int .i64 z.2.1),.d (.bool z.2.2)]):=by
 refine fO 33 (Jhl p0_ p1_) Tryz.func28 (sr (ck 4 (en (sq (sr (ck 1 (sp (Av Ae p1_) (ck 1 (en (bk 0 (bx H λ y10 h36 H=>?_)))))))))))
 rcases y10 with y11|y12
 ·exact lX JK h36 (sg [1,2,4,11,12,13]) rfl λ s hE7=>qH (qs (hE7) (sr (ck 2 (sp (Av Ae p1_) (ck 3 (en (re (by cases H;exact pr rdT))))))))
 ·exact lR JK h36 (sg [1,2,4,11,12,13]) rfl λ s hE8=>qR (qr (by cases H;exact pr hE8))
end
theorem We {n:Nat} {o0_:(List Ab)} {z:(List Ab)} (H:RI n o0_=some z):BM Tryz.prog 38 [.osl 0 4 0 (o0_.length),.clo 39 []] [some (.arr 4 (o0_.map Ae))] 1 (.tup []) [some (.arr 4 (z.map Ae))]:=XK Tryz.laysSortF (by decide) Tryz.isAgg33 Tryz.sizeOf33 (enc:=Ae) (λ _=>rfl) (λ x d hd=>by simp only [Ae,List.mem_cons,List.not_mem_nil,or_false] at hd;rcases hd with rfl|rfl|rfl|rfl<;>rfl) (Um Tryz.func39) (λ h=>Us h) ⟨_,_,Tryz.func38,rfl,rfl⟩ H
section
variable (o0_:(List Ab)) (x_6:(List Ab)) (x_7:(Nat×Nat)) (k_1:Int) (s_1:(List Ab)) (k_2:Int) (k2_1:Int) (s_2:(List Ab)) (k_3:Int) (s_3:(List Ab)) (k_4:Int)
def JbL:St:=⟨(0,.osl 0 4 0 (o0_.length))::[],[some (.arr 4 (o0_.map Ae))]⟩
def RO:St:=⟨(2,.osl 0 4 x_7.1 x_7.2)::[],[some (.arr 4 (x_6.map Ae))]⟩
def JbM:St:=⟨(0,.osl 0 4 0 (o0_.length))::(3,.d (.int .i64 k_1))::[],[some (.arr 4 (o0_.map Ae))]⟩
def JbN:St:=⟨(0,.osl 0 4 0 (o0_.length))::[],[some (.arr 4 (o0_.map Ae))]⟩
def JbO:St:=⟨(0,.osl 0 4 0 (s_1.length))::(3,.d (.int .i64 k_2))::(4,.osl 0 4 ((0+Int.toNat k_1,Int.toNat ((o0_.length:Nat):Int)-Int.toNat k_1):Nat×Nat).1 ((0+Int.toNat k_1,Int.toNat ((o0_.length:Nat):Int)-Int.toNat k_1):Nat×Nat).2)::(5,.d (.int .i64 k2_1))::[],[some (.arr 4 (s_1.map Ae))]⟩
def JbP:St:=⟨(0,.osl 0 4 0 (s_2.length))::(3,.d (.int .i64 k_3))::[],[some (.arr 4 (s_2.map Ae))]⟩
def JbQ:St:=⟨(0,.osl 0 4 0 (s_3.length))::(3,.d (.int .i64 k_4))::(4,.osl 0 4 ((0+Int.toNat k_1,Int.toNat ((o0_.length:Nat):Int)-Int.toNat k_1):Nat×Nat).1 ((0+Int.toNat k_1,Int.toNat ((o0_.length:Nat):Int)-Int.toNat k_1):Nat×Nat).2)::(5,.d (.int .i64 k2_1))::[],[some (.arr 4 (s_3.map Ae))]⟩
def OP:((List Ab)×Int)->Ex->St->Prop:=xX 1 2 (λ (y:((List Ab)×Int))=>JbP y.1 y.2)
def ID:((List Ab)×Int×Int)->St:=(λ (x:((List Ab)×Int×Int))=>JbO o0_ k_1 x.1 x.2.1 x.2.2)
def OQ:(Unit⊕((List Ab)×(Nat×Nat)))->Ex->St->Prop:=xS (xX 1 0 (λ (y:Unit)=>JbN o0_)) (xL 1 ty Tryz.f40 (λ (y:((List Ab)×(Nat×Nat)))=>.osl 0 4 y.2.1 y.2.2) (λ (y:((List Ab)×(Nat×Nat)))=>[some (.arr 4 (y.1.map Ae))]))
def IE:Int->St:=(λ (x:Int)=>JbM o0_ x)
variable {o0_ x_6 x_7 k_1 s_1 k_2 k2_1 s_2 k_3 s_3 k_4}
theorem NE (x:((List Ab)×Int×Int)) (z:(((List Ab)×Int×Int)⊕((List Ab)×Int))) (H:GW n o0_ k_1 x.1 x.2.1 x.2.2=some z):WP (cxk 61 1) (Aw Tryz.f40) [1,1,0,1,0,0,1,0,0,1,0,1,0,1,0,0] (Au 1 (ID o0_ k_1) (OP) z) (ID o0_ k_1 x):=by
 obtain ⟨s_1,k_2,k2_1⟩:=x
 refine sq (sr (ck 4 (en (cn H (λ H=>?_) (λ H=>?_)))))
 ·refine sk (qz (sj (λ (x:((List Ab)×Int))=>JbQ o0_ k_1 k2_1 x.1 x.2) (λ (x:((List Ab)×Int))=>GV n k2_1 x.1 x.2) z ?_ (λ hFApi_Change_J1=>?_)))
  ·rintro ⟨s_3,k_4⟩ H
   exact rz (ck 3 (ae (by cases H;exact og (sg [0,3,4,5]))))
  refine bk 3 (sr (ck 2 (bx H λ x7 h40 H=>sp (QB 0 4 ((0+Int.toNat k_1,Int.toNat ((o0_.length:Nat):Int)-Int.toNat k_1):Nat×Nat).1 ((0+Int.toNat k_1,Int.toNat ((o0_.length:Nat):Int)-Int.toNat k_1):Nat×Nat).2 (RD h40)) (sp (Uk Ae 0 0 (ty 33) (QC h40)) (ck 3 (bx H λ x8 h41 H=>sp (QB 0 4 ((0+Int.toNat k_1,Int.toNat ((o0_.length:Nat):Int)-Int.toNat k_1):Nat×Nat).1 ((0+Int.toNat k_1,Int.toNat ((o0_.length:Nat):Int)-Int.toNat k_1):Nat×Nat).2 (RD h41)) (sp (Uk Ae 0 0 (ty 33) (QC h41)) (ck 1 (en (cn H (λ H=>?_) (λ H=>?_)))))))))))
  ·exact sr (ck 4 (bx H λ x9 h42 H=>sp (QB 0 4 ((0+Int.toNat k_1,Int.toNat ((o0_.length:Nat):Int)-Int.toNat k_1):Nat×Nat).1 ((0+Int.toNat k_1,Int.toNat ((o0_.length:Nat):Int)-Int.toNat k_1):Nat×Nat).2 (RD h42)) (sp (Uk Ae 0 0 (ty 33) (QC h42)) (bx H λ x10 h43 H=>sp (Bl 0 4 h43) (bx H λ l4 h44 H=>stA Ae 0 0 (ty 33) h43 h44 (en (rg (tr (sn 0 0 4 (DL h44)) (sn 45 0 4 (DL h44))) (ck 3 (ae (qN (qs (sg [0,3,4,5]) (hFApi_Change_J1 (l4,(Ai .i64 k_2 1)) H))))))))))))
  ·exact sk (qN (qs (sg [0,3,4,5]) (hFApi_Change_J1 (s_1,k_2) H)))
 ·exact ex 2 (qx (by cases H;exact xo rfl (sg [0,3])))
theorem HN (x:Int) (z:(Int⊕(Unit⊕((List Ab)×(Nat×Nat))))) (H:GX n o0_ x=some z):WP (cxk 61 1) (Aw Tryz.f40) [1,1,0,1,0,0] (Au 1 (IE o0_) (OQ o0_) z) (IE o0_ x):=by
 revert H
 generalize x=k_1
 intro H
 refine sq (sr (ck 4 (en (cn H (λ H=>?_) (λ H=>?_)))))
 ·refine sk (qz (sq (bk 1 (sr (ck 2 (bx H λ x5 h37 H=>sp (Bl 0 4 h37) (sp (B3 Ae 0 0 (ty 33) h37) (ck 3 (bx H λ x6 h38 H=>sp (Bl 0 4 h38) (sp (B3 Ae 0 0 (ty 33) h38) (ck 1 (en (cn H (λ H=>?_) (λ H=>?_))))))))))))))
  ·exact sr (ck 2 (bx H λ l3 h39 H=>sp (My 0 4 h39) (ck 1 (en (sq (sr (ck 1 (en (bk 2 (bx H λ y13 h45 H=>lX NE h45 (sg [0,3,4,5]) rfl λ s hE9=>qH (qs (hE9) (sr (ck 2 (bx H λ l5 h46 H=>sp (My 0 4 h46) (bx H λ l6 h47 H=>xzP (xok _ _) Ae 0 4 ((0+Int.toNat y13.2,Int.toNat ((y13.1.length:Nat):Int)-Int.toNat y13.2):Nat×Nat).1 ((0+Int.toNat y13.2,Int.toNat ((y13.1.length:Nat):Int)-Int.toNat y13.2):Nat×Nat).2 h47 (en (sq (rg (tr (sn 0 0 4 (V9 h47)) (sn 54 0 4 (V9 h47))) (ck 2 (bx H λ l7 h48 H=>sp (My 0 4 h48) (ck 1 (en (re (qR (qr (by cases H;exact lo rfl (rl (s':=RO l6 ((0+Int.toNat 0,Int.toNat y13.2-Int.toNat 0):Nat×Nat)) (sg [2]))))))))))))))))))))))))))))
  ·exact sk (qN (qz (rz (ck 3 (ae (by cases H;exact og (sg [0,3])))))))
 ·exact ex 0 (qx (by cases H;exact xo rfl (sg [0])))
theorem RP {z} (H:Kr n o0_=some z):BM Tryz.prog 40 [.osl 0 4 0 (o0_.length)] [some (.arr 4 (o0_.map Ae))] 1 (.osl 0 4 z.2.1 z.2.2) [some (.arr 4 (z.1.map Ae))]:=by
 refine fL 61 1 (JbL o0_) Tryz.func40 (sr (ck 1 (en (sq (sr (ck 3 (en (cn H (λ H=>?_) (λ H=>?_)))))))))
 ·exact sr (ck 2 (en (re (qr (by cases H;exact pL (rl (s':=RO o0_ ((0,List.length o0_):Nat×Nat)) (sg [2])))))))
 ·refine sk (qz (sq (sr (ck 1 (en (bk 0 (bx H λ y14 h49 H=>?_)))))))
  rcases y14 with y15|y16
  ·exact lX HN h49 (sg [0,3]) rfl λ s hE10=>qH (qs (hE10) (sr (ck 2 (en (re (by cases H;exact pL (rl (s':=RO o0_ ((0,List.length o0_):Nat×Nat)) (sg [2]))))))))
  ·exact lL HN h49 (sg [0,3]) rfl λ s hE11=>qR (qr (by cases H;exact pL hE11))
end
section
variable (p0_:(List AB)) (v_1:Ao) (loud_1:(List Bool)) (x_8:Int) (v_2:Ao) (loud_2:(List Bool)) (v_3:Ao) (loud_3:(List Bool)) (j_1:Int) (v_4:Ao) (loud_4:(List Bool)) (v_5:Ao) (loud_5:(List Bool)) (y18:(Ao×(List Bool))) (agreed_1:(List Ab)) (x_9:Int) (agreed_2:(List Ab)) (agreed_3:(List Ab)) (r22:((List Ab)×(Nat×Nat))) (v_6:Ao) (x_10:Int) (v_7:Ao) (v_8:Ao)
def Jho:St:=⟨(0,.d (.sl (p0_.map A1)))::[],[]⟩
def Jhp:St:=⟨(0,.d (.sl (p0_.map A1)))::(2,.ptr 0 0)::(3,.ptr 1 0)::(4,.osl 2 1 0 (loud_1.length))::(19,.d (.int .i64 ((p0_.length:Nat):Int)))::(20,.d (.int .i64 x_8))::[],[some (.box [.osl 3 4 0 (List.length ([]:List Ab)),.osl 4 2 0 (List.length ([]:List (CB Int)))]),some (.box [.osl 5 4 0 (v_1.Agreed.length),.osl 6 2 0 (v_1.Quarrels.length)]),some (.arr 1 (loud_1.map eB)),some (.arr 4 (List.map Ae ([]:List Ab))),some (.arr 2 (List.map (Bc A6) ([]:List (CB Int)))),some (.arr 4 (v_1.Agreed.map Ae)),some (.arr 2 (v_1.Quarrels.map (Bc A6)))]⟩
def Jhq:St:=⟨(0,.d (.sl (p0_.map A1)))::(2,.ptr 0 0)::(3,.ptr 1 0)::(4,.osl 2 1 0 (loud_2.length))::[],[some (.box [.osl 3 4 0 (List.length ([]:List Ab)),.osl 4 2 0 (List.length ([]:List (CB Int)))]),some (.box [.osl 5 4 0 (v_2.Agreed.length),.osl 6 2 0 (v_2.Quarrels.length)]),some (.arr 1 (loud_2.map eB)),some (.arr 4 (List.map Ae ([]:List Ab))),some (.arr 2 (List.map (Bc A6) ([]:List (CB Int)))),some (.arr 4 (v_2.Agreed.map Ae)),some (.arr 2 (v_2.Quarrels.map (Bc A6)))]⟩
def Jhr:St:=⟨(0,.d (.sl (p0_.map A1)))::(2,.ptr 0 0)::(3,.ptr 1 0)::(4,.osl 2 1 0 (loud_3.length))::(5,.d (.int .i64 x_8))::(6,.d (.int .i64 j_1))::(19,.d (.int .i64 ((p0_.length:Nat):Int)))::(20,.d (.int .i64 x_8))::[],[some (.box [.osl 3 4 0 (List.length ([]:List Ab)),.osl 4 2 0 (List.length ([]:List (CB Int)))]),some (.box [.osl 5 4 0 (v_3.Agreed.length),.osl 6 2 0 (v_3.Quarrels.length)]),some (.arr 1 (loud_3.map eB)),some (.arr 4 (List.map Ae ([]:List Ab))),some (.arr 2 (List.map (Bc A6) ([]:List (CB Int)))),some (.arr 4 (v_3.Agreed.map Ae)),some (.arr 2 (v_3.Quarrels.map (Bc A6)))]⟩
def Jhs:St:=⟨(0,.d (.sl (p0_.map A1)))::(2,.ptr 0 0)::(3,.ptr 1 0)::(4,.osl 2 1 0 (loud_4.length))::(19,.d (.int .i64 ((p0_.length:Nat):Int)))::(20,.d (.int .i64 x_8))::[],[some (.box [.osl 3 4 0 (List.length ([]:List Ab)),.osl 4 2 0 (List.length ([]:List (CB Int)))]),some (.box [.osl 5 4 0 (v_4.Agreed.length),.osl 6 2 0 (v_4.Quarrels.length)]),some (.arr 1 (loud_4.map eB)),some (.arr 4 (List.map Ae ([]:List Ab))),some (.arr 2 (List.map (Bc A6) ([]:List (CB Int)))),some (.arr 4 (v_4.Agreed.map Ae)),some (.arr 2 (v_4.Quarrels.map (Bc A6)))]⟩
def Jht:St:=⟨(0,.d (.sl (p0_.map A1)))::(2,.ptr 0 0)::(3,.ptr 1 0)::(4,.osl 2 1 0 (loud_5.length))::(5,.d (.int .i64 x_8))::(6,.d (.int .i64 j_1))::(19,.d (.int .i64 ((p0_.length:Nat):Int)))::(20,.d (.int .i64 x_8))::[],[some (.box [.osl 3 4 0 (List.length ([]:List Ab)),.osl 4 2 0 (List.length ([]:List (CB Int)))]),some (.box [.osl 5 4 0 (v_5.Agreed.length),.osl 6 2 0 (v_5.Quarrels.length)]),some (.arr 1 (loud_5.map eB)),some (.arr 4 (List.map Ae ([]:List Ab))),some (.arr 2 (List.map (Bc A6) ([]:List (CB Int)))),some (.arr 4 (v_5.Agreed.map Ae)),some (.arr 2 (v_5.Quarrels.map (Bc A6)))]⟩
def SS:(Ao×(List Bool))->Ex->St->Prop:=xX 0 2 (λ (y:(Ao×(List Bool)))=>Jhs p0_ x_8 y.1 y.2)
def Ma:(Ao×(List Bool)×Int)->St:=(λ (x:(Ao×(List Bool)×Int))=>Jhr p0_ x_8 x.1 x.2.1 x.2.2)
def ST:(Ao×(List Bool))->Ex->St->Prop:=xX 0 0 (λ (y:(Ao×(List Bool)))=>Jhq p0_ y.1 y.2)
def Mb:(Ao×(List Bool)×Int)->St:=(λ (x:(Ao×(List Bool)×Int))=>Jhp p0_ x.1 x.2.1 x.2.2)
def Jhu:St:=⟨(2,.ptr 0 0)::(3,.ptr 1 0)::(4,.osl 2 1 0 (y18.2.length))::(7,.osl 3 4 0 (agreed_1.length))::(71,.d (.sl (p0_.map A1)))::(72,.d (.int .i64 ((p0_.length:Nat):Int)))::(73,.d (.int .i64 x_9))::[],[some (.box [.osl 4 4 0 (List.length ([]:List Ab)),.osl 5 2 0 (List.length ([]:List (CB Int)))]),some (.box [.osl 6 4 0 (y18.1.Agreed.length),.osl 7 2 0 (y18.1.Quarrels.length)]),some (.arr 1 (y18.2.map eB)),some (.arr 4 (agreed_1.map Ae)),some (.arr 4 (List.map Ae ([]:List Ab))),some (.arr 2 (List.map (Bc A6) ([]:List (CB Int)))),some (.arr 4 (y18.1.Agreed.map Ae)),some (.arr 2 (y18.1.Quarrels.map (Bc A6)))]⟩
def Jhv:St:=⟨(2,.ptr 0 0)::(3,.ptr 1 0)::(7,.osl 2 4 0 (agreed_2.length))::[],[some (.box [.osl 3 4 0 (List.length ([]:List Ab)),.osl 4 2 0 (List.length ([]:List (CB Int)))]),some (.box [.osl 5 4 0 (y18.1.Agreed.length),.osl 6 2 0 (y18.1.Quarrels.length)]),some (.arr 4 (agreed_2.map Ae)),some (.arr 4 (List.map Ae ([]:List Ab))),some (.arr 2 (List.map (Bc A6) ([]:List (CB Int)))),some (.arr 4 (y18.1.Agreed.map Ae)),some (.arr 2 (y18.1.Quarrels.map (Bc A6)))]⟩
def Jhw:St:=⟨(2,.ptr 0 0)::(3,.ptr 1 0)::(4,.osl 2 1 0 (y18.2.length))::(7,.osl 3 4 0 (agreed_3.length))::(71,.d (.sl (p0_.map A1)))::(72,.d (.int .i64 ((p0_.length:Nat):Int)))::(73,.d (.int .i64 x_9))::[],[some (.box [.osl 4 4 0 (List.length ([]:List Ab)),.osl 5 2 0 (List.length ([]:List (CB Int)))]),some (.box [.osl 6 4 0 (y18.1.Agreed.length),.osl 7 2 0 (y18.1.Quarrels.length)]),some (.arr 1 (y18.2.map eB)),some (.arr 4 (agreed_3.map Ae)),some (.arr 4 (List.map Ae ([]:List Ab))),some (.arr 2 (List.map (Bc A6) ([]:List (CB Int)))),some (.arr 4 (y18.1.Agreed.map Ae)),some (.arr 2 (y18.1.Quarrels.map (Bc A6)))]⟩
def SU:(List Ab)->Ex->St->Prop:=xX 0 4 (λ (y:(List Ab))=>Jhv y18 y)
def Mc:((List Ab)×Int)->St:=(λ (x:((List Ab)×Int))=>Jhu p0_ y18 x.1 x.2)
def JdO:St:=⟨(2,.ptr 0 0)::(3,.ptr 1 0)::(92,.osl 2 4 r22.2.1 r22.2.2)::(93,.d (.int .i64 ((r22.2.2:Nat):Int)))::(94,.d (.int .i64 x_10))::[],[some (.box [.osl 3 4 0 (List.length ([]:List Ab)),.osl 4 2 0 (List.length ([]:List (CB Int)))]),some (.box [.osl 5 4 0 (v_6.Agreed.length),.osl 6 2 0 (v_6.Quarrels.length)]),some (.arr 4 (r22.1.map Ae)),some (.arr 4 (List.map Ae ([]:List Ab))),some (.arr 2 (List.map (Bc A6) ([]:List (CB Int)))),some (.arr 4 (v_6.Agreed.map Ae)),some (.arr 2 (v_6.Quarrels.map (Bc A6)))]⟩
def JdP:St:=⟨(2,.ptr 0 0)::(3,.ptr 1 0)::[],[some (.box [.osl 2 4 0 (List.length ([]:List Ab)),.osl 3 2 0 (List.length ([]:List (CB Int)))]),some (.box [.osl 4 4 0 (v_7.Agreed.length),.osl 5 2 0 (v_7.Quarrels.length)]),some (.arr 4 (List.map Ae ([]:List Ab))),some (.arr 2 (List.map (Bc A6) ([]:List (CB Int)))),some (.arr 4 (v_7.Agreed.map Ae)),some (.arr 2 (v_7.Quarrels.map (Bc A6)))]⟩
def JdQ:St:=⟨(2,.ptr 0 0)::(3,.ptr 1 0)::(92,.osl 2 4 r22.2.1 r22.2.2)::(93,.d (.int .i64 ((r22.2.2:Nat):Int)))::(94,.d (.int .i64 x_10))::[],[some (.box [.osl 3 4 0 (List.length ([]:List Ab)),.osl 4 2 0 (List.length ([]:List (CB Int)))]),some (.box [.osl 5 4 0 (v_8.Agreed.length),.osl 6 2 0 (v_8.Quarrels.length)]),some (.arr 4 (r22.1.map Ae)),some (.arr 4 (List.map Ae ([]:List Ab))),some (.arr 2 (List.map (Bc A6) ([]:List (CB Int)))),some (.arr 4 (v_8.Agreed.map Ae)),some (.arr 2 (v_8.Quarrels.map (Bc A6)))]⟩
def SV:Ao->Ex->St->Prop:=xX 0 6 (λ (y:Ao)=>JdP y)
def Md:(Ao×Int)->St:=(λ (x:(Ao×Int))=>JdO r22 x.1 x.2)
variable {p0_ v_1 loud_1 x_8 v_2 loud_2 v_3 loud_3 j_1 v_4 loud_4 v_5 loud_5 y18 agreed_1 x_9 agreed_2 agreed_3 r22 v_6 x_10 v_7 v_8}
theorem RQ (x:(Ao×(List Bool)×Int)) (z:((Ao×(List Bool)×Int)⊕(Ao×(List Bool)))) (H:Kt n p0_ x_8 x.1 x.2.1 x.2.2=some z):WP (cxk 115 0) (Aw Tryz.f17) [1,1,1,0,1,0,0,1,1,0,0,1,1,0,0] (Au 0 (Ma p0_ x_8) (SS p0_ x_8) z) (Ma p0_ x_8 x):=by
 obtain ⟨v_3,loud_3,j_1⟩:=x
 refine sq (sr (ck 2 (sp (Av A1 p0_) (ck 1 (en (cn H (λ H=>?_) (λ H=>?_)))))))
 ·refine sk (qz (sj (λ (x:(Ao×(List Bool)))=>Jht p0_ x_8 j_1 x.1 x.2) (λ (x:(Ao×(List Bool)))=>Ks n j_1 x.1 x.2) z ?_ (λ hFCa_Join_J1=>?_)))
  ·rintro ⟨v_5,loud_5⟩ H
   exact rz (ck 3 (ae (by cases H;exact og (sg [0,2,3,4,5,6,19,20]))))
  refine bk 3 (sr (ck 2 (bx H λ x11 h51 H=>sp (Ak A1 h51) (ck 4 (bx H λ x12 h52 H=>sp (Ak A1 h52) (ck 6 (bx H λ x13 h53 H=>sE (λ hg=>Ak A1 (Ba h53 hg)) (gc 2 (!((x11.C.Block==x12.C.Block)&&((x11.C.At==x12.C.At)&&((x11.C.Cut==x12.C.Cut)&&((x11.C.Put==x12.C.Put)&&true))))) (ck 2 (bx H λ x14 h54 H=>sE (λ hg=>Ak A1 (Ba h54 hg)) (gc 2 (!((x11.C.Block==x12.C.Block)&&((x11.C.At==x12.C.At)&&((x11.C.Cut==x12.C.Cut)&&((x11.C.Put==x12.C.Put)&&true))))) (bx H λ r20 h55 H=>cG false (leZ) rfl (λ hg=>PU (Ba h55 hg)) (Or.inl rfl) (BW (λ hh=>hh) (BW (λ hh=>hh) (C9))) rfl (gc 1 (!((x11.C.Block==x12.C.Block)&&((x11.C.At==x12.C.At)&&((x11.C.Cut==x12.C.Cut)&&((x11.C.Put==x12.C.Put)&&true))))) (pA (en (cn H (λ H=>?_) (λ H=>?_)))))))))))))))))
  ·exact sr (ck 6 (bx H λ l9 h56 H=>sp (A3 (Bc A6) 6 2 h56) (ck 2 (en (rz (ck 4 (bx H λ x15 h57 H=>sp (Bl 2 1 h57) (bx H λ l10 h58 H=>stA eB 2 0 (ty 4) h57 h58 (bx H λ x16 h59 H=>sp (JdB 2 1 ((DL h58)) h59) (bx H λ l11 h60 H=>stA eB 2 0 (ty 4) h59 h60 (ae (qN (qs (tr (tr (tr (sn 4 2 1 (Eq.trans (DL h58) (DL h60))) (sn 64 2 1 (Eq.trans (DL h58) (DL h60)))) (sn 66 2 1 (Eq.trans (DL h58) (DL h60)))) (sg [0,2,3,4,5,6,19,20])) (hFCa_Join_J1 (({ Agreed:=v_3.Agreed,Quarrels:=l9 }:Ao),l11) H))))))))))))))
  ·exact sk (qN (qs (sg [0,2,3,4,5,6,19,20]) (hFCa_Join_J1 (v_3,loud_3) H)))
 ·exact ex 2 (qx (by cases H;exact xo rfl (sg [0,2,3,4,19,20])))
theorem RR (x:(Ao×(List Bool)×Int)) (z:((Ao×(List Bool)×Int)⊕(Ao×(List Bool)))) (H:HC n p0_ x.1 x.2.1 x.2.2=some z):WP (cxk 115 0) (Aw Tryz.f17) [1,1,1,0,1,0,0] (Au 0 (Mb p0_) (ST p0_) z) (Mb p0_ x):=by
 obtain ⟨v_1,loud_1,x_8⟩:=x
 refine sr (ck 1 (en (sq (cn H (λ H=>?_) (λ H=>?_)))))
 ·exact sk (qz (sq (bk 1 (sr (ck 2 (en (sr (ck 3 (en (bk 2 (bx H λ y17 h61 H=>lX RQ h61 (sg [0,2,3,4,5,6,19,20]) rfl λ s hE12=>qH (qN (qs (hE12) (rz (ck 2 (ae (by cases H;exact og (sg [0,2,3,4,19,20]))))))))))))))))))
 ·exact ex 0 (qx (by cases H;exact xo rfl (sg [0,2,3,4])))
theorem RT (x:((List Ab)×Int)) (z:(((List Ab)×Int)⊕(List Ab))) (H:FN n p0_ y18 x.1 x.2=some z):WP (cxk 115 0) (Aw Tryz.f17) [1,1,1,1,1,0,1,0,0] (Au 0 (Mc p0_ y18) (SU y18) z) (Mc p0_ y18 x):=by
 obtain ⟨agreed_1,x_9⟩:=x
 refine sr (ck 1 (en (sq (cn H (λ H=>?_) (λ H=>?_)))))
 ·refine sk (qz (sj (λ (x:(List Ab))=>Jhw p0_ y18 x_9 x) (λ (x:(List Ab))=>Ku n x_9 x) z ?_ (λ hFCa_Join_J2=>?_)))
  ·intro agreed_3 H
   exact rz (ck 2 (ae (by cases H;exact og (sg [2,3,4,7,71,72,73]))))
  refine bk 5 (sr (ck 1 (bx H λ x17 h63 H=>sp (Ak A1 h63) (ck 4 (en (sr (ck 2 (bx H λ x18 h64 H=>sp (Bl 2 1 h64) (sp (B3 eB 2 0 (ty 4) h64) (ck 1 (en (cn H (λ H=>?_) (λ H=>?_)))))))))))))
  ·exact rz (ck 4 (bx H λ l12 h65 H=>sp (A3 Ae 3 4 h65) (ck 1 (ae (qN (qs (sg [2,3,4,7,71,72,73]) (hFCa_Join_J2 l12 H)))))))
  ·exact sk (qN (qs (sg [2,3,4,7,71,72,73]) (hFCa_Join_J2 agreed_1 H)))
 ·exact ex 4 (qx (by cases H;exact xo rfl (sg [2,3,7])))
theorem RU (x:(Ao×Int)) (z:((Ao×Int)⊕Ao)) (H:HD n r22 x.1 x.2=some z):WP (cxk 115 0) (Aw Tryz.f17) [1,1,1,1,1,1,1,0,1,0,0] (Au 0 (Md r22) (SV) z) (Md r22 x):=by
 obtain ⟨v_6,x_10⟩:=x
 refine sr (ck 1 (en (sq (cn H (λ H=>?_) (λ H=>?_)))))
 ·refine sk (qz (sj (λ (x:Ao)=>JdQ r22 x_10 x) (λ (x:Ao)=>Kv n x_10 x) z ?_ (λ hFCa_Join_J3=>?_)))
  ·intro v_8 H
   exact rz (ck 2 (ae (by cases H;exact og (sg [2,3,92,93,94]))))
  refine bk 7 (sr (bx H λ x19 h70 H=>sp (QB 2 4 r22.2.1 r22.2.2 (RD h70)) (sp (Uk Ae 2 0 (ty 33) (QC h70)) (ck 2 (en (sr (ck 3 (bx H λ r23 h71 H=>cb (ks:=[5]) (obl:=[(0+List.length v_6.Agreed,List.length (v_6.Agreed.map Ae))]) false (leK leM (leZ)) (CJ rfl (CJ Ga rfl)) (NC h71) (Or.inr ⟨⟨trivial,⟨trivial,⟨trivial,⟨trivial,trivial⟩⟩⟩⟩,⟨trivial,⟨trivial,trivial⟩⟩⟩) rfl (ck 8 (en (sr (ck 1 (en (cn H (λ H=>?_) (λ H=>?_)))))))))))))))
  ·exact rz (ck 4 (bx H λ l13 h72 H=>sp (A3 Ae 5 4 h72) (ck 2 (ae (qN (qs (sg [2,3,92,93,94]) (hFCa_Join_J3 ({ Agreed:=l13,Quarrels:=v_6.Quarrels }:Ao) H)))))))
  ·exact sk (qN (qs (sg [2,3,92,93,94]) (hFCa_Join_J3 v_6 H)))
 ·exact ex 6 (qx (by cases H;exact xo rfl (sg [2,3])))
theorem KF {z} (H:Iw n p0_=some z):Aq Tryz.prog 17 [.d (.sl (p0_.map A1))] (.agg [.own 4 (z.Agreed.map Ae),.own 2 (z.Quarrels.map (Bc A6))]):=by
 exact fO 115 (Jho p0_) Tryz.func17 (sr (ck 1 (en (sr (ck 1 (en (sr (ck 1 (sp (Av A1 p0_) (bx H λ l8 h50 H=>sp (Jkz eB 1 h50) (ck 1 (en (sq (sr (ck 1 (sp (Av A1 p0_) (ck 1 (en (bk 0 (bx H λ y18 h62 H=>lX RR h62 (tr (tr (tr (tr (Bz 0 0 4 (by kernel_rfl)) (Bz 0 1 2 (by kernel_rfl))) (Bz 1 0 4 (by kernel_rfl))) (Bz 1 1 2 (by kernel_rfl))) (sg [0,2,3,4,19,20])) rfl λ s hE13=>qH (qs (hE13) (sr (ck 1 (en (sq (sr (ck 1 (sp (Av A1 p0_) (ck 1 (en (bk 4 (bx H λ y19 h66 H=>lX RT h66 (tr (AR.nilo 7 4 (by kernel_rfl)) (sg [2,3,4,7,71,72,73])) rfl λ s hE14=>qH (qs (hE14) (sr (ck 1 (bx H λ r21 h67 H=>lt [2] (We h67) (bx H λ _ h68 H=>en (sq (sq (rg (tr (sn 7 2 4 (TA h68)) (sn 89 2 4 (TA h68))) (ck 1 (bx H λ r22 h69 H=>lt [2] (RP h69) (ck 2 (en (bk 6 (bx H λ y20 h73 H=>lX RU h73 (sg [2,3,92,93,94]) rfl λ s hE15=>qH (qs (hE15) (sr (ck 2 (en (re (by cases H;exact pr (rO (v:=.agg [.osl 4 4 0 (z.Agreed.length),.osl 5 2 0 (z.Quarrels.length)]) [4,5] (a1 (c1 vo (c1 vo (c0)))))))))))))))))))))))))))))))))))))))))))))))))))))))))
end
section
variable (p0_:(List Am)) (p1_:(List Am)) (i_1:Int)
def Jhx:St:=⟨(0,.d (.sl (p0_.map AE)))::(1,.d (.sl (p1_.map AE)))::[],[]⟩
def Jhy:St:=⟨(0,.d (.sl (p0_.map AE)))::(1,.d (.sl (p1_.map AE)))::(5,.d (.int .i64 i_1))::[],[]⟩
def Jhz:St:=⟨[],[]⟩
def RV:(Unit⊕Bool)->Ex->St->Prop:=xS (xX 0 0 (λ (y:Unit)=>Jhz)) (xR ty Tryz.f50 (λ (y:Bool)=>.d (.bool y)))
def KG:Int->St:=(λ (x:Int)=>Jhy p0_ p1_ x)
variable {p0_ p1_ i_1}
theorem JL (x:Int) (z:(Int⊕(Unit⊕Bool))) (H:Gr n p0_ p1_ x=some z):WP (cxk 26 0) (Aw Tryz.f50) [1,1,0,1,0,0] (Au 0 (KG p0_ p1_) (RV) z) (KG p0_ p1_ x):=by
 revert H
 generalize x=i_1
 intro H
 refine sq (sr (ck 2 (sp (Av AE p0_) (ck 1 (en (cn H (λ H=>?_) (λ H=>?_)))))))
 ·refine sk (qz (sq (bk 1 (sr (ck 2 (bx H λ x20 h74 H=>sp (Ak AE h74) (ck 3 (bx H λ x21 h75 H=>sp (Ak AE h75) (ck 2 (en (cn H (λ H=>?_) (λ H=>?_))))))))))))
  ·exact sr (ck 1 (en (re (qR (qr (by cases H;exact ro rfl rd))))))
  ·exact sk (qN (qz (rz (ck 3 (ae (by cases H;exact og (sg [0,1,5])))))))
 ·exact ex 0 (qx (by cases H;exact xo rfl (sg [])))
theorem Ut {z} (H:OD n p0_ p1_=some z):Aq Tryz.prog 50 [.d (.sl (p0_.map AE)),.d (.sl (p1_.map AE))] (.d (.bool z)):=by
 refine fO 26 (Jhx p0_ p1_) Tryz.func50 (sr (ck 1 (en (sq (sr (ck 1 (sp (Av AE p0_) (ck 1 (sp (Av AE p1_) (ck 1 (en (cn H (λ H=>?_) (λ H=>?_)))))))))))))
 ·exact sr (ck 1 (en (re (qr (by cases H;exact pr rd)))))
 ·refine sk (qz (sq (sr (ck 1 (en (bk 0 (bx H λ y21 h76 H=>?_)))))))
  rcases y21 with y22|y23
  ·exact lX JL h76 (sg [0,1,5]) rfl λ s hE16=>qH (qs (hE16) (sr (ck 1 (en (re (by cases H;exact pr rd))))))
  ·exact lR JL h76 (sg [0,1,5]) rfl λ s hE17=>qR (qr (by cases H;exact pr hE17))
end
section
variable (p0_:(List (List (List UInt8)))) (p1_:(List (List (List UInt8)))) (i_2:Int) (k_5:Int)
def JhA:St:=⟨(0,.d (.sl (p0_.map (eL eS))))::(1,.d (.sl (p1_.map (eL eS))))::[],[]⟩
def JhB:St:=⟨(0,.d (.sl (p0_.map (eL eS))))::(1,.d (.sl (p1_.map (eL eS))))::(5,.d (.int .i64 i_2))::[],[]⟩
def JhC:St:=⟨[],[]⟩
def JhD:St:=⟨(0,.d (.sl (p0_.map (eL eS))))::(1,.d (.sl (p1_.map (eL eS))))::(5,.d (.int .i64 i_2))::(6,.d (.int .i64 k_5))::[],[]⟩
def JhE:St:=⟨(0,.d (.sl (p0_.map (eL eS))))::(1,.d (.sl (p1_.map (eL eS))))::(5,.d (.int .i64 i_2))::[],[]⟩
def MI:(Unit⊕Bool)->Ex->St->Prop:=xS (xX 0 2 (λ (y:Unit)=>JhE p0_ p1_ i_2)) (xR ty Tryz.f51 (λ (y:Bool)=>.d (.bool y)))
def G7:Int->St:=(λ (x:Int)=>JhD p0_ p1_ i_2 x)
def MJ:(Unit⊕Bool)->Ex->St->Prop:=xS (xX 0 0 (λ (y:Unit)=>JhC)) (xR ty Tryz.f51 (λ (y:Bool)=>.d (.bool y)))
def G8:Int->St:=(λ (x:Int)=>JhB p0_ p1_ x)
variable {p0_ p1_ i_2 k_5}
theorem Gb (x:Int) (z:(Int⊕(Unit⊕Bool))) (H:Dk n p0_ p1_ i_2 x=some z):WP (cxk 53 0) (Aw Tryz.f51) [1,1,0,1,0,0,1,0,0,1,1,0,0] (Au 0 (G7 p0_ p1_ i_2) (MI p0_ p1_ i_2) z) (G7 p0_ p1_ i_2 x):=by
 revert H
 generalize x=k_5
 intro H
 refine sq (sr (ck 3 (bx H λ x24 h79 H=>sp (Ak (eL eS) h79) (ck 1 (sp (Av eS x24) (ck 1 (en (cn H (λ H=>?_) (λ H=>?_)))))))))
 ·refine sk (qz (sq (bk 3 (sr (ck 2 (bx H λ x25 h80 H=>sp (Ak (eL eS) h80) (ck 2 (bx H λ x26 h81 H=>sp (Ak eS h81) (ck 3 (bx H λ x27 h82 H=>sp (Ak (eL eS) h82) (ck 2 (bx H λ x28 h83 H=>sp (Ak eS h83) (ck 2 (en (cn H (λ H=>?_) (λ H=>?_))))))))))))))))
  ·exact sr (ck 1 (en (re (qR (qr (by cases H;exact ro rfl rd))))))
  ·exact sk (qN (qz (rz (ck 3 (ae (by cases H;exact og (sg [0,1,5,6])))))))
 ·exact ex 2 (qx (by cases H;exact xo rfl (sg [0,1,5])))
theorem Gc (x:Int) (z:(Int⊕(Unit⊕Bool))) (H:Dl n p0_ p1_ x=some z):WP (cxk 53 0) (Aw Tryz.f51) [1,1,0,1,0,0] (Au 0 (G8 p0_ p1_) (MJ) z) (G8 p0_ p1_ x):=by
 revert H
 generalize x=i_2
 intro H
 refine sq (sr (ck 2 (sp (Av (eL eS) p0_) (ck 1 (en (cn H (λ H=>?_) (λ H=>?_)))))))
 ·refine sk (qz (sq (bk 1 (sq (sr (ck 2 (bx H λ x22 h77 H=>sp (Ak (eL eS) h77) (ck 1 (sp (Av eS x22) (ck 2 (bx H λ x23 h78 H=>sp (Ak (eL eS) h78) (ck 1 (sp (Av eS x23) (ck 1 (en (cn H (λ H=>?_) (λ H=>?_)))))))))))))))))
  ·exact sr (ck 1 (en (re (qr (qR (qr (by cases H;exact ro rfl rd)))))))
  ·refine sk (qz (sr (ck 1 (en (bk 2 (bx H λ y24 h84 H=>?_))))))
   rcases y24 with y25|y26
   ·exact lX Gb h84 (sg [0,1,5,6]) rfl λ s hE18=>qH (qN (qs (hE18) (rz (ck 3 (ae (by cases H;exact og (sg [0,1,5])))))))
   ·exact lR Gb h84 (sg [0,1,5,6]) rfl λ s hE19=>qR (qR (qr (by cases H;exact ro rfl hE19)))
 ·exact ex 0 (qx (by cases H;exact xo rfl (sg [])))
theorem OR {z} (H:H8 n p0_ p1_=some z):Aq Tryz.prog 51 [.d (.sl (p0_.map (eL eS))),.d (.sl (p1_.map (eL eS)))] (.d (.bool z)):=by
 refine fO 53 (JhA p0_ p1_) Tryz.func51 (sr (ck 1 (en (sq (sr (ck 1 (sp (Av (eL eS) p0_) (ck 1 (sp (Av (eL eS) p1_) (ck 1 (en (cn H (λ H=>?_) (λ H=>?_)))))))))))))
 ·exact sr (ck 1 (en (re (qr (by cases H;exact pr rd)))))
 ·refine sk (qz (sq (sr (ck 1 (en (bk 0 (bx H λ y27 h85 H=>?_)))))))
  rcases y27 with y28|y29
  ·exact lX Gc h85 (sg [0,1,5]) rfl λ s hE20=>qH (qs (hE20) (sr (ck 1 (en (re (by cases H;exact pr rd))))))
  ·exact lR Gc h85 (sg [0,1,5]) rfl λ s hE21=>qR (qr (by cases H;exact pr hE21))
end
section
variable (p0_:Af) (p1_:Af) (i_3:Int) (x29:Ax) (x30:Ax) (k_6:Int)
def JhF:St:=⟨(0,.agg [.d (.int .i64 p0_.W),.d (.int .i64 p0_.H),.d (.int .i64 p0_.Gap),.d (.sl (p0_.F.map As))])::(1,.agg [.d (.int .i64 p1_.W),.d (.int .i64 p1_.H),.d (.int .i64 p1_.Gap),.d (.sl (p1_.F.map As))])::[],[]⟩
def JhG:St:=⟨(2,.ptr 0 0)::(3,.ptr 1 0)::(5,.d (.int .i64 i_3))::[],[some (.box (AH p0_)),some (.box (AH p1_))]⟩
def JhH:St:=⟨[],[]⟩
def JhI:St:=⟨(2,.ptr 0 0)::(3,.ptr 1 0)::(5,.d (.int .i64 i_3))::(6,.ptr 2 0)::(7,.ptr 3 0)::(8,.d (.int .i64 k_6))::[],[some (.box (AH p0_)),some (.box (AH p1_)),some (.box (DF x29)),some (.box (DF x30))]⟩
def JhJ:St:=⟨(2,.ptr 0 0)::(3,.ptr 1 0)::(5,.d (.int .i64 i_3))::[],[some (.box (AH p0_)),some (.box (AH p1_))]⟩
def J4:(Unit⊕Bool)->Ex->St->Prop:=xS (xX 0 2 (λ (y:Unit)=>JhJ p0_ p1_ i_3)) (xR ty Tryz.f52 (λ (y:Bool)=>.d (.bool y)))
def EX:Int->St:=(λ (x:Int)=>JhI p0_ p1_ i_3 x29 x30 x)
def J5:(Unit⊕Bool)->Ex->St->Prop:=xS (xX 0 0 (λ (y:Unit)=>JhH)) (xR ty Tryz.f52 (λ (y:Bool)=>.d (.bool y)))
def EY:Int->St:=(λ (x:Int)=>JhG p0_ p1_ x)
variable {p0_ p1_ i_3 x29 x30 k_6}
theorem EK (x:Int) (z:(Int⊕(Unit⊕Bool))) (H:Ct n p0_ p1_ i_3 x29 x30 x=some z):WP (cxk 93 0) (Aw Tryz.f52) [1,1,0,1,0,0,1,0,0,1,1,1,0,0] (Au 0 (EX p0_ p1_ i_3 x29 x30) (J4 p0_ p1_ i_3) z) (EX p0_ p1_ i_3 x29 x30 x):=by
 revert H
 generalize x=k_6
 intro H
 refine sq (sr (ck 3 (sp (Av Ac x29.P) (ck 1 (en (cn H (λ H=>?_) (λ H=>?_)))))))
 ·refine sk (qz (sq (bk 3 (sr (ck 3 (bx H λ x31 h88 H=>sp (Ak Ac h88) (ck 4 (bx H λ x32 h89 H=>sp (Ak Ac h89) (ck 2 (en (cn H (λ H=>?_) (λ H=>?_))))))))))))
  ·exact sr (ck 1 (en (re (qR (qr (by cases H;exact ro rfl rd))))))
  ·exact sk (qN (qz (rz (ck 3 (ae (by cases H;exact og (sg [2,3,5,6,7,8])))))))
 ·exact ex 2 (qx (by cases H;exact xo rfl (sg [2,3,5])))
theorem EL (x:Int) (z:(Int⊕(Unit⊕Bool))) (H:Cu n p0_ p1_ x=some z):WP (cxk 93 0) (Aw Tryz.f52) [1,1,0,1,0,0] (Au 0 (EY p0_ p1_) (J5) z) (EY p0_ p1_ x):=by
 revert H
 generalize x=i_3
 intro H
 refine sq (sr (ck 3 (sp (Av As p0_.F) (ck 1 (en (cn H (λ H=>?_) (λ H=>?_)))))))
 ·refine sk (qz (sq (bk 1 (sr (ck 3 (bx H λ x29 h86 H=>sp (Ak As h86) (ck 4 (bx H λ x30 h87 H=>sp (Ak As h87) (ck 5 (en (sq (sr (ck 7 (gc 1 (!(x29.Kind != x30.Kind)) (ck 1 (gc 2 (!(x29.Kind != x30.Kind)) (pO (ck 2 (gc 1 (!((x29.Kind != x30.Kind)||(x29.Texture != x30.Texture))) (sE (g:=(!((x29.Kind != x30.Kind)||(x29.Texture != x30.Texture)))) (λ hg=>Av Ac x29.P) (ck 1 (gc 1 (!((x29.Kind != x30.Kind)||(x29.Texture != x30.Texture))) (sE (g:=(!((x29.Kind != x30.Kind)||(x29.Texture != x30.Texture)))) (λ hg=>Av Ac x30.P) (gc 1 (!((x29.Kind != x30.Kind)||(x29.Texture != x30.Texture))) (pO (en (cn H (λ H=>?_) (λ H=>?_))))))))))))))))))))))))))))
  ·exact sr (ck 1 (en (re (qr (qR (qr (by cases H;exact ro rfl rd)))))))
  ·refine sk (qz (sr (ck 1 (en (bk 2 (bx H λ y30 h90 H=>?_))))))
   rcases y30 with y31|y32
   ·exact lX EK h90 (sg [2,3,5,6,7,8]) rfl λ s hE22=>qH (qN (qs (hE22) (rz (ck 3 (ae (by cases H;exact og (sg [2,3,5])))))))
   ·exact lR EK h90 (sg [2,3,5,6,7,8]) rfl λ s hE23=>qR (qR (qr (by cases H;exact ro rfl hE23)))
 ·exact ex 0 (qx (by cases H;exact xo rfl (sg [])))
theorem LF {z} (H:Fe n p0_ p1_=some z):Aq Tryz.prog 52 [.agg (AH p0_),.agg (AH p1_)] (.d (.bool z)):=by
 refine fO 93 (JhF p0_ p1_) Tryz.func52 (sr (ck 3 (en (sq (sr (ck 7 (gc 1 (!(p0_.W != p1_.W)) (ck 1 (gc 2 (!(p0_.W != p1_.W)) (pO (ck 2 (gc 1 (!((p0_.W != p1_.W)||(p0_.H != p1_.H))) (ck 1 (gc 2 (!((p0_.W != p1_.W)||(p0_.H != p1_.H))) (pO (ck 2 (gc 1 (!(((p0_.W != p1_.W)||(p0_.H != p1_.H))||(p0_.Gap != p1_.Gap))) (sE (g:=(!(((p0_.W != p1_.W)||(p0_.H != p1_.H))||(p0_.Gap != p1_.Gap)))) (λ hg=>Av As p0_.F) (ck 1 (gc 1 (!(((p0_.W != p1_.W)||(p0_.H != p1_.H))||(p0_.Gap != p1_.Gap))) (sE (g:=(!(((p0_.W != p1_.W)||(p0_.H != p1_.H))||(p0_.Gap != p1_.Gap)))) (λ hg=>Av As p1_.F) (gc 1 (!(((p0_.W != p1_.W)||(p0_.H != p1_.H))||(p0_.Gap != p1_.Gap))) (pO (en (cn H (λ H=>?_) (λ H=>?_))))))))))))))))))))))))))
 ·exact sr (ck 1 (en (re (qr (by cases H;exact pr rd)))))
 ·refine sk (qz (sq (sr (ck 1 (en (bk 0 (bx H λ y33 h91 H=>?_)))))))
  rcases y33 with y34|y35
  ·exact lX EL h91 (sg [2,3,5]) rfl λ s hE24=>qH (qs (hE24) (sr (ck 1 (en (re (by cases H;exact pr rd))))))
  ·exact lR EL h91 (sg [2,3,5]) rfl λ s hE25=>qR (qr (by cases H;exact pr hE25))
end
section
variable (p0_:Ag) (p1_:Ag)
def JhK:St:=⟨(0,.agg [.d (.int .i64 p0_.Kind),.d (.int .i64 p0_.Level),.d (.str p0_.Text),.d (.sl (p0_.Rows.map (eL eS))),.d (.sl (p0_.F.map AE)),.d (.int .i64 p0_.Pic.W),.d (.int .i64 p0_.Pic.H),.d (.int .i64 p0_.Pic.Gap),.d (.sl (p0_.Pic.F.map As)),.d (.int .i64 p0_.Page)])::(1,.agg [.d (.int .i64 p1_.Kind),.d (.int .i64 p1_.Level),.d (.str p1_.Text),.d (.sl (p1_.Rows.map (eL eS))),.d (.sl (p1_.F.map AE)),.d (.int .i64 p1_.Pic.W),.d (.int .i64 p1_.Pic.H),.d (.int .i64 p1_.Pic.Gap),.d (.sl (p1_.Pic.F.map As)),.d (.int .i64 p1_.Page)])::[],[]⟩
variable {p0_ p1_}
theorem NF {z} (H:GY n p0_ p1_=some z):Aq Tryz.prog 34 [.agg (Up p0_),.agg (Up p1_)] (.d (.bool z)):=by
 refine fO 51 (JhK p0_ p1_) Tryz.func34 (sr (ck 3 (en (sq (sr (ck 7 (gc 1 (!(p0_.Kind != p1_.Kind)) (ck 1 (gc 2 (!(p0_.Kind != p1_.Kind)) (pO (ck 2 (gc 1 (!((p0_.Kind != p1_.Kind)||(p0_.Level != p1_.Level))) (ck 1 (gc 2 (!((p0_.Kind != p1_.Kind)||(p0_.Level != p1_.Level))) (pO (ck 2 (gc 1 (!(((p0_.Kind != p1_.Kind)||(p0_.Level != p1_.Level))||(!(p0_.Text==p1_.Text)))) (ck 1 (gc 2 (!(((p0_.Kind != p1_.Kind)||(p0_.Level != p1_.Level))||(!(p0_.Text==p1_.Text)))) (pO (ck 2 (gc 1 (!((((p0_.Kind != p1_.Kind)||(p0_.Level != p1_.Level))||(!(p0_.Text==p1_.Text)))||(p0_.Page != p1_.Page))) (ck 1 (gc 1 (!((((p0_.Kind != p1_.Kind)||(p0_.Level != p1_.Level))||(!(p0_.Text==p1_.Text)))||(p0_.Page != p1_.Page))) (bx H λ r24 h92 H=>cG false (leZ) rfl (λ hg=>Ut (Ba h92 hg)) (Or.inl rfl) (BW (λ hh=>hh) (BW (λ hh=>hh) (C9))) rfl (gc 1 (!((((p0_.Kind != p1_.Kind)||(p0_.Level != p1_.Level))||(!(p0_.Text==p1_.Text)))||(p0_.Page != p1_.Page))) (pO (en (cn H (λ H=>?_) (λ H=>?_))))))))))))))))))))))))))))))
 ·exact sr (ck 1 (en (re (qr (by cases H;exact pr rd)))))
 ·exact sk (qz (sr (ck 4 (bx H λ r25 h93 H=>ca false (OR h93) (ck 2 (gc 1 r25 (ck 1 (gc 1 r25 (bx H λ r26 h94 H=>cG false (leZ) rfl (λ hg=>LF (Ba h94 hg)) (Or.inl rfl) (BW (λ hh=>hh) (BW (λ hh=>hh) (C9))) rfl (pA (ck 1 (en (re (by cases H;exact pr rd))))))))))))))
end
section
variable (p0_:(List Ag)) (p1_:(List Ag)) (i_4:Int)
def JhL:St:=⟨(0,.d (.sl (p0_.map Ay)))::(1,.d (.sl (p1_.map Ay)))::[],[]⟩
def JhM:St:=⟨(0,.d (.sl (p0_.map Ay)))::(1,.d (.sl (p1_.map Ay)))::(5,.d (.int .i64 i_4))::[],[]⟩
def JhN:St:=⟨[],[]⟩
def RW:(Unit⊕Bool)->Ex->St->Prop:=xS (xX 0 0 (λ (y:Unit)=>JhN)) (xR ty Tryz.f13 (λ (y:Bool)=>.d (.bool y)))
def KH:Int->St:=(λ (x:Int)=>JhM p0_ p1_ x)
variable {p0_ p1_ i_4}
theorem JM (x:Int) (z:(Int⊕(Unit⊕Bool))) (H:Gs n p0_ p1_ x=some z):WP (cxk 27 0) (Aw Tryz.f13) [1,1,0,1,0,0] (Au 0 (KH p0_ p1_) (RW) z) (KH p0_ p1_ x):=by
 revert H
 generalize x=i_4
 intro H
 refine sq (sr (ck 2 (sp (Av Ay p0_) (ck 1 (en (cn H (λ H=>?_) (λ H=>?_)))))))
 ·refine sk (qz (sq (bk 1 (sr (ck 2 (bx H λ x33 h95 H=>sp (Ak Ay h95) (ck 3 (bx H λ x34 h96 H=>sp (Ak Ay h96) (ck 1 (bx H λ r27 h97 H=>ca false (NF h97) (ck 1 (en (cn H (λ H=>?_) (λ H=>?_))))))))))))))
  ·exact sr (ck 1 (en (re (qR (qr (by cases H;exact ro rfl rd))))))
  ·exact sk (qN (qz (rz (ck 3 (ae (by cases H;exact og (sg [0,1,5])))))))
 ·exact ex 0 (qx (by cases H;exact xo rfl (sg [])))
theorem Uu {z} (H:Ix n p0_ p1_=some z):Aq Tryz.prog 13 [.d (.sl (p0_.map Ay)),.d (.sl (p1_.map Ay))] (.d (.bool z)):=by
 refine fO 27 (JhL p0_ p1_) Tryz.func13 (sr (ck 1 (en (sq (sr (ck 1 (sp (Av Ay p0_) (ck 1 (sp (Av Ay p1_) (ck 1 (en (cn H (λ H=>?_) (λ H=>?_)))))))))))))
 ·exact sr (ck 1 (en (re (qr (by cases H;exact pr rd)))))
 ·refine sk (qz (sq (sr (ck 1 (en (bk 0 (bx H λ y36 h98 H=>?_)))))))
  rcases y36 with y37|y38
  ·exact lX JM h98 (sg [0,1,5]) rfl λ s hE26=>qH (qs (hE26) (sr (ck 1 (en (re (by cases H;exact pr rd))))))
  ·exact lR JM h98 (sg [0,1,5]) rfl λ s hE27=>qR (qr (by cases H;exact pr hE27))
end
section
variable (p0_:(List Ab)) (p1_:(List Ab)) (i_5:Int)
def JhO:St:=⟨(0,.d (.sl (p0_.map Ae)))::(1,.d (.sl (p1_.map Ae)))::[],[]⟩
def JhP:St:=⟨(0,.d (.sl (p0_.map Ae)))::(1,.d (.sl (p1_.map Ae)))::(5,.d (.int .i64 i_5))::[],[]⟩
def JhQ:St:=⟨[],[]⟩
def J6:(Unit⊕Bool)->Ex->St->Prop:=xS (xX 0 0 (λ (y:Unit)=>JhQ)) (xR ty Tryz.f21 (λ (y:Bool)=>.d (.bool y)))
def EZ:Int->St:=(λ (x:Int)=>JhP p0_ p1_ x)
variable {p0_ p1_ i_5}
theorem EM (x:Int) (z:(Int⊕(Unit⊕Bool))) (H:Cv n p0_ p1_ x=some z):WP (cxk 26 0) (Aw Tryz.f21) [1,1,0,1,0,0] (Au 0 (EZ p0_ p1_) (J6) z) (EZ p0_ p1_ x):=by
 revert H
 generalize x=i_5
 intro H
 refine sq (sr (ck 2 (sp (Av Ae p0_) (ck 1 (en (cn H (λ H=>?_) (λ H=>?_)))))))
 ·refine sk (qz (sq (bk 1 (sr (ck 2 (bx H λ x35 h99 H=>sp (Ak Ae h99) (ck 3 (bx H λ x36 h100 H=>sp (Ak Ae h100) (ck 2 (en (cn H (λ H=>?_) (λ H=>?_))))))))))))
  ·exact sr (ck 1 (en (re (qR (qr (by cases H;exact ro rfl rd))))))
  ·exact sk (qN (qz (rz (ck 3 (ae (by cases H;exact og (sg [0,1,5])))))))
 ·exact ex 0 (qx (by cases H;exact xo rfl (sg [])))
theorem Gd {z} (H:Dm n p0_ p1_=some z):Aq Tryz.prog 21 [.d (.sl (p0_.map Ae)),.d (.sl (p1_.map Ae))] (.d (.bool z)):=by
 refine fO 26 (JhO p0_ p1_) Tryz.func21 (sr (ck 1 (en (sq (sr (ck 1 (sp (Av Ae p0_) (ck 1 (sp (Av Ae p1_) (ck 1 (en (cn H (λ H=>?_) (λ H=>?_)))))))))))))
 ·exact sr (ck 1 (en (re (qr (by cases H;exact pr rd)))))
 ·refine sk (qz (sq (sr (ck 1 (en (bk 0 (bx H λ y39 h101 H=>?_)))))))
  rcases y39 with y40|y41
  ·exact lX EM h101 (sg [0,1,5]) rfl λ s hE28=>qH (qs (hE28) (sr (ck 1 (en (re (by cases H;exact pr rd))))))
  ·exact lR EM h101 (sg [0,1,5]) rfl λ s hE29=>qR (qr (by cases H;exact pr hE29))
end
section
variable (p0_:Ao) (p1_:Ao) (i_6:Int)
def JhR:St:=⟨(0,.agg [.d (.sl (p0_.Agreed.map Ae)),.d (.sl (p0_.Quarrels.map (Bc A6)))])::(1,.agg [.d (.sl (p1_.Agreed.map Ae)),.d (.sl (p1_.Quarrels.map (Bc A6)))])::[],[]⟩
def JhS:St:=⟨(2,.ptr 0 0)::(3,.ptr 1 0)::(5,.d (.int .i64 i_6))::[],[some (.box [.d (.sl (p0_.Agreed.map Ae)),.d (.sl (p0_.Quarrels.map (Bc A6)))]),some (.box [.d (.sl (p1_.Agreed.map Ae)),.d (.sl (p1_.Quarrels.map (Bc A6)))])]⟩
def JhT:St:=⟨[],[]⟩
def RX:(Unit⊕Bool)->Ex->St->Prop:=xS (xX 0 0 (λ (y:Unit)=>JhT)) (xR ty Tryz.f18 (λ (y:Bool)=>.d (.bool y)))
def KI:Int->St:=(λ (x:Int)=>JhS p0_ p1_ x)
variable {p0_ p1_ i_6}
theorem JN (x:Int) (z:(Int⊕(Unit⊕Bool))) (H:Gt n p0_ p1_ x=some z):WP (cxk 39 0) (Aw Tryz.f18) [1,1,0,1,0,0] (Au 0 (KI p0_ p1_) (RX) z) (KI p0_ p1_ x):=by
 revert H
 generalize x=i_6
 intro H
 refine sq (sr (ck 3 (sp (Av (Bc A6) p0_.Quarrels) (ck 1 (en (cn H (λ H=>?_) (λ H=>?_)))))))
 ·refine sk (qz (sq (bk 1 (sr (ck 3 (bx H λ x37 h103 H=>sp (Ak (Bc A6) h103) (ck 4 (bx H λ x38 h104 H=>sp (Ak (Bc A6) h104) (ck 2 (en (cn H (λ H=>?_) (λ H=>?_))))))))))))
  ·exact sr (ck 1 (en (re (qR (qr (by cases H;exact ro rfl rd))))))
  ·exact sk (qN (qz (rz (ck 3 (ae (by cases H;exact og (sg [2,3,5])))))))
 ·exact ex 0 (qx (by cases H;exact xo rfl (sg [])))
theorem Uv {z} (H:OE n p0_ p1_=some z):Aq Tryz.prog 18 [.agg [.d (.sl (p0_.Agreed.map Ae)),.d (.sl (p0_.Quarrels.map (Bc A6)))],.agg [.d (.sl (p1_.Agreed.map Ae)),.d (.sl (p1_.Quarrels.map (Bc A6)))]] (.d (.bool z)):=by
 refine fO 39 (JhR p0_ p1_) Tryz.func18 (sr (ck 3 (en (sq (sr (ck 4 (bx H λ r28 h102 H=>ca false (Gd h102) (ck 3 (gc 1 (!(!r28)) (sE (g:=(!(!r28))) (λ hg=>Av (Bc A6) p0_.Quarrels) (ck 1 (gc 1 (!(!r28)) (sE (g:=(!(!r28))) (λ hg=>Av (Bc A6) p1_.Quarrels) (gc 1 (!(!r28)) (pO (en (cn H (λ H=>?_) (λ H=>?_))))))))))))))))))
 ·exact sr (ck 1 (en (re (qr (by cases H;exact pr rd)))))
 ·refine sk (qz (sq (sr (ck 1 (en (bk 0 (bx H λ y42 h105 H=>?_)))))))
  rcases y42 with y43|y44
  ·exact lX JN h105 (sg [2,3,5]) rfl λ s hE30=>qH (qs (hE30) (sr (ck 1 (en (re (by cases H;exact pr rd))))))
  ·exact lR JN h105 (sg [2,3,5]) rfl λ s hE31=>qR (qr (by cases H;exact pr hE31))
end
section
variable (r30:((List Ag)×Int)) (r31:Ab) (r32:Ab) (r33:Ab) (r34:Ab) (i_7:Int)
def Jk9:St:=⟨[],[]⟩
def Jla:St:=⟨(1,.d (.sl (List.map Ay ([({ Kind:=1,Level:=0,Text:=[97,98,99],Rows:=[],F:=[],Pic:=({ W:=0,H:=0,Gap:=0,F:=[] }:Af),Page:=0 }:Ag)]))))::(2,.d (.sl (r30.1.map Ay)))::(3,.d (.int .i64 r30.2))::(4,.osl 0 4 0 (List.length ([r31,r32,({ Block:=1,At:=0,Cut:=0,Put:=[97] }:Ab),r33,r34])))::(5,.d (.int .i64 i_7))::[],[some (.arr 4 (List.map Ae ([r31,r32,({ Block:=1,At:=0,Cut:=0,Put:=[97] }:Ab),r33,r34])))]⟩
def Jlb:St:=⟨(2,.d (.sl (r30.1.map Ay)))::(3,.d (.int .i64 r30.2))::[],[]⟩
def OS:(Unit⊕Bool)->Ex->St->Prop:=xS (xX 0 0 (λ (y:Unit)=>Jlb r30)) (xR ty Tryz.f8 (λ (y:Bool)=>.d (.bool y)))
def IF:Int->St:=(λ (x:Int)=>Jla r30 r31 r32 r33 r34 x)
variable {r30 r31 r32 r33 r34 i_7}
theorem HO (x:Int) (z:(Int⊕(Unit⊕Bool))) (H:El n r30 r31 r32 r33 r34 x=some z):WP (cxk 165 0) (Aw Tryz.f8) [1,1,1,1,0,1,0,0] (Au 0 (IF r30 r31 r32 r33 r34) (OS r30) z) (IF r30 r31 r32 r33 r34 x):=by
 revert H
 generalize x=i_7
 intro H
 refine sq (sr (ck 4 (en (cn H (λ H=>?_) (λ H=>?_)))))
 ·refine sk (qz (sq (bk 1 (sr (ck 3 (bx H λ x39 h112 H=>sp (Bl 0 4 h112) (sp (B3 Ae 0 0 (ty 33) h112) (bx H λ r35 h113 H=>ca false (NB h113) (ck 5 (en (sr (ck 2 (en (cn H (λ H=>?_) (λ H=>?_)))))))))))))))
  ·exact sr (ck 1 (en (re (qR (qr (by cases H;exact ro rfl rd))))))
  ·exact sk (qN (qz (rz (ck 3 (ae (by cases H;exact og (sg [1,2,3,4,5])))))))
 ·exact ex 0 (qx (by cases H;exact xo rfl (sg [2,3])))
theorem RY {z} (H:HE n=some z):Aq Tryz.prog 8 [] (.d (.bool z)):=by
 refine fO 165 Jk9 Tryz.func8 (sr (ck 1 (en (sr (ck 3 (en (sq (rg (fz (enc:=Ay) (xs:=([({ Kind:=1,Level:=0,Text:=[97,98,99],Rows:=[],F:=[],Pic:=({ W:=0,H:=0,Gap:=0,F:=[] }:Af),Page:=0 }:Ag)])) 1 0 10) (ck 1 (bx H λ r29 h106 H=>ca false (AA h106) (bx H λ r30 h107 H=>ca false (NB h107) (ck 5 (en (sr (bx H λ r31 h108 H=>ca false (AA h108) (bx H λ r32 h109 H=>ca false (AA h109) (ck 1 (bx H λ r33 h110 H=>ca false (AA h110) (bx H λ r34 h111 H=>ca false (AA h111) (ck 2 (en (sq (sr (ck 1 (en (bk 0 (bx H λ y45 h114 H=>?_)))))))))))))))))))))))))))
 rcases y45 with y46|y47
 ·exact lX HO h114 (sg [1,2,3,4,5]) rfl λ s hE32=>qH (qs (hE32) (sr (bx H λ r36 h115 H=>ca false (AA h115) (bx H λ r37 h116 H=>ca false (AA h116) (bx H λ r38 h117 H=>ca false (Ea h117) (ck 6 (en (sr (bx H λ r39 h118 H=>ca false (AA h118) (bx H λ r40 h119 H=>ca false (AA h119) (bx H λ r41 h120 H=>ca false (Ea h120) (ck 6 (en (sr (bx H λ r42 h121 H=>ca false (AA h121) (bx H λ r43 h122 H=>ca false (AA h122) (bx H λ r44 h123 H=>ca false (Ea h123) (ck 6 (en (sr (bx H λ r45 h124 H=>ca false (AA h124) (bx H λ r46 h125 H=>ca false (AA h125) (bx H λ r47 h126 H=>ca false (Ea h126) (ck 6 (en (sr (bx H λ r48 h127 H=>ca false (AA h127) (bx H λ r49 h128 H=>ca false (AA h128) (bx H λ r50 h129 H=>ca false (Ea h129) (ck 6 (en (sr (bx H λ r51 h130 H=>ca false (AA h130) (ck 3 (en (sr (ck 2 (bx H λ r52 h131 H=>ca false (AA h131) (ck 1 (bx H λ r53 h132 H=>ca false (AA h132) (ck 1 (bx H λ r54 h133 H=>ca false (AA h133) (ck 2 (bx H λ r55 h134 H=>cb (ks:=[6]) (obl:=[(0+List.length [({ Reader:=0,C:=r51 }:AB),({ Reader:=0,C:=r51 }:AB),({ Reader:=0,C:=r52 }:AB),({ Reader:=0,C:=r53 }:AB),({ Reader:=0,C:=r54 }:AB)],List.length (List.map A1 [({ Reader:=0,C:=r51 }:AB),({ Reader:=0,C:=r51 }:AB),({ Reader:=0,C:=r52 }:AB),({ Reader:=0,C:=r53 }:AB),({ Reader:=0,C:=r54 }:AB)]))]) false (leK leM (leZ)) (CJ Ga rfl) (KF h134) (Or.inr ⟨(ZA λ _=>rfl),⟨(ZA λ _=>rfl),trivial⟩⟩) rfl (ck 2 (en (sr (bx H λ r56 h135 H=>ca false (AA h135) (bx H λ r57 h136 H=>ca false (AA h136) (bx H λ r58 h137 H=>ca false (AA h137) (ck 1 (bx H λ r59 h138 H=>cb (ks:=[8]) (obl:=[(0+List.length [r57,r58],List.length (List.map Ae [r57,r58]))]) false (leK leM (leZ)) (CJ rfl (CJ Ga rfl)) (NC h138) (Or.inr ⟨⟨trivial,⟨trivial,⟨trivial,⟨trivial,trivial⟩⟩⟩⟩,⟨trivial,⟨trivial,trivial⟩⟩⟩) rfl (ck 8 (en (sr (ck 5 (gc 1 (r30.2==0) (bx H λ r60 h139 H=>cG (ks:=[10]) (obl:=[(0+List.length ([({ Kind:=1,Level:=0,Text:=[97,120,121,99],Rows:=[],F:=[],Pic:=({ W:=0,H:=0,Gap:=0,F:=[] }:Af),Page:=0 }:Ag)]),List.length (List.map Ay ([({ Kind:=1,Level:=0,Text:=[97,120,121,99],Rows:=[],F:=[],Pic:=({ W:=0,H:=0,Gap:=0,F:=[] }:Af),Page:=0 }:Ag)])))]) false (leK leM (leZ)) (CJ rfl (CJ Ga rfl)) (λ hg=>Uu (Ba h139 hg)) (Or.inr trivial) (BW (λ hh=>hh) (BW (λ hh=>hh) (C9))) rfl (pA (ck 2 (pA (ck 2 (bx H λ r61 h140 H=>cG false (leZ) rfl (λ hg=>AA (Ba h140 hg)) (Or.inl rfl) (C9) rfl (gc 1 (((r30.2==0)&&r60)&&r38.2) (pA (ck 2 (gc 1 ((((r30.2==0)&&r60)&&r38.2)&&((r38.1.Block==r61.Block)&&((r38.1.At==r61.At)&&((r38.1.Cut==r61.Cut)&&((r38.1.Put==r61.Put)&&true))))) (pA (ck 2 (gc 1 (((((r30.2==0)&&r60)&&r38.2)&&((r38.1.Block==r61.Block)&&((r38.1.At==r61.At)&&((r38.1.Cut==r61.Cut)&&((r38.1.Put==r61.Put)&&true)))))&&(!r41.2)) (pA (ck 2 (pA (ck 2 (bx H λ r62 h141 H=>cG false (leZ) rfl (λ hg=>AA (Ba h141 hg)) (Or.inl rfl) (C9) rfl (gc 1 (((((((r30.2==0)&&r60)&&r38.2)&&((r38.1.Block==r61.Block)&&((r38.1.At==r61.At)&&((r38.1.Cut==r61.Cut)&&((r38.1.Put==r61.Put)&&true)))))&&(!r41.2))&&(!r44.2))&&r47.2) (pA (ck 2 (pA (ck 2 (bx H λ r63 h142 H=>cG false (leZ) rfl (λ hg=>AA (Ba h142 hg)) (Or.inl rfl) (C9) rfl (gc 1 (((((((((r30.2==0)&&r60)&&r38.2)&&((r38.1.Block==r61.Block)&&((r38.1.At==r61.At)&&((r38.1.Cut==r61.Cut)&&((r38.1.Put==r61.Put)&&true)))))&&(!r41.2))&&(!r44.2))&&r47.2)&&((r47.1.Block==r62.Block)&&((r47.1.At==r62.At)&&((r47.1.Cut==r62.Cut)&&((r47.1.Put==r62.Put)&&true)))))&&r50.2) (pA (ck 1 (en (sr (ck 3 (bx H λ r64 h143 H=>cG false (leZ) rfl (λ hg=>AA (Ba h143 hg)) (Or.inl rfl) (C9) rfl (bx H λ r65 h144 H=>cG false (leZ) rfl (λ hg=>AA (Ba h144 hg)) (Or.inl rfl) (C9) rfl (gc 1 ((((((((((r30.2==0)&&r60)&&r38.2)&&((r38.1.Block==r61.Block)&&((r38.1.At==r61.At)&&((r38.1.Cut==r61.Cut)&&((r38.1.Put==r61.Put)&&true)))))&&(!r41.2))&&(!r44.2))&&r47.2)&&((r47.1.Block==r62.Block)&&((r47.1.At==r62.At)&&((r47.1.Cut==r62.Cut)&&((r47.1.Put==r62.Put)&&true)))))&&r50.2)&&((r50.1.Block==r63.Block)&&((r50.1.At==r63.At)&&((r50.1.Cut==r63.Cut)&&((r50.1.Put==r63.Put)&&true))))) (ck 1 (gc 2 ((((((((((r30.2==0)&&r60)&&r38.2)&&((r38.1.Block==r61.Block)&&((r38.1.At==r61.At)&&((r38.1.Cut==r61.Cut)&&((r38.1.Put==r61.Put)&&true)))))&&(!r41.2))&&(!r44.2))&&r47.2)&&((r47.1.Block==r62.Block)&&((r47.1.At==r62.At)&&((r47.1.Cut==r62.Cut)&&((r47.1.Put==r62.Put)&&true)))))&&r50.2)&&((r50.1.Block==r63.Block)&&((r50.1.At==r63.At)&&((r50.1.Cut==r63.Cut)&&((r50.1.Put==r63.Put)&&true))))) (bx H λ r66 h145 H=>cG (ks:=[11,12]) (obl:=[(0+List.length [r64,r65],List.length (List.map Ae [r64,r65])),(0+List.length [({ a0:=3,a1:=4 }:(CB Int))],List.length (List.map (Bc A6) [({ a0:=3,a1:=4 }:(CB Int))]))]) false (leK leM (leK leM (leZ))) (CJ rfl (CJ (JlH (CJ Ga (CJ Ga rfl))) rfl)) (λ hg=>Uv (Ba h145 hg)) (Or.inr trivial) (BW (λ hh=>hh) (BW (λ hh=>hh) (C9))) rfl (pA (ck 2 (gc 1 (((((((((((r30.2==0)&&r60)&&r38.2)&&((r38.1.Block==r61.Block)&&((r38.1.At==r61.At)&&((r38.1.Cut==r61.Cut)&&((r38.1.Put==r61.Put)&&true)))))&&(!r41.2))&&(!r44.2))&&r47.2)&&((r47.1.Block==r62.Block)&&((r47.1.At==r62.At)&&((r47.1.Cut==r62.Cut)&&((r47.1.Put==r62.Put)&&true)))))&&r50.2)&&((r50.1.Block==r63.Block)&&((r50.1.At==r63.At)&&((r50.1.Cut==r63.Cut)&&((r50.1.Put==r63.Put)&&true)))))&&r66) (pA (ck 2 (gc 1 ((((((((((((r30.2==0)&&r60)&&r38.2)&&((r38.1.Block==r61.Block)&&((r38.1.At==r61.At)&&((r38.1.Cut==r61.Cut)&&((r38.1.Put==r61.Put)&&true)))))&&(!r41.2))&&(!r44.2))&&r47.2)&&((r47.1.Block==r62.Block)&&((r47.1.At==r62.At)&&((r47.1.Cut==r62.Cut)&&((r47.1.Put==r62.Put)&&true)))))&&r50.2)&&((r50.1.Block==r63.Block)&&((r50.1.At==r63.At)&&((r50.1.Cut==r63.Cut)&&((r50.1.Put==r63.Put)&&true)))))&&r66)&&(r59.2.1==1)) (pA (ck 1 (en (re (by cases H;exact pr rd))))))))))))))))))))))))))))))))))))))))))))))))))))))))))))))))))))))))))))))))))))))))))))))))))))))))
 ·exact lR HO h114 (sg [1,2,3,4,5]) rfl λ s hE33=>qR (qr (by cases H;exact pr hE33))
end
section
variable (p0_:(List Int)) (p1_:Int) (p2_:(List UInt8)) (out_1:(List UInt8)) (i_8:Int) (out_2:(List UInt8)) (out_3:(List UInt8)) (out_4:(List UInt8))
def JhU:St:=⟨(0,.d (.sl (p0_.map eU8)))::(1,.d (.int .i64 p1_))::(2,.d (.str p2_))::[],[]⟩
def JhV:St:=⟨(0,.d (.sl (p0_.map eU8)))::(1,.d (.int .i64 p1_))::(2,.d (.str p2_))::(7,.d (.str out_1))::(8,.d (.int .i64 i_8))::[],[]⟩
def JhW:St:=⟨(2,.d (.str p2_))::(7,.d (.str out_2))::[],[]⟩
def JhX:St:=⟨(0,.d (.sl (p0_.map eU8)))::(1,.d (.int .i64 p1_))::(2,.d (.str p2_))::(7,.d (.str out_3))::(8,.d (.int .i64 i_8))::[],[]⟩
def RZ:(List UInt8)->Ex->St->Prop:=xX 0 0 (λ (y:(List UInt8))=>JhW p2_ y)
def KJ:((List UInt8)×Int)->St:=(λ (x:((List UInt8)×Int))=>JhV p0_ p1_ p2_ x.1 x.2)
def JhY:St:=⟨(2,.d (.str p2_))::(7,.d (.str out_4))::[],[]⟩
variable {p0_ p1_ p2_ out_1 i_8 out_2 out_3 out_4}
theorem P6 (x:((List UInt8)×Int)) (z:(((List UInt8)×Int)⊕(List UInt8))) (H:Gv n p0_ p1_ p2_ x.1 x.2=some z):WP (cxk 81 0) (Aw Tryz.f30) [1,1,0,1,0,0] (Au 0 (KJ p0_ p1_ p2_) (RZ p2_) z) (KJ p0_ p1_ p2_ x):=by
 obtain ⟨out_1,i_8⟩:=x
 refine sq (sr (ck 2 (sp (Av eU8 p0_) (ck 3 (gc 1 (decide (i_8<((p0_.length:Nat):Int))) (ck 1 (gc 1 (decide (i_8<((p0_.length:Nat):Int))) (pA (en (cn H (λ H=>?_) (λ H=>?_)))))))))))
 ·refine sk (qz (sj (λ (x:(List UInt8))=>JhX p0_ p1_ p2_ i_8 x) (λ (x:(List UInt8))=>Gu n i_8 x) z ?_ (λ hFR17_Text_J1=>?_)))
  ·intro out_3 H
   exact rz (ck 3 (ae (by cases H;exact og (sg [0,1,2,7,8]))))
  refine bk 1 (sr (ck 2 (bx H λ x40 h146 H=>sp (Ak eU8 h146) (ck 5 (bx H λ gd1 h147 H=>so (DB h147) (ck 1 (en (sr (ck 2 (en (cn H (λ H=>?_) (λ H=>?_))))))))))))
  ·exact rz (ck 5 (bx H λ s5 h148 H=>sp (Gn h148) (bx H λ s6 h149 H=>sp (Jk h149) (ck 1 (ae (qN (qs (sg [0,1,2,7,8]) (hFR17_Text_J1 s6 H))))))))
  ·refine sr (ck 5 (gc 1 (decide (((out_1.length:Nat):Int)>0)) (ck 1 (gc 2 (decide (((out_1.length:Nat):Int)>0)) (pA (ck 3 (gc 2 ((decide (((out_1.length:Nat):Int)>0))&&(decide (((out_1.length:Nat):Int)<AU .i64 p1_ 1))) (bx H λ b4 h150 H=>sE (λ hg=>Gm (Ba h150 hg)) (gc 1 ((decide (((out_1.length:Nat):Int)>0))&&(decide (((out_1.length:Nat):Int)<AU .i64 p1_ 1))) (pA (en (cn H (λ H=>?_) (λ H=>?_)))))))))))))
   ·exact rz (ck 1 (bx H λ s7 h151 H=>sp (Jk h151) (ck 1 (ae (qN (qs (sg [0,1,2,7,8]) (hFR17_Text_J1 s7 H)))))))
   ·exact sk (qN (qs (sg [0,1,2,7,8]) (hFR17_Text_J1 out_1 H)))
 ·exact ex 0 (qx (by cases H;exact xo rfl (sg [2,7])))
theorem Jw {z} (H:Iy n p0_ p1_ p2_=some z):Aq Tryz.prog 30 [.d (.sl (p0_.map eU8)),.d (.int .i64 p1_),.d (.str p2_)] (.d (.str z)):=by
 refine fO 81 (JhU p0_ p1_ p2_) Tryz.func30 (sr (ck 1 (en (sr (ck 1 (en (sq (sr (ck 1 (en (bk 0 (bx H λ y48 h152 H=>lX P6 h152 (sg [0,1,2,7,8]) rfl λ s hE34=>qH (qs (hE34) (sj (λ (x:(List UInt8))=>JhY p2_ x) (λ (x:(List UInt8))=>Em n p2_ x) z ?_ (λ hFR17_Text_J2=>?_)))))))))))))))
 ·intro out_4 H
  refine sq (sr (ck 2 (en (cn H (λ H=>?_) (λ H=>?_)))))
  ·exact sr (ck 1 (bx H λ s8 h153 H=>sp (Gn h153) (ck 1 (en (re (qr (by cases H;exact pr rd)))))))
  ·exact sk (qz (sr (ck 2 (en (re (by cases H;exact pr rd))))))
 refine sr (ck 6 (gc 2 (decide (((y48.length:Nat):Int)>0)) (bx H λ b5 h154 H=>sE (λ hg=>Gm (Ba h154 hg)) (gc 1 (decide (((y48.length:Nat):Int)>0)) (pA (en (cn H (λ H=>?_) (λ H=>?_))))))))
 ·exact rz (ck 4 (bx H λ s9 h155 H=>sp (Gn h155) (ck 1 (ae (qs (sg [2,7]) (hFR17_Text_J2 s9 H))))))
 ·exact sk (qs (sg [2,7]) (hFR17_Text_J2 y48 H))
end
section
variable (p0_:Int) (p1_:Int)
def JhZ:St:=⟨(0,.d (.int .u8 p0_))::(1,.d (.int .u8 p1_))::[],[]⟩
variable {p0_ p1_}
theorem If {z} (H:Ff n p0_ p1_=some z):Aq Tryz.prog 81 [.d (.int .u8 p0_),.d (.int .u8 p1_)] (.own 2 (z.map AE)):=by
 refine fO 60 (JhZ p0_ p1_) Tryz.func81 (sr (ck 1 (en (sr (ck 11 (en (sq (sr (ck 2 (en (bk 0 (sr (ck 2 (en (cn H (λ H=>?_) (λ H=>?_))))))))))))))))
 ·exact sr (ck 3 (en (re (qR (qr (by cases H;exact pr (rO (v:=.osl 2 2 0 (List.length [({ Op:=1,N:=IntKind.i64.wrap (Al p1_ 26) }:Am)])) [2] (ao vo))))))))
 ·refine sr (ck 2 (en (cn H (λ H=>?_) (λ H=>?_))))
  ·exact sr (ck 5 (en (re (qR (qr (by cases H;exact pr (rO (v:=.osl 2 2 0 (List.length [({ Op:=2,N:=0 }:Am),({ Op:=1,N:=IntKind.i64.wrap (Al p1_ 26) }:Am),({ Op:=0,N:=IntKind.i64.wrap p1_ }:Am)])) [2] (ao vo))))))))
  ·refine sr (ck 2 (en (cn H (λ H=>?_) (λ H=>?_))))
   ·exact sr (ck 5 (en (re (qR (qr (by cases H;exact pr (rO (v:=.osl 2 2 0 (List.length [({ Op:=3,N:=0 }:Am),({ Op:=0,N:=IntKind.i64.wrap p1_ }:Am),({ Op:=1,N:=IntKind.i64.wrap (Al p1_ 26) }:Am)])) [2] (ao vo))))))))
   ·refine sr (ck 2 (en (cn H (λ H=>?_) (λ H=>?_))))
    ·exact sr (ck 5 (en (re (qR (qr (by cases H;exact pr (rO (v:=.osl 2 2 0 (List.length [({ Op:=4,N:=0 }:Am),({ Op:=0,N:=IntKind.i64.wrap p1_ }:Am),({ Op:=1,N:=IntKind.i64.wrap (Al p1_ 26) }:Am)])) [2] (ao vo))))))))
    ·refine sr (ck 2 (en (cn H (λ H=>?_) (λ H=>?_))))
     ·exact sr (ck 5 (en (re (qR (qr (by cases H;exact pr (rO (v:=.osl 2 2 0 (List.length [({ Op:=7,N:=0 }:Am),({ Op:=1,N:=IntKind.i64.wrap (Al p1_ 26) }:Am),({ Op:=0,N:=IntKind.i64.wrap p1_ }:Am)])) [2] (ao vo))))))))
     ·refine sr (ck 2 (en (cn H (λ H=>?_) (λ H=>?_))))
      ·exact sr (ck 7 (en (re (qR (qr (by cases H;exact pr (rO (v:=.osl 2 2 0 (List.length [({ Op:=9,N:=0 }:Am),({ Op:=10,N:=0 }:Am),({ Op:=2,N:=0 }:Am),({ Op:=1,N:=IntKind.i64.wrap (Al p1_ 26) }:Am),({ Op:=0,N:=IntKind.i64.wrap p1_ }:Am)])) [2] (ao vo))))))))
      ·refine sr (ck 2 (en (cn H (λ H=>?_) (λ H=>?_))))
       ·exact sr (ck 5 (en (re (qR (qr (by cases H;exact pr (rO (v:=.osl 2 2 0 (List.length [({ Op:=6,N:=0 }:Am),({ Op:=0,N:=IntKind.i64.wrap p1_ }:Am),({ Op:=1,N:=IntKind.i64.wrap (Al p1_ 26) }:Am)])) [2] (ao vo))))))))
       ·exact sk (qN (qz (sr (ck 3 (en (re (by cases H;exact pr (rO (v:=.osl 2 2 0 (List.length [({ Op:=0,N:=IntKind.i64.wrap p1_ }:Am)])) [2] (ao vo)))))))))
end
section
variable (p0_:Am) (x_11:Bool) (x_12:Bool)
def JdR:St:=⟨(0,.agg [.d (.int .i64 p0_.Op),.d (.int .i64 p0_.N)])::[],[]⟩
def JdS:St:=⟨[],[]⟩
def JdT:St:=⟨(1,.ptr 0 0)::(6,.d (.int .i64 p0_.Op))::(27,.d (.bool x_11))::[],[some (.box [.d (.int .i64 p0_.Op),.d (.int .i64 p0_.N)])]⟩
def JdU:St:=⟨(1,.ptr 0 0)::(6,.d (.int .i64 p0_.Op))::(38,.d (.bool x_12))::[],[some (.box [.d (.int .i64 p0_.Op),.d (.int .i64 p0_.N)])]⟩
variable {p0_ x_11 x_12}
theorem Jx {z} (H:Cg n p0_=some z):Aq Tryz.prog 111 [.agg [.d (.int .i64 p0_.Op),.d (.int .i64 p0_.N)]] (.d (.int .i64 z)):=by
 refine fO 88 (JdR p0_) Tryz.func111 (sr (ck 2 (en (sj (λ (x:Unit)=>JdS) (λ (x:Unit)=>Bm n) z ?_ (λ hFR9_Arity_J1=>?_)))))
 ·intro _ H
  exact sr (ck 1 (en (re (by cases H;exact pr rd))))
 refine sr (ck 2 (en (bk 0 (sr (ck 2 (en (cn H (λ H=>?_) (λ H=>?_))))))))
 ·refine sr (ck 5 (gc 2 (decide (p0_.N>=0)) (pA (en (cn H (λ H=>?_) (λ H=>?_))))))
  ·exact sr (ck 1 (en (re (qR (qr (by cases H;exact pr rd))))))
  ·exact sk (qN (qs (sg []) (hFR9_Arity_J1 () H)))
 ·refine sr (ck 2 (en (cn H (λ H=>?_) (λ H=>?_))))
  ·refine sr (ck 5 (gc 2 (decide (p0_.N>=0)) (pA (en (cn H (λ H=>?_) (λ H=>?_))))))
   ·exact sr (ck 1 (en (re (qR (qr (by cases H;exact pr rd))))))
   ·exact sk (qN (qs (sg []) (hFR9_Arity_J1 () H)))
  ·refine sj (λ (x:Bool)=>JdT p0_ x) (λ (x:Bool)=>Bn n p0_ x) z ?_ (λ hFR9_Arity_J2=>?_)
   ·intro x_11 H
    refine cn H (λ H=>?_) (λ H=>?_)
    ·refine sr (ck 3 (en (cn H (λ H=>?_) (λ H=>?_))))
     ·exact sr (ck 1 (en (re (qR (qr (by cases H;exact pr rd))))))
     ·exact sk (qN (qs (sg []) (hFR9_Arity_J1 () H)))
    ·refine sj (λ (x:Bool)=>JdU p0_ x) (λ (x:Bool)=>Cn n p0_ x) z ?_ (λ hFR9_Arity_J3=>?_)
     ·intro x_12 H
      refine cn H (λ H=>?_) (λ H=>?_)
      ·refine sr (ck 3 (en (cn H (λ H=>?_) (λ H=>?_))))
       ·exact sr (ck 1 (en (re (qR (qr (by cases H;exact pr rd))))))
       ·exact sk (qN (qs (sg []) (hFR9_Arity_J1 () H)))
      ·refine sr (ck 2 (en (cn H (λ H=>?_) (λ H=>?_))))
       ·refine sr (ck 5 (gc 2 (decide (p0_.N>=2)) (pA (en (cn H (λ H=>?_) (λ H=>?_))))))
        ·exact sr (ck 4 (en (re (qR (qr (by cases H;exact pr rd))))))
        ·exact sk (qN (qs (sg []) (hFR9_Arity_J1 () H)))
       ·refine sr (ck 2 (en (cn H (λ H=>?_) (λ H=>?_))))
        ·refine sr (ck 8 (en (sr (ck 5 (gc 1 (decide (p0_.N>0)) (pA (ck 2 (gc 1 ((decide (p0_.N>0))&&(decide (Dv .i64 p0_.N 8>=1))) (pA (ck 2 (gc 1 (((decide (p0_.N>0))&&(decide (Dv .i64 p0_.N 8>=1)))&&(decide (Dv .i64 p0_.N 8<=4))) (pA (ck 2 (gc 1 ((((decide (p0_.N>0))&&(decide (Dv .i64 p0_.N 8>=1)))&&(decide (Dv .i64 p0_.N 8<=4)))&&(decide (Al p0_.N 8>=1))) (pA (en (cn H (λ H=>?_) (λ H=>?_))))))))))))))))))
         ·exact sr (ck 4 (en (re (qR (qr (by cases H;exact pr rd))))))
         ·exact sk (qN (qs (sg []) (hFR9_Arity_J1 () H)))
        ·exact sk (qN (qs (sg []) (hFR9_Arity_J1 () H)))
     refine sr (ck 2 (en (cn H (λ H=>?_) (λ H=>?_))))
     ·exact sk (qs (sg [1,6,38]) (hFR9_Arity_J3 (p0_.Op==9) H))
     ·refine sr (ck 2 (en (cn H (λ H=>?_) (λ H=>?_))))
      ·exact sk (qs (sg [1,6,38]) (hFR9_Arity_J3 (p0_.Op==10) H))
      ·exact rz (ck 2 (ae (qs (sg [1,6,38]) (hFR9_Arity_J3 (p0_.Op==11) H))))
   refine sr (ck 2 (en (cn H (λ H=>?_) (λ H=>?_))))
   ·exact sk (qs (sg [1,6,27]) (hFR9_Arity_J2 (p0_.Op==2) H))
   ·refine sr (ck 2 (en (cn H (λ H=>?_) (λ H=>?_))))
    ·exact sk (qs (sg [1,6,27]) (hFR9_Arity_J2 (p0_.Op==3) H))
    ·refine sr (ck 2 (en (cn H (λ H=>?_) (λ H=>?_))))
     ·exact sk (qs (sg [1,6,27]) (hFR9_Arity_J2 (p0_.Op==4) H))
     ·refine sr (ck 2 (en (cn H (λ H=>?_) (λ H=>?_))))
      ·exact sk (qs (sg [1,6,27]) (hFR9_Arity_J2 (p0_.Op==5) H))
      ·refine sr (ck 2 (en (cn H (λ H=>?_) (λ H=>?_))))
       ·exact sk (qs (sg [1,6,27]) (hFR9_Arity_J2 (p0_.Op==6) H))
       ·refine sr (ck 2 (en (cn H (λ H=>?_) (λ H=>?_))))
        ·exact sk (qs (sg [1,6,27]) (hFR9_Arity_J2 (p0_.Op==7) H))
        ·exact rz (ck 2 (ae (qs (sg [1,6,27]) (hFR9_Arity_J2 (p0_.Op==8) H))))
end
end Go.AI
end
