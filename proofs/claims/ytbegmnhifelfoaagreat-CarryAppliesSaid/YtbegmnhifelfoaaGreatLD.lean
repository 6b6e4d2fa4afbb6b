/- Part 4 of 6 of the proof: lemmas about the model and the program's functions, with no condition beyond those that each states. -/
import Derived.Test.YtbegmnhifelfoaaGreatLC
import Derived.Shelf.Sort.Plain
import Derived.Shelf.Slices.In.SortNone
import Derived.Shelf.SlSortCmp.NoneTotal
import Derived.Test.YtbegmnhifelfoaaGreatProg
import Derived.Shelf.SlLaysF0
import Derived.KernelRfl
section
namespace Go.AI
variable {P:Program} {Γ:Cx} {C:Code} {p:List Nat} {Q:Ex->St->Prop} {s s':St} {K:St->Prop} {i nk:Nat}
variable {α β ζ ε σ ρ τ:Type}
def ndQ (Γ:Cx) (c:Code) (i:Nat) (Q:Ex->St->Prop):Ex->St->Prop:=λ _ s=>∃ o,(AY c)[i]? = some o/\JiX Γ o (λ s'=>Gs Γ false (AY c) ((AY c).drop (i+1)) (Q .normal) s') s
structure ND (Γ:Cx) (c:Code) (i:Nat) (Q:Ex->St->Prop) (s:St):Prop where
 out:ndQ Γ c i Q .normal s
theorem YJ {m:Nat} {ops:List Oper}:∀ (l:List Oper) (Q:St->Prop) (s:St),Gs Γ false (ops.take m) l Q s->Gs Γ false ops l Q s:=by
 intro l
 induction l with
 | nil=>intro Q s h;exact h
 | cons o l ih=>intro Q s h;exact Gt (ih Q) (LV h)
theorem rn (m:Nat) (hs:AQ Γ.nt.nk s s') (hk:RF Γ (FJ m (nav p C)) [] 0 (ndQ Γ (nav p C) m (Tg C p s' Q)) s') (h:(Jd (nav p C)&&!LQ (nav p C))=true:=by kernel_rfl):WP Γ C p Q s:=by
 refine ⟨?_⟩
 have hk:=hk.out
 unfold AU at hk
 simp only [nav,List.drop_zero] at hk
 unfold Tg at hk
 generalize nav p C=c at *
 cases c with
 | region id ops d=>
  simp only [Jd,LQ,Bool.true_and,Bool.not_eq_true'] at h
  subst h
  refine ⟨s',hs,.inr (.inr ⟨rfl,?_⟩)⟩
  have hk:Gs Γ false (ops.toList.take m) (ops.toList.take m) _ s':=hk
  have hk:=YJ _ _ _ hk
  by_cases hm:m<ops.toList.length
  ·refine ⟨m,ops.toList[m],Jlk hm,DS (λ s1 h1=>?_) _ _ hk⟩
   obtain ⟨o,ho,h1⟩:=h1
   rw [show AY (.region id ops false)=ops.toList from rfl,Jlk hm] at ho
   cases ho
   obtain ⟨q1,q2,S,q3,q4⟩:=h1
   exact ⟨q1,q2,S,q3,λ st' hst=>DS (λ s2 h2=>h2.2) _ _ (q4 st' hst)⟩
  ·exfalso
   obtain ⟨S,_,_,hQS⟩:=EP _ _ _ hk
   obtain ⟨o,ho,_⟩:=hQS
   rw [show AY (.region id ops false)=ops.toList from rfl,List.getElem?_eq_none (by omega)] at ho
   cases ho
 | _=>cases h
theorem nd0 {c:Code} {m:Nat} (hk:ND Γ c m Q s) (hi:Nat.ble (AY (FJ m c)).length i=true:=by kernel_rfl):RF Γ (FJ m c) [] i (ndQ Γ c m Q) s:=⟨LR i hi hk.out⟩
structure YOK (P:Program) (Γ:Cx):Prop where
 exn:Γ.exn=NB P
def Jax (Γ:Cx) (c:Code) (o:Oper):Bool:=!LQ c&&o.guard.isNone&&Bs Γ.nt o.dst
theorem Vb (hY:YOK P Γ) {o:Oper} {S:St->Prop} (ho:(AY (nav p C))[i]? = some o) (h0:Jax Γ (nav p C) o=true) (hx:NB P Γ.nt o s S) (hk:∀ s',S s'->RF Γ C p (i+1) Q s'):ND Γ (nav p C) i Q s:=by
 simp only [Jax,Jll,Bool.not_eq_true'] at h0
 obtain ⟨⟨h1,h2⟩,h3⟩:=h0
 refine ⟨o,ho,by simpa using h2,h3,S,by rw [hY.exn];exact hx,λ s' hs=>?_⟩
 have:=(hk s' hs).out
 unfold AU at this
 rw [h1] at this
 exact this
def itD (c:Code) (i:Nat):Option Tmp:=match (AY c)[i]? with
 | some o=>o.dst
 | none=>none
def Jkl (Z:ζ->Prop) (r1:ζ->AV) (O1:ζ->List (Option Ob)):AV->List (Option Ob)->Prop:=λ r O=>∃ y,Z y/\r=r1 y/\O=O1 y
def nxN (Γ:Cx) (c:Code) (i:Nat) (ord:List Nat) (nb:Nat) (r:AV) (O1:List (Option Ob)) (s:St):Option St:=
 match (AY c)[i]? with
 | some o=>bif Jax Γ c o&&Nat.ble nb ord.length&&Nat.ble nb O1.length&&ord.all (λ k=>Nat.blt k s.objs.length) then
   some ⟨putA o.dst false true (Mq (Dr ord s.objs.length nb) r) s.env,CD s.objs ord nb O1⟩ else none
 | none=>none
theorem nc (hY:YOK P Γ) (ord:List Nat) {f:FuncId} {ys:List AV} {O0 raw0:List (Option Ob)} {nb:Nat} {Z:ζ->Prop} {r1:ζ->AV} {O1:ζ->List (Option Ob)} (hr:G5 P f ys O0 nb (Jkl Z r1 O1)) (hp0:raw0=O0)
  (hk:∀ y,Z y->RF Γ C p (i+1) Q ((nxN Γ (nav p C) i ord nb (r1 y) (O1 y) s).getD s)) (hg:D7 (nav p C) i s=[]:=by kernel_rfl)
  (hc:RO (nav p C) i s=some ((some f,((RO (nav p C) i s).getD ((none,[]),[])).1.2),ord):=by kernel_rfl) (hxs:((RO (nav p C) i s).getD ((none,[]),[])).1.2.map (JA ord)=ys:=by kernel_rfl) (hO:EG s.objs ord=raw0:=by kernel_rfl)
  (hn:∀ y,(nxN Γ (nav p C) i ord nb (r1 y) (O1 y) s).isSome=true:=by intro y;kernel_rfl) (hb:Nat.ble nb ord.length=true:=by kernel_rfl) (hb2:ord.all (λ k=>Nat.blt k s.objs.length)=true:=by kernel_rfl) (h0:((AY (nav p C))[i]?.map (Jax Γ (nav p C)))=some true:=by kernel_rfl):ND Γ (nav p C) i Q s:=by
 generalize ((RO (nav p C) i s).getD ((none,[]),[])).1.2=zs at hc hxs
 subst hp0
 unfold RO at hc
 split at hc
 ·rename_i o ho
  rw [ho] at h0
  simp only [Option.map_some,Jlv] at h0
  simp only [Jlv,Prod.mk.injEq] at hc
  obtain ⟨hc,hord⟩:=hc
  rw [hc] at hord
  simp only at hord
  subst hord
  subst hxs
  subst hO
  have hgob:D1 true (o.op.operands.toList.map (Aj s.env)):=by
   refine JS (g:=true) ?_
   unfold D7 at hg
   rw [ho] at hg
   simp only at hg
   rw [hg]
   exact Dd
  have hall:∀ y,Nat.ble nb (O1 y).length=true:=λ y=>by
   have:=hn y
   unfold nxN at this
   rw [ho] at this
   simp only at this
   cases hb3:Nat.ble nb (O1 y).length with
   | true=>rfl
   | false=>rw [hb3] at this;simp at this
  refine Vb hY ho h0 (YH hgob hc hr (Jlz hb) (λ r O hR=>?_) λ k hk=>?_) λ s' hs=>?_
  ·obtain ⟨y,_,_,rfl⟩:=hR
   exact Jlz (hall y)
  ·exact Jlz (Jk7.1 hb2 k hk)
  ·obtain ⟨r,O,⟨y,hy,rfl,rfl⟩,rfl⟩:=hs
   have h:=hk y hy
   have e:nxN Γ (nav p C) i (AE s.objs zs) nb (r1 y) (O1 y) s=some ⟨putA o.dst false true (Mq (Dr (AE s.objs zs) s.objs.length nb) (r1 y)) s.env,CD s.objs (AE s.objs zs) nb (O1 y)⟩:=by
    unfold nxN
    rw [ho]
    simp only [h0,hb,hall y,hb2,Bool.and_self,cond_true]
   rw [e] at h
   exact h
 ·cases hc
theorem JcD {o:Oper} {st:St} {nt:Slt} {T:Nat->Ty} (hΓ:IC P T) {t yt:TypeId} {x y:Operand} {es:List (List D)} {esz eb:Nat} {ez:List D} (hop:o.op=.binOp .eql t x y yt) (hok:(T t).ok=true) (hkind:(T t).kind=.slice esz eb ez) (hx:Aj st.env x=.d (.sl es)) (hy:Aj st.env y=.d .nil) :
  NB P nt o st (λ s'=>∃ b,(es≠[]->b=false)/\s'=⟨putA o.dst false true (.d (.bool b)) st.env,st.objs⟩):=by
 intro N H0 F0 w0 a w hI hdst r n K Qw _ hK
 obtain ⟨F,ρ,hS,hSl,hn,hdf⟩:=hI
 obtain ⟨d,hd,_,hkd⟩:=(hΓ t hok).desc
 rw [hkind] at hkd
 obtain ⟨elem,i,z,rfl,_⟩:=hkd
 have hxr:=AW hSl x
 rw [hx] at hxr
 have hyr:=AW hSl y
 rw [hy] at hyr
 generalize hxv:a.eval x=xv at hxr
 generalize hyv:a.eval y=yv at hyr
 cases hyr with
 | d _ _ hyd=>
  cases hyd
  have e0:∀ (q:Nat) p m c (w:World),(Op.equalIn (q+1) t (.slice p m c) (.slice none 0 0)).run P w=.ok p.isNone w:=λ q p m c w=>by
   cases p<;>simp [Op.equalIn,run_underlying hd]
  have e1:∀ p m c (w:World),(Op.equal t (.slice p m c) (.slice none 0 0)).run P w=.ok p.isNone w:=λ p m c w=>e0 9999 p m c w
  have e2:∀ p m c (w:World),(execOp a.eval o).run P w=.ok (.value (.bool (p:Option Addr).isNone)) w\/a.eval x≠.slice p m c:=λ p m c w=>by
   by_cases h:a.eval x=.slice p m c
   ·left
    simp only [execOp,hop,h,hyv,eqGuard,binOp,e1,Jk4,Jk2,Jk5]
    simp
   ·exact .inr h
  have hrun:∃ b,(es≠[]->b=false)/\(execOp a.eval o).run P w=.ok (.value (.bool b)) w:=by
   cases hxr with
   | d _ _ hxd=>
    cases hxd with
    | sl0 ad cap=>exact ⟨_,λ h=>absurd rfl h,(e2 ad 0 cap w).resolve_right (λ h=>h hxv)⟩
    | sl _ b off cap=>exact ⟨_,λ _=>rfl,(e2 (some ⟨b,off,none⟩) es.length cap w).resolve_right (λ h=>h hxv)⟩
  obtain ⟨b,hb,hrun⟩:=hrun
  refine DG (by rw [hop];intro c e;cases e) ?_
  unfold Oper.wp
  rw [hrun,Oper.upon_value]
  exact hK _ _ _ ⟨b,hb,rfl⟩ ⟨F,ρ,hS,hSl.putA hn hdst (.mkBool _),hn.put hdst,by rw [Br];exact hdf⟩
def nlB (Γ:Cx) (c:Code) (i:Nat) (s:St):Bool:=match (AY c)[i]? with
 | some o=>Jax Γ c o&&(match o.op with
  | .binOp .eql t x y _=>(Γ.ty t).ok&&(match (Γ.ty t).kind,Aj s.env y with
   | .slice _ _ _,.d .nil=>true
   | _,_=>false)
  | _=>false)
 | none=>false
def nlV (c:Code) (i:Nat) (s:St):Option (List (List D)):=match (AY c)[i]? with
 | some o=>(match o.op with
  | .binOp _ _ x _ _=>(match Aj s.env x with
   | .d (.sl es)=>some es
   | _=>none)
  | _=>none)
 | none=>none
theorem nl (hY:YOK P Γ) (hX:XOK P Γ) {xs:List α} {enc:α->List D} (hk:∀ b,nlS xs b->RF Γ C p (i+1) Q ⟨putA (itD (nav p C) i) false true (.d (.bool b)) s.env,s.objs⟩) (hb:nlB Γ (nav p C) i s=true:=by kernel_rfl) (hv:nlV (nav p C) i s=some (xs.map enc):=by kernel_rfl):ND Γ (nav p C) i Q s:=by
 unfold nlB at hb
 unfold itD at hk
 unfold nlV at hv
 split at hb
 ·rename_i o ho
  rw [ho] at hk hv
  simp only [Jll] at hb
  obtain ⟨hb1,hb2⟩:=hb
  split at hb2
  ·rename_i t x y yt hop
   simp only [Jll] at hb2
   obtain ⟨hb2,hb3⟩:=hb2
   split at hb3
   ·rename_i hkd hy
    simp only [hop] at hv
    split at hv
    ·rename_i es hx
     simp only [Jlv] at hv
     subst hv
     refine Vb hY ho hb1 (JcD hX.ty hop hb2 hkd hx hy) λ s' hs=>?_
     obtain ⟨b,hb,rfl⟩:=hs
     exact hk b λ hne=>hb (by simpa using hne)
    ·cases hv
   ·cases hb3
  ·cases hb2
 ·cases hb
end Go.AI
end
section
namespace Go.AI
variable {α:Type}
def YK (rows:List (List α)) (i j:Int):Option α:=(idx rows i).bind λ r=>idx r j
def YL (rows:List (List α)) (i j:Int) (b:α):Option (List (List α)):=(idx rows i).bind λ r=>(put r j b).bind λ r'=>put rows i r'
end Go.AI
end
section
namespace Go.AI
variable {P:Program} {Γ:Cx} {C:Code} {p:List Nat} {Q:Ex->St->Prop} {s s':St} {i nk:Nat}
variable {α β ζ:Type}
def Jkm:D->Bool
 | .int _ _=>true
 | .bool _=>true
 | .str _=>true
 | _=>false
theorem WC:∀ (l pre cells:List AV),cells.length=l.length->splice (pre++cells) pre.length l=pre++l:=by
 intro l
 induction l with
 | nil=>intro pre cells h;rw [List.length_eq_zero_iff.1 h];rfl
 | cons v l ih=>
  intro pre cells h
  cases cells with
  | nil=>cases h
  | cons c cells=>
   simp only [splice]
   have e:(pre++c::cells).set pre.length v=(pre++[v])++cells:=by simp
   rw [e]
   have:=ih (pre++[v]) cells (by simpa using h)
   simp only [List.length_append,List.length_cons,List.length_nil] at this
   rw [this,List.append_assoc];rfl
theorem Jay (z:D) (N k:Nat) (t:Ty) (hk:obA s.objs k=some (.box ((List.replicate N z).map .d)):=by kernel_rfl) (ht:Nat.beq t.size N=true:=by kernel_rfl) :
  FI s (DE t s.objs (.ptr k 0) (.agg ((List.replicate N z).map .d))) .top [] [] (some (k,.box ((List.replicate N z).map .d))):=by
 have ht:=Jlr ht
 have hall:((List.replicate N z).map AV.d).all D2=true:=by
  rw [Jk7]
  intro x hx
  obtain ⟨y,_,rfl⟩:=Jle.1 hx
  rfl
 have hsp:splice ((List.replicate N z).map AV.d) 0 ((List.replicate N z).map AV.d)=(List.replicate N z).map AV.d:=WC _ [] _ rfl
 refine .of (ob:=((List.replicate N z).map AV.d).length=t.size/\0+t.size<=((List.replicate N z).map AV.d).length) ?_ ⟨by simp [ht],by simp [ht]⟩
 simp only [DE,hk,Bl,Ar,hall,Bool.and_self,cond_true,hsp]
theorem JcE {α:Type} (e:α->D) (b:α) (N n m k:Nat) (hN:Nat.beq (n*m) N=true) (h:obA s.objs k=some (.box ((List.replicate N (e b)).map .d))):AQ nk s ⟨s.env,s.objs.set k (some (.arr m ((List.replicate n (List.replicate m b)).map (List.map e))))⟩:=by
 have hN:=Jlr hN
 have e1:((List.replicate n ()).flatMap λ _=>List.replicate m (e b))=List.replicate N (e b):=by
  rw [List.flatMap_def,List.map_replicate,List.flatten_replicate_replicate,hN]
 have e2:(List.replicate n (List.replicate m b)).map (List.map e)=(List.replicate n ()).map λ _=>List.replicate m (e b):=by simp
 rw [e2]
 exact Jcr (λ _:Unit=>List.replicate m (e b)) (List.replicate n ()) k m (λ _=>by simp) (by rw [e1];exact h)
theorem Xu (k sz n esz i0 off:Nat) {j:Int} {u:Unit} (h:BH (decide (0<=j/\j<(n:Nat)))=some u) (hne:Nat.beq esz sz=false:=by kernel_rfl):FI s (Pc (.array n esz) (.eptr k sz i0 off) j) (.eptr k sz i0 (off+j.toNat*esz)) [] [] none:=by
 refine .of (ob:=0<=j/\j<(n:Nat)) ?_ (of_decide_eq_true (KK h))
 simp only [Pc,hne,cond_false,A2]
theorem YM {rows:List (List α)} {i j:Int} {b:α} (h:YK rows i j=some b):∃ r,idx rows i=some r/\idx r j=some b:=by
 unfold YK at h
 cases hr:idx rows i with
 | none=>rw [hr] at h;cases h
 | some r=>rw [hr] at h;exact ⟨r,rfl,h⟩
theorem JfA (e:α->D) (k sz:Nat) (t:Ty) {rows:List (List α)} {i j:Int} {b:α} (h:YK rows i j=some b) (hk:obA s.objs k=some (.arr sz (rows.map (List.map e))):=by kernel_rfl) (ht:(!t.agg&&Nat.beq t.size 1)=true:=by kernel_rfl) :
  FI s (CV t s.objs (.eptr k sz (0+i.toNat) (0+j.toNat*1))) (.d (e b)) [] [] none:=by
 obtain ⟨r,h1,h2⟩:=YM h
 obtain ⟨i0,i1,i2⟩:=Ft h1
 obtain ⟨j0,j1,j2⟩:=Ft h2
 simp only [Jll,Bool.not_eq_true'] at ht
 have hs:=Jlr ht.2
 have e1:(rows.map (List.map e))[0+i.toNat]? = some (r.map e):=by rw [Jly,Jlo,i2];rfl
 have e2:((r.map e).map AV.d)[0+j.toNat*1]? = some (.d (e b)):=by rw [Jly,Nat.mul_one,Jlo,Jlo,j2];rfl
 refine .of (ob:=sz=sz/\0+i.toNat<(rows.map (List.map e)).length/\0+j.toNat*1+t.size<=(r.map e).length) ?_ ⟨rfl,Ad e1,?_⟩
 ·simp only [CV,hk,e1,Jk8,BT,ht.1,cond_false,e2,A2]
 ·have:=Ad e2;rw [Jlh] at this;omega
theorem YN {rows zs:List (List α)} {i j:Int} {b:α} (h:YL rows i j b=some zs):∃ r r',idx rows i=some r/\put r j b=some r'/\put rows i r'=some zs:=by
 unfold YL at h
 cases hr:idx rows i with
 | none=>rw [hr] at h;cases h
 | some r=>
  rw [hr] at h
  simp only [Jk3] at h
  cases hp:put r j b with
  | none=>rw [hp] at h;cases h
  | some r'=>rw [hp] at h;exact ⟨r,r',rfl,hp,h⟩
theorem Xv {xs zs:List α} {i:Int} {y:α} (h:put xs i y=some zs):zs=xs.set i.toNat y/\i.toNat<xs.length:=by
 unfold put at h
 split at h
 ·rename_i hc;cases h;exact ⟨rfl,by omega⟩
 ·cases h
theorem Jkn (e:α->D) (k sz:Nat) (t:Ty) {rows zs:List (List α)} {n m:Int} {b:α} (h:YL rows n m b=some zs) (hm:m<(sz:Int)) (hk:RF Γ C p (i+1) Q ((Ls Γ (nav p C) i .top [] [] (some (k,.arr sz (zs.map (List.map e)))) s).getD s))
  (h1:obA s.objs k=some (.arr sz (rows.map (List.map e))):=by kernel_rfl) (hv:stV (nav p C) i s=.d (e b):=by kernel_rfl) (hpl:Jkm (e b)=true:=by kernel_rfl) (h5:Nat.beq t.size 1=true:=by kernel_rfl)
  (hx:NG Γ (nav p C) i s=DE t s.objs (.eptr k sz (0+n.toNat) (0+m.toNat*1)) (stV (nav p C) i s):=by kernel_rfl) (hn:(Ls Γ (nav p C) i .top [] [] (some (k,.arr sz (zs.map (List.map e)))) s).isSome=true:=by kernel_rfl):RF Γ C p i Q s:=by
 obtain ⟨r,r',q1,q2,q3⟩:=YN h
 obtain ⟨i0,i1,i2⟩:=Ft q1
 have hm0:0<=m:=by
  unfold put at q2
  split at q2
  ·omega
  ·cases q2
 obtain ⟨rfl,q4⟩:=Xv q2
 obtain ⟨rfl,q5⟩:=Xv q3
 have e1:(rows.map (List.map e))[0+n.toNat]? = some (r.map e):=by rw [Jly,Jlo,i2];rfl
 have hex:CK s.objs [AV.d (e b)]=some ⟨[e b],[],True/\True⟩:=by
  have:HN s.objs (AV.d (e b))=some ⟨e b,[],True⟩:=by
   cases hb:e b<;>first|rfl|(rw [hb] at hpl;cases hpl)
  simp only [CK,this];rfl
 refine sp (v:=.top) (obs:=[]) (rm:=[]) ?_ hk hx hn
 rw [hv]
 have hs:=Jlr h5
 refine .of (ob:=sz=sz/\[e b].length=t.size/\0+n.toNat<(rows.map (List.map e)).length/\0+m.toNat*1+t.size<=sz/\(True/\True)) ?_ ⟨rfl,by simp [hs],Ad e1,by omega,trivial,trivial⟩
 have hsol:(Bl (AV.d (e b))&&(Ar (AV.d (e b))).all D2&&!([]:List Nat).contains k)=true:=rfl
 have hcc:Ar (AV.d (e b))=[AV.d (e b)]:=rfl
 simp only [DE,h1,hcc,hex]
 simp only [hcc] at hsol
 rw [hsol,cond_true,e1]
 simp only [Jk8,Jly,Nat.mul_one,D3,List.map_set]
end Go.AI
end
section
namespace Go.AI
open Go.Sort Go.Shelf Go.Proofs
variable {P:Program} {ρs:Ren}
theorem Sim.more {N:Nat->Prop} {H0 F0 F:Nat->Option Obj} {ρ:Nat->Option Loc} {O:List (Option Ob)} {h:Array Obj} (hS:Sim N H0 F0 F ρ O h) (os:Array Obj):Sim N H0 F0 F ρ O (h++os):=by
 have hl:∀ b,b<h.size->(h++os)[b]? = h[b]? := λ b hb=>Array.getElem?_append_left hb
 have hg:∀ b o,h[b]? = some o->(h++os)[b]? = some o:=λ b o hb=>by rw [hl b (Ao hb)];exact hb
 obtain ⟨σ,hσ⟩:=hS.inn
 have hM:∀ k c M,σ k c=some M->(h++os)[M.b]? = h[M.b]? := λ k c M hM=>hl _ (hσ.new k c M hM).2.1
 refine { hS with size:=λ b hb=>hS.size b (by simp at hb;omega),old:=λ b hb=>?_,frz:=λ b o hb=>hg b o (hS.frz b o hb),loc:=λ k L hk=>?_,obj:=λ k L ob hk ho=>?_,inn:=⟨σ,λ k c M hM=>?_,hσ.obj,hσ.sep,λ k L sz es hk ho i e j isz xs hi hj cs t fr v hb hv=>?_⟩ }
 ·have:b<h.size:=by
   apply Classical.byContradiction;intro hn
   exact hb (hS.size b (by omega))
  rw [hl b this];exact hS.old b hb
 ·have:=hS.loc k L hk;simp;omega
 ·obtain ⟨g1,g2,g3⟩:=hS.obj k L ob hk ho
  exact ⟨g1.mono (FLe.refl _) (RLe.refl _) (hl _ (hS.loc k L hk)),g2,g3⟩
 ·obtain ⟨g1,g2,g3⟩:=hσ.new k c M hM
  exact ⟨g1,by simp;omega,g3⟩
 ·rw [hl _ (hS.loc k L hk)] at hb
  exact (hσ.rep k L sz es hk ho i e j isz xs hi hj cs t fr v hb hv).mono (FLe.refl _) λ L' hL'=>hM _ _ _ hL'
end Go.AI
end
section
namespace Go.AI
def WD {β:Type} (lt:β->β->Bool) (x:β):List β->List β
 | []=>[x]
 | y::l=>if lt y x=true then y::WD lt x l else x::y::l
def LW {β:Type} (lt:β->β->Bool):List β->List β
 | []=>[]
 | x::l=>WD lt x (LW lt l)
def Vc {β:Type} (lt:β->β->Bool) (xs:List β):Option (List β):=if xs.length<4611686018427387904 then some (LW lt xs) else none
section
variable {β:Type} {lt:β->β->Bool}
theorem NI (x:β):∀ l:List β,(WD lt x l).Perm (x::l)
 | []=>.refl _
 | y::l=>by
  unfold WD
  split
  ·exact ((NI x l).cons y).trans (.swap x y l)
  ·exact .refl _
theorem JT:∀ l:List β,(LW lt l).Perm l
 | []=>.refl _
 | x::l=>(NI x _).trans ((JT l).cons x)
theorem O2 (hn:∀ x y z,lt x y=false->lt y z=false->lt x z=false) (ha:∀ x y,lt x y=true->lt y x=false) {x:β}:∀ {l:List β},l.Pairwise (λ a b=>lt b a=false)->(WD lt x l).Pairwise (λ a b=>lt b a=false)
 | [],_=>by simp [WD]
 | y::l,h=>by
  unfold WD
  rw [List.pairwise_cons] at h
  split
  ·rename_i hyx
   refine List.pairwise_cons.2 ⟨λ z hz=>?_,O2 hn ha h.2⟩
   rcases List.mem_cons.1 ((NI x l).mem_iff.1 hz) with rfl|hz
   ·exact ha _ _ hyx
   ·exact h.1 z hz
  ·rename_i hyx
   have hyx:lt y x=false:=by simpa using hyx
   refine List.pairwise_cons.2 ⟨λ z hz=>?_,List.pairwise_cons.2 h⟩
   rcases List.mem_cons.1 hz with rfl|hz
   ·exact hyx
   ·exact hn _ _ _ (h.1 z hz) hyx
theorem HE (hn:∀ x y z,lt x y=false->lt y z=false->lt x z=false) (ha:∀ x y,lt x y=true->lt y x=false):∀ l:List β,(LW lt l).Pairwise (λ a b=>lt b a=false)
 | []=>.nil
 | _::l=>O2 hn ha (HE hn ha l)
theorem Tn (hi:∀ x,lt x x=false) (hn:∀ x y z,lt x y=false->lt y z=false->lt x z=false) (ht:∀ x y z,lt x y=true->lt y z=true->lt x z=true) (hT:∀ x y,lt x y=false->lt y x=false->x=y) (l:List β):LW lt l=l.mergeSort λ x y=>!lt y x:=by
 have ha:∀ x y,lt x y=true->lt y x=false:=λ x y h=>by
  rw [Bool.eq_false_iff];intro h'
  have:=ht x y x h h';rw [hi] at this;cases this
 refine List.Perm.eq_of_pairwise (le:=λ a b=>lt b a=false) (λ a b _ _ h1 h2=>hT _ _ h2 h1) (HE hn ha l) ?_ ((JT l).trans (List.mergeSort_perm _ _).symm)
 have:=List.pairwise_mergeSort (le:=λ x y:β=>!lt y x) (λ a b c h1 h2=>by simp at *;exact hn _ _ _ h2 h1) (λ a b=>by
  cases h:lt b a with
  | false=>simp
  | true=>simp [ha _ _ h]) l
 exact this.imp λ h=>by simpa using h
end
end Go.AI
end
section
namespace Go.AI
open Go.Sort Go.Shelf Go.Proofs
variable {P:Program} {ρs:Ren} {β:Type} [Inhabited β]
theorem Ba.is_val {F:Nat->Option Obj} {x:D} {v:Value} (h:Ba F x v) (hp:x.isPlain=true):v=x.val:=by
 cases h<;>first|rfl|cases hp
theorem RP {x:D} (hp:x.isPlain=true):x.val.oneCell'=true:=Ba.oneCell (Ba.val (λ _=>none) hp)
theorem Jaz {g:Nat} {enc:β->List D} (hpl:∀ x,∀ d∈enc x,d.isPlain=true) {cf:β->β->Int} (hcmp:∀ x y,Ap P g [.agg ((enc x).map .d),.agg ((enc y).map .d)] (.d (.int .i64 (cf x y)))) (k blk off size:Nat) (w:World):CmpLays P g #[] (λ x=>(enc x).map D.val) k cf blk off size w:=by
 intro m os dk _ x y
 generalize sortWorldK (λ x=>(enc x).map D.val) k w blk off m dk os=W
 have ag:∀ z:β,Ag (λ _=>none) noR (.agg ((enc z).map .d)) (.agg ((enc z).map D.val).toArray):=λ z=>by
  refine .agg _ _ (by simp) λ i a v h1 h2=>?_
  simp only [Jlo,Jln] at h1
  obtain ⟨d,hd,rfl⟩:=h1
  simp only [List.getElem?_toArray,Jlo,hd,Option.map_some,Jlv] at h2
  subst h2
  exact .d _ _ (Ba.val _ (hpl z d (Jlm hd)))
 refine ((hcmp x y).2 (λ _=>none) W _ ⟨rfl,λ i a v h1 h2=>?_⟩ (λ b o h=>by cases h)).mono λ e w' he=>?_
 ·match i,h1,h2 with
  | 0,h1,h2=>cases h1;cases h2;exact ag x
  | 1,h1,h2=>cases h1;cases h2;exact ag y
 ·obtain ⟨v,F',ρ,rfl,hS,hv,hmu⟩:=he
  refine ⟨?_,w'.drawn-W.drawn,w'.heap.extract W.heap.size w'.heap.size,?_⟩
  ·have hv:Ag F' ρ (.d (.int .i64 (cf x y))) v:=hv
   rw [hv.int]
  ·obtain ⟨h1,h2,h3,h4,h5⟩:=hmu
   have hh:w'.heap=W.heap++w'.heap.extract W.heap.size w'.heap.size:=by
    apply Array.ext_getElem?
    intro b
    rw [Array.getElem?_append]
    split
    ·rename_i hb
     exact hS.old b (by omega)
    ·rename_i hb
     rw [Array.getElem?_extract]
     split
     ·congr 1;omega
     ·rw [Array.getElem?_eq_none (by omega)]
   show w'={ W with drawn:=W.drawn+(w'.drawn-W.drawn),heap:=W.heap++w'.heap.extract W.heap.size w'.heap.size }
   rw [← hh,Nat.add_sub_cancel' h5]
   cases w';cases W
   simp only at h1 h2 h4
   subst h1;subst h2;subst h4;rfl
theorem WE (L:SlLaysF0.n6 P ρs) (k:Nat) (hk1:1<=k) (aE:∀ w,(isAgg (ρs.t 24)).run P w=.ok true w) (zE:∀ w,(Go.sizeOf (ρs.t 24)).run P w=.ok k w) {enc:β->List D} (hk:∀ x,(enc x).length=k) (hpl:∀ x,∀ d∈enc x,d.isPlain=true) {cf:β->β->Int} (hO:SWO (ltOf cf)) (hT:∀ x y,ltOf cf x y=false->ltOf cf y x=false->x=y) {g:Nat} (eg:∀ args w,(callFunc g args).run P w=.ok (.enter g args) w)
  (hcmp:∀ x y,Ap P g [.agg ((enc x).map .d),.agg ((enc y).map .d)] (.d (.int .i64 (cf x y)))) (hf:∃ fn c,P.funcs[ρs.f 6]? = some fn/\fn.body=some c/\(fn.name == "runtime.NumGoroutine")=false) {xs zs:List β} (h:Vc (ltOf cf) xs=some zs) :
  BR P (ρs.f 6) [.osl 0 k 0 xs.length,.clo g []] [some (.arr k (xs.map enc))] 1 (.tup []) [some (.arr k (zs.map enc))]:=by
 have hz:xs.length<4611686018427387904/\zs=xs.mergeSort λ x y=>!(ltOf cf) y x:=by
  unfold Vc at h
  split at h
  ·rename_i h1;exact ⟨h1,by rw [← Tn hO.irrefl hO.ntrans hO.trans hT];exact (Option.some.inj h).symm⟩
  ·cases h
 obtain ⟨hlt,hzs⟩:=hz
 refine ⟨hf,λ N F ρ w vs hS hcr=>?_⟩
 obtain ⟨v,u,rfl⟩:∃ v u,vs=#[v,u]:=by
  have h1:vs.size=2:=by simpa using hcr.1.symm
  exact ⟨vs[0],vs[1],by apply Array.ext;simp [h1];intro i h1' h2;simp at h2;match i,h2 with|0,_=>rfl|1,_=>rfl⟩
 have hv:=hcr.2 0 _ v rfl rfl
 have hu:=hcr.2 1 _ u rfl rfl
 have hu:u=.func (.func g) #[] #[]:=by
  cases hu with
  | clo _ _ vs hl _=>
   have:vs=#[]:=Array.eq_empty_of_size_eq_zero hl.symm
   rw [this]
 subst hu
 have hlen:zs.length=xs.length:=by rw [hzs];exact List.length_mergeSort _
 have htup:∀ F' ρ',Ag F' ρ' (.tup []) (.tuple #[]):=λ F' ρ'=>.tup [] #[] rfl λ i a v h=>by simp at h
 generalize hn:xs.length=n at hv
 cases hv with
 | osl0 _ _ _ a=>
  have hx:xs=[]:=List.length_eq_zero_iff.1 hn
  have hz0:zs=[]:=List.length_eq_zero_iff.1 (by omega)
  refine (AnyF.slices_SortFunc_none L a 0 _ w).mono λ e w' he=>?_
  obtain ⟨rfl,rfl⟩:=he
  subst hx;subst hz0
  exact ⟨_,F,ρ,rfl,hS,λ j _ L h=>h,htup _ _,Mu.refl _⟩
 | osl _ _ _ _ cap Lo hL hc hs hz=>
  obtain ⟨⟨g1,g2,cs,t,fr,g3,g4,g5,g6⟩,gN,gF⟩:=hS.obj 0 Lo _ hL rfl
  simp only [Jlh] at g2
  have hdm:∀ j,j<xs.length*k->j / k<xs.length/\j % k<k/\j / k*k+j % k=j:=λ j hj=>⟨(Nat.div_lt_iff_lt_mul (by omega)).2 hj,Nat.mod_lt _ (by omega),by rw [Nat.mul_comm];exact Nat.div_add_mod j k⟩
  have hcell:∀ j,j<xs.length*k->cs[Lo.base+j]? = some ((flatK (λ x=>(enc x).map D.val) k xs.toArray)[j]!):=λ j hj=>by
   obtain ⟨d1,d2,d3⟩:=hdm j hj
   have hx:xs.toArray[j / k]! = xs[j / k]:=by rw [getElem!_pos _ (j / k) (by simpa using d1)];simp
   have hd2:j % k<(enc xs[j / k]).length:=by rw [hk];exact d2
   obtain ⟨v,hv,hd⟩:=g6 (j / k) (enc xs[j / k]) (by rw [Jlo,Jlk d1];rfl) (j % k) _ (Jlk hd2)
   have:=hd.is_val (hpl _ _ (Jk9 hd2))
   subst this
   rw [get_flatK _ _ _ j (by simpa using hj),hx]
   rw [show Lo.base+j=Lo.base+j / k*k+j % k by omega,hv,getElem!_pos _ (j % k) (by simpa using hd2)]
   simp
  have hH:HoldsK (λ x=>(enc x).map D.val) k w Lo.b (Lo.base+0*k) xs.toArray:=λ j hj=>by
   have hj:j<xs.length*k:=by simpa using hj
   have:=hcell j hj
   refine ⟨by simp only [World.cell?,g3,Option.isSome_none,Jlw,if_false,Nat.zero_mul,Nat.add_zero];exact this,PW g3 (g5 _ ?_)⟩
   simp;omega
  have hcon:=AnyQ.slices_SortFunc_total L k aE zE (λ x=>(enc x).map D.val) (λ x=>by simp [hk]) (λ x v hv=>by
   simp only [Jle] at hv
   obtain ⟨d,hd,rfl⟩:=hv
   exact RP (hpl x d hd)) cf hO g #[] Lo.b (Lo.base+0*k) cap xs.toArray w eg (Jaz hpl hcmp k _ _ _ w) hH (Ao g3) (by simpa using hlt) hT
  rw [show xs.toArray.size=n by simpa using hn] at hcon
  refine hcon.mono λ e w' he=>?_
  obtain ⟨rfl,m,os,rfl⟩:=he
  rw [show xs.toArray.toList=xs from rfl,← hzs]
  have hheap:(sortWorldK (λ x=>(enc x).map D.val) k w Lo.b (Lo.base+0*k) m zs.toArray os).heap=w.heap.setIfInBounds Lo.b (.cells (putCells id Lo.base (flatK (λ x=>(enc x).map D.val) k zs.toArray) cs) t fr)++os:=by
   simp only [sortWorldK,putRowK,grow,putRow,mapBlock,Sort.ahead,Nat.zero_mul,Nat.add_zero]
   congr 1
   apply Array.ext_getElem?
   intro i
   rw [Array.getElem?_modify,Array.getElem?_setIfInBounds]
   split
   ·rename_i e;subst e
    rw [if_pos (Ao g3),g3];rfl
   ·rfl
  have hS1:=hS.rewrite (k':=0) (L':=Lo) (x:=.cells (putCells id Lo.base (flatK (λ x=>(enc x).map D.val) k zs.toArray) cs) t fr) (O':=[some (.arr k (zs.map enc))]) hL rfl (by rw [B8 hL];exact RLe.refl _) rfl (λ j ob' hj hob'=>by
    have:=AR hob';simp at this;omega) (by simp) (by simp) (λ ob' hob'=>by
    cases hob'
    refine ⟨λ e he=>?_,by simp;rw [hlen];exact g2,_,t,fr,by rw [Array.getElem?_setIfInBounds_self_of_lt (Ao g3)],by simp [putCells,g4],g5,λ i e hi j x hx=>?_⟩
    ·simp only [Jle] at he;obtain ⟨y,_,rfl⟩:=he;exact hk y
    ·simp only [Jlo,Jln] at hi
     obtain ⟨y,hy,rfl⟩:=hi
     have hj:j<k:=by have:=Ad hx;rw [hk] at this;exact this
     have hil:=Ad hy
     have hlt2:i*k+j<zs.length*k:=by
      have:(i+1)*k<=zs.length*k:=Jk6 k (by omega)
      rw [Jlx] at this;omega
     have hcs:Lo.base+i*k+j<cs.size:=by
      have:=hcell (i*k+j) (by rw [← hlen];exact hlt2)
      have:=Ao this;omega
     refine ⟨x.val,?_,Ba.val _ (hpl y x (Jlm hx))⟩
     have e1:(flatK (λ x=>(enc x).map D.val) k zs.toArray)[i*k+j]! = x.val:=by
      rw [get_flatK _ _ _ _ (by simpa using hlt2)]
      have h1:(i*k+j) / k=i:=by rw [Nat.mul_comm,Nat.mul_add_div (by omega),Nat.div_eq_of_lt hj];omega
      have h2:(i*k+j) % k=j:=by rw [Nat.mul_comm,Nat.mul_add_mod];exact Nat.mod_eq_of_lt hj
      rw [h1,h2]
      have e0:zs.toArray[i]! = y:=by
       rw [getElem!_pos _ i (by simpa using hil)]
       simpa [Jlk hil] using hy
      rw [e0]
      have hjl:j<((enc y).map D.val).length:=by simp [hk];exact hj
      rw [getElem!_pos _ j hjl,List.getElem_map]
      have:=Jlk (l:=enc y) (by rw [hk];exact hj)
      rw [this] at hx;cases hx;rfl
     simp only [putCells,Array.getElem?_mapIdx,Jlp hcs,Option.map_some]
     rw [if_pos ⟨by omega,by simp;omega⟩,show Lo.base+i*k+j-Lo.base=i*k+j by omega,e1];rfl) (λ ob' hob'=>by cases hob';rfl)
  rw [B8 hL] at hS1
  refine ⟨_,F,ρ,rfl,by rw [hheap];exact hS1.more os,λ j _ L h=>h,htup _ _,rfl,rfl,by rw [hheap];simp,rfl,Nat.le_add_right _ _⟩
end Go.AI
end
section
namespace Go.AI
variable {β:Type}
def ltC (c:β->β->Option Int) (x y:β):Bool:=decide ((c x y).getD 0<0)
structure Xw (c:β->β->Option Int):Prop where
 tot:∀ x y,(c x y).isSome=true
 irrefl:∀ x,ltC c x x=false
 trans:∀ x y z,ltC c x y=true->ltC c y z=true->ltC c x z=true
 ntrans:∀ x y z,ltC c x y=false->ltC c y z=false->ltC c x z=false
 one:∀ x y,ltC c x y=false->ltC c y x=false->x=y
open Classical in
noncomputable def sortC (c:β->β->Option Int) (xs:List β):Option (List β):=if Xw c then Vc (ltC c) xs else none
theorem QJ {c:β->β->Option Int} {xs zs:List β} (h:sortC c xs=some zs):Xw c/\Vc (ltC c) xs=some zs:=by
 unfold sortC at h
 split at h
 ·rename_i hc;exact ⟨hc,h⟩
 ·cases h
theorem JaA {c:β->β->Option Int} (hc:Xw c) (xs:List β) (h:xs.length<4611686018427387904):sortC c xs=some (LW (ltC c) xs):=by
 unfold sortC Vc
 rw [if_pos hc,if_pos h]
end Go.AI
end
section
namespace Go.AI
open Go.Sort Go.Shelf Go.Proofs
theorem To {P:Program} {g:Nat} {fn:Func} (hf:P.funcs[g]? = some fn) (hb:fn.body=some (Ay fn):=by kernel_rfl) (hnm:(fn.name == "runtime.NumGoroutine")=false:=by kernel_rfl) (args:Array Value) (w:World):(callFunc g args).run P w=.ok (.enter g args) w:=by
 simp only [callFunc,Jk4,run_program,Jk2,hf,hnm,hb,Jlw,if_false,Option.isNone_some,Jk5]
theorem WF {P:Program} {ρs:Ren} {β:Type} [Inhabited β] (L:SlLaysF0.n6 P ρs) {k:Nat} (hk1:1<=k) (aE:∀ w,(isAgg (ρs.t 24)).run P w=.ok true w) (zE:∀ w,(Go.sizeOf (ρs.t 24)).run P w=.ok k w) {enc:β->List D} (hk:∀ x,(enc x).length=k) (hpl:∀ x,∀ d∈enc x,d.isPlain=true) {c:β->β->Option Int} {g:Nat} (eg:∀ args w,(callFunc g args).run P w=.ok (.enter g args) w)
  (hcmp:∀ {x y:β} {z:Int},c x y=some z->Ap P g [.agg ((enc x).map .d),.agg ((enc y).map .d)] (.d (.int .i64 z))) (hf:∃ fn c,P.funcs[ρs.f 6]? = some fn/\fn.body=some c/\(fn.name == "runtime.NumGoroutine")=false) {xs zs:List β} (h:sortC c xs=some zs) :
  BR P (ρs.f 6) [.osl 0 k 0 xs.length,.clo g []] [some (.arr k (xs.map enc))] 1 (.tup []) [some (.arr k (zs.map enc))]:=by
 obtain ⟨hc,h⟩:=QJ h
 refine WE L k hk1 aE zE hk hpl (cf:=λ x y=>(c x y).getD 0) ⟨hc.irrefl,hc.trans,hc.ntrans⟩ hc.one eg (λ x y=>hcmp ?_) hf h
 have:=hc.tot x y
 rw [Option.isSome_iff_exists] at this
 obtain ⟨n,hn⟩:=this
 rw [hn];rfl
end Go.AI
end
section
namespace Go.Proofs
open Go.Shelf
def Tryz.laysSortF_ren:Go.Shelf.Ren:=⟨λ|6=>38|15=>54|14=>53|28=>77|29=>78|20=>69|21=>70|22=>71|23=>72|24=>73|25=>74|26=>75|27=>76|46=>88|47=>89|48=>90|49=>91|50=>92|57=>102|n=>n,λ|22=>35|24=>33|25=>88|3=>3|39=>108|0=>0|53=>134|55=>136|4=>4|46=>127|45=>126|50=>131|5=>5|9=>9|66=>149|70=>153|76=>164|77=>165|n=>n,λ|n=>n⟩
theorem Tryz.laysSortF:Go.Proofs.SlLaysF0.n6 Tryz.prog Tryz.laysSortF_ren:={
 mixed:=by kernel_rfl
 f6:=⟨ "slices.SortFunc[[]sixdot/api.Change,sixdot/api.Change]",by decide,Tryz.func38.trans (congrArg some (by kernel_rfl))⟩
 f14:=⟨ "slices.pdqsortCmpFunc[sixdot/api.Change]",by decide,Tryz.func53.trans (congrArg some (by kernel_rfl))⟩
 f15:=Tryz.func54.trans (congrArg some (by kernel_rfl))
 f20:=⟨ "slices.insertionSortCmpFunc[sixdot/api.Change]",by decide,Tryz.func69.trans (congrArg some (by kernel_rfl))⟩
 f21:=⟨ "slices.heapSortCmpFunc[sixdot/api.Change]",by decide,Tryz.func70.trans (congrArg some (by kernel_rfl))⟩
 f22:=⟨ "slices.breakPatternsCmpFunc[sixdot/api.Change]",by decide,Tryz.func71.trans (congrArg some (by kernel_rfl))⟩
 f23:=⟨ "slices.choosePivotCmpFunc[sixdot/api.Change]",by decide,Tryz.func72.trans (congrArg some (by kernel_rfl))⟩
 f24:=⟨ "slices.reverseRangeCmpFunc[sixdot/api.Change]",by decide,Tryz.func73.trans (congrArg some (by kernel_rfl))⟩
 f25:=⟨ "slices.partialInsertionSortCmpFunc[sixdot/api.Change]",by decide,Tryz.func74.trans (congrArg some (by kernel_rfl))⟩
 f26:=⟨ "slices.partitionEqualCmpFunc[sixdot/api.Change]",by decide,Tryz.func75.trans (congrArg some (by kernel_rfl))⟩
 f27:=⟨ "slices.partitionCmpFunc[sixdot/api.Change]",by decide,Tryz.func76.trans (congrArg some (by kernel_rfl))⟩
 f28:=Tryz.func77.trans (congrArg some (by kernel_rfl))
 f29:=Tryz.func78.trans (congrArg some (by kernel_rfl))
 f46:=⟨ "slices.siftDownCmpFunc[sixdot/api.Change]",by decide,Tryz.func88.trans (congrArg some (by kernel_rfl))⟩
 f47:=Tryz.func89.trans (congrArg some (by kernel_rfl))
 f48:=Tryz.func90.trans (congrArg some (by kernel_rfl))
 f49:=⟨ "slices.medianAdjacentCmpFunc[sixdot/api.Change]",by decide,Tryz.func91.trans (congrArg some (by kernel_rfl))⟩
 f50:=⟨ "slices.medianCmpFunc[sixdot/api.Change]",by decide,Tryz.func92.trans (congrArg some (by kernel_rfl))⟩
 f57:=⟨ "slices.order2CmpFunc[sixdot/api.Change]",by decide,Tryz.func102.trans (congrArg some (by kernel_rfl))⟩
 t0:=Tryz.underlying0
 a0:=Tryz.isAgg0
 z0:=Tryz.sizeOf0
 v0:=Tryz.zeroValue0
 t3:=Tryz.underlying3
 a3:=Tryz.isAgg3
 z3:=Tryz.sizeOf3
 v3:=Tryz.zeroValue3
 t4:=Tryz.underlying4
 a4:=Tryz.isAgg4
 z4:=Tryz.sizeOf4
 v4:=Tryz.zeroValue4
 t5:=Tryz.underlying5
 a5:=Tryz.isAgg5
 z5:=Tryz.sizeOf5
 v5:=Tryz.zeroValue5
 t9:=Tryz.underlying9
 a9:=Tryz.isAgg9
 z9:=Tryz.sizeOf9
 v9:=Tryz.zeroValue9
 t22:=Tryz.underlying35
 a22:=Tryz.isAgg35
 z22:=Tryz.sizeOf35
 v22:=Tryz.zeroValue35
 t25:=Tryz.underlying88
 a25:=Tryz.isAgg88
 z25:=Tryz.sizeOf88
 v25:=Tryz.zeroValue88
 t39:=Tryz.underlying108
 a39:=Tryz.isAgg108
 z39:=Tryz.sizeOf108
 v39:=Tryz.zeroValue108
 t45:=Tryz.underlying126
 a45:=Tryz.isAgg126
 z45:=Tryz.sizeOf126
 v45:=Tryz.zeroValue126
 t46:=Tryz.underlying127
 a46:=Tryz.isAgg127
 z46:=Tryz.sizeOf127
 v46:=Tryz.zeroValue127
 t50:=Tryz.underlying131
 a50:=Tryz.isAgg131
 z50:=Tryz.sizeOf131
 v50:=Tryz.zeroValue131
 t53:=Tryz.underlying134
 a53:=Tryz.isAgg134
 z53:=Tryz.sizeOf134
 v53:=Tryz.zeroValue134
 t55:=Tryz.underlying136
 a55:=Tryz.isAgg136
 z55:=Tryz.sizeOf136
 v55:=Tryz.zeroValue136
 t66:=Tryz.underlying149
 a66:=Tryz.isAgg149
 z66:=Tryz.sizeOf149
 v66:=Tryz.zeroValue149
 t70:=Tryz.underlying153
 a70:=Tryz.isAgg153
 z70:=Tryz.sizeOf153
 v70:=Tryz.zeroValue153
 t76:=Tryz.underlying164
 a76:=Tryz.isAgg164
 z76:=Tryz.sizeOf164
 v76:=Tryz.zeroValue164
 t77:=Tryz.underlying165
 a77:=Tryz.isAgg165
 z77:=Tryz.sizeOf165
 v77:=Tryz.zeroValue165 }
end Go.Proofs
end
section
namespace Go.AI
variable {P:Program} {F:Nat->Option Obj} {ρ:Nat->Option Loc} {w:World}
theorem QK:∀ (a r:List TK) (l l':List AV) (b:Bool),AL (a++r) l l'=some b->∃ b1 b2,AL a (l.take a.length) (l'.take a.length)=some b1/\AL r (l.drop a.length) (l'.drop a.length)=some b2/\b=(b1&&b2):=by
 intro a
 induction a with
 | nil=>intro r l l' b h;exact ⟨true,b,by simp [AL],by simpa using h,by simp⟩
 | cons k a ih=>
  intro r l l' b h
  rw [List.cons_append] at h
  unfold AL at h
  split at h
  ·rename_i heq;cases heq
  all_goals (first|(cases h;done)|skip)
  ·rename_i k0 ks0 k1 x xs0 k2 y ys0 e0
   cases e0
   split at h
   ·rename_i r' hr'
    obtain ⟨b1,b2,h1,h2,h3⟩:=ih r _ _ _ hr'
    cases hk:(k1==k2) with
    | false=>rw [hk] at h;cases h
    | true=>
     rw [hk,cond_true] at h;cases h
     exact ⟨(x==y)&&b1,b2,by simp [AL,h1,hk],by simpa using h2,by rw [h3,Bool.and_assoc]⟩
   ·cases h
  ·rename_i ks0 x xs0 y ys0 e0
   cases e0
   split at h
   ·rename_i r' hr'
    obtain ⟨b1,b2,h1,h2,h3⟩:=ih r _ _ _ hr'
    cases h
    exact ⟨(x==y)&&b1,b2,by simp [AL,h1],by simpa using h2,by rw [h3,Bool.and_assoc]⟩
   ·cases h
  ·rename_i ks0 x xs0 y ys0 e0
   cases e0
   split at h
   ·rename_i r' hr'
    obtain ⟨b1,b2,h1,h2,h3⟩:=ih r _ _ _ hr'
    cases h
    exact ⟨(x==y)&&b1,b2,by simp [AL,h1],by simpa using h2,by rw [h3,Bool.and_assoc]⟩
   ·cases h
def JeG (P:Program) (t:TypeId) (a:List TK):Prop:=∃ fields i,P.underlying t=some (.struct fields)/\P.stoodInHeld t=false/\P.info? t=some i/\i.size=a.length/\fields.size=a.length/\∀ (j:Nat) f k,fields[j]? = some f->a[j]? = some k->f.name ≠ "_"/\f.offset=j/\ZU P f.type k
inductive JcF (P:Program) (t:TypeId):List TK->Prop
 | one {k:TK} (h:ZU P t k):JcF P t [k]
 | nest {a:List TK} (h:JeG P t a):JcF P t a
inductive JaB (P:Program):List Field->Nat->List TK->Prop
 | nil {i:Nat}:JaB P [] i []
 | cons {f:Field} {fs:List Field} {i:Nat} {a r:List TK} (h0:f.name ≠ "_"/\f.offset=i) (h:JcF P f.type a) (hr:JaB P fs (i+a.length) r):JaB P (f::fs) i (a++r)
def At (F:Nat->Option Obj) (ρ:Nat->Option Loc) (xs:Array Value) (o:Nat) (l:List AV):Prop:=∀ (j:Nat) a,l[j]? = some a->∃ v,xs[o+j]? = some v/\Ag F ρ a v
theorem At.take {xs:Array Value} {o:Nat} {l:List AV} (h:At F ρ xs o l) (n:Nat):At F ρ xs o (l.take n):=λ j a ha=>by
 rw [List.getElem?_take] at ha
 split at ha
 ·exact h j a ha
 ·cases ha
theorem At.drop {xs:Array Value} {o:Nat} {l:List AV} (h:At F ρ xs o l) (n:Nat):At F ρ xs (o+n) (l.drop n):=λ j a ha=>by
 rw [Jlf] at ha
 rw [Jlg];exact h _ a ha
theorem Lt {t:TypeId} {a:List TK} (h:JeG P t a) (cs:Array Value) (o:Nat):(part t cs o).run P w=.ok (.agg (cs.extract o (o+a.length))) w:=by
 obtain ⟨fields,i,h1,_,h3,h4,_⟩:=h
 simp only [part,Jk4,KG w h1,Jk2,G3,if_true,AM w h3,h4,Jk5]
theorem YO {t:TypeId} {a:List TK} (h:JcF P t a) (d:Nat) {xs ys:Array Value} {o:Nat} {l l':List AV} {b:Bool} (he:AL a l l'=some b) (hx:At F ρ xs o l) (hy:At F ρ ys o l') :
  ∃ u v,(part t xs o).run P w=.ok u w/\(part t ys o).run P w=.ok v w/\(Op.equalIn (d+1+1) t u v).run P w=.ok b w:=by
 obtain ⟨e1,e2⟩:=U1 _ _ _ _ he
 cases h with
 | @one k hk=>
  match l,e1 with
  | [x],_=>
   match l',e2 with
   | [y],_=>
    obtain ⟨u,hu,hux⟩:=hx 0 x rfl
    obtain ⟨v,hv,hvy⟩:=hy 0 y rfl
    refine ⟨u,v,Ct (LP hk) (by simpa using hu),Ct (LP hk) (by simpa using hv),?_⟩
    unfold AL at he
    split at he
    ·rename_i heq;cases heq
    ·rename_i k0 ks0 k1 p xs0 k2 q ys0 e0 e3 e4
     cases e0
     simp only [List.cons.injEq] at e3 e4
     obtain ⟨rfl,rfl⟩:=e3
     obtain ⟨rfl,rfl⟩:=e4
     simp only [AL] at he
     cases hkk:(k1==k2) with
     | false=>rw [hkk] at he;cases he
     | true=>
      rw [hkk,cond_true] at he
      have:k1=k2:=by simpa using hkk
      subst this
      cases he
      rw [hux.int,hvy.int,Bool.and_true]
      obtain ⟨k3,hk3⟩:=hk
      exact run_equalIn_int w (d+1) t k1 k3 p q hk3
    ·rename_i e0 e3 e4
     cases e0
     simp only [List.cons.injEq] at e3 e4
     obtain ⟨rfl,rfl⟩:=e3
     obtain ⟨rfl,rfl⟩:=e4
     simp only [AL,Jlv] at he
     subst he
     rw [hux.bool,hvy.bool,Bool.and_true]
     exact run_equalIn_bool' w (d+1) t _ _ hk
    ·rename_i e0 e3 e4
     cases e0
     simp only [List.cons.injEq] at e3 e4
     obtain ⟨rfl,rfl⟩:=e3
     obtain ⟨rfl,rfl⟩:=e4
     simp only [AL,Jlv] at he
     subst he
     rw [hux.str,hvy.str,run_equalIn_string w (d+1) t _ _ hk,BN,BN,Bool.and_true]
    ·cases he
 | nest hn=>
  refine ⟨_,_,Lt hn xs o,Lt hn ys o,?_⟩
  obtain ⟨fields,i,h1,h2,h3,h4,h5,h6⟩:=hn
  have hfo:P.fieldsOf t=fields:=by simp [Program.fieldsOf,h1]
  rw [run_equalIn_struct w (d+1) t _ _ (by rw [hfo];exact h1) h2,hfo]
  have hex:∀ (zs:Array Value) (m:List AV),m.length=a.length->At F ρ zs o m->∀ (j:Nat) c,m[j]? = some c->∃ v,(zs.extract o (o+a.length))[0+j]? = some v/\Ag F ρ c v:=λ zs m hm hz j c hc=>by
   obtain ⟨v,hv,hr⟩:=hz j c hc
   have hj:=Ad hc
   refine ⟨v,?_,hr⟩
   rw [Jly,Array.getElem?_extract,if_pos (by have:=Ao hv;omega)]
   exact hv
  refine MK (F:=F) (ρ:=ρ) d _ _ fields.toList a 0 l l' b (by simpa using h5) (λ j f k q1 q2=>?_) he (hex xs l e1 hx) (hex ys l' e2 hy)
  obtain ⟨a1,a2,a3⟩:=h6 j f k (by simpa using q1) q2
  exact ⟨a1,by omega,a3⟩
theorem Tp (d:Nat) {xs ys:Array Value} {fs:List Field} {i:Nat} {ks:List TK} (hs:JaB P fs i ks):∀ {l l':List AV} {r:Bool},AL ks l l'=some r->At F ρ xs i l->At F ρ ys i l'->(Op.eqFields (d+1+1) xs ys fs).run P w=.ok r w:=by
 induction hs with
 | nil=>
  intro l l' r h _ _
  cases l with
  | cons=>simp [AL] at h
  | nil=>cases l' with
   | cons=>simp [AL] at h
   | nil=>simp [AL] at h;subst h;rfl
 | @cons f fs i a rs h0 hl _ ih=>
  intro l l' r h hx hy
  obtain ⟨b1,b2,h1,h2,rfl⟩:=QK _ _ _ _ _ h
  obtain ⟨u,v,q1,q2,q3⟩:=YO (F:=F) (ρ:=ρ) (w:=w) hl d h1 (hx.take _) (hy.take _)
  obtain ⟨hnm,hoff⟩:=h0
  simp only [Op.eqFields]
  rw [if_pos hnm,hoff]
  simp only [Jk4,q1,q2,Jk2,q3]
  cases b1 with
  | false=>simp
  | true=>simp only [Jla,Jlw,if_false,Bool.true_and];exact ih h2 (hx.drop _) (hy.drop _)
theorem JaC {l:List AV} {xs:Array Value} (h:Ag F ρ (.agg l) (.agg xs)):At F ρ xs 0 l:=by
 cases h with
 | agg _ _ hl hr=>
  intro j a ha
  have hj:=Ad ha
  refine ⟨xs[j],?_,hr j a _ ha (Jlp (by omega))⟩
  rw [Jly];exact Jlp (by omega)
theorem JcG {t:TypeId} {fields:Array Field} {ks:List TK} (hd:P.underlying t=some (.struct fields)) (hst:P.stoodInHeld t=false) (hg:P.eqGuardType P.depth t=false) (hs:JaB P fields.toList 0 ks):Mv P t ks:=by
 intro l l' r xs ys F ρ w x y h hx hy
 have hfo:P.fieldsOf t=fields:=by simp [Program.fieldsOf,hd]
 have hrun:(Op.equalIn 10000 t (.agg xs) (.agg ys)).run P w=.ok r w:=by
  rw [run_equalIn_struct w 9999 t xs ys (by rw [hfo];exact hd) hst,hfo]
  exact Tp 9997 hs h (JaC hx) (JaC hy)
 constructor
 ·simp only [Jk4,run_eqGuard_agg w .eql t x y xs ys hg,Jk2]
  rw [run_eql_struct,hrun];rfl
 ·simp only [Jk4,run_eqGuard_agg w .neq t x y xs ys hg,Jk2]
  rw [run_neq_struct,hrun];rfl
end Go.AI
end
section
namespace Go.AI
open Go.Proofs
set_option maxRecDepth 100000
theorem Gw:Inf Tryz.prog 3 1 8 (.int .i64 0):=AJ (by kernel_rfl)
theorem JfB:Inf Tryz.prog 4 1 1 (.bool false):=AJ (by kernel_rfl)
theorem K1:Inf Tryz.prog 5 1 1 (.int .u8 0):=AJ (by kernel_rfl)
theorem JcH:Inf Tryz.prog 9 1 16 (.string ⟨#[]⟩):=AJ (by kernel_rfl)
theorem Jjk:Inf Tryz.prog 22 1 24 (.slice none 0 0):=AJ (by kernel_rfl)
theorem JaD:Inf Tryz.prog 23 1 24 (.slice none 0 0):=AJ (by kernel_rfl)
theorem JeH:Inf Tryz.prog 25 4 32 (.agg #[.int .u8 0,.int .u8 0,.int .u8 0,.slice none 0 0]):=AJ (by kernel_rfl)
theorem JaE:Inf Tryz.prog 26 1 1 (.int .i8 0):=AJ (by kernel_rfl)
theorem Jjl:Inf Tryz.prog 27 3 3 (.agg #[.int .i8 0,.int .i8 0,.int .i8 0]):=AJ (by kernel_rfl)
theorem Jjm:Inf Tryz.prog 30 1 24 (.slice none 0 0):=AJ (by kernel_rfl)
theorem Xx:Inf Tryz.prog 33 4 40 (.agg #[.int .i64 0,.int .i64 0,.int .i64 0,.string ⟨#[]⟩]):=AJ (by kernel_rfl)
theorem JeI:Inf Tryz.prog 35 1 24 (.slice none 0 0):=AJ (by kernel_rfl)
theorem JaF:Inf Tryz.prog 36 1 8 (.int .i64 0):=AJ (by kernel_rfl)
theorem Jjn:Inf Tryz.prog 45 1 24 (.slice none 0 0):=AJ (by kernel_rfl)
theorem Jjo:Inf Tryz.prog 46 1 24 (.slice none 0 0):=AJ (by kernel_rfl)
theorem JeJ:Inf Tryz.prog 48 1 24 (.slice none 0 0):=AJ (by kernel_rfl)
theorem Jjp:Inf Tryz.prog 50 2 48 (.agg #[.slice none 0 0,.slice none 0 0]):=AJ (by kernel_rfl)
theorem JeK:Inf Tryz.prog 54 2 16 (.agg #[.int .i64 0,.int .i64 0]):=AJ (by kernel_rfl)
theorem JeL:Inf Tryz.prog 56 5 48 (.agg #[.int .i64 0,.int .i64 0,.int .i64 0,.int .i64 0,.string ⟨#[]⟩]):=AJ (by kernel_rfl)
theorem JeM:Inf Tryz.prog 60 1 24 (.slice none 0 0):=AJ (by kernel_rfl)
theorem JeN:Inf Tryz.prog 62 1 24 (.slice none 0 0):=AJ (by kernel_rfl)
theorem JeO:Inf Tryz.prog 63 1 24 (.slice none 0 0):=AJ (by kernel_rfl)
theorem JeP:Inf Tryz.prog 65 4 48 (.agg #[.int .i64 0,.int .i64 0,.int .i64 0,.slice none 0 0]):=AJ (by kernel_rfl)
theorem JeQ:Inf Tryz.prog 67 10 136 (.agg #[.int .i64 0,.int .i64 0,.string ⟨#[]⟩,.slice none 0 0,.slice none 0 0,.int .i64 0,.int .i64 0,.int .i64 0,.slice none 0 0,.int .i64 0]):=AJ (by kernel_rfl)
theorem JeR:Inf Tryz.prog 78 1 24 (.slice none 0 0):=AJ (by kernel_rfl)
theorem Jjq:Inf Tryz.prog 86 1 24 (.slice none 0 0):=AJ (by kernel_rfl)
theorem Jjr:Inf Tryz.prog 88 1 8 (.nilFunc):=AJ (by kernel_rfl)
theorem JeS:Inf Tryz.prog 92 1 24 (.slice none 0 0):=AJ (by kernel_rfl)
theorem JeT:Inf Tryz.prog 94 3 32 (.agg #[.int .u8 0,.int .u8 0,.slice none 0 0]):=AJ (by kernel_rfl)
theorem JeU:Inf Tryz.prog 95 1 24 (.slice none 0 0):=AJ (by kernel_rfl)
theorem JeV:Inf Tryz.prog 97 4 32 (.agg #[.int .u8 0,.int .u8 0,.int .u8 0,.slice none 0 0]):=AJ (by kernel_rfl)
theorem JeW:Inf Tryz.prog 99 10 96 (.agg #[.int .u8 0,.int .u8 0,.slice none 0 0,.int .u8 0,.int .u8 0,.slice none 0 0,.int .u8 0,.int .u8 0,.int .u8 0,.slice none 0 0]):=AJ (by kernel_rfl)
theorem JfC:Inf Tryz.prog 108 1 8 (.int .u64 0):=AJ (by kernel_rfl)
theorem JaG:Inf Tryz.prog 112 1 24 (.slice none 0 0):=AJ (by kernel_rfl)
theorem JaH:Inf Tryz.prog 119 2 16 (.agg #[.int .i64 0,.int .i64 0]):=AJ (by kernel_rfl)
theorem Tq:Inf Tryz.prog 120 1 24 (.slice none 0 0):=AJ (by kernel_rfl)
theorem JaI:Inf Tryz.prog 122 3 40 (.agg #[.int .i64 0,.int .i64 0,.slice none 0 0]):=AJ (by kernel_rfl)
theorem JaJ:Inf Tryz.prog 124 2 16 (.agg #[.int .i64 0,.int .i64 0]):=AJ (by kernel_rfl)
theorem JfD:Inf Tryz.prog 126 1 8 (.int .i64 0):=AJ (by kernel_rfl)
theorem JfE:Inf Tryz.prog 134 1 4 (.int .u32 0):=AJ (by kernel_rfl)
theorem JfF:Inf Tryz.prog 136 1 8 (.int .u64 0):=AJ (by kernel_rfl)
theorem JaK:Inf Tryz.prog 139 2 2 (.agg #[.int .u8 0,.int .u8 0]):=AJ (by kernel_rfl)
theorem JaL:Inf Tryz.prog 141 6 6 (.agg #[.int .u8 0,.int .u8 0,.int .u8 0,.int .u8 0,.int .u8 0,.int .u8 0]):=AJ (by kernel_rfl)
theorem JfG:Inf Tryz.prog 143 3 24 (.agg #[.int .i64 0,.int .i64 0,.int .i64 0]):=AJ (by kernel_rfl)
theorem JfH:Inf Tryz.prog 146 3 40 (.agg #[.slice none 0 0,.int .i64 0,.int .i64 0]):=AJ (by kernel_rfl)
theorem JfI:Inf Tryz.prog 149 1 8 (.int .u64 0):=AJ (by kernel_rfl)
theorem JfJ:Inf Tryz.prog 153 1 8 (.pointer none):=AJ (by kernel_rfl)
theorem JfK:Inf Tryz.prog 155 1 24 (.slice none 0 0):=AJ (by kernel_rfl)
theorem JfL:Inf Tryz.prog 157 1 24 (.slice none 0 0):=AJ (by kernel_rfl)
theorem JfM:Inf Tryz.prog 182 1 24 (.slice none 0 0):=AJ (by kernel_rfl)
theorem JaM:Inf Tryz.prog 184 1 1 (.int .u8 0):=AJ (by kernel_rfl)
theorem JaN:Inf Tryz.prog 185 60 60 (.agg (Array.replicate 60 (.bool false))):=AJ (by kernel_rfl)
theorem JfN:Inf Tryz.prog 186 3600 3600 (.agg (Array.replicate 3600 (.bool false))):=AJ (by kernel_rfl)
def ty:Nat->Ty
 | 3=>⟨true,[],1,false,[.int .i64 0],.int .i64⟩
 | 4=>⟨true,[],1,false,[.bool false],.bool⟩
 | 5=>⟨true,[],1,false,[.int .u8 0],.int .u8⟩
 | 9=>⟨true,[],1,false,[.str []],.string⟩
 | 22=>⟨true,[],1,false,[.nil],.slice 10 96 [.int .u8 0,.int .u8 0,.nil,.int .u8 0,.int .u8 0,.nil,.int .u8 0,.int .u8 0,.int .u8 0,.nil]⟩
 | 23=>⟨true,[],1,false,[.nil],.slice 1 1 [.int .u8 0]⟩
 | 25=>⟨true,[],4,true,[.int .u8 0,.int .u8 0,.int .u8 0,.nil],.struct [(0,1),(1,1),(2,1),(3,1)]⟩
 | 26=>⟨true,[],1,false,[.int .i8 0],.int .i8⟩
 | 27=>⟨true,[.int .i8,.int .i8,.int .i8],3,true,[.int .i8 0,.int .i8 0,.int .i8 0],.array 3 1⟩
 | 30=>⟨true,[],1,false,[.nil],.slice 10 136 [.int .i64 0,.int .i64 0,.str [],.nil,.nil,.int .i64 0,.int .i64 0,.int .i64 0,.nil,.int .i64 0]⟩
 | 33=>⟨true,[.int .i64,.int .i64,.int .i64,.string],4,true,[.int .i64 0,.int .i64 0,.int .i64 0,.str []],.struct [(0,1),(1,1),(2,1),(3,1)]⟩
 | 35=>⟨true,[],1,false,[.nil],.slice 4 40 [.int .i64 0,.int .i64 0,.int .i64 0,.str []]⟩
 | 36=>⟨true,[],1,false,[.int .i64 0],.int .i64⟩
 | 45=>⟨true,[],1,false,[.nil],.slice 4 32 [.int .u8 0,.int .u8 0,.int .u8 0,.nil]⟩
 | 46=>⟨true,[],1,false,[.nil],.slice 5 48 [.int .i64 0,.int .i64 0,.int .i64 0,.int .i64 0,.str []]⟩
 | 48=>⟨true,[],1,false,[.nil],.slice 2 16 [.int .i64 0,.int .i64 0]⟩
 | 50=>⟨true,[],2,true,[.nil,.nil],.struct [(0,1),(1,1)]⟩
 | 54=>⟨true,[.int .i64,.int .i64],2,true,[.int .i64 0,.int .i64 0],.array 2 1⟩
 | 56=>⟨true,[.int .i64,.int .i64,.int .i64,.int .i64,.string],5,true,[.int .i64 0,.int .i64 0,.int .i64 0,.int .i64 0,.str []],.struct [(0,1),(1,4)]⟩
 | 60=>⟨true,[],1,false,[.nil],.slice 1 24 [.nil]⟩
 | 62=>⟨true,[],1,false,[.nil],.slice 2 16 [.int .i64 0,.int .i64 0]⟩
 | 63=>⟨true,[],1,false,[.nil],.slice 3 40 [.int .i64 0,.int .i64 0,.nil]⟩
 | 65=>⟨true,[],4,true,[.int .i64 0,.int .i64 0,.int .i64 0,.nil],.struct [(0,1),(1,1),(2,1),(3,1)]⟩
 | 67=>⟨true,[],10,true,[.int .i64 0,.int .i64 0,.str [],.nil,.nil,.int .i64 0,.int .i64 0,.int .i64 0,.nil,.int .i64 0],.struct [(0,1),(1,1),(2,1),(3,1),(4,1),(5,4),(9,1)]⟩
 | 78=>⟨true,[],1,false,[.nil],.slice 1 8 [.int .i64 0]⟩
 | 86=>⟨true,[],1,false,[.nil],.slice 1 1 [.bool false]⟩
 | 88=>⟨true,[],1,false,[.nilf],.other⟩
 | 92=>⟨true,[],1,false,[.nil],.slice 2 2 [.int .u8 0,.int .u8 0]⟩
 | 94=>⟨true,[],3,true,[.int .u8 0,.int .u8 0,.nil],.struct [(0,1),(1,1),(2,1)]⟩
 | 95=>⟨true,[],1,false,[.nil],.slice 6 6 [.int .u8 0,.int .u8 0,.int .u8 0,.int .u8 0,.int .u8 0,.int .u8 0]⟩
 | 97=>⟨true,[],4,true,[.int .u8 0,.int .u8 0,.int .u8 0,.nil],.struct [(0,1),(1,1),(2,1),(3,1)]⟩
 | 99=>⟨true,[],10,true,[.int .u8 0,.int .u8 0,.nil,.int .u8 0,.int .u8 0,.nil,.int .u8 0,.int .u8 0,.int .u8 0,.nil],.struct [(0,1),(1,1),(2,1),(3,3),(6,4)]⟩
 | 108=>⟨true,[],1,false,[.int .u64 0],.int .u64⟩
 | 112=>⟨true,[],1,false,[.nil],.slice 1 16 [.str []]⟩
 | 119=>⟨true,[.int .i64,.int .i64],2,true,[.int .i64 0,.int .i64 0],.struct [(0,1),(1,1)]⟩
 | 120=>⟨true,[],1,false,[.nil],.slice 2 16 [.int .i64 0,.int .i64 0]⟩
 | 122=>⟨true,[],3,true,[.int .i64 0,.int .i64 0,.nil],.struct [(0,1),(1,1),(2,1)]⟩
 | 124=>⟨true,[.int .i64,.int .i64],2,true,[.int .i64 0,.int .i64 0],.struct [(0,1),(1,1)]⟩
 | 126=>⟨true,[],1,false,[.int .i64 0],.int .i64⟩
 | 134=>⟨true,[],1,false,[.int .u32 0],.int .u32⟩
 | 136=>⟨true,[],1,false,[.int .u64 0],.int .u64⟩
 | 139=>⟨true,[.int .u8,.int .u8],2,true,[.int .u8 0,.int .u8 0],.array 2 1⟩
 | 141=>⟨true,[.int .u8,.int .u8,.int .u8,.int .u8,.int .u8,.int .u8],6,true,[.int .u8 0,.int .u8 0,.int .u8 0,.int .u8 0,.int .u8 0,.int .u8 0],.array 6 1⟩
 | 143=>⟨true,[.int .i64,.int .i64,.int .i64],3,true,[.int .i64 0,.int .i64 0,.int .i64 0],.struct [(0,1),(1,1),(2,1)]⟩
 | 146=>⟨true,[],3,true,[.nil,.int .i64 0,.int .i64 0],.struct [(0,1),(1,1),(2,1)]⟩
 | 149=>⟨true,[],1,false,[.int .u64 0],.int .u64⟩
 | 153=>⟨true,[],1,false,[.nilp],.other⟩
 | 155=>⟨true,[],1,false,[.nil],.slice 1 24 [.nil]⟩
 | 157=>⟨true,[],1,false,[.nil],.slice 1 24 [.nil]⟩
 | 182=>⟨true,[],1,false,[.nil],.slice 1 1 [.int .u8 0]⟩
 | 184=>⟨true,[],1,false,[.int .u8 0],.int .u8⟩
 | 185=>⟨true,[],60,true,(List.replicate 60 (.bool false)),.array 60 1⟩
 | 186=>⟨true,[],3600,true,(List.replicate 3600 (.bool false)),.array 60 60⟩
 | _=>⟨false,[],0,false,[],.other⟩
theorem tf3:Az Tryz.prog 3 (ty 3):=tfM Gw Tryz.underlying3 rfl
theorem tf4:Az Tryz.prog 4 (ty 4):=tfM JfB Tryz.underlying4 rfl
theorem tf5:Az Tryz.prog 5 (ty 5):=tfM K1 Tryz.underlying5 rfl
theorem tf9:Az Tryz.prog 9 (ty 9):=tfM JcH Tryz.underlying9 rfl
theorem Jko:Az Tryz.prog 22 (ty 22):=tfM Jjk Tryz.underlying22 (slK JeW)
theorem Jkp:Az Tryz.prog 23 (ty 23):=tfM JaD Tryz.underlying23 (slK K1 (λ _=>Tryz.underlying5))
theorem Jkq:Az Tryz.prog 25 (ty 25):=tfM JeH Tryz.underlying25 (stF (AX (B0 K1 Tryz.underlying5) (AX (B0 K1 Tryz.underlying5) (AX (B0 K1 Tryz.underlying5) (AX (B0 JaD Tryz.underlying23) G9)))))
theorem Jkr:Az Tryz.prog 26 (ty 26):=tfM JaE Tryz.underlying26 rfl
theorem Jks:Az Tryz.prog 27 (ty 27):=tfM Jjl Tryz.underlying27 (arK JaE) (λ _=>Te Tryz.underlying27 Tryz.underlying26 JaE (by kernel_rfl))
theorem Jkt:Az Tryz.prog 30 (ty 30):=tfM Jjm Tryz.underlying30 (slK JeQ)
theorem Jku:Az Tryz.prog 33 (ty 33):=tfM Xx Tryz.underlying33 (stF (AX (B0 Gw Tryz.underlying3) (AX (B0 Gw Tryz.underlying3) (AX (B0 Gw Tryz.underlying3) (AX (B0 JcH Tryz.underlying9) G9))))) (λ _=>PI Tryz.underlying33 (by kernel_rfl) (by kernel_rfl) rfl λ j f k h1 h2=>match j,h1,h2 with|0,h1,h2=>(by cases h1;cases h2;exact ⟨by decide,rfl,⟨_,Tryz.underlying3⟩⟩)|1,h1,h2=>(by cases h1;cases h2;exact ⟨by decide,rfl,⟨_,Tryz.underlying3⟩⟩)|2,h1,h2=>(by cases h1;cases h2;exact ⟨by decide,rfl,⟨_,Tryz.underlying3⟩⟩)|3,h1,h2=>(by cases h1;cases h2;exact ⟨by decide,rfl,Tryz.underlying9⟩)|n+4,h1,_=>by simp at h1)
theorem Jkv:Az Tryz.prog 35 (ty 35):=tfM JeI Tryz.underlying35 (slK Xx)
theorem Jkw:Az Tryz.prog 36 (ty 36):=tfM JaF Tryz.underlying36 rfl
theorem Jkx:Az Tryz.prog 45 (ty 45):=tfM Jjn Tryz.underlying45 (slK JeH)
theorem Jky:Az Tryz.prog 46 (ty 46):=tfM Jjo Tryz.underlying46 (slK JeL)
theorem Jkz:Az Tryz.prog 48 (ty 48):=tfM JeJ Tryz.underlying48 (slK JeK)
theorem JkA:Az Tryz.prog 50 (ty 50):=tfM Jjp Tryz.underlying50 (stF (AX (B0 JeI Tryz.underlying35) (AX (B0 JeJ Tryz.underlying48) G9)))
theorem JkB:Az Tryz.prog 54 (ty 54):=tfM JeK Tryz.underlying54 (arK Gw) (λ _=>Te Tryz.underlying54 Tryz.underlying3 Gw (by kernel_rfl))
theorem JkC:Az Tryz.prog 56 (ty 56):=tfM JeL Tryz.underlying56 (stF (AX (B0 Gw Tryz.underlying3) (AX (B0 Xx Tryz.underlying33) G9))) (λ _=>JcG Tryz.underlying56 (by kernel_rfl) (by kernel_rfl) (.cons (a:=[.int .i64]) ⟨by decide,rfl⟩ (.one ⟨_,Tryz.underlying3⟩) (.cons (a:=[.int .i64,.int .i64,.int .i64,.string]) ⟨by decide,rfl⟩ (.nest (by obtain ⟨j,h1,h2,_⟩:=Xx;exact ⟨_,j,Tryz.underlying33,(by kernel_rfl),h1,h2,rfl,λ j f k h1 h2=>match j,h1,h2 with|0,h1,h2=>(by cases h1;cases h2;exact ⟨by decide,rfl,⟨_,Tryz.underlying3⟩⟩)|1,h1,h2=>(by cases h1;cases h2;exact ⟨by decide,rfl,⟨_,Tryz.underlying3⟩⟩)|2,h1,h2=>(by cases h1;cases h2;exact ⟨by decide,rfl,⟨_,Tryz.underlying3⟩⟩)|3,h1,h2=>(by cases h1;cases h2;exact ⟨by decide,rfl,Tryz.underlying9⟩)|n+4,h1,_=>by simp at h1⟩)) .nil)))
theorem JkD:Az Tryz.prog 60 (ty 60):=tfM JeM Tryz.underlying60 (slK JaG)
theorem JkE:Az Tryz.prog 62 (ty 62):=tfM JeN Tryz.underlying62 (slK JaH)
theorem JkF:Az Tryz.prog 63 (ty 63):=tfM JeO Tryz.underlying63 (slK JaI)
theorem JkG:Az Tryz.prog 65 (ty 65):=tfM JeP Tryz.underlying65 (stF (AX (B0 Gw Tryz.underlying3) (AX (B0 Gw Tryz.underlying3) (AX (B0 Gw Tryz.underlying3) (AX (B0 JeO Tryz.underlying63) G9)))))
theorem JkH:Az Tryz.prog 67 (ty 67):=tfM JeQ Tryz.underlying67 (stF (AX (B0 Gw Tryz.underlying3) (AX (B0 Gw Tryz.underlying3) (AX (B0 JcH Tryz.underlying9) (AX (B0 JeM Tryz.underlying60) (AX (B0 JeN Tryz.underlying62) (AX (B0 JeP Tryz.underlying65) (AX (B0 Gw Tryz.underlying3) G9))))))))
theorem JkI:Az Tryz.prog 78 (ty 78):=tfM JeR Tryz.underlying78 (slK Gw)
theorem JkJ:Az Tryz.prog 86 (ty 86):=tfM Jjq Tryz.underlying86 (slK JfB)
theorem JkK:Az Tryz.prog 88 (ty 88):=tfM Jjr Tryz.underlying88 trivial
theorem JkL:Az Tryz.prog 92 (ty 92):=tfM JeS Tryz.underlying92 (slK JaK)
theorem JkM:Az Tryz.prog 94 (ty 94):=tfM JeT Tryz.underlying94 (stF (AX (B0 K1 Tryz.underlying5) (AX (B0 K1 Tryz.underlying5) (AX (B0 JeS Tryz.underlying92) G9))))
theorem JkN:Az Tryz.prog 95 (ty 95):=tfM JeU Tryz.underlying95 (slK JaL)
theorem JkO:Az Tryz.prog 97 (ty 97):=tfM JeV Tryz.underlying97 (stF (AX (B0 K1 Tryz.underlying5) (AX (B0 K1 Tryz.underlying5) (AX (B0 K1 Tryz.underlying5) (AX (B0 JeU Tryz.underlying95) G9)))))
theorem JkP:Az Tryz.prog 99 (ty 99):=tfM JeW Tryz.underlying99 (stF (AX (B0 K1 Tryz.underlying5) (AX (B0 K1 Tryz.underlying5) (AX (B0 JaD Tryz.underlying23) (AX (B0 JeT Tryz.underlying94) (AX (B0 JeV Tryz.underlying97) G9))))))
theorem Jjs:Az Tryz.prog 108 (ty 108):=tfM JfC Tryz.underlying108 rfl
theorem Jjt:Az Tryz.prog 112 (ty 112):=tfM JaG Tryz.underlying112 (slK JcH)
theorem Jju:Az Tryz.prog 119 (ty 119):=tfM JaH Tryz.underlying119 (stF (AX (B0 Gw Tryz.underlying3) (AX (B0 Gw Tryz.underlying3) G9))) (λ _=>PI Tryz.underlying119 (by kernel_rfl) (by kernel_rfl) rfl λ j f k h1 h2=>match j,h1,h2 with|0,h1,h2=>(by cases h1;cases h2;exact ⟨by decide,rfl,⟨_,Tryz.underlying3⟩⟩)|1,h1,h2=>(by cases h1;cases h2;exact ⟨by decide,rfl,⟨_,Tryz.underlying3⟩⟩)|n+2,h1,_=>by simp at h1)
theorem Jjv:Az Tryz.prog 120 (ty 120):=tfM Tq Tryz.underlying120 (slK JaJ)
theorem Jjw:Az Tryz.prog 122 (ty 122):=tfM JaI Tryz.underlying122 (stF (AX (B0 Gw Tryz.underlying3) (AX (B0 Gw Tryz.underlying3) (AX (B0 Tq Tryz.underlying120) G9))))
theorem Jjx:Az Tryz.prog 124 (ty 124):=tfM JaJ Tryz.underlying124 (stF (AX (B0 Gw Tryz.underlying3) (AX (B0 Gw Tryz.underlying3) G9))) (λ _=>PI Tryz.underlying124 (by kernel_rfl) (by kernel_rfl) rfl λ j f k h1 h2=>match j,h1,h2 with|0,h1,h2=>(by cases h1;cases h2;exact ⟨by decide,rfl,⟨_,Tryz.underlying3⟩⟩)|1,h1,h2=>(by cases h1;cases h2;exact ⟨by decide,rfl,⟨_,Tryz.underlying3⟩⟩)|n+2,h1,_=>by simp at h1)
theorem Jjy:Az Tryz.prog 126 (ty 126):=tfM JfD Tryz.underlying126 rfl
theorem Jjz:Az Tryz.prog 134 (ty 134):=tfM JfE Tryz.underlying134 rfl
theorem JjA:Az Tryz.prog 136 (ty 136):=tfM JfF Tryz.underlying136 rfl
theorem JjB:Az Tryz.prog 139 (ty 139):=tfM JaK Tryz.underlying139 (arK K1) (λ _=>Te Tryz.underlying139 Tryz.underlying5 K1 (by kernel_rfl))
theorem JjC:Az Tryz.prog 141 (ty 141):=tfM JaL Tryz.underlying141 (arK K1) (λ _=>Te Tryz.underlying141 Tryz.underlying5 K1 (by kernel_rfl))
theorem JjD:Az Tryz.prog 143 (ty 143):=tfM JfG Tryz.underlying143 (stF (AX (B0 Gw Tryz.underlying3) (AX (B0 Gw Tryz.underlying3) (AX (B0 JaF Tryz.underlying36) G9)))) (λ _=>PI Tryz.underlying143 (by kernel_rfl) (by kernel_rfl) rfl λ j f k h1 h2=>match j,h1,h2 with|0,h1,h2=>(by cases h1;cases h2;exact ⟨by decide,rfl,⟨_,Tryz.underlying3⟩⟩)|1,h1,h2=>(by cases h1;cases h2;exact ⟨by decide,rfl,⟨_,Tryz.underlying3⟩⟩)|2,h1,h2=>(by cases h1;cases h2;exact ⟨by decide,rfl,⟨_,Tryz.underlying36⟩⟩)|n+3,h1,_=>by simp at h1)
theorem JjE:Az Tryz.prog 146 (ty 146):=tfM JfH Tryz.underlying146 (stF (AX (B0 Tq Tryz.underlying120) (AX (B0 Gw Tryz.underlying3) (AX (B0 JaF Tryz.underlying36) G9))))
theorem JjF:Az Tryz.prog 149 (ty 149):=tfM JfI Tryz.underlying149 rfl
theorem JjG:Az Tryz.prog 153 (ty 153):=tfM JfJ Tryz.underlying153 trivial
theorem JjH:Az Tryz.prog 155 (ty 155):=tfM JfK Tryz.underlying155 (slK Tq)
theorem JjI:Az Tryz.prog 157 (ty 157):=tfM JfL Tryz.underlying157 (slK JeR)
theorem JjJ:Az Tryz.prog 182 (ty 182):=tfM JfM Tryz.underlying182 (slK JaM (λ _=>Tryz.underlying184))
theorem JjK:Az Tryz.prog 184 (ty 184):=tfM JaM Tryz.underlying184 rfl
theorem JjL:Az Tryz.prog 185 (ty 185):=tfM JaN Tryz.underlying185 (arK JfB)
theorem JjM:Az Tryz.prog 186 (ty 186):=tfM JfN Tryz.underlying186 (arK JaN)
theorem tyOK:IC Tryz.prog ty:=by
 intro t h
 unfold ty at h
 split at h
 ·exact tf3
 ·exact tf4
 ·exact tf5
 ·exact tf9
 ·exact Jko
 ·exact Jkp
 ·exact Jkq
 ·exact Jkr
 ·exact Jks
 ·exact Jkt
 ·exact Jku
 ·exact Jkv
 ·exact Jkw
 ·exact Jkx
 ·exact Jky
 ·exact Jkz
 ·exact JkA
 ·exact JkB
 ·exact JkC
 ·exact JkD
 ·exact JkE
 ·exact JkF
 ·exact JkG
 ·exact JkH
 ·exact JkI
 ·exact JkJ
 ·exact JkK
 ·exact JkL
 ·exact JkM
 ·exact JkN
 ·exact JkO
 ·exact JkP
 ·exact Jjs
 ·exact Jjt
 ·exact Jju
 ·exact Jjv
 ·exact Jjw
 ·exact Jjx
 ·exact Jjy
 ·exact Jjz
 ·exact JjA
 ·exact JjB
 ·exact JjC
 ·exact JjD
 ·exact JjE
 ·exact JjF
 ·exact JjG
 ·exact JjH
 ·exact JjI
 ·exact JjJ
 ·exact JjK
 ·exact JjL
 ·exact JjM
 ·cases h
theorem follows:Tryz.prog.follows .mixedOrders=true:=by kernel_rfl
def qfT:List (Nat×Nat):=[]
theorem JkQ:∀ f k,(f,k)∈qfT->∀ vs:Array Value,vs.size=k->QD Tryz.prog (Mt f vs):=λ _ _ h=>by cases h
def cxk (n nk:Nat):Cx:=⟨ty,⟨n,[],nk,qfT⟩,Ap Tryz.prog,BR Tryz.prog,OO Tryz.prog,NB Tryz.prog,G5 Tryz.prog,false⟩
theorem JeX (n nk:Nat):Fr Tryz.prog (cxk n nk):=⟨tyOK,λ _ _ _ h=>h,λ _ _ _ _ _ _ h=>h,λ _ _ _ _ _ h=>h,λ _ _ _ _ h=>h,λ _ _ _ _ _ h=>h,JkQ,λ h=>by cases h⟩
end Go.AI
end
section
namespace Go.AI
structure Ac where
 Block:Int
 At:Int
 Cut:Int
 Put:(List UInt8)
 deriving DecidableEq,Inhabited
structure Al where
 Op:Int
 N:Int
 deriving DecidableEq,Inhabited
structure Aa where
 X:Int
 Y:Int
 deriving DecidableEq,Inhabited
structure Aw where
 Kind:Int
 Texture:Int
 P:(List Aa)
 deriving DecidableEq,Inhabited
structure Ae where
 W:Int
 H:Int
 Gap:Int
 F:(List Aw)
 deriving DecidableEq,Inhabited
structure Af where
 Kind:Int
 Level:Int
 Text:(List UInt8)
 Rows:(List (List (List UInt8)))
 F:(List Al)
 Pic:Ae
 Page:Int
 deriving DecidableEq,Inhabited
structure AZ where
 Reader:Int
 C:Ac
 deriving DecidableEq,Inhabited
structure Cu (α:Type) where
 a0:α
 a1:α
 deriving DecidableEq,Inhabited
structure An where
 Agreed:(List Ac)
 Quarrels:(List (Cu Int))
 deriving DecidableEq,Inhabited
structure QL where
 Kind:Int
 N:Int
 L:(List (Cu Int))
 deriving DecidableEq,Inhabited
structure Vd (α:Type) where
 a0:α
 a1:α
 a2:α
 a3:α
 a4:α
 a5:α
 deriving DecidableEq,Inhabited
structure Bo where
 W:Int
 H:Int
 Gap:Int
 F:(List (Vd Int))
 deriving DecidableEq,Inhabited
structure Cj where
 I:Int
 J:Int
 E:Int
 deriving DecidableEq,Inhabited
structure IQ where
 L:(List Aa)
 At:Int
 E:Int
 deriving DecidableEq,Inhabited
structure A7 where
 Kind:Int
 N:Int
 T:(List Int)
 F:QL
 P:Bo
 deriving DecidableEq,Inhabited
structure A0 where
 Block:Int
 At:Int
 Cut:Int
 Put:(List Int)
 deriving DecidableEq,Inhabited
structure YP (α:Type) where
 a0:α
 a1:α
 a2:α
 deriving DecidableEq,Inhabited
def AK (_:Nat) (p0_:Int) (p1_:Int) (p2_:(List UInt8)):Option Ac:=
 some ({ Block:=0,At:=p0_,Cut:=p1_,Put:=p2_ }:Ac)
def FK (_:Nat) (p0_:Int):Option Bool:=
 some ((decide (32<=D6 .u8 p0_ 127))&&(decide (D6 .u8 p0_ 127<=126)))
def Hb (n:Nat) (p0_:(List UInt8)) (x_1:Int):Option (Int⊕(Unit⊕(Int×Int))):=
 if decide (x_1<((p0_.length:Nat):Int))=true then
  (IN p0_ x_1).bind λ b1=>
  (FK n b1).bind λ r1=>
  if (!r1)=true then
   some (.inr (.inr (x_1,60)))
  else
   some (.inl (Ai .i64 x_1 1))
 else
  some (.inr (.inl ()))
def MP (n:Nat) (p0_:(List UInt8)):Option (Int×Int):=
 (whl (λ (x:Int)=>Hb n p0_ x) n 0).bind λ y1=>
 match y1 with
 | Sum.inl _=>
  some (((p0_.length:Nat):Int),0)
 | Sum.inr y3=>
  some y3
def KL (_:Nat) (p0_:Int):Option Int:=
 if ((decide (97<=D6 .u8 p0_ 127))&&(decide (D6 .u8 p0_ 127<=122)))=true then
  some 1
 else
  if ((decide (65<=D6 .u8 p0_ 127))&&(decide (D6 .u8 p0_ 127<=90)))=true then
   some 2
  else
   if ((decide (48<=D6 .u8 p0_ 127))&&(decide (D6 .u8 p0_ 127<=57)))=true then
    some 3
   else
    if ((D6 .u8 p0_ 127)==32)=true then
     some 4
    else
     some 5
def FZ (n:Nat) (p0_:(List UInt8)) (last_1:Int) (x_2:Int):Option ((Int×Int)⊕(Int⊕Bool)):=
 if decide (x_2<((p0_.length:Nat):Int))=true then
  (IN p0_ x_2).bind λ b2=>
  (KL n b2).bind λ r3=>
  if ((r3==4)&&((last_1==0)||(last_1==4)))=true then
   some (.inr (.inr false))
  else
   some (.inl (r3,(Ai .i64 x_2 1)))
 else
  some (.inr (.inl last_1))
def HY (n:Nat) (p0_:(List UInt8)):Option Bool:=
 if ((decide (((p0_.length:Nat):Int)<1))||(decide (((p0_.length:Nat):Int)>400)))=true then
  some false
 else
  (MP n p0_).bind λ r2=>
  if (r2.2 != 0)=true then
   some false
  else
   (whl (λ (x:(Int×Int))=>FZ n p0_ x.1 x.2) n (0,0)).bind λ y4=>
   match y4 with
   | Sum.inl y5=>
    some (y5 != 4)
   | Sum.inr y6=>
    some y6
noncomputable def Gx (_:Nat) (p0_:(List Af)):Option (List Af):=
 dem (nlS p0_) λ (b3:Bool)=>
 if b3=true then
  some []
 else
  (app 136 ([]:List Af) p0_).bind λ l1=>
  some l1
noncomputable def Df (n:Nat) (p0_:(List Af)) (p1_:Ac) (x1:Af) (x_3:Bool):Option ((List Af)×Int):=
 if x_3=true then
  if ((((decide (p1_.At<0))||(decide (p1_.Cut<0)))||(decide (p1_.At>((x1.Text.length:Nat):Int))))||(decide (p1_.Cut>AT .i64 ((x1.Text.length:Nat):Int) p1_.At)))=true then
   some ([],320)
  else
   (sub x1.Text 0 p1_.At).bind λ s1=>
   (cat s1 p1_.Put).bind λ s2=>
   (sub x1.Text (Ai .i64 p1_.At p1_.Cut) ((x1.Text.length:Nat):Int)).bind λ s3=>
   (cat s2 s3).bind λ s4=>
   (HY n s4).bind λ r4=>
   if (!r4)=true then
    some ([],320)
   else
    (Gx n p0_).bind λ r5=>
    (idx r5 p1_.Block).bind λ _=>
    (put r5 p1_.Block ({ Kind:=x1.Kind,Level:=x1.Level,Text:=s4,Rows:=x1.Rows,F:=x1.F,Pic:=x1.Pic,Page:=x1.Page }:Af)).bind λ l2=>
    some (l2,0)
 else
  some ([],320)
noncomputable def Gn (n:Nat) (p0_:(List Af)) (p1_:Ac):Option ((List Af)×Int):=
 if ((decide (p1_.Block<0))||(decide (p1_.Block>=((p0_.length:Nat):Int))))=true then
  some ([],320)
 else
  (idx p0_ p1_.Block).bind λ x1=>
  if (x1.Kind==1)=true then
   Df n p0_ p1_ x1 (x1.Kind==1)
  else
   if (x1.Kind==2)=true then
    Df n p0_ p1_ x1 (x1.Kind==2)
   else
    Df n p0_ p1_ x1 (x1.Kind==4)
def EU (_:Nat) (p0_:Ac) (p1_:Ac):Option Bool:=
 some ((p0_.Block==p1_.Block)&&(decide (p0_.Cut<=AT .i64 p1_.At p0_.At)))
def JU (n:Nat) (p0_:Ac) (p1_:Ac):Option Bool:=
 (if (!(p0_.Block != p1_.Block))=true then EU n p0_ p1_ else some default).bind λ r6=>
 (if (!(p0_.Block != p1_.Block))=true then EU n p1_ p0_ else some default).bind λ r7=>
 some ((p0_.Block != p1_.Block)||(!(r6==r7)))
def JV (_:Nat) (c_1:Ac):Option (Ac×Bool):=
 some (c_1,true)
def Du (n:Nat) (p0_:Ac) (p1_:Ac):Option (Ac×Bool):=
 (JU n p0_ p1_).bind λ r8=>
 if (!r8)=true then
  some (({ Block:=0,At:=0,Cut:=0,Put:=[] }:Ac),false)
 else
  (EU n p1_ p0_).bind λ r9=>
  if r9=true then
   JV n ({ Block:=p0_.Block,At:=Ai .i64 p0_.At (AT .i64 ((p1_.Put.length:Nat):Int) p1_.Cut),Cut:=p0_.Cut,Put:=p0_.Put }:Ac)
  else
   JV n p0_
def D9 (_:Nat) (p0_:Int):Option Bool:=
 some (p0_ != p0_)
def B1 (n:Nat) (p0_:Int) (p1_:Int):Option Int:=
 (D9 n p0_).bind λ r10=>
 (D9 n p1_).bind λ r11=>
 if r10=true then
  if r11=true then
   some 0
  else
   some (-1)
 else
  if r11=true then
   some 1
  else
   if decide (p0_<p1_)=true then
    some (-1)
   else
    if decide (p0_>p1_)=true then
     some 1
    else
     some 0
def CY (_:Nat) (p0_:(List UInt8)):Option Bool:=
 some (!(p0_==p0_))
def Cp (n:Nat) (p0_:(List UInt8)) (p1_:(List UInt8)):Option Int:=
 (CY n p0_).bind λ r12=>
 (CY n p1_).bind λ r13=>
 if r12=true then
  if r13=true then
   some 0
  else
   some (-1)
 else
  if r13=true then
   some 1
  else
   if (Op.bytesLess p0_ p1_)=true then
    some (-1)
   else
    if (!(Op.bytesLess p0_ p1_||p0_==p1_))=true then
     some 1
    else
     some 0
def Gy (_:Nat) (p0_:(List Int)) (x_4:Int):Option (Int⊕(Unit⊕Int)):=
 if decide (x_4<((p0_.length:Nat):Int))=true then
  (idx p0_ x_4).bind λ x3=>
  if (x3 != 0)=true then
   some (.inr (.inr x3))
  else
   some (.inl (Ai .i64 x_4 1))
 else
  some (.inr (.inl ()))
def Hc (n:Nat) (p0_:(List Int)):Option Int:=
 (whl (λ (x:Int)=>Gy n p0_ x) n 0).bind λ y7=>
 match y7 with
 | Sum.inl _=>
  some 0
 | Sum.inr y9=>
  some y9
def Gp (n:Nat) (p0_:Ac) (p1_:Ac):Option Int:=
 (B1 n p0_.Block p1_.Block).bind λ r14=>
 (B1 n p0_.At p1_.At).bind λ r15=>
 (B1 n p0_.Cut p1_.Cut).bind λ r16=>
 (Cp n p0_.Put p1_.Put).bind λ r17=>
 (Hc n [r14,r15,r16,r17]).bind λ r18=>
 some r18
def F3 (n:Nat) (p1_:(List Ac)) (c_2:Ac) (x_5:Int):Option ((Ac×Int)⊕(Ac⊕(Ac×Int×Bool))):=
 if decide (x_5<((p1_.length:Nat):Int))=true then
  (idx p1_ x_5).bind λ x4=>
  (Du n c_2 x4).bind λ r19=>
  if (!r19.2)=true then
   some (.inr (.inr (({ Block:=0,At:=0,Cut:=0,Put:=[] }:Ac),x_5,false)))
  else
   some (.inl (r19.1,(Ai .i64 x_5 1)))
 else
  some (.inr (.inl c_2))
def HZ (n:Nat) (p0_:Ac) (p1_:(List Ac)):Option (Ac×Int×Bool):=
 (whl (λ (x:(Ac×Int))=>F3 n p1_ x.1 x.2) n (p0_,0)).bind λ y10=>
 match y10 with
 | Sum.inl y11=>
  some (y11,((p1_.length:Nat):Int),true)
 | Sum.inr y12=>
  some y12
noncomputable def QM (n:Nat) (o0_:(List Ac)):Option (List Ac):=
 sortC (λ (x:Ac) (y:Ac)=>Gp n x y) o0_
def Gz (_:Nat) (k2_1:Int) (s_3:(List Ac)) (k_4:Int):Option (((List Ac)×Int×Int)⊕((List Ac)×Int)):=
 some (.inl (s_3,k_4,(Ai .i64 k2_1 1)))
def GA (n:Nat) (o0_:(List Ac)) (k_1:Int) (s_1:(List Ac)) (k_2:Int) (k2_1:Int):Option (((List Ac)×Int×Int)⊕((List Ac)×Int)):=
 if decide (k2_1<((((0+Int.toNat k_1,Int.toNat ((o0_.length:Nat):Int)-Int.toNat k_1):Nat×Nat).2:Nat):Int))=true then
  (ixP s_1 ((0+Int.toNat k_1,Int.toNat ((o0_.length:Nat):Int)-Int.toNat k_1):Nat×Nat) k2_1).bind λ x7=>
  (ixP s_1 ((0+Int.toNat k_1,Int.toNat ((o0_.length:Nat):Int)-Int.toNat k_1):Nat×Nat) (AT .i64 k2_1 1)).bind λ x8=>
  if (!((x7.Block==x8.Block)&&((x7.At==x8.At)&&((x7.Cut==x8.Cut)&&((x7.Put==x8.Put)&&true)))))=true then
   (ixP s_1 ((0+Int.toNat k_1,Int.toNat ((o0_.length:Nat):Int)-Int.toNat k_1):Nat×Nat) k2_1).bind λ x9=>
   (idx s_1 k_2).bind λ _=>
   (put s_1 k_2 x9).bind λ l4=>
   Gz n k2_1 l4 (Ai .i64 k_2 1)
  else
   Gz n k2_1 s_1 k_2
 else
  some (.inr (s_1,k_2))
def GB (n:Nat) (o0_:(List Ac)) (k_1:Int):Option (Int⊕(Unit⊕((List Ac)×(Nat×Nat)))):=
 if decide (k_1<((o0_.length:Nat):Int))=true then
  (idx o0_ k_1).bind λ x5=>
  (idx o0_ (AT .i64 k_1 1)).bind λ x6=>
  if ((x5.Block==x6.Block)&&((x5.At==x6.At)&&((x5.Cut==x6.Cut)&&((x5.Put==x6.Put)&&true))))=true then
   (sub o0_ k_1 ((o0_.length:Nat):Int)).bind λ _=>
   (whl (λ (x:((List Ac)×Int×Int))=>GA n o0_ k_1 x.1 x.2.1 x.2.2) n (o0_,k_1,1)).bind λ y13=>
   (sub y13.1 y13.2 ((y13.1.length:Nat):Int)).bind λ _=>
   (YE y13.1 ((0+Int.toNat y13.2,Int.toNat ((y13.1.length:Nat):Int)-Int.toNat y13.2):Nat×Nat).1 ((0+Int.toNat y13.2,Int.toNat ((y13.1.length:Nat):Int)-Int.toNat y13.2):Nat×Nat).2 (⟨0,0,0,[]⟩:Ac)).bind λ l6=>
   (sub l6 0 y13.2).bind λ _=>
   some (.inr (.inr (l6,((0+Int.toNat 0,Int.toNat y13.2-Int.toNat 0):Nat×Nat))))
  else
   some (.inl (Ai .i64 k_1 1))
 else
  some (.inr (.inl ()))
def JW (n:Nat) (o0_:(List Ac)):Option ((List Ac)×(Nat×Nat)):=
 if decide (((o0_.length:Nat):Int)<2)=true then
  some (o0_,((0,List.length o0_):Nat×Nat))
 else
  (whl (λ (x:Int)=>GB n o0_ x) n 1).bind λ y14=>
  match y14 with
  | Sum.inl _=>
   some (o0_,((0,List.length o0_):Nat×Nat))
  | Sum.inr y16=>
   some y16
def JX (_:Nat) (j_1:Int) (v_5:An) (loud_5:(List Bool)):Option ((An×(List Bool)×Int)⊕(An×(List Bool))):=
 some (.inl (v_5,loud_5,(Ai .i64 j_1 1)))
def JY (n:Nat) (p0_:(List AZ)) (x_8:Int) (v_3:An) (loud_3:(List Bool)) (j_1:Int):Option ((An×(List Bool)×Int)⊕(An×(List Bool))):=
 if decide (j_1<((p0_.length:Nat):Int))=true then
  (idx p0_ x_8).bind λ x11=>
  (idx p0_ j_1).bind λ x12=>
  (if (!((x11.C.Block==x12.C.Block)&&((x11.C.At==x12.C.At)&&((x11.C.Cut==x12.C.Cut)&&((x11.C.Put==x12.C.Put)&&true)))))=true then idx p0_ x_8 else some default).bind λ x13=>
  (if (!((x11.C.Block==x12.C.Block)&&((x11.C.At==x12.C.At)&&((x11.C.Cut==x12.C.Cut)&&((x11.C.Put==x12.C.Put)&&true)))))=true then idx p0_ j_1 else some default).bind λ x14=>
  (if (!((x11.C.Block==x12.C.Block)&&((x11.C.At==x12.C.At)&&((x11.C.Cut==x12.C.Cut)&&((x11.C.Put==x12.C.Put)&&true)))))=true then JU n x13.C x14.C else some default).bind λ r20=>
  if ((!((x11.C.Block==x12.C.Block)&&((x11.C.At==x12.C.At)&&((x11.C.Cut==x12.C.Cut)&&((x11.C.Put==x12.C.Put)&&true)))))&&(!r20))=true then
   (app 16 v_3.Quarrels [({ a0:=x_8,a1:=j_1 }:(Cu Int))]).bind λ l9=>
   (idx loud_3 x_8).bind λ _=>
   (put loud_3 x_8 true).bind λ l10=>
   (idx l10 j_1).bind λ _=>
   (put l10 j_1 true).bind λ l11=>
   JX n j_1 ({ Agreed:=v_3.Agreed,Quarrels:=l9 }:An) l11
  else
   JX n j_1 v_3 loud_3
 else
  some (.inr (v_3,loud_3))
def Hd (n:Nat) (p0_:(List AZ)) (v_1:An) (loud_1:(List Bool)) (x_8:Int):Option ((An×(List Bool)×Int)⊕(An×(List Bool))):=
 if decide (x_8<((p0_.length:Nat):Int))=true then
  (whl (λ (x:(An×(List Bool)×Int))=>JY n p0_ x_8 x.1 x.2.1 x.2.2) n (v_1,loud_1,(Ai .i64 x_8 1))).bind λ y17=>
  some (.inl (y17.1,y17.2,(Ai .i64 x_8 1)))
 else
  some (.inr (v_1,loud_1))
def JZ (_:Nat) (x_9:Int) (agreed_3:(List Ac)):Option (((List Ac)×Int)⊕(List Ac)):=
 some (.inl (agreed_3,(Ai .i64 x_9 1)))
def Fw (n:Nat) (p0_:(List AZ)) (y18:(An×(List Bool))) (agreed_1:(List Ac)) (x_9:Int):Option (((List Ac)×Int)⊕(List Ac)):=
 if decide (x_9<((p0_.length:Nat):Int))=true then
  (idx p0_ x_9).bind λ x17=>
  (idx y18.2 x_9).bind λ x18=>
  if (!x18)=true then
   (app 40 agreed_1 [x17.C]).bind λ l12=>
   JZ n x_9 l12
  else
   JZ n x_9 agreed_1
 else
  some (.inr agreed_1)
def J0 (_:Nat) (x_10:Int) (v_8:An):Option ((An×Int)⊕An):=
 some (.inl (v_8,(Ai .i64 x_10 1)))
def He (n:Nat) (r22:((List Ac)×(Nat×Nat))) (v_6:An) (x_10:Int):Option ((An×Int)⊕An):=
 if decide (x_10<((r22.2.2:Nat):Int))=true then
  (ixP r22.1 r22.2 x_10).bind λ x19=>
  (HZ n x19 v_6.Agreed).bind λ r23=>
  if r23.2.2=true then
   (app 40 v_6.Agreed [r23.1]).bind λ l13=>
   J0 n x_10 ({ Agreed:=l13,Quarrels:=v_6.Quarrels }:An)
  else
   J0 n x_10 v_6
 else
  some (.inr v_6)
noncomputable def MQ (n:Nat) (p0_:(List AZ)):Option An:=
 (mkl 1 ((p0_.length:Nat):Int) (false:Bool)).bind λ l8=>
 (whl (λ (x:(An×(List Bool)×Int))=>Hd n p0_ x.1 x.2.1 x.2.2) n (({ Agreed:=([]:List Ac),Quarrels:=([]:List (Cu Int)) }:An),l8,0)).bind λ y18=>
 (whl (λ (x:((List Ac)×Int))=>Fw n p0_ y18 x.1 x.2) n (([]:List Ac),0)).bind λ y19=>
 (QM n y19).bind λ r21=>
 (BH (decide (List.length y19=List.length r21))).bind λ _=>
 (JW n r21).bind λ r22=>
 (whl (λ (x:(An×Int))=>He n r22 x.1 x.2) n (y18.1,0)).bind λ y20=>
 some y20
def F4 (_:Nat) (p0_:(List Al)) (p1_:(List Al)) (i_1:Int):Option (Int⊕(Unit⊕Bool)):=
 if decide (i_1<((p0_.length:Nat):Int))=true then
  (idx p0_ i_1).bind λ x20=>
  (idx p1_ i_1).bind λ x21=>
  if (!((x20.Op==x21.Op)&&((x20.N==x21.N)&&true)))=true then
   some (.inr (.inr false))
  else
   some (.inl (Ai .i64 i_1 1))
 else
  some (.inr (.inl ()))
def NJ (n:Nat) (p0_:(List Al)) (p1_:(List Al)):Option Bool:=
 if (((p0_.length:Nat):Int) != ((p1_.length:Nat):Int))=true then
  some false
 else
  (whl (λ (x:Int)=>F4 n p0_ p1_ x) n 0).bind λ y21=>
  match y21 with
  | Sum.inl _=>
   some true
  | Sum.inr y23=>
   some y23
def Dg (_:Nat) (p0_:(List (List (List UInt8)))) (p1_:(List (List (List UInt8)))) (i_2:Int) (k_5:Int):Option (Int⊕(Unit⊕Bool)):=
 (idx p0_ i_2).bind λ x24=>
 if decide (k_5<((x24.length:Nat):Int))=true then
  (idx p0_ i_2).bind λ x25=>
  (idx x25 k_5).bind λ x26=>
  (idx p1_ i_2).bind λ x27=>
  (idx x27 k_5).bind λ x28=>
  if (!(x26==x28))=true then
   some (.inr (.inr false))
  else
   some (.inl (Ai .i64 k_5 1))
 else
  some (.inr (.inl ()))
def Dh (n:Nat) (p0_:(List (List (List UInt8)))) (p1_:(List (List (List UInt8)))) (i_2:Int):Option (Int⊕(Unit⊕Bool)):=
 if decide (i_2<((p0_.length:Nat):Int))=true then
  (idx p0_ i_2).bind λ x22=>
  (idx p1_ i_2).bind λ x23=>
  if (((x22.length:Nat):Int) != ((x23.length:Nat):Int))=true then
   some (.inr (.inr false))
  else
   (whl (λ (x:Int)=>Dg n p0_ p1_ i_2 x) n 0).bind λ y24=>
   match y24 with
   | Sum.inl _=>
    some (.inl (Ai .i64 i_2 1))
   | Sum.inr y26=>
    some (.inr (.inr y26))
 else
  some (.inr (.inl ()))
def HF (n:Nat) (p0_:(List (List (List UInt8)))) (p1_:(List (List (List UInt8)))):Option Bool:=
 if (((p0_.length:Nat):Int) != ((p1_.length:Nat):Int))=true then
  some false
 else
  (whl (λ (x:Int)=>Dh n p0_ p1_ x) n 0).bind λ y27=>
  match y27 with
  | Sum.inl _=>
   some true
  | Sum.inr y29=>
   some y29
def Cq (_:Nat) (_:Ae) (_:Ae) (_:Int) (x29:Aw) (x30:Aw) (k_6:Int):Option (Int⊕(Unit⊕Bool)):=
 if decide (k_6<((x29.P.length:Nat):Int))=true then
  (idx x29.P k_6).bind λ x31=>
  (idx x30.P k_6).bind λ x32=>
  if (!((x31.X==x32.X)&&((x31.Y==x32.Y)&&true)))=true then
   some (.inr (.inr false))
  else
   some (.inl (Ai .i64 k_6 1))
 else
  some (.inr (.inl ()))
def Cr (n:Nat) (p0_:Ae) (p1_:Ae) (i_3:Int):Option (Int⊕(Unit⊕Bool)):=
 if decide (i_3<((p0_.F.length:Nat):Int))=true then
  (idx p0_.F i_3).bind λ x29=>
  (idx p1_.F i_3).bind λ x30=>
  if (((x29.Kind != x30.Kind)||(x29.Texture != x30.Texture))||(((x29.P.length:Nat):Int) != ((x30.P.length:Nat):Int)))=true then
   some (.inr (.inr false))
  else
   (whl (λ (x:Int)=>Cq n p0_ p1_ i_3 x29 x30 x) n 0).bind λ y30=>
   match y30 with
   | Sum.inl _=>
    some (.inl (Ai .i64 i_3 1))
   | Sum.inr y32=>
    some (.inr (.inr y32))
 else
  some (.inr (.inl ()))
def EV (n:Nat) (p0_:Ae) (p1_:Ae):Option Bool:=
 if ((((p0_.W != p1_.W)||(p0_.H != p1_.H))||(p0_.Gap != p1_.Gap))||(((p0_.F.length:Nat):Int) != ((p1_.F.length:Nat):Int)))=true then
  some false
 else
  (whl (λ (x:Int)=>Cr n p0_ p1_ x) n 0).bind λ y33=>
  match y33 with
  | Sum.inl _=>
   some true
  | Sum.inr y35=>
   some y35
def GC (n:Nat) (p0_:Af) (p1_:Af):Option Bool:=
 (if (!((((p0_.Kind != p1_.Kind)||(p0_.Level != p1_.Level))||(!(p0_.Text==p1_.Text)))||(p0_.Page != p1_.Page)))=true then NJ n p0_.F p1_.F else some default).bind λ r24=>
 if (((((p0_.Kind != p1_.Kind)||(p0_.Level != p1_.Level))||(!(p0_.Text==p1_.Text)))||(p0_.Page != p1_.Page))||(!r24))=true then
  some false
 else
  (HF n p0_.Rows p1_.Rows).bind λ r25=>
  (if r25=true then EV n p0_.Pic p1_.Pic else some default).bind λ r26=>
  some (r25&&r26)
def F5 (n:Nat) (p0_:(List Af)) (p1_:(List Af)) (i_4:Int):Option (Int⊕(Unit⊕Bool)):=
 if decide (i_4<((p0_.length:Nat):Int))=true then
  (idx p0_ i_4).bind λ x33=>
  (idx p1_ i_4).bind λ x34=>
  (GC n x33 x34).bind λ r27=>
  if (!r27)=true then
   some (.inr (.inr false))
  else
   some (.inl (Ai .i64 i_4 1))
 else
  some (.inr (.inl ()))
def EW (n:Nat) (p0_:(List Af)) (p1_:(List Af)):Option Bool:=
 if (((p0_.length:Nat):Int) != ((p1_.length:Nat):Int))=true then
  some false
 else
  (whl (λ (x:Int)=>F5 n p0_ p1_ x) n 0).bind λ y36=>
  match y36 with
  | Sum.inl _=>
   some true
  | Sum.inr y38=>
   some y38
def Cs (_:Nat) (p0_:(List Ac)) (p1_:(List Ac)) (i_5:Int):Option (Int⊕(Unit⊕Bool)):=
 if decide (i_5<((p0_.length:Nat):Int))=true then
  (idx p0_ i_5).bind λ x35=>
  (idx p1_ i_5).bind λ x36=>
  if (!((x35.Block==x36.Block)&&((x35.At==x36.At)&&((x35.Cut==x36.Cut)&&((x35.Put==x36.Put)&&true)))))=true then
   some (.inr (.inr false))
  else
   some (.inl (Ai .i64 i_5 1))
 else
  some (.inr (.inl ()))
def EX (n:Nat) (p0_:(List Ac)) (p1_:(List Ac)):Option Bool:=
 if (((p0_.length:Nat):Int) != ((p1_.length:Nat):Int))=true then
  some false
 else
  (whl (λ (x:Int)=>Cs n p0_ p1_ x) n 0).bind λ y39=>
  match y39 with
  | Sum.inl _=>
   some true
  | Sum.inr y41=>
   some y41
def F6 (_:Nat) (p0_:An) (p1_:An) (i_6:Int):Option (Int⊕(Unit⊕Bool)):=
 if decide (i_6<((p0_.Quarrels.length:Nat):Int))=true then
  (idx p0_.Quarrels i_6).bind λ x37=>
  (idx p1_.Quarrels i_6).bind λ x38=>
  if (!((x37.a0==x38.a0)&&((x37.a1==x38.a1)&&true)))=true then
   some (.inr (.inr false))
  else
   some (.inl (Ai .i64 i_6 1))
 else
  some (.inr (.inl ()))
def NK (n:Nat) (p0_:An) (p1_:An):Option Bool:=
 (EX n p0_.Agreed p1_.Agreed).bind λ r28=>
 if ((!r28)||(((p0_.Quarrels.length:Nat):Int) != ((p1_.Quarrels.length:Nat):Int)))=true then
  some false
 else
  (whl (λ (x:Int)=>F6 n p0_ p1_ x) n 0).bind λ y42=>
  match y42 with
  | Sum.inl _=>
   some true
  | Sum.inr y44=>
   some y44
noncomputable def Ea (n:Nat) (_:((List Af)×Int)) (r31:Ac) (r32:Ac) (r33:Ac) (r34:Ac) (i_7:Int):Option (Int⊕(Unit⊕Bool)):=
 if decide (i_7<((List.length ([r31,r32,({ Block:=1,At:=0,Cut:=0,Put:=[97] }:Ac),r33,r34]):Nat):Int))=true then
  (idx ([r31,r32,({ Block:=1,At:=0,Cut:=0,Put:=[97] }:Ac),r33,r34]) i_7).bind λ x39=>
  (Gn n ([({ Kind:=1,Level:=0,Text:=[97,98,99],Rows:=[],F:=[],Pic:=({ W:=0,H:=0,Gap:=0,F:=[] }:Ae),Page:=0 }:Af)]) x39).bind λ r35=>
  if (r35.2 != 320)=true then
   some (.inr (.inr false))
  else
   some (.inl (Ai .i64 i_7 1))
 else
  some (.inr (.inl ()))
noncomputable def Hf (n:Nat) :Option Bool:=
 (AK n 1 1 [120,121]).bind λ r29=>
 (Gn n ([({ Kind:=1,Level:=0,Text:=[97,98,99],Rows:=[],F:=[],Pic:=({ W:=0,H:=0,Gap:=0,F:=[] }:Ae),Page:=0 }:Af)]) r29).bind λ r30=>
 (AK n 0 3 []).bind λ r31=>
 (AK n 4 0 [97]).bind λ r32=>
 (AK n (-1) 0 [97]).bind λ r33=>
 (AK n 0 0 [32]).bind λ r34=>
 (whl (λ (x:Int)=>Ea n r30 r31 r32 r33 r34 x) n 0).bind λ y45=>
 match y45 with
 | Sum.inl _=>
  (AK n 2 1 []).bind λ r36=>
  (AK n 0 1 [120,121,122]).bind λ r37=>
  (Du n r36 r37).bind λ r38=>
  (AK n 1 0 [97]).bind λ r39=>
  (AK n 1 0 [98]).bind λ r40=>
  (Du n r39 r40).bind λ r41=>
  (AK n 0 2 []).bind λ r42=>
  (AK n 1 2 []).bind λ r43=>
  (Du n r42 r43).bind λ r44=>
  (AK n 1 0 [97]).bind λ r45=>
  (AK n 1 1 []).bind λ r46=>
  (Du n r45 r46).bind λ r47=>
  (AK n 1 1 []).bind λ r48=>
  (AK n 1 0 [97]).bind λ r49=>
  (Du n r48 r49).bind λ r50=>
  (AK n 2 1 [122]).bind λ r51=>
  (AK n 0 1 [120,121]).bind λ r52=>
  (AK n 1 0 [112]).bind λ r53=>
  (AK n 1 0 [113]).bind λ r54=>
  (MQ n [({ Reader:=0,C:=r51 }:AZ),({ Reader:=0,C:=r51 }:AZ),({ Reader:=0,C:=r52 }:AZ),({ Reader:=0,C:=r53 }:AZ),({ Reader:=0,C:=r54 }:AZ)]).bind λ r55=>
  (AK n 1 0 [97]).bind λ r56=>
  (AK n 0 0 [98]).bind λ r57=>
  (AK n 2 0 [99]).bind λ r58=>
  (HZ n r56 [r57,r58]).bind λ r59=>
  (if (r30.2==0)=true then EW n r30.1 ([({ Kind:=1,Level:=0,Text:=[97,120,121,99],Rows:=[],F:=[],Pic:=({ W:=0,H:=0,Gap:=0,F:=[] }:Ae),Page:=0 }:Af)]) else some default).bind λ r60=>
  (if (((r30.2==0)&&r60)&&r38.2)=true then AK n 4 1 [] else some default).bind λ r61=>
  (if (((((((r30.2==0)&&r60)&&r38.2)&&((r38.1.Block==r61.Block)&&((r38.1.At==r61.At)&&((r38.1.Cut==r61.Cut)&&((r38.1.Put==r61.Put)&&true)))))&&(!r41.2))&&(!r44.2))&&r47.2)=true then AK n 1 0 [97] else some default).bind λ r62=>
  (if (((((((((r30.2==0)&&r60)&&r38.2)&&((r38.1.Block==r61.Block)&&((r38.1.At==r61.At)&&((r38.1.Cut==r61.Cut)&&((r38.1.Put==r61.Put)&&true)))))&&(!r41.2))&&(!r44.2))&&r47.2)&&((r47.1.Block==r62.Block)&&((r47.1.At==r62.At)&&((r47.1.Cut==r62.Cut)&&((r47.1.Put==r62.Put)&&true)))))&&r50.2)=true then AK n 2 1 [] else some default).bind λ r63=>
  (if ((((((((((r30.2==0)&&r60)&&r38.2)&&((r38.1.Block==r61.Block)&&((r38.1.At==r61.At)&&((r38.1.Cut==r61.Cut)&&((r38.1.Put==r61.Put)&&true)))))&&(!r41.2))&&(!r44.2))&&r47.2)&&((r47.1.Block==r62.Block)&&((r47.1.At==r62.At)&&((r47.1.Cut==r62.Cut)&&((r47.1.Put==r62.Put)&&true)))))&&r50.2)&&((r50.1.Block==r63.Block)&&((r50.1.At==r63.At)&&((r50.1.Cut==r63.Cut)&&((r50.1.Put==r63.Put)&&true)))))=true then AK n 0 1 [120,121] else some default).bind λ r64=>
  (if ((((((((((r30.2==0)&&r60)&&r38.2)&&((r38.1.Block==r61.Block)&&((r38.1.At==r61.At)&&((r38.1.Cut==r61.Cut)&&((r38.1.Put==r61.Put)&&true)))))&&(!r41.2))&&(!r44.2))&&r47.2)&&((r47.1.Block==r62.Block)&&((r47.1.At==r62.At)&&((r47.1.Cut==r62.Cut)&&((r47.1.Put==r62.Put)&&true)))))&&r50.2)&&((r50.1.Block==r63.Block)&&((r50.1.At==r63.At)&&((r50.1.Cut==r63.Cut)&&((r50.1.Put==r63.Put)&&true)))))=true then AK n 3 1 [122] else some default).bind λ r65=>
  (if ((((((((((r30.2==0)&&r60)&&r38.2)&&((r38.1.Block==r61.Block)&&((r38.1.At==r61.At)&&((r38.1.Cut==r61.Cut)&&((r38.1.Put==r61.Put)&&true)))))&&(!r41.2))&&(!r44.2))&&r47.2)&&((r47.1.Block==r62.Block)&&((r47.1.At==r62.At)&&((r47.1.Cut==r62.Cut)&&((r47.1.Put==r62.Put)&&true)))))&&r50.2)&&((r50.1.Block==r63.Block)&&((r50.1.At==r63.At)&&((r50.1.Cut==r63.Cut)&&((r50.1.Put==r63.Put)&&true)))))=true then NK n r55 ({ Agreed:=[r64,r65],Quarrels:=[({ a0:=3,a1:=4 }:(Cu Int))] }:An) else some default).bind λ r66=>
  some (((((((((((((r30.2==0)&&r60)&&r38.2)&&((r38.1.Block==r61.Block)&&((r38.1.At==r61.At)&&((r38.1.Cut==r61.Cut)&&((r38.1.Put==r61.Put)&&true)))))&&(!r41.2))&&(!r44.2))&&r47.2)&&((r47.1.Block==r62.Block)&&((r47.1.At==r62.At)&&((r47.1.Cut==r62.Cut)&&((r47.1.Put==r62.Put)&&true)))))&&r50.2)&&((r50.1.Block==r63.Block)&&((r50.1.At==r63.At)&&((r50.1.Cut==r63.Cut)&&((r50.1.Put==r63.Put)&&true)))))&&r66)&&(r59.2.1==1))&&(!r59.2.2))
 | Sum.inr y47=>
  some y47
def F7 (_:Nat) (i_8:Int) (out_3:(List UInt8)):Option (((List UInt8)×Int)⊕(List UInt8)):=
 some (.inl (out_3,(Ai .i64 i_8 1)))
def F8 (n:Nat) (p0_:(List Int)) (p1_:Int) (p2_:(List UInt8)) (out_1:(List UInt8)) (i_8:Int):Option (((List UInt8)×Int)⊕(List UInt8)):=
 if ((decide (i_8<((p0_.length:Nat):Int)))&&(decide (((out_1.length:Nat):Int)<p1_)))=true then
  (idx p0_ i_8).bind λ x40=>
  (BH (!((Ai .i64 ((p2_.length:Nat):Int) 1)==0))).bind λ _=>
  if decide (Ah (IntKind.i64.wrap x40) (Ai .i64 ((p2_.length:Nat):Int) 1)>0)=true then
   (sub p2_ (AT .i64 (Ah (IntKind.i64.wrap x40) (Ai .i64 ((p2_.length:Nat):Int) 1)) 1) (Ah (IntKind.i64.wrap x40) (Ai .i64 ((p2_.length:Nat):Int) 1))).bind λ s5=>
   (cat out_1 s5).bind λ s6=>
   F7 n i_8 s6
  else
   (if ((decide (((out_1.length:Nat):Int)>0))&&(decide (((out_1.length:Nat):Int)<AT .i64 p1_ 1)))=true then IN out_1 (AT .i64 ((out_1.length:Nat):Int) 1) else some default).bind λ b4=>
   if (((decide (((out_1.length:Nat):Int)>0))&&(decide (((out_1.length:Nat):Int)<AT .i64 p1_ 1)))&&(b4 != 32))=true then
    (cat out_1 [32]).bind λ s7=>
    F7 n i_8 s7
   else
    F7 n i_8 out_1
 else
  some (.inr out_1)
def Eb (_:Nat) (p2_:(List UInt8)) (out_4:(List UInt8)):Option (List UInt8):=
 if (out_4==[])=true then
  (sub p2_ 0 1).bind λ s8=>
  some s8
 else
  some out_4
def H1 (n:Nat) (p0_:(List Int)) (p1_:Int) (p2_:(List UInt8)):Option (List UInt8):=
 (whl (λ (x:((List UInt8)×Int))=>F8 n p0_ p1_ p2_ x.1 x.2) n ([],0)).bind λ y48=>
 (if decide (((y48.length:Nat):Int)>0)=true then IN y48 (AT .i64 ((y48.length:Nat):Int) 1) else some default).bind λ b5=>
 if ((decide (((y48.length:Nat):Int)>0))&&(b5==32))=true then
  (sub y48 0 (AT .i64 ((y48.length:Nat):Int) 1)).bind λ s9=>
  Eb n p2_ s9
 else
  Eb n p2_ y48
def EY (_:Nat) (p0_:Int) (p1_:Int):Option (List Al):=
 if ((Ah p0_ 8)==1)=true then
  some [({ Op:=1,N:=IntKind.i64.wrap (Ah p1_ 26) }:Al)]
 else
  if ((Ah p0_ 8)==2)=true then
   some [({ Op:=2,N:=0 }:Al),({ Op:=1,N:=IntKind.i64.wrap (Ah p1_ 26) }:Al),({ Op:=0,N:=IntKind.i64.wrap p1_ }:Al)]
  else
   if ((Ah p0_ 8)==3)=true then
    some [({ Op:=3,N:=0 }:Al),({ Op:=0,N:=IntKind.i64.wrap p1_ }:Al),({ Op:=1,N:=IntKind.i64.wrap (Ah p1_ 26) }:Al)]
   else
    if ((Ah p0_ 8)==4)=true then
     some [({ Op:=4,N:=0 }:Al),({ Op:=0,N:=IntKind.i64.wrap p1_ }:Al),({ Op:=1,N:=IntKind.i64.wrap (Ah p1_ 26) }:Al)]
    else
     if ((Ah p0_ 8)==5)=true then
      some [({ Op:=7,N:=0 }:Al),({ Op:=1,N:=IntKind.i64.wrap (Ah p1_ 26) }:Al),({ Op:=0,N:=IntKind.i64.wrap p1_ }:Al)]
     else
      if ((Ah p0_ 8)==6)=true then
       some [({ Op:=9,N:=0 }:Al),({ Op:=10,N:=0 }:Al),({ Op:=2,N:=0 }:Al),({ Op:=1,N:=IntKind.i64.wrap (Ah p1_ 26) }:Al),({ Op:=0,N:=IntKind.i64.wrap p1_ }:Al)]
      else
       if ((Ah p0_ 8)==7)=true then
        some [({ Op:=6,N:=0 }:Al),({ Op:=0,N:=IntKind.i64.wrap p1_ }:Al),({ Op:=1,N:=IntKind.i64.wrap (Ah p1_ 26) }:Al)]
       else
        some [({ Op:=0,N:=IntKind.i64.wrap p1_ }:Al)]
def Bj (_:Nat) :Option Int:=
 some (-1)
def Ck (n:Nat) (p0_:Al) (x_12:Bool):Option Int:=
 if x_12=true then
  if (p0_.N==0)=true then
   some 1
  else
   Bj n
 else
  if (p0_.Op==12)=true then
   if ((decide (p0_.N>=2))&&(decide (p0_.N<=5)))=true then
    some (Ai .i64 p0_.N 1)
   else
    Bj n
  else
   if (p0_.Op==13)=true then
    if (((((decide (p0_.N>0))&&(decide (Dt .i64 p0_.N 8>=1)))&&(decide (Dt .i64 p0_.N 8<=4)))&&(decide (Ah p0_.N 8>=1)))&&(decide (Ah p0_.N 8<=4)))=true then
     some (BS .i64 (Dt .i64 p0_.N 8) (Ah p0_.N 8))
    else
     Bj n
   else
    Bj n
def Bk (n:Nat) (p0_:Al) (x_11:Bool):Option Int:=
 if x_11=true then
  if (p0_.N==0)=true then
   some 2
  else
   Bj n
 else
  if (p0_.Op==9)=true then
   Ck n p0_ (p0_.Op==9)
  else
   if (p0_.Op==10)=true then
    Ck n p0_ (p0_.Op==10)
   else
    Ck n p0_ (p0_.Op==11)
def Cd (n:Nat) (p0_:Al):Option Int:=
 if (p0_.Op==0)=true then
  if ((decide (p0_.N>=0))&&(decide (p0_.N<=99999)))=true then
   some 0
  else
   Bj n
 else
  if (p0_.Op==1)=true then
   if ((decide (p0_.N>=0))&&(decide (p0_.N<=25)))=true then
    some 0
   else
    Bj n
  else
   if (p0_.Op==2)=true then
    Bk n p0_ (p0_.Op==2)
   else
    if (p0_.Op==3)=true then
     Bk n p0_ (p0_.Op==3)
    else
     if (p0_.Op==4)=true then
      Bk n p0_ (p0_.Op==4)
     else
      if (p0_.Op==5)=true then
       Bk n p0_ (p0_.Op==5)
      else
       if (p0_.Op==6)=true then
        Bk n p0_ (p0_.Op==6)
       else
        if (p0_.Op==7)=true then
         Bk n p0_ (p0_.Op==7)
        else
         Bk n p0_ (p0_.Op==8)
def GD (n:Nat) (p0_:(List Al)) (i_9:Int) (open_1:Int):Option ((Int×Int)⊕(Int⊕Int)):=
 if decide (open_1>0)=true then
  (if (!((decide (i_9<0))||(decide (i_9>=((p0_.length:Nat):Int)))))=true then idx p0_ i_9 else some default).bind λ x41=>
  (if (!((decide (i_9<0))||(decide (i_9>=((p0_.length:Nat):Int)))))=true then Cd n x41 else some default).bind λ r67=>
  if (((decide (i_9<0))||(decide (i_9>=((p0_.length:Nat):Int))))||(decide (r67<0)))=true then
   some (.inr (.inr (-1)))
  else
   (idx p0_ i_9).bind λ x42=>
   (Cd n x42).bind λ r68=>
   some (.inl ((Ai .i64 i_9 1),(Ai .i64 open_1 (AT .i64 r68 1))))
 else
  some (.inr (.inl i_9))
def KM (n:Nat) (p0_:(List Al)) (p1_:Int):Option Int:=
 (whl (λ (x:(Int×Int))=>GD n p0_ x.1 x.2) n (p1_,1)).bind λ y49=>
 match y49 with
 | Sum.inl y50=>
  some y50
 | Sum.inr y51=>
  some y51
def Ce (n:Nat) (p0_:(List Al)) (p1_:Int) (out_5:(List Int)) (at_1:Int) (k_7:Int):Option (((List Int)×Int×Int)⊕(List Int)):=
 (idx p0_ p1_).bind λ x43=>
 (Cd n x43).bind λ r69=>
 if decide (k_7<r69)=true then
  (app 8 out_5 [at_1]).bind λ l14=>
  (KM n p0_ at_1).bind λ r70=>
  some (.inl (l14,r70,(Ai .i64 k_7 1)))
 else
  some (.inr out_5)
def Di (n:Nat) (p0_:(List Al)) (p1_:Int):Option (List Int):=
 (whl (λ (x:((List Int)×Int×Int))=>Ce n p0_ p1_ x.1 x.2.1 x.2.2) n (([]:List Int),(Ai .i64 p1_ 1),0)).bind λ y52=>
 some y52
def CZ (_:Nat) (p0_:Int) (x_13:Bool):Option Int:=
 if x_13=true then
  some 2
 else
  if (p0_==4)=true then
   some 3
  else
   some 4
def Cv (n:Nat) (p0_:Int):Option Int:=
 if (p0_==5)=true then
  some 1
 else
  if (p0_==2)=true then
   CZ n p0_ (p0_==2)
  else
   CZ n p0_ (p0_==3)
def F9 (_:Nat) :Option Bool:=
 some true
def Ga (_:Nat) (p0_:(List Al)) (r71:(List Int)) (k_8:Int):Option (Int⊕(Unit⊕Bool)):=
 if decide (k_8<((r71.length:Nat):Int))=true then
  (idx r71 k_8).bind λ x50=>
  (idx p0_ x50).bind λ x51=>
  if (x51.Op != 0)=true then
   some (.inr (.inr false))
  else
   some (.inl (Ai .i64 k_8 1))
 else
  some (.inr (.inl ()))
def CH (n:Nat) (p0_:(List Al)) (p1_:Int) (r71:(List Int)) (x44:Al) (x_14:Bool):Option Bool:=
 if x_14=true then
  (idx p0_ p1_).bind λ x45=>
  (Cv n x45.Op).bind λ r72=>
  (idx r71 0).bind λ x46=>
  (idx p0_ x46).bind λ x47=>
  (Cv n x47.Op).bind λ r73=>
  (if decide (r73>=r72)=true then idx r71 1 else some default).bind λ x48=>
  (if decide (r73>=r72)=true then idx p0_ x48 else some default).bind λ x49=>
  (if decide (r73>=r72)=true then Cv n x49.Op else some default).bind λ r74=>
  some ((decide (r73>=r72))&&(decide (r74>r72)))
 else
  if (x44.Op==12)=true then
   (whl (λ (x:Int)=>Ga n p0_ r71 x) n 0).bind λ y53=>
   match y53 with
   | Sum.inl _=>
    F9 n
   | Sum.inr y55=>
    some y55
  else
   F9 n
def NL (n:Nat) (p0_:(List Al)) (p1_:Int):Option Bool:=
 (Di n p0_ p1_).bind λ r71=>
 (idx p0_ p1_).bind λ x44=>
 if (x44.Op==2)=true then
  CH n p0_ p1_ r71 x44 (x44.Op==2)
 else
  if (x44.Op==3)=true then
   CH n p0_ p1_ r71 x44 (x44.Op==3)
  else
   if (x44.Op==4)=true then
    CH n p0_ p1_ r71 x44 (x44.Op==4)
   else
    CH n p0_ p1_ r71 x44 (x44.Op==5)
def Hg (n:Nat) (p0_:(List Al)) (i_11:Int):Option (Int⊕(Unit⊕Bool)):=
 if decide (i_11<((p0_.length:Nat):Int))=true then
  (NL n p0_ i_11).bind λ r76=>
  if (!r76)=true then
   some (.inr (.inr false))
  else
   some (.inl (Ai .i64 i_11 1))
 else
  some (.inr (.inl ()))
def MR (n:Nat) (p0_:(List Al)):Option Bool:=
 (if (!((((p0_.length:Nat):Int)==0)||(decide (((p0_.length:Nat):Int)>200))))=true then KM n p0_ 0 else some default).bind λ r75=>
 if (((((p0_.length:Nat):Int)==0)||(decide (((p0_.length:Nat):Int)>200)))||(r75 != ((p0_.length:Nat):Int)))=true then
  some false
 else
  (whl (λ (x:Int)=>Hg n p0_ x) n 0).bind λ y56=>
  match y56 with
  | Sum.inl _=>
   some true
  | Sum.inr y58=>
   some y58
def CI (_:Nat) (rec101_:((List Al)->Int->Option Int)) (p0_:(List Al)) (r78:(List Int)) (out_7:Int) (k_9:Int):Option ((Int×Int)⊕Int):=
 if decide (k_9<((r78.length:Nat):Int))=true then
  (idx r78 k_9).bind λ x52=>
  (rec101_ p0_ x52).bind λ r79=>
  some (.inl ((if r79>out_7 then r79 else out_7),(Ai .i64 k_9 1)))
 else
  some (.inr out_7)
def BC (n:Nat) (rec101_:((List Al)->Int->Option Int)) (p0_:(List Al)) (p1_:Int):Option Int:=
 (Di n p0_ p1_).bind λ r78=>
 (whl (λ (x:(Int×Int))=>CI n rec101_ p0_ r78 x.1 x.2) n (0,0)).bind λ y59=>
 some (Ai .i64 y59 1)
def NM (n:Nat) (p0_:(List Al)) (p1_:Int):Option Int:=
 JB (λ _ _=>none) (BC n) n p0_ p1_
def SF (n:Nat) (p0_:(List Al)):Option Int:=
 (NM n p0_ 0).bind λ r80=>
 some r80
def EZ (n:Nat) (p0_:(List Al)):Option Bool:=
 (if decide (((p0_.length:Nat):Int)<=60)=true then MR n p0_ else some default).bind λ r81=>
 (if ((decide (((p0_.length:Nat):Int)<=60))&&r81)=true then SF n p0_ else some default).bind λ r82=>
 some (((decide (((p0_.length:Nat):Int)<=60))&&r81)&&(decide (r82<=8)))
def IR (_:Nat) (i_12:Int) (out_12:(List Al)):Option (((List Al)×Int)⊕(List Al)):=
 some (.inl (out_12,(Ai .i64 i_12 1)))
def Ec (n:Nat) (p0_:QL) (out_10:(List Al)) (i_12:Int) (k_10:(Cu Int)):Option (((List Al)×Int)⊕(List Al)):=
 if ((Ah p0_.Kind 4)==0)=true then
  (app 16 out_10 [({ Op:=0,N:=BS .i64 (IntKind.i64.wrap k_10.a0) (IntKind.i64.wrap k_10.a1) }:Al)]).bind λ l15=>
  IR n i_12 l15
 else
  (EY n k_10.a0 k_10.a1).bind λ r83=>
  (app 16 out_10 r83).bind λ l16=>
  IR n i_12 l16
def Gb (n:Nat) (p0_:QL) (n_1:Int) (out_10:(List Al)) (i_12:Int):Option (((List Al)×Int)⊕(List Al)):=
 if decide (i_12<n_1)=true then
  if decide (i_12<((p0_.L.length:Nat):Int))=true then
   (idx p0_.L i_12).bind λ x53=>
   Ec n p0_ out_10 i_12 x53
  else
   Ec n p0_ out_10 i_12 ({ a0:=0,a1:=0 }:(Cu Int))
 else
  some (.inr out_10)
def Dj (n:Nat) (p0_:QL) (out_9:(List Al)) (n_1:Int):Option (List Al):=
 (whl (λ (x:((List Al)×Int))=>Gb n p0_ n_1 x.1 x.2) n (out_9,0)).bind λ y60=>
 (EZ n y60).bind λ r84=>
 if (!r84)=true then
  (EY n 0 p0_.N).bind λ r85=>
  some r85
 else
  some y60
def KN (n:Nat) (p0_:QL):Option (List Al):=
 if ((Ah p0_.Kind 4)==0)=true then
  Dj n p0_ [({ Op:=12,N:=AT .i64 (Ai .i64 3 (IntKind.i64.wrap (Ah p0_.N 4))) 1 }:Al)] (Ai .i64 3 (IntKind.i64.wrap (Ah p0_.N 4)))
 else
  if ((Ah p0_.Kind 4)==1)=true then
   Dj n p0_ [({ Op:=13,N:=Ai .i64 (BS .i64 8 (Ai .i64 1 (IntKind.i64.wrap (Ah p0_.N 4)))) (Ai .i64 1 (IntKind.i64.wrap (Ah (Dt .u8 p0_.N 4) 4))) }:Al)] (BS .i64 (Ai .i64 1 (IntKind.i64.wrap (Ah p0_.N 4))) (Ai .i64 1 (IntKind.i64.wrap (Ah (Dt .u8 p0_.N 4) 4))))
  else
   if ((Ah p0_.Kind 4)==3)=true then
    (EY n p0_.N (Dt .u8 p0_.N 8)).bind λ r86=>
    some r86
   else
    Dj n p0_ [({ Op:=6,N:=0 }:Al)] 2
def DA (_:Nat) (p0_:(Vd Int)) (out_13:(List Aa)):Option Aw:=
 some ({ Kind:=Ai .i64 1 (IntKind.i64.wrap (Ah p0_.a0 3)),Texture:=0,P:=out_13 }:Aw)
def DB (_:Nat) (p0_:(Vd Int)) (out_14:(List Aa)):Option Aw:=
 some ({ Kind:=Ai .i64 1 (IntKind.i64.wrap (Ah p0_.a0 3)),Texture:=IntKind.i64.wrap (Ah (Dt .u8 p0_.a0 3) 4),P:=out_14 }:Aw)
def Gc (n:Nat) (p0_:(Vd Int)) (p1_:Int) (p2_:Int):Option Aw:=
 (BH (!(p1_==0))).bind λ _=>
 (BH (!(p2_==0))).bind λ _=>
 if ((Ai .i64 1 (IntKind.i64.wrap (Ah p0_.a0 3)))==1)=true then
  some ({ Kind:=Ai .i64 1 (IntKind.i64.wrap (Ah p0_.a0 3)),Texture:=0,P:=[({ X:=Ah (IntKind.i64.wrap p0_.a1) p1_,Y:=Ah (IntKind.i64.wrap p0_.a2) p2_ }:Aa)] }:Aw)
 else
  if ((Ai .i64 1 (IntKind.i64.wrap (Ah p0_.a0 3)))==2)=true then
   if ((Ah p0_.a5 2)==1)=true then
    (app 16 [({ X:=Ah (IntKind.i64.wrap p0_.a1) p1_,Y:=Ah (IntKind.i64.wrap p0_.a2) p2_ }:Aa),({ X:=(if AT .i64 p1_ 1<Ai .i64 (Ah (IntKind.i64.wrap p0_.a1) p1_) (Ai .i64 1 (Ah (IntKind.i64.wrap p0_.a3) 8)) then AT .i64 p1_ 1 else Ai .i64 (Ah (IntKind.i64.wrap p0_.a1) p1_) (Ai .i64 1 (Ah (IntKind.i64.wrap p0_.a3) 8))),Y:=(if AT .i64 p2_ 1<Ai .i64 (Ah (IntKind.i64.wrap p0_.a2) p2_) (Ai .i64 1 (Ah (IntKind.i64.wrap p0_.a4) 8)) then AT .i64 p2_ 1 else Ai .i64 (Ah (IntKind.i64.wrap p0_.a2) p2_) (Ai .i64 1 (Ah (IntKind.i64.wrap p0_.a4) 8))) }:Aa)] [({ X:=Ah (IntKind.i64.wrap p0_.a1) p1_,Y:=(if AT .i64 p2_ 1<Ai .i64 (Ah (IntKind.i64.wrap p0_.a2) p2_) (Ai .i64 1 (Ah (IntKind.i64.wrap p0_.a4) 8)) then AT .i64 p2_ 1 else Ai .i64 (Ah (IntKind.i64.wrap p0_.a2) p2_) (Ai .i64 1 (Ah (IntKind.i64.wrap p0_.a4) 8))) }:Aa)]).bind λ l17=>
    DA n p0_ l17
   else
    DA n p0_ [({ X:=Ah (IntKind.i64.wrap p0_.a1) p1_,Y:=Ah (IntKind.i64.wrap p0_.a2) p2_ }:Aa),({ X:=(if AT .i64 p1_ 1<Ai .i64 (Ah (IntKind.i64.wrap p0_.a1) p1_) (Ai .i64 1 (Ah (IntKind.i64.wrap p0_.a3) 8)) then AT .i64 p1_ 1 else Ai .i64 (Ah (IntKind.i64.wrap p0_.a1) p1_) (Ai .i64 1 (Ah (IntKind.i64.wrap p0_.a3) 8))),Y:=(if AT .i64 p2_ 1<Ai .i64 (Ah (IntKind.i64.wrap p0_.a2) p2_) (Ai .i64 1 (Ah (IntKind.i64.wrap p0_.a4) 8)) then AT .i64 p2_ 1 else Ai .i64 (Ah (IntKind.i64.wrap p0_.a2) p2_) (Ai .i64 1 (Ah (IntKind.i64.wrap p0_.a4) 8))) }:Aa)]
  else
   if ((Ah p0_.a5 2)==1)=true then
    (app 16 [({ X:=Ah (IntKind.i64.wrap p0_.a1) p1_,Y:=Ah (IntKind.i64.wrap p0_.a2) p2_ }:Aa),({ X:=(if AT .i64 p1_ 1<Ai .i64 (Ah (IntKind.i64.wrap p0_.a1) p1_) (Ai .i64 1 (Ah (IntKind.i64.wrap p0_.a3) 8)) then AT .i64 p1_ 1 else Ai .i64 (Ah (IntKind.i64.wrap p0_.a1) p1_) (Ai .i64 1 (Ah (IntKind.i64.wrap p0_.a3) 8))),Y:=Ah (IntKind.i64.wrap p0_.a2) p2_ }:Aa),({ X:=(if AT .i64 p1_ 1<Ai .i64 (Ah (IntKind.i64.wrap p0_.a1) p1_) (Ai .i64 1 (Ah (IntKind.i64.wrap p0_.a3) 8)) then AT .i64 p1_ 1 else Ai .i64 (Ah (IntKind.i64.wrap p0_.a1) p1_) (Ai .i64 1 (Ah (IntKind.i64.wrap p0_.a3) 8))),Y:=(if AT .i64 p2_ 1<Ai .i64 (Ah (IntKind.i64.wrap p0_.a2) p2_) (Ai .i64 1 (Ah (IntKind.i64.wrap p0_.a4) 8)) then AT .i64 p2_ 1 else Ai .i64 (Ah (IntKind.i64.wrap p0_.a2) p2_) (Ai .i64 1 (Ah (IntKind.i64.wrap p0_.a4) 8))) }:Aa)] [({ X:=Ah (IntKind.i64.wrap p0_.a1) p1_,Y:=(if AT .i64 p2_ 1<Ai .i64 (Ah (IntKind.i64.wrap p0_.a2) p2_) (Ai .i64 1 (Ah (IntKind.i64.wrap p0_.a4) 8)) then AT .i64 p2_ 1 else Ai .i64 (Ah (IntKind.i64.wrap p0_.a2) p2_) (Ai .i64 1 (Ah (IntKind.i64.wrap p0_.a4) 8))) }:Aa)]).bind λ l18=>
    DB n p0_ l18
   else
    DB n p0_ [({ X:=Ah (IntKind.i64.wrap p0_.a1) p1_,Y:=Ah (IntKind.i64.wrap p0_.a2) p2_ }:Aa),({ X:=(if AT .i64 p1_ 1<Ai .i64 (Ah (IntKind.i64.wrap p0_.a1) p1_) (Ai .i64 1 (Ah (IntKind.i64.wrap p0_.a3) 8)) then AT .i64 p1_ 1 else Ai .i64 (Ah (IntKind.i64.wrap p0_.a1) p1_) (Ai .i64 1 (Ah (IntKind.i64.wrap p0_.a3) 8))),Y:=Ah (IntKind.i64.wrap p0_.a2) p2_ }:Aa),({ X:=(if AT .i64 p1_ 1<Ai .i64 (Ah (IntKind.i64.wrap p0_.a1) p1_) (Ai .i64 1 (Ah (IntKind.i64.wrap p0_.a3) 8)) then AT .i64 p1_ 1 else Ai .i64 (Ah (IntKind.i64.wrap p0_.a1) p1_) (Ai .i64 1 (Ah (IntKind.i64.wrap p0_.a3) 8))),Y:=(if AT .i64 p2_ 1<Ai .i64 (Ah (IntKind.i64.wrap p0_.a2) p2_) (Ai .i64 1 (Ah (IntKind.i64.wrap p0_.a4) 8)) then AT .i64 p2_ 1 else Ai .i64 (Ah (IntKind.i64.wrap p0_.a2) p2_) (Ai .i64 1 (Ah (IntKind.i64.wrap p0_.a4) 8))) }:Aa)]
def Gd (n:Nat) (p0_:Bo) (p_1:Ae) (i_13:Int):Option ((Ae×Int)⊕Ae):=
 if ((decide (i_13<((p0_.F.length:Nat):Int)))&&(decide (i_13<4)))=true then
  (idx p0_.F i_13).bind λ x54=>
  (Gc n x54 p_1.W p_1.H).bind λ r87=>
  (app 40 p_1.F [r87]).bind λ l19=>
  some (.inl (({ W:=p_1.W,H:=p_1.H,Gap:=p_1.Gap,F:=l19 }:Ae),(Ai .i64 i_13 1)))
 else
  some (.inr p_1)
def IS (_:Nat) (p_3:Ae):Option Ae:=
 some p_3
def KO (n:Nat) (p0_:Bo):Option Ae:=
 (whl (λ (x:(Ae×Int))=>Gd n p0_ x.1 x.2) n (({ W:=Ai .i64 12 (BS .i64 2 (IntKind.i64.wrap (Ah p0_.W 13))),H:=Ai .i64 12 (BS .i64 3 (IntKind.i64.wrap (Ah p0_.H 9))),Gap:=Ai .i64 2 (IntKind.i64.wrap (Ah p0_.Gap 3)),F:=([]:List Aw) }:Ae),0)).bind λ y61=>
 if (((y61.F.length:Nat):Int)==0)=true then
  IS n ({ W:=y61.W,H:=y61.H,Gap:=y61.Gap,F:=[({ Kind:=1,Texture:=0,P:=[({ X:=1,Y:=1 }:Aa)] }:Aw)] }:Ae)
 else
  IS n y61
def Fb (_:Nat) (p0_:Aw) (i_14:Int):Option (Int⊕(Unit⊕Bool)):=
 if decide (i_14<((p0_.P.length:Nat):Int))=true then
  (idx p0_.P i_14).bind λ x55=>
  if ((((decide (x55.X<0))||(decide (x55.Y<0)))||(decide (x55.X>=60)))||(decide (x55.Y>=60)))=true then
   some (.inr (.inr false))
  else
   some (.inl (Ai .i64 i_14 1))
 else
  some (.inr (.inl ()))
def LX (n:Nat) (p0_:Aw):Option Bool:=
 (whl (λ (x:Int)=>Fb n p0_ x) n 0).bind λ y62=>
 match y62 with
 | Sum.inl _=>
  if decide (((p0_.P.length:Nat):Int)>12)=true then
   some false
  else
   if (p0_.Kind==1)=true then
    some ((((p0_.P.length:Nat):Int)==1)&&(p0_.Texture==0))
   else
    if (p0_.Kind==2)=true then
     some ((decide (((p0_.P.length:Nat):Int)>=2))&&(p0_.Texture==0))
    else
     if (p0_.Kind==3)=true then
      some (((decide (((p0_.P.length:Nat):Int)>=3))&&(decide (p0_.Texture>=0)))&&(decide (p0_.Texture<=3)))
     else
      some false
 | Sum.inr y64=>
  some y64
def H2 (_:Nat) (p0_:(List Aa)) (p1_:Int):Option (Aa×Aa):=
 (idx p0_ p1_).bind λ x56=>
 (BH (!(((p0_.length:Nat):Int)==0))).bind λ _=>
 (idx p0_ (Ah (Ai .i64 p1_ 1) ((p0_.length:Nat):Int))).bind λ x57=>
 some (x56,x57)
def H3 (_:Nat) (p0_:Int):Option Int:=
 some (if Jfg .i64 p0_>p0_ then Jfg .i64 p0_ else p0_)
def GE (n:Nat) (p0_:Aa) (p1_:Aa):Option Int:=
 (H3 n (AT .i64 p0_.X p1_.X)).bind λ r88=>
 (H3 n (AT .i64 p0_.Y p1_.Y)).bind λ r89=>
 some (if r89>r88 then r89 else r88)
def Fd (_:Nat) (q_1:Int):Option Int:=
 some q_1
def GG (n:Nat) (p0_:Int) (p1_:Int):Option Int:=
 (BH (!(p1_==0))).bind λ _=>
 (BH (!(p1_==0))).bind λ _=>
 if decide (Ah p0_ p1_<0)=true then
  Fd n (AT .i64 (Dt .i64 p0_ p1_) 1)
 else
  Fd n (Dt .i64 p0_ p1_)
def Ge (n:Nat) (p0_:Aa) (p1_:Aa) (r90:Int) (out_15:(List Aa)) (k_11:Int):Option (((List Aa)×Int)⊕(List Aa)):=
 if decide (k_11<=r90)=true then
  (GG n (Ai .i64 (BS .i64 2 (Ai .i64 (BS .i64 p0_.X r90) (BS .i64 k_11 (AT .i64 p1_.X p0_.X)))) r90) (BS .i64 2 r90)).bind λ r91=>
  (GG n (Ai .i64 (BS .i64 2 (Ai .i64 (BS .i64 p0_.Y r90) (BS .i64 k_11 (AT .i64 p1_.Y p0_.Y)))) r90) (BS .i64 2 r90)).bind λ r92=>
  (app 16 out_15 [({ X:=r91,Y:=r92 }:Aa)]).bind λ l20=>
  some (.inl (l20,(Ai .i64 k_11 1)))
 else
  some (.inr out_15)
def NN (n:Nat) (p0_:Aa) (p1_:Aa):Option (List Aa):=
 (GE n p0_ p1_).bind λ r90=>
 if (r90==0)=true then
  some [p0_]
 else
  (whl (λ (x:((List Aa)×Int))=>Ge n p0_ p1_ r90 x.1 x.2) n (([]:List Aa),0)).bind λ y65=>
  some y65
def Fe (n:Nat) (p0_:(List Aa)) (p1_:Int) (out_17:(List Aa)) (i_15:Int):Option (((List Aa)×Int)⊕(List Aa)):=
 if decide (i_15<p1_)=true then
  (H2 n p0_ i_15).bind λ r93=>
  (NN n r93.1 r93.2).bind λ r94=>
  (app 16 out_17 r94).bind λ l21=>
  some (.inl (l21,(Ai .i64 i_15 1)))
 else
  some (.inr out_17)
def IT (n:Nat) (p0_:(List Aa)) (p1_:Int):Option (List Aa):=
 (whl (λ (x:((List Aa)×Int))=>Fe n p0_ p1_ x.1 x.2) n (([]:List Aa),0)).bind λ y66=>
 some y66
def Ed (_:Nat) (i_16:Int) (there_3:(List (List Bool))):Option (((List (List Bool))×Int)⊕(List (List Bool))):=
 some (.inl (there_3,(Ai .i64 i_16 1)))
def Ee (n:Nat) (p0_:(List Aa)) (there_1:(List (List Bool))) (i_16:Int):Option (((List (List Bool))×Int)⊕(List (List Bool))):=
 if decide (i_16<((p0_.length:Nat):Int))=true then
  (idx p0_ i_16).bind λ x58=>
  if ((((decide (x58.X>=0))&&(decide (x58.Y>=0)))&&(decide (x58.X<60)))&&(decide (x58.Y<60)))=true then
   (BH (decide ((0:Int)<=x58.Y/\x58.Y<((60:Nat):Int)))).bind λ _=>
   (BH (decide ((0:Int)<=x58.X/\x58.X<((60:Nat):Int)))).bind λ _=>
   (YL there_1 x58.Y x58.X true).bind λ l22=>
   Ed n i_16 l22
  else
   Ed n i_16 there_1
 else
  some (.inr there_1)
def Ef (_:Nat) (x_15:Int) (out_23:(List Aa)):Option (((List Aa)×Int)⊕(List Aa)):=
 some (.inl (out_23,(Ai .i64 x_15 1)))
def Eg (n:Nat) (y67:(List (List Bool))) (y_1:Int) (out_21:(List Aa)) (x_15:Int):Option (((List Aa)×Int)⊕(List Aa)):=
 if decide (x_15<60)=true then
  (BH (decide ((0:Int)<=y_1/\y_1<((60:Nat):Int)))).bind λ _=>
  (BH (decide ((0:Int)<=x_15/\x_15<((60:Nat):Int)))).bind λ _=>
  (YK y67 y_1 x_15).bind λ x59=>
  if x59=true then
   (app 16 out_21 [({ X:=x_15,Y:=y_1 }:Aa)]).bind λ l23=>
   Ef n x_15 l23
  else
   Ef n x_15 out_21
 else
  some (.inr out_21)
def Eh (n:Nat) (y67:(List (List Bool))) (out_19:(List Aa)) (y_1:Int):Option (((List Aa)×Int)⊕(List Aa)):=
 if decide (y_1<60)=true then
  (whl (λ (x:((List Aa)×Int))=>Eg n y67 y_1 x.1 x.2) n (out_19,0)).bind λ y68=>
  some (.inl (y68,(Ai .i64 y_1 1)))
 else
  some (.inr out_19)
def Hh (n:Nat) (p0_:(List Aa)):Option (List Aa):=
 (whl (λ (x:((List (List Bool))×Int))=>Ee n p0_ x.1 x.2) n ((List.replicate 60 (List.replicate 60 (false:Bool))),0)).bind λ y67=>
 (whl (λ (x:((List Aa)×Int))=>Eh n y67 x.1 x.2) n (([]:List Aa),0)).bind λ y69=>
 some y69
def Gf (_:Nat) (p0_:Int) (p1_:Aa):Option Bool:=
 some (((p0_==3)||((p0_==2)&&((Ah p1_.Y 2)==0)))||((p0_==1)&&((Ah (Ai .i64 p1_.X p1_.Y) 2)==0)))
def NO (_:Nat) (p0_:Aa) (p1_:Aa) (p2_:Aa):Option Int:=
 some (AT .i64 (BS .i64 (AT .i64 p1_.X p0_.X) (AT .i64 p2_.Y p0_.Y)) (BS .i64 (AT .i64 p1_.Y p0_.Y) (AT .i64 p2_.X p0_.X)))
def PM (n:Nat) (p0_:Aa) (p1_:Aa) (p2_:Aa):Option Bool:=
 (NO n p0_ p1_ p2_).bind λ r95=>
 some (((((r95==0)&&(decide (p2_.X>=(if p1_.X<p0_.X then p1_.X else p0_.X))))&&(decide (p2_.X<=(if p1_.X>p0_.X then p1_.X else p0_.X))))&&(decide (p2_.Y>=(if p1_.Y<p0_.Y then p1_.Y else p0_.Y))))&&(decide (p2_.Y<=(if p1_.Y>p0_.Y then p1_.Y else p0_.Y))))
def Hi (_:Nat) (p0_:Aa) (p1_:Aa) (p2_:Aa):Option Bool:=
 if ((decide (p0_.Y<=p2_.Y))==(decide (p1_.Y<=p2_.Y)))=true then
  some false
 else
  if decide (p1_.Y>p0_.Y)=true then
   some (decide (BS .i64 (AT .i64 p2_.X p0_.X) (AT .i64 p1_.Y p0_.Y)<BS .i64 (AT .i64 p2_.Y p0_.Y) (AT .i64 p1_.X p0_.X)))
  else
   some (decide (BS .i64 (AT .i64 p2_.X p0_.X) (AT .i64 p1_.Y p0_.Y)>BS .i64 (AT .i64 p2_.Y p0_.Y) (AT .i64 p1_.X p0_.X)))
def Ei (_:Nat) (i_17:Int) (odd_3:Bool):Option ((Bool×Int)⊕(Bool⊕Bool)):=
 some (.inl (odd_3,(Ai .i64 i_17 1)))
def Ej (n:Nat) (p0_:(List Aa)) (p1_:Aa) (odd_1:Bool) (i_17:Int):Option ((Bool×Int)⊕(Bool⊕Bool)):=
 if decide (i_17<((p0_.length:Nat):Int))=true then
  (H2 n p0_ i_17).bind λ r96=>
  (PM n r96.1 r96.2 p1_).bind λ r97=>
  if r97=true then
   some (.inr (.inr true))
  else
   (Hi n r96.1 r96.2 p1_).bind λ r98=>
   if r98=true then
    Ei n i_17 (!odd_1)
   else
    Ei n i_17 odd_1
 else
  some (.inr (.inl odd_1))
def J1 (n:Nat) (p0_:(List Aa)) (p1_:Aa):Option Bool:=
 (whl (λ (x:(Bool×Int))=>Ej n p0_ p1_ x.1 x.2) n (false,0)).bind λ y70=>
 match y70 with
 | Sum.inl y71=>
  some y71
 | Sum.inr y72=>
  some y72
def Ek (_:Nat) (x_16:Int) (out_28:(List Aa)):Option (((List Aa)×Int)⊕(List Aa)):=
 some (.inl (out_28,(Ai .i64 x_16 1)))
def El (n:Nat) (p0_:Aw) (y_2:Int) (out_26:(List Aa)) (x_16:Int):Option (((List Aa)×Int)⊕(List Aa)):=
 if decide (x_16<60)=true then
  (Gf n p0_.Texture ({ X:=x_16,Y:=y_2 }:Aa)).bind λ r102=>
  (if r102=true then J1 n p0_.P ({ X:=x_16,Y:=y_2 }:Aa) else some default).bind λ r103=>
  if (r102&&r103)=true then
   (app 16 out_26 [({ X:=x_16,Y:=y_2 }:Aa)]).bind λ l24=>
   Ek n x_16 l24
  else
   Ek n x_16 out_26
 else
  some (.inr out_26)
def Em (n:Nat) (p0_:Aw) (out_24:(List Aa)) (y_2:Int):Option (((List Aa)×Int)⊕(List Aa)):=
 if decide (y_2<60)=true then
  (whl (λ (x:((List Aa)×Int))=>El n p0_ y_2 x.1 x.2) n (out_24,0)).bind λ y73=>
  some (.inl (y73,(Ai .i64 y_2 1)))
 else
  some (.inr out_24)
def C6 (n:Nat) (p0_:Aw):Option (List Aa):=
 if (p0_.Kind==1)=true then
  some p0_.P
 else
  if (p0_.Kind==2)=true then
   (IT n p0_.P (AT .i64 ((p0_.P.length:Nat):Int) 1)).bind λ r99=>
   (Hh n r99).bind λ r100=>
   some r100
  else
   (IT n p0_.P ((p0_.P.length:Nat):Int)).bind λ r101=>
   (whl (λ (x:((List Aa)×Int))=>Em n p0_ x.1 x.2) n (r101,0)).bind λ y74=>
   (Hh n y74).bind λ r104=>
   some r104
def En (_:Nat) (p0_:(List Aa)) (p1_:Int) (p2_:Int) (i_18:Int):Option (Int⊕(Unit⊕Bool)):=
 if decide (i_18<((p0_.length:Nat):Int))=true then
  (idx p0_ i_18).bind λ x60=>
  (if (!(decide (x60.X<0)))=true then idx p0_ i_18 else some default).bind λ x61=>
  (if (!((decide (x60.X<0))||(decide (x61.X>=p1_))))=true then idx p0_ i_18 else some default).bind λ x62=>
  (if (!(((decide (x60.X<0))||(decide (x61.X>=p1_)))||(decide (x62.Y<0))))=true then idx p0_ i_18 else some default).bind λ x63=>
  if ((((decide (x60.X<0))||(decide (x61.X>=p1_)))||(decide (x62.Y<0)))||(decide (x63.Y>=p2_)))=true then
   some (.inr (.inr false))
  else
   some (.inl (Ai .i64 i_18 1))
 else
  some (.inr (.inl ()))
def J2 (n:Nat) (p0_:(List Aa)) (p1_:Int) (p2_:Int):Option Bool:=
 (whl (λ (x:Int)=>En n p0_ p1_ p2_ x) n 0).bind λ y75=>
 match y75 with
 | Sum.inl _=>
  some true
 | Sum.inr y77=>
  some y77
def Ff (n:Nat) (p0_:Ae) (i_19:Int):Option (Int⊕(Unit⊕Bool)):=
 if decide (i_19<((p0_.F.length:Nat):Int))=true then
  (idx p0_.F i_19).bind λ x64=>
  (LX n x64).bind λ r105=>
  (if (!(!r105))=true then idx p0_.F i_19 else some default).bind λ x65=>
  (if (!(!r105))=true then C6 n x65 else some default).bind λ r106=>
  (if (!(!r105))=true then J2 n r106 p0_.W p0_.H else some default).bind λ r107=>
  if ((!r105)||(!r107))=true then
   some (.inr (.inr false))
  else
   some (.inl (Ai .i64 i_19 1))
 else
  some (.inr (.inl ()))
def E0 (n:Nat) (p0_:Ae):Option Bool:=
 if ((((((((((decide (p0_.W<4))||(decide (p0_.W>60)))||((Ah p0_.W 2) != 0))||(decide (p0_.H<3)))||(decide (p0_.H>60)))||((Ah p0_.H 3) != 0))||(decide (p0_.Gap<2)))||(decide (p0_.Gap>6)))||(decide (((p0_.F.length:Nat):Int)<1)))||(decide (((p0_.F.length:Nat):Int)>8)))=true then
  some false
 else
  (whl (λ (x:Int)=>Ff n p0_ x) n 0).bind λ y78=>
  match y78 with
  | Sum.inl _=>
   some true
  | Sum.inr y80=>
   some y80
def Eo (n:Nat) (p0_:Ae) (out_29:(List (List Aa))) (i_20:Int):Option (((List (List Aa))×Int)⊕(List (List Aa))):=
 if decide (i_20<((p0_.F.length:Nat):Int))=true then
  (idx p0_.F i_20).bind λ x66=>
  (C6 n x66).bind λ r108=>
  (app 24 out_29 [r108]).bind λ l25=>
  some (.inl (l25,(Ai .i64 i_20 1)))
 else
  some (.inr out_29)
def Fx (n:Nat) (p0_:Ae):Option (List (List Aa)):=
 (whl (λ (x:((List (List Aa))×Int))=>Eo n p0_ x.1 x.2) n (([]:List (List Aa)),0)).bind λ y81=>
 some y81
def Cw (_:Nat) (k_12:Int) (out_35:Int):Option ((Int×Int)⊕Int):=
 some (.inl (out_35,(Ai .i64 k_12 1)))
def B2 (n:Nat) (p0_:(List Aa)) (p1_:(List Aa)) (i_21:Int) (out_33:Int) (k_12:Int):Option ((Int×Int)⊕Int):=
 if decide (k_12<((p1_.length:Nat):Int))=true then
  (idx p0_ i_21).bind λ x67=>
  (idx p1_ k_12).bind λ x68=>
  (GE n x67 x68).bind λ r109=>
  if ((decide (out_33<0))||(decide (r109<out_33)))=true then
   Cw n k_12 r109
  else
   Cw n k_12 out_33
 else
  some (.inr out_33)
def B3 (n:Nat) (p0_:(List Aa)) (p1_:(List Aa)) (out_31:Int) (i_21:Int):Option ((Int×Int)⊕Int):=
 if decide (i_21<((p0_.length:Nat):Int))=true then
  (whl (λ (x:(Int×Int))=>B2 n p0_ p1_ i_21 x.1 x.2) n (out_31,0)).bind λ y82=>
  some (.inl (y82,(Ai .i64 i_21 1)))
 else
  some (.inr out_31)
def Bz (n:Nat) (p0_:(List Aa)) (p1_:(List Aa)):Option Int:=
 (whl (λ (x:(Int×Int))=>B3 n p0_ p1_ x.1 x.2) n ((-1),0)).bind λ y83=>
 some y83
def C0 (n:Nat) (r111:(List (List Aa))) (_:(List (List Int))) (i_22:Int) (row_1:(List Int)) (k_13:Int):Option (((List Int)×Int)⊕(List Int)):=
 if decide (k_13<((r111.length:Nat):Int))=true then
  (idx r111 i_22).bind λ x69=>
  (idx r111 k_13).bind λ x70=>
  (Bz n x69 x70).bind λ r112=>
  (app 8 row_1 [r112]).bind λ l26=>
  some (.inl (l26,(Ai .i64 k_13 1)))
 else
  some (.inr row_1)
def C1 (n:Nat) (r111:(List (List Aa))) (out_36:(List (List Int))) (i_22:Int):Option (((List (List Int))×Int)⊕(List (List Int))):=
 if decide (i_22<((r111.length:Nat):Int))=true then
  (whl (λ (x:((List Int)×Int))=>C0 n r111 out_36 i_22 x.1 x.2) n (([]:List Int),0)).bind λ y84=>
  (app 24 out_36 [y84]).bind λ l27=>
  some (.inl (l27,(Ai .i64 i_22 1)))
 else
  some (.inr out_36)
def GH (n:Nat) (p0_:Ae):Option (List (List Int)):=
 (E0 n p0_).bind λ r110=>
 if (!r110)=true then
  some []
 else
  (Fx n p0_).bind λ r111=>
  (whl (λ (x:((List (List Int))×Int))=>C1 n r111 x.1 x.2) n (([]:List (List Int)),0)).bind λ y85=>
  some y85
def Hj (_:Nat) (p0_:(List Aa)) (p1_:Aa) (i_23:Int):Option (Int⊕(Unit⊕Bool)):=
 if decide (i_23<((p0_.length:Nat):Int))=true then
  (idx p0_ i_23).bind λ x71=>
  if ((x71.X==p1_.X)&&((x71.Y==p1_.Y)&&true))=true then
   some (.inr (.inr true))
  else
   some (.inl (Ai .i64 i_23 1))
 else
  some (.inr (.inl ()))
def J3 (n:Nat) (p0_:(List Aa)) (p1_:Aa):Option Bool:=
 (whl (λ (x:Int)=>Hj n p0_ p1_ x) n 0).bind λ y86=>
 match y86 with
 | Sum.inl _=>
  some false
 | Sum.inr y88=>
  some y88
def O3 (_:Nat) (p0_:Aa) (p1_:Aa):Option Bool:=
 some ((decide (p0_.Y<p1_.Y))||((p0_.Y==p1_.Y)&&(decide (p0_.X<p1_.X))))
def GI (_:Nat) (i_24:Int) (out_40:(List Aa)):Option (((List Aa)×Int)⊕(List Aa)):=
 some (.inl (out_40,(Ai .i64 i_24 1)))
def GJ (n:Nat) (p0_:(List Aa)) (out_38:(List Aa)) (i_24:Int) (at_2:Int):Option (Int⊕Int):=
 (if decide (at_2>0)=true then idx p0_ i_24 else some default).bind λ x73=>
 (if decide (at_2>0)=true then idx out_38 (AT .i64 at_2 1) else some default).bind λ x74=>
 (if decide (at_2>0)=true then O3 n x73 x74 else some default).bind λ r114=>
 if ((decide (at_2>0))&&r114)=true then
  some (.inl (AT .i64 at_2 1))
 else
  some (.inr at_2)
def Ep (n:Nat) (p0_:(List Aa)) (out_38:(List Aa)) (i_24:Int):Option (((List Aa)×Int)⊕(List Aa)):=
 if decide (i_24<((p0_.length:Nat):Int))=true then
  (idx p0_ i_24).bind λ x72=>
  (J3 n out_38 x72).bind λ r113=>
  if r113=true then
   GI n i_24 out_38
  else
   (whl (λ (x:Int)=>GJ n p0_ out_38 i_24 x) n ((out_38.length:Nat):Int)).bind λ y89=>
   (sub out_38 y89 ((out_38.length:Nat):Int)).bind λ l28=>
   (app 16 ([]:List Aa) l28).bind λ l29=>
   (sub out_38 0 y89).bind λ l30=>
   (idx p0_ i_24).bind λ x75=>
   (app 16 l30 [x75]).bind λ l31=>
   (app 16 l31 l29).bind λ l32=>
   GI n i_24 l32
 else
  some (.inr out_38)
def Hk (n:Nat) (p0_:(List Aa)):Option (List Aa):=
 (whl (λ (x:((List Aa)×Int))=>Ep n p0_ x.1 x.2) n (([]:List Aa),0)).bind λ y90=>
 some y90
def E1 (_:Nat) (i_25:Int) (one_5:(List Aa)) (grown_4:Bool):Option (((List Aa)×Bool×Int)⊕((List Aa)×Bool)):=
 some (.inl (one_5,grown_4,(Ai .i64 i_25 1)))
def Dk (n:Nat) (p1_:Int) (rest_1:(List Aa)) (_:(List (List Aa))) (one_3:(List Aa)) (grown_2:Bool) (i_25:Int):Option (((List Aa)×Bool×Int)⊕((List Aa)×Bool)):=
 if decide (i_25<((rest_1.length:Nat):Int))=true then
  (idx rest_1 i_25).bind λ x77=>
  (J3 n one_3 x77).bind λ r116=>
  (if (!r116)=true then sub rest_1 i_25 (Ai .i64 i_25 1) else some default).bind λ l33=>
  (if (!r116)=true then Bz n one_3 l33 else some default).bind λ r117=>
  if ((!r116)&&(decide (r117<=p1_)))=true then
   (idx rest_1 i_25).bind λ x78=>
   (app 16 one_3 [x78]).bind λ l34=>
   E1 n i_25 l34 true
  else
   E1 n i_25 one_3 grown_2
 else
  some (.inr (one_3,grown_2))
def E2 (n:Nat) (p1_:Int) (rest_1:(List Aa)) (out_41:(List (List Aa))) (one_1:(List Aa)) (grown_1:Bool):Option (((List Aa)×Bool)⊕(List Aa)):=
 if grown_1=true then
  (whl (λ (x:((List Aa)×Bool×Int))=>Dk n p1_ rest_1 out_41 x.1 x.2.1 x.2.2) n (one_1,false,0)).bind λ y91=>
  some (.inl (y91.1,y91.2))
 else
  some (.inr one_1)
def E3 (_:Nat) (i_26:Int) (left_3:(List Aa)):Option (((List Aa)×Int)⊕(List Aa)):=
 some (.inl (left_3,(Ai .i64 i_26 1)))
def Dl (n:Nat) (_:Int) (rest_1:(List Aa)) (_:(List (List Aa))) (y92:(List Aa)) (left_1:(List Aa)) (i_26:Int):Option (((List Aa)×Int)⊕(List Aa)):=
 if decide (i_26<((rest_1.length:Nat):Int))=true then
  (idx rest_1 i_26).bind λ x79=>
  (J3 n y92 x79).bind λ r118=>
  if (!r118)=true then
   (idx rest_1 i_26).bind λ x80=>
   (app 16 left_1 [x80]).bind λ l35=>
   E3 n i_26 l35
  else
   E3 n i_26 left_1
 else
  some (.inr left_1)
def E4 (n:Nat) (p1_:Int) (rest_1:(List Aa)) (out_41:(List (List Aa))):Option (((List Aa)×(List (List Aa)))⊕(List (List Aa))):=
 if decide (((rest_1.length:Nat):Int)>0)=true then
  (idx rest_1 0).bind λ x76=>
  (whl (λ (x:((List Aa)×Bool))=>E2 n p1_ rest_1 out_41 x.1 x.2) n ([x76],true)).bind λ y92=>
  (whl (λ (x:((List Aa)×Int))=>Dl n p1_ rest_1 out_41 y92 x.1 x.2) n (([]:List Aa),0)).bind λ y93=>
  (Hk n y92).bind λ r119=>
  (app 24 out_41 [r119]).bind λ l36=>
  some (.inl (y93,l36))
 else
  some (.inr out_41)
def HG (n:Nat) (p0_:(List Aa)) (p1_:Int):Option (List (List Aa)):=
 (Hk n p0_).bind λ r115=>
 (whl (λ (x:((List Aa)×(List (List Aa))))=>E4 n p1_ x.1 x.2) n (r115,([]:List (List Aa)))).bind λ y94=>
 some y94
def Fg (n:Nat) (p0_:Ae) (r121:(List (List Aa))) (_:(List (List Int))) (i_27:Int):Option (Int⊕(Unit⊕Cj)):=
 if decide (i_27<((r121.length:Nat):Int))=true then
  (idx r121 i_27).bind λ x81=>
  (HG n x81 p0_.Gap).bind λ r123=>
  if (((r123.length:Nat):Int) != 1)=true then
   some (.inr (.inr ({ I:=i_27,J:=i_27,E:=130 }:Cj)))
  else
   some (.inl (Ai .i64 i_27 1))
 else
  some (.inr (.inl ()))
def HH (_:Nat) (p0_:Ae) (r121:(List (List Aa))) (r122:(List (List Int))) (i_28:Int) (k_14:Int):Option (Int⊕(Unit⊕Cj)):=
 if decide (k_14<((r121.length:Nat):Int))=true then
  (idx r122 i_28).bind λ x82=>
  (idx x82 k_14).bind λ x83=>
  if decide (x83<=p0_.Gap)=true then
   some (.inr (.inr ({ I:=i_28,J:=k_14,E:=140 }:Cj)))
  else
   some (.inl (Ai .i64 k_14 1))
 else
  some (.inr (.inl ()))
def Dv (n:Nat) (p0_:Ae) (r121:(List (List Aa))) (r122:(List (List Int))) (i_28:Int):Option (Int⊕(Unit⊕Cj)):=
 if decide (i_28<((r121.length:Nat):Int))=true then
  (whl (λ (x:Int)=>HH n p0_ r121 r122 i_28 x) n (Ai .i64 i_28 1)).bind λ y98=>
  match y98 with
  | Sum.inl _=>
   some (.inl (Ai .i64 i_28 1))
  | Sum.inr y100=>
   some (.inr (.inr y100))
 else
  some (.inr (.inl ()))
def LY (n:Nat) (p0_:Ae):Option Cj:=
 (E0 n p0_).bind λ r120=>
 if (!r120)=true then
  some ({ I:=0,J:=0,E:=1 }:Cj)
 else
  (Fx n p0_).bind λ r121=>
  (GH n p0_).bind λ r122=>
  (whl (λ (x:Int)=>Fg n p0_ r121 r122 x) n 0).bind λ y95=>
  match y95 with
  | Sum.inl _=>
   (whl (λ (x:Int)=>Dv n p0_ r121 r122 x) n 0).bind λ y101=>
   match y101 with
   | Sum.inl _=>
    some ({ I:=0,J:=0,E:=0 }:Cj)
   | Sum.inr y103=>
    some y103
  | Sum.inr y97=>
   some y97
def E5 (_:Nat) (p0_:Int):Option (List Int):=
 (idx [1,3,9,25,17,11,27,19] p0_).bind λ x84=>
 some [60,x84]
def C7 (_:Nat) (k_15:Int) (out_47:(List Aa)):Option (((List Aa)×Int)⊕(List Aa)):=
 some (.inl (out_47,(Ai .i64 k_15 1)))
def Cy (n:Nat) (p1_:Aa) (r124:(List Int)) (r_1:Int) (out_45:(List Aa)) (k_15:Int):Option (((List Aa)×Int)⊕(List Aa)):=
 if decide (k_15<4)=true then
  (idx r124 (Dt .i64 k_15 2)).bind λ x85=>
  (BH (decide (0<=(Ai .i64 (BS .i64 3 (Ah k_15 2)) r_1)))).bind λ _=>
  if ((D6 .u8 (Jkf .u8 x85 (Ai .i64 (BS .i64 3 (Ah k_15 2)) r_1)) 1)==1)=true then
   (app 16 out_45 [({ X:=Ai .i64 (BS .i64 2 p1_.X) k_15,Y:=Ai .i64 (BS .i64 3 p1_.Y) r_1 }:Aa)]).bind λ l37=>
   C7 n k_15 l37
  else
   C7 n k_15 out_45
 else
  some (.inr out_45)
def Cz (n:Nat) (p1_:Aa) (r124:(List Int)) (out_43:(List Aa)) (r_1:Int):Option (((List Aa)×Int)⊕(List Aa)):=
 if decide (r_1<3)=true then
  (whl (λ (x:((List Aa)×Int))=>Cy n p1_ r124 r_1 x.1 x.2) n (out_43,0)).bind λ y104=>
  some (.inl (y104,(Ai .i64 r_1 1)))
 else
  some (.inr out_43)
def Cl (n:Nat) (p0_:Int) (p1_:Aa):Option (List Aa):=
 (E5 n p0_).bind λ r124=>
 (whl (λ (x:((List Aa)×Int))=>Cz n p1_ r124 x.1 x.2) n (([]:List Aa),0)).bind λ y105=>
 some y105
def Gg (n:Nat) (p0_:Ae) (_:Int) (r125:(List (List Aa))) (r126:(List Aa)) (k_16:Int):Option (Int⊕(Unit⊕Bool)):=
 if decide (k_16<((r125.length:Nat):Int))=true then
  (idx r125 k_16).bind λ x86=>
  (Bz n r126 x86).bind λ r127=>
  if decide (r127<=p0_.Gap)=true then
   some (.inr (.inr false))
  else
   some (.inl (Ai .i64 k_16 1))
 else
  some (.inr (.inl ()))
def NP (n:Nat) (p0_:Ae) (p1_:Int) (p2_:Aa):Option Bool:=
 if ((((((decide (p2_.X<0))||(decide (p2_.Y<0)))||(decide (p2_.X>60)))||(decide (p2_.Y>60)))||(decide (BS .i64 2 (Ai .i64 p2_.X 2)>p0_.W)))||(decide (BS .i64 3 (Ai .i64 p2_.Y 1)>p0_.H)))=true then
  some false
 else
  (Fx n p0_).bind λ r125=>
  (Cl n p1_ p2_).bind λ r126=>
  (whl (λ (x:Int)=>Gg n p0_ p1_ r125 r126 x) n 0).bind λ y106=>
  match y106 with
  | Sum.inl _=>
   (idx r125 p1_).bind λ x87=>
   (Bz n r126 x87).bind λ r128=>
   some (decide (r128<=BS .i64 3 p0_.Gap))
  | Sum.inr y108=>
   some y108
def DM (_:Nat) (x_17:Int) (out_52:(List Aa)):Option (((List Aa)×Int)⊕(List Aa)):=
 some (.inl (out_52,(Ai .i64 x_17 1)))
def DN (n:Nat) (p0_:Ae) (p1_:Int) (y_3:Int) (out_50:(List Aa)) (x_17:Int):Option (((List Aa)×Int)⊕(List Aa)):=
 if decide (BS .i64 2 (Ai .i64 x_17 2)<=p0_.W)=true then
  (NP n p0_ p1_ ({ X:=x_17,Y:=y_3 }:Aa)).bind λ r129=>
  if r129=true then
   (app 16 out_50 [({ X:=x_17,Y:=y_3 }:Aa)]).bind λ l38=>
   DM n x_17 l38
  else
   DM n x_17 out_50
 else
  some (.inr out_50)
def DO (n:Nat) (p0_:Ae) (p1_:Int) (out_48:(List Aa)) (y_3:Int):Option (((List Aa)×Int)⊕(List Aa)):=
 if decide (BS .i64 3 (Ai .i64 y_3 1)<=p0_.H)=true then
  (whl (λ (x:((List Aa)×Int))=>DN n p0_ p1_ y_3 x.1 x.2) n (out_48,0)).bind λ y109=>
  some (.inl (y109,(Ai .i64 y_3 1)))
 else
  some (.inr out_48)
def FL (n:Nat) (p0_:Ae) (p1_:Int):Option (List Aa):=
 (whl (λ (x:((List Aa)×Int))=>DO n p0_ p1_ x.1 x.2) n (([]:List Aa),0)).bind λ y110=>
 some y110
def CA (_:Nat) (n_4:Int):Option (Int⊕(Unit⊕(List Aa))):=
 some (.inl (Ai .i64 n_4 1))
def B4 (n:Nat) (p0_:Ae) (o0_:(List Aa)) (o1_:(List (List Aa))) (n_4:Int) (free_5:Bool) (k_19:Int):Option ((Bool×Int)⊕Bool):=
 if decide (k_19<((o0_.length:Nat):Int))=true then
  (if free_5=true then idx o1_ ((o0_.length:Nat):Int) else some default).bind λ x101=>
  (if free_5=true then idx x101 n_4 else some default).bind λ x102=>
  (if free_5=true then Cl n ((o0_.length:Nat):Int) x102 else some default).bind λ r138=>
  (if free_5=true then idx o0_ k_19 else some default).bind λ x103=>
  (if free_5=true then Cl n k_19 x103 else some default).bind λ r139=>
  (if free_5=true then Bz n r138 r139 else some default).bind λ r140=>
  some (.inl ((free_5&&(decide (r140>p0_.Gap))),(Ai .i64 k_19 1)))
 else
  some (.inr free_5)
def BI (n:Nat) (rec98k1_:(Ae->(List Aa)->(List (List Aa))->Option (List Aa))) (p0_:Ae) (o0_:(List Aa)) (o1_:(List (List Aa))) (n_4:Int):Option (Int⊕(Unit⊕(List Aa))):=
 (idx o1_ ((o0_.length:Nat):Int)).bind λ x100=>
 if decide (n_4<((x100.length:Nat):Int))=true then
  (whl (λ (x:(Bool×Int))=>B4 n p0_ o0_ o1_ n_4 x.1 x.2) n (true,0)).bind λ y119=>
  if (!y119)=true then
   CA n n_4
  else
   (app 16 ([]:List Aa) o0_).bind λ l43=>
   (idx o1_ ((o0_.length:Nat):Int)).bind λ x104=>
   (idx x104 n_4).bind λ x105=>
   (app 16 l43 [x105]).bind λ l44=>
   (rec98k1_ p0_ l44 o1_).bind λ r141=>
   if (((r141.length:Nat):Int)==((o1_.length:Nat):Int))=true then
    some (.inr (.inr r141))
   else
    CA n n_4
 else
  some (.inr (.inl ()))
def A4 (n:Nat) (rec98k1_:(Ae->(List Aa)->(List (List Aa))->Option (List Aa))) (p0_:Ae) (o0_:(List Aa)) (o1_:(List (List Aa))):Option (List Aa):=
 if (((o0_.length:Nat):Int)==((o1_.length:Nat):Int))=true then
  some o0_
 else
  (whl (λ (x:Int)=>BI n rec98k1_ p0_ o0_ o1_ x) n 0).bind λ y120=>
  match y120 with
  | Sum.inl _=>
   some ([]:List Aa)
  | Sum.inr y122=>
   some y122
def HI (n:Nat) (p0_:Ae) (o0_:(List Aa)) (o1_:(List (List Aa))):Option (List Aa):=
 JB (λ _ _ _=>none) (A4 n) n p0_ o0_ o1_
def Er (_:Nat) (n_5:Int):Option (Int⊕(Unit⊕(List Aa))):=
 some (.inl (Ai .i64 n_5 1))
def Es (n:Nat) (p0_:Ae) (o0_:(List (List Aa))) (n_5:Int) (free_7:Bool) (k_20:Int):Option ((Bool×Int)⊕Bool):=
 if decide (k_20<0)=true then
  (if free_7=true then idx o0_ 0 else some default).bind λ x107=>
  (if free_7=true then idx x107 n_5 else some default).bind λ x108=>
  (if free_7=true then Cl n 0 x108 else some default).bind λ r142=>
  (if free_7=true then idx ([]:List Aa) k_20 else some default).bind λ x109=>
  (if free_7=true then Cl n k_20 x109 else some default).bind λ r143=>
  (if free_7=true then Bz n r142 r143 else some default).bind λ r144=>
  some (.inl ((free_7&&(decide (r144>p0_.Gap))),(Ai .i64 k_20 1)))
 else
  some (.inr free_7)
def C2 (n:Nat) (p0_:Ae) (o0_:(List (List Aa))) (n_5:Int):Option (Int⊕(Unit⊕(List Aa))):=
 (idx o0_ 0).bind λ x106=>
 if decide (n_5<((x106.length:Nat):Int))=true then
  (whl (λ (x:(Bool×Int))=>Es n p0_ o0_ n_5 x.1 x.2) n (true,0)).bind λ y123=>
  if (!y123)=true then
   Er n n_5
  else
   (app 16 ([]:List Aa) ([]:List Aa)).bind λ l45=>
   (idx o0_ 0).bind λ x110=>
   (idx x110 n_5).bind λ x111=>
   (app 16 l45 [x111]).bind λ l46=>
   (HI n p0_ l46 o0_).bind λ r145=>
   if (((r145.length:Nat):Int)==((o0_.length:Nat):Int))=true then
    some (.inr (.inr r145))
   else
    Er n n_5
 else
  some (.inr (.inl ()))
def B5 (n:Nat) (_:(Ae->(List (List Aa))->Option (List Aa))) (p0_:Ae) (o0_:(List (List Aa))):Option (List Aa):=
 if (0==((o0_.length:Nat):Int))=true then
  some ([]:List Aa)
 else
  (whl (λ (x:Int)=>C2 n p0_ o0_ x) n 0).bind λ y124=>
  match y124 with
  | Sum.inl _=>
   some ([]:List Aa)
  | Sum.inr y126=>
   some y126
def GK (n:Nat) (p0_:Ae) (o0_:(List (List Aa))):Option (List Aa):=
 JB (λ _ _=>none) (B5 n) n p0_ o0_
def Fh (n:Nat) (p0_:Ae) (all_1:(List (List Aa))) (best_1:(List Aa)) (i_29:Int):Option (((List (List Aa))×(List Aa)×Int)⊕((List Aa)⊕IQ)):=
 if decide (i_29<((p0_.F.length:Nat):Int))=true then
  (FL n p0_ i_29).bind λ r146=>
  (app 24 all_1 [r146]).bind λ l47=>
  (GK n p0_ l47).bind λ r147=>
  if decide (((r147.length:Nat):Int)<=i_29)=true then
   some (.inr (.inr ({ L:=[],At:=i_29,E:=150 }:IQ)))
  else
   some (.inl (l47,r147,(Ai .i64 i_29 1)))
 else
  some (.inr (.inl best_1))
def LZ (n:Nat) (p0_:Ae):Option IQ:=
 (whl (λ (x:((List (List Aa))×(List Aa)×Int))=>Fh n p0_ x.1 x.2.1 x.2.2) n (([]:List (List Aa)),([]:List Aa),0)).bind λ y127=>
 match y127 with
 | Sum.inl y128=>
  some ({ L:=y128,At:=((y128.length:Nat):Int),E:=0 }:IQ)
 | Sum.inr y129=>
  some y129
def DT (n:Nat) (p0_:Ae):Option Bool:=
 (LY n p0_).bind λ r148=>
 if (r148.E != 0)=true then
  some false
 else
  (LZ n p0_).bind λ r149=>
  some (r149.E==0)
def Fi (_:Nat) (r150:(List UInt8)):Option Af:=
 some ({ Kind:=1,Level:=0,Text:=r150,Rows:=[],F:=[],Pic:=({ W:=0,H:=0,Gap:=0,F:=[] }:Ae),Page:=0 }:Af)
def Fj (n:Nat) (p0_:A7) (p1_:(List UInt8)) (_:Af) (i_30:Int) (row_3:(List (List UInt8))) (k_21:Int):Option (((List (List UInt8))×Int)⊕(List (List UInt8))):=
 if decide (k_21<Ai .i64 1 (IntKind.i64.wrap (Ah p0_.N 3)))=true then
  (sub p0_.T (if ((p0_.T.length:Nat):Int)<BS .i64 2 (Ai .i64 i_30 k_21) then ((p0_.T.length:Nat):Int) else BS .i64 2 (Ai .i64 i_30 k_21)) ((p0_.T.length:Nat):Int)).bind λ l48=>
  (H1 n l48 4 p1_).bind λ r151=>
  (app 16 row_3 [r151]).bind λ l49=>
  some (.inl (l49,(Ai .i64 k_21 1)))
 else
  some (.inr row_3)
def Fk (n:Nat) (p0_:A7) (p1_:(List UInt8)) (out_53:Af) (i_30:Int):Option ((Af×Int)⊕Af):=
 if decide (i_30<Ai .i64 1 (IntKind.i64.wrap (Ah (Dt .u8 p0_.N 4) 3)))=true then
  (whl (λ (x:((List (List UInt8))×Int))=>Fj n p0_ p1_ out_53 i_30 x.1 x.2) n (([]:List (List UInt8)),0)).bind λ y130=>
  (app 24 out_53.Rows [y130]).bind λ l50=>
  some (.inl (({ Kind:=out_53.Kind,Level:=out_53.Level,Text:=out_53.Text,Rows:=l50,F:=out_53.F,Pic:=out_53.Pic,Page:=out_53.Page }:Af),(Ai .i64 i_30 1)))
 else
  some (.inr out_53)
def Dw (n:Nat) (p0_:A7) (r150:(List UInt8)) (x_27:Bool):Option Af:=
 if x_27=true then
  some ({ Kind:=4,Level:=0,Text:=r150,Rows:=[],F:=[],Pic:=({ W:=0,H:=0,Gap:=0,F:=[] }:Ae),Page:=0 }:Af)
 else
  if ((Ah p0_.Kind 9)==5)=true then
   (KN n p0_.F).bind λ r152=>
   some ({ Kind:=5,Level:=0,Text:=[],Rows:=[],F:=r152,Pic:=({ W:=0,H:=0,Gap:=0,F:=[] }:Ae),Page:=0 }:Af)
  else
   if ((Ah p0_.Kind 9)==6)=true then
    (sub p0_.P.F 0 (if 2<((p0_.P.F.length:Nat):Int) then 2 else ((p0_.P.F.length:Nat):Int))).bind λ l51=>
    (KO n ({ W:=p0_.P.W,H:=p0_.P.H,Gap:=p0_.P.Gap,F:=l51 }:Bo)).bind λ r153=>
    (DT n r153).bind λ r154=>
    if r154=true then
     some ({ Kind:=6,Level:=0,Text:=[],Rows:=[],F:=[],Pic:=r153,Page:=0 }:Af)
    else
     Fi n r150
   else
    if ((Ah p0_.Kind 9)==7)=true then
     some ({ Kind:=7,Level:=0,Text:=[],Rows:=[],F:=[],Pic:=({ W:=0,H:=0,Gap:=0,F:=[] }:Ae),Page:=Ai .i64 1 (IntKind.i64.wrap p0_.N) }:Af)
    else
     Fi n r150
def L3 (n:Nat) (p0_:A7) (p1_:(List UInt8)):Option Af:=
 (H1 n p0_.T 12 p1_).bind λ r150=>
 if ((Ah p0_.Kind 9)==1)=true then
  some ({ Kind:=2,Level:=Ai .i64 1 (IntKind.i64.wrap (Ah p0_.N 3)),Text:=r150,Rows:=[],F:=[],Pic:=({ W:=0,H:=0,Gap:=0,F:=[] }:Ae),Page:=0 }:Af)
 else
  if ((Ah p0_.Kind 9)==2)=true then
   (whl (λ (x:(Af×Int))=>Fk n p0_ p1_ x.1 x.2) n (({ Kind:=3,Level:=0,Text:=[],Rows:=([]:List (List (List UInt8))),F:=([]:List Al),Pic:=({ W:=0,H:=0,Gap:=0,F:=([]:List Aw) }:Ae),Page:=0 }:Af),0)).bind λ y131=>
   some y131
  else
   if ((Ah p0_.Kind 9)==3)=true then
    Dw n p0_ r150 ((Ah p0_.Kind 9)==3)
   else
    Dw n p0_ r150 ((Ah p0_.Kind 9)==4)
def J4 (_:Nat) (p0_:Ae):Option Bool:=
 some ((((p0_.W==0)&&(p0_.H==0))&&(p0_.Gap==0))&&(((p0_.F.length:Nat):Int)==0))
def HJ (_:Nat) (p0_:Int):Option Bool:=
 some ((decide (D6 .u8 p0_ 127>=32))&&(decide (D6 .u8 p0_ 127<=126)))
end Go.AI
end
section
namespace Go.AI
def Hl (n:Nat) (p0_:(List UInt8)) (i_31:Int):Option (Int⊕(Unit⊕(Int×Int))):=
 if decide (i_31<((p0_.length:Nat):Int))=true then
  (IN p0_ i_31).bind λ b6=>
  (HJ n b6).bind λ r155=>
  if (!r155)=true then
   some (.inr (.inr (i_31,60)))
  else
   some (.inl (Ai .i64 i_31 1))
 else
  some (.inr (.inl ()))
def MS (n:Nat) (p0_:(List UInt8)):Option (Int×Int):=
 (whl (λ (x:Int)=>Hl n p0_ x) n 0).bind λ y132=>
 match y132 with
 | Sum.inl _=>
  some (((p0_.length:Nat):Int),0)
 | Sum.inr y134=>
  some y134
def IU (n:Nat) (p0_:(List UInt8)):Option Bool:=
 (MS n p0_).bind λ r156=>
 some (r156.2==0)
def Gq (_:Nat) (p0_:Int):Option Bool:=
 some ((D6 .u8 p0_ 127)==32)
def IV (n:Nat) (p0_:(List UInt8)) (i_32:Int):Option (Int⊕(Unit⊕Bool)):=
 if decide (i_32<((p0_.length:Nat):Int))=true then
  (IN p0_ i_32).bind λ b9=>
  (Gq n b9).bind λ r160=>
  (if r160=true then IN p0_ (AT .i64 i_32 1) else some default).bind λ b10=>
  (if r160=true then Gq n b10 else some default).bind λ r161=>
  if (r160&&r161)=true then
   some (.inr (.inr false))
  else
   some (.inl (Ai .i64 i_32 1))
 else
  some (.inr (.inl ()))
def E6 (n:Nat) (p0_:(List UInt8)):Option Bool:=
 (IU n p0_).bind λ r157=>
 (if (!(((!r157)||(((p0_.length:Nat):Int)==0))||(decide (((p0_.length:Nat):Int)>400))))=true then IN p0_ 0 else some default).bind λ b7=>
 (if (!(((!r157)||(((p0_.length:Nat):Int)==0))||(decide (((p0_.length:Nat):Int)>400))))=true then Gq n b7 else some default).bind λ r158=>
 (if (!((((!r157)||(((p0_.length:Nat):Int)==0))||(decide (((p0_.length:Nat):Int)>400)))||r158))=true then IN p0_ (AT .i64 ((p0_.length:Nat):Int) 1) else some default).bind λ b8=>
 (if (!((((!r157)||(((p0_.length:Nat):Int)==0))||(decide (((p0_.length:Nat):Int)>400)))||r158))=true then Gq n b8 else some default).bind λ r159=>
 if (((((!r157)||(((p0_.length:Nat):Int)==0))||(decide (((p0_.length:Nat):Int)>400)))||r158)||r159)=true then
  some false
 else
  (whl (λ (x:Int)=>IV n p0_ x) n 1).bind λ y135=>
  match y135 with
  | Sum.inl _=>
   some true
  | Sum.inr y137=>
   some y137
def DC (n:Nat) (p0_:(List (List (List UInt8)))) (i_33:Int) (k_22:Int):Option (Int⊕(Unit⊕Bool)):=
 (idx p0_ i_33).bind λ x116=>
 if decide (k_22<((x116.length:Nat):Int))=true then
  (idx p0_ i_33).bind λ x117=>
  (idx x117 k_22).bind λ x118=>
  (E6 n x118).bind λ r162=>
  (if (!(!r162))=true then idx p0_ i_33 else some default).bind λ x119=>
  (if (!(!r162))=true then idx x119 k_22 else some default).bind λ x120=>
  if ((!r162)||(decide (((x120.length:Nat):Int)>40)))=true then
   some (.inr (.inr false))
  else
   some (.inl (Ai .i64 k_22 1))
 else
  some (.inr (.inl ()))
def DD (n:Nat) (p0_:(List (List (List UInt8)))) (i_33:Int):Option (Int⊕(Unit⊕Bool)):=
 if decide (i_33<((p0_.length:Nat):Int))=true then
  (idx p0_ i_33).bind λ x112=>
  (idx p0_ 0).bind λ x113=>
  (if (!(((x112.length:Nat):Int) != ((x113.length:Nat):Int)))=true then idx p0_ i_33 else some default).bind λ x114=>
  (if (!((((x112.length:Nat):Int) != ((x113.length:Nat):Int))||(decide (((x114.length:Nat):Int)<1))))=true then idx p0_ i_33 else some default).bind λ x115=>
  if (((((x112.length:Nat):Int) != ((x113.length:Nat):Int))||(decide (((x114.length:Nat):Int)<1)))||(decide (((x115.length:Nat):Int)>4)))=true then
   some (.inr (.inr false))
  else
   (whl (λ (x:Int)=>DC n p0_ i_33 x) n 0).bind λ y138=>
   match y138 with
   | Sum.inl _=>
    some (.inl (Ai .i64 i_33 1))
   | Sum.inr y140=>
    some (.inr (.inr y140))
 else
  some (.inr (.inl ()))
def Et (n:Nat) (p0_:(List (List (List UInt8)))):Option Bool:=
 if ((decide (((p0_.length:Nat):Int)<1))||(decide (((p0_.length:Nat):Int)>6)))=true then
  some false
 else
  (whl (λ (x:Int)=>DD n p0_ x) n 0).bind λ y141=>
  match y141 with
  | Sum.inl _=>
   some true
  | Sum.inr y143=>
   some y143
def BZ (_:Nat) (text_1:Bool) (level_1:Bool) (rows_1:Bool) (tree_1:Bool) (picture_1:Bool) (page_1:Bool):Option Bool:=
 some (((((text_1&&level_1)&&rows_1)&&tree_1)&&picture_1)&&page_1)
def Fl (_:Nat) (p0_:(List Af)) (p1_:Int) (x121:Af) (_:Bool) (page_2:Bool) (k_23:Int):Option ((Bool×Int)⊕Bool):=
 if decide (k_23<p1_)=true then
  (if page_2=true then idx p0_ k_23 else some default).bind λ x124=>
  (if (page_2&&!(x124.Kind != 7))=true then idx p0_ k_23 else some default).bind λ x125=>
  some (.inl ((page_2&&((x124.Kind != 7)||(decide (x125.Page<x121.Page)))),(Ai .i64 k_23 1)))
 else
  some (.inr page_2)
def IW (n:Nat) (p0_:(List Af)) (p1_:Int):Option Bool:=
 (idx p0_ p1_).bind λ x121=>
 (J4 n x121.Pic).bind λ r163=>
 if (x121.Kind==1)=true then
  (E6 n x121.Text).bind λ r164=>
  BZ n r164 (x121.Level==0) (((x121.Rows.length:Nat):Int)==0) (((x121.F.length:Nat):Int)==0) r163 (x121.Page==0)
 else
  if (x121.Kind==2)=true then
   (E6 n x121.Text).bind λ r165=>
   BZ n r165 ((decide (x121.Level>=1))&&(decide (x121.Level<=3))) (((x121.Rows.length:Nat):Int)==0) (((x121.F.length:Nat):Int)==0) r163 (x121.Page==0)
  else
   if (x121.Kind==3)=true then
    (Et n x121.Rows).bind λ r166=>
    BZ n (x121.Text==[]) (x121.Level==0) r166 (((x121.F.length:Nat):Int)==0) r163 (x121.Page==0)
   else
    if (x121.Kind==4)=true then
     (E6 n x121.Text).bind λ r167=>
     (if (r167&&(decide (p1_>0)))=true then idx p0_ (AT .i64 p1_ 1) else some default).bind λ x122=>
     (if ((r167&&(decide (p1_>0)))&&!(x122.Kind==1))=true then idx p0_ (AT .i64 p1_ 1) else some default).bind λ x123=>
     BZ n ((r167&&(decide (p1_>0)))&&((x122.Kind==1)||(x123.Kind==4))) (x121.Level==0) (((x121.Rows.length:Nat):Int)==0) (((x121.F.length:Nat):Int)==0) r163 (x121.Page==0)
    else
     if (x121.Kind==5)=true then
      (EZ n x121.F).bind λ r168=>
      BZ n (x121.Text==[]) (x121.Level==0) (((x121.Rows.length:Nat):Int)==0) r168 r163 (x121.Page==0)
     else
      if (x121.Kind==6)=true then
       (DT n x121.Pic).bind λ r169=>
       BZ n (x121.Text==[]) (x121.Level==0) (((x121.Rows.length:Nat):Int)==0) (((x121.F.length:Nat):Int)==0) r169 (x121.Page==0)
      else
       if (x121.Kind==7)=true then
        (whl (λ (x:(Bool×Int))=>Fl n p0_ p1_ x121 r163 x.1 x.2) n (((decide (x121.Page>=1))&&(decide (x121.Page<=9999))),0)).bind λ y144=>
        BZ n (x121.Text==[]) (x121.Level==0) (((x121.Rows.length:Nat):Int)==0) (((x121.F.length:Nat):Int)==0) r163 y144
       else
        some false
def IX (_:Nat) (i_34:Int) (out_57:(List Af)):Option (((List Af)×Int)⊕(List Af)):=
 some (.inl (out_57,(Ai .i64 i_34 1)))
def Gh (n:Nat) (p0_:(List A7)) (p1_:Int) (p2_:(List UInt8)) (out_55:(List Af)) (i_34:Int):Option (((List Af)×Int)⊕(List Af)):=
 if ((decide (i_34<((p0_.length:Nat):Int)))&&(decide (i_34<p1_)))=true then
  (idx p0_ i_34).bind λ x126=>
  (L3 n x126 p2_).bind λ r170=>
  (app 136 out_55 [r170]).bind λ l52=>
  (IW n l52 (AT .i64 ((l52.length:Nat):Int) 1)).bind λ r171=>
  if (!r171)=true then
   (sub l52 0 (AT .i64 ((l52.length:Nat):Int) 1)).bind λ l53=>
   IX n i_34 l53
  else
   IX n i_34 l52
 else
  some (.inr out_55)
def NQ (n:Nat) (p0_:(List A7)) (p1_:Int) (p2_:(List UInt8)):Option (List Af):=
 (whl (λ (x:((List Af)×Int))=>Gh n p0_ p1_ p2_ x.1 x.2) n (([]:List Af),0)).bind λ y145=>
 some y145
def NR (n:Nat) (p0_:(List A7)):Option (List Af):=
 (NQ n p0_ 5 [97,98,99]).bind λ r172=>
 some r172
def Fy (_:Nat) (p0_:(List Af)) (p1_:Int):Option Bool:=
 (if ((decide (p1_>=0))&&(decide (p1_<((p0_.length:Nat):Int))))=true then idx p0_ p1_ else some default).bind λ x127=>
 (if (((decide (p1_>=0))&&(decide (p1_<((p0_.length:Nat):Int))))&&!(x127.Kind==1))=true then idx p0_ p1_ else some default).bind λ x128=>
 (if (((decide (p1_>=0))&&(decide (p1_<((p0_.length:Nat):Int))))&&!((x127.Kind==1)||(x128.Kind==2)))=true then idx p0_ p1_ else some default).bind λ x129=>
 some (((decide (p1_>=0))&&(decide (p1_<((p0_.length:Nat):Int))))&&(((x127.Kind==1)||(x128.Kind==2))||(x129.Kind==4)))
def IY (_:Nat) (i_35:Int) (l_3:(List Int)):Option (((List Int)×Int)⊕(List Int)):=
 some (.inl (l_3,(Ai .i64 i_35 1)))
def Gi (n:Nat) (p0_:(List Af)) (_:A0) (_:(List UInt8)) (l_1:(List Int)) (i_35:Int):Option (((List Int)×Int)⊕(List Int)):=
 if decide (i_35<((p0_.length:Nat):Int))=true then
  (Fy n p0_ i_35).bind λ r173=>
  if r173=true then
   (app 8 l_1 [i_35]).bind λ l54=>
   IY n i_35 l54
  else
   IY n i_35 l_1
 else
  some (.inr l_1)
def IZ (_:Nat) (c_4:Ac):Option Ac:=
 some c_4
def NS (n:Nat) (p0_:(List Af)) (p1_:A0) (p2_:(List UInt8)):Option Ac:=
 (whl (λ (x:((List Int)×Int))=>Gi n p0_ p1_ p2_ x.1 x.2) n (([]:List Int),0)).bind λ y146=>
 if (((y146.length:Nat):Int)==0)=true then
  some ({ Block:=IntKind.i64.wrap p1_.Block,At:=0,Cut:=0,Put:=[] }:Ac)
 else
  (BH (!(((y146.length:Nat):Int)==0))).bind λ _=>
  (idx y146 (Ah (IntKind.i64.wrap p1_.Block) ((y146.length:Nat):Int))).bind λ x130=>
  (idx p0_ x130).bind λ x131=>
  (BH (!((Ai .i64 ((x131.Text.length:Nat):Int) 1)==0))).bind λ _=>
  (BH (!((Ai .i64 (AT .i64 ((x131.Text.length:Nat):Int) (Ah (IntKind.i64.wrap p1_.At) (Ai .i64 ((x131.Text.length:Nat):Int) 1))) 1)==0))).bind λ _=>
  if decide (((p1_.Put.length:Nat):Int)>0)=true then
   (H1 n p1_.Put 4 p2_).bind λ r174=>
   IZ n ({ Block:=x130,At:=Ah (IntKind.i64.wrap p1_.At) (Ai .i64 ((x131.Text.length:Nat):Int) 1),Cut:=Ah (IntKind.i64.wrap (Ah p1_.Cut 4)) (Ai .i64 (AT .i64 ((x131.Text.length:Nat):Int) (Ah (IntKind.i64.wrap p1_.At) (Ai .i64 ((x131.Text.length:Nat):Int) 1))) 1),Put:=r174 }:Ac)
  else
   IZ n ({ Block:=x130,At:=Ah (IntKind.i64.wrap p1_.At) (Ai .i64 ((x131.Text.length:Nat):Int) 1),Cut:=Ah (IntKind.i64.wrap (Ah p1_.Cut 4)) (Ai .i64 (AT .i64 ((x131.Text.length:Nat):Int) (Ah (IntKind.i64.wrap p1_.At) (Ai .i64 ((x131.Text.length:Nat):Int) 1))) 1),Put:=[] }:Ac)
def KP (_:Nat) (p0_:(List UInt8)) (p1_:Ac):Option ((List UInt8)×Bool):=
 if ((((decide (p1_.At<0))||(decide (p1_.Cut<0)))||(decide (p1_.At>((p0_.length:Nat):Int))))||(decide (p1_.Cut>AT .i64 ((p0_.length:Nat):Int) p1_.At)))=true then
  some ([],false)
 else
  (sub p0_ 0 p1_.At).bind λ s10=>
  (cat s10 p1_.Put).bind λ s11=>
  (sub p0_ (Ai .i64 p1_.At p1_.Cut) ((p0_.length:Nat):Int)).bind λ s12=>
  (cat s11 s12).bind λ s13=>
  some (s13,true)
def I0 (n:Nat) (p0_:(List Af)) (p1_:Ac):Option ((List Af)×Int):=
 (Fy n p0_ p1_.Block).bind λ r175=>
 if (!r175)=true then
  some ([],320)
 else
  (idx p0_ p1_.Block).bind λ x132=>
  (KP n x132.Text p1_).bind λ r176=>
  (if (!(!r176.2))=true then E6 n r176.1 else some default).bind λ r177=>
  if ((!r176.2)||(!r177))=true then
   some ([],320)
  else
   (app 136 ([]:List Af) p0_).bind λ l55=>
   (idx l55 p1_.Block).bind λ x133=>
   (put l55 p1_.Block ({ Kind:=x133.Kind,Level:=x133.Level,Text:=r176.1,Rows:=x133.Rows,F:=x133.F,Pic:=x133.Pic,Page:=x133.Page }:Af)).bind λ l56=>
   some (l56,0)
def Fm (n:Nat) (p0_:(List Af)) (i_36:Int):Option (Int⊕(Unit⊕(Int×Int))):=
 if decide (i_36<((p0_.length:Nat):Int))=true then
  (IW n p0_ i_36).bind λ r178=>
  if (!r178)=true then
   some (.inr (.inr (i_36,170)))
  else
   some (.inl (Ai .i64 i_36 1))
 else
  some (.inr (.inl ()))
def L4 (n:Nat) (p0_:(List Af)):Option (Int×Int):=
 if decide (((p0_.length:Nat):Int)>100)=true then
  some ((-1),2)
 else
  (whl (λ (x:Int)=>Fm n p0_ x) n 0).bind λ y147=>
  match y147 with
  | Sum.inl _=>
   some (0,0)
  | Sum.inr y149=>
   some y149
def I1 (n:Nat) (p0_:(List Af)):Option Bool:=
 (L4 n p0_).bind λ r179=>
 some (r179.2==0)
noncomputable def Cm (n:Nat) (p2_:(YP Int)) (_:Bool) (r181:(List Af)) (r182:Ac) (i_37:Int):Option (Int⊕(Unit⊕Bool)):=
 if decide (i_37<2)=true then
  (idx [r182,({ Block:=Ai .i64 r182.Block (IntKind.i64.wrap (Ah p2_.a0 3)),At:=Ai .i64 r182.At (IntKind.i64.wrap (Ah p2_.a1 4)),Cut:=Ai .i64 r182.Cut (IntKind.i64.wrap (Ah p2_.a2 4)),Put:=r182.Put }:Ac)] i_37).bind λ x134=>
  (Gn n r181 x134).bind λ r183=>
  (idx [r182,({ Block:=Ai .i64 r182.Block (IntKind.i64.wrap (Ah p2_.a0 3)),At:=Ai .i64 r182.At (IntKind.i64.wrap (Ah p2_.a1 4)),Cut:=Ai .i64 r182.Cut (IntKind.i64.wrap (Ah p2_.a2 4)),Put:=r182.Put }:Ac)] i_37).bind λ x135=>
  (I0 n r181 x135).bind λ r184=>
  (EW n r183.1 r184.1).bind λ r185=>
  if ((!r185)||(r183.2 != r184.2))=true then
   some (.inr (.inr false))
  else
   (if (r183.2==0)=true then I1 n r183.1 else some default).bind λ r186=>
   if ((r183.2==0)&&((!r186)||(((r183.1.length:Nat):Int) != ((r181.length:Nat):Int))))=true then
    some (.inr (.inr false))
   else
    some (.inl (Ai .i64 i_37 1))
 else
  some (.inr (.inl ()))
noncomputable def Eu (n:Nat) (p0_:(List A7)) (p1_:A0) (p2_:(YP Int)):Option Bool:=
 (Hf n).bind λ r180=>
 (NR n p0_).bind λ r181=>
 (NS n r181 p1_ [97,98,99,32]).bind λ r182=>
 (whl (λ (x:Int)=>Cm n p2_ r180 r181 r182 x) n 0).bind λ y150=>
 match y150 with
 | Sum.inl _=>
  some r180
 | Sum.inr y152=>
  some y152
end Go.AI
end
section
namespace Go.AI
open Go.Proofs
set_option maxRecDepth 10000
theorem xok (n kl:Nat):XOK Tryz.prog (cxk n kl):=⟨tyOK,rfl⟩
theorem fO (k:Nat) (s:St) {fn:Func} {f:FuncId} {args:List AV} {r:AV} (hf:Tryz.prog.funcs[f]? = some fn) (h:WP (cxk k 0) (Ay fn) [] (UY (cxk k 0).ty fn.results.toList r) s) (hb:fn.body=some (Ay fn):=by kernel_rfl) (hnm:(fn.name == "runtime.NumGoroutine")=false:=by kernel_rfl) (hnt:(cxk k 0).nt.n=fn.ntmps:=by kernel_rfl) (hlen:Nat.ble args.length fn.ntmps=true:=by kernel_rfl) (hs:(⟨(List.range args.length).zip args,[]⟩:St)=s:=by kernel_rfl):Ap Tryz.prog f args r:=fo follows (JeX k 0) hf h hb hnm hnt hlen hs
theorem fL (k nb:Nat) (s:St) {fn:Func} {f:FuncId} {args:List AV} {O0 O1:List (Option Ob)} {r:AV} (hf:Tryz.prog.funcs[f]? = some fn) (h:WP (cxk k nb) (Ay fn) [] (UZ nb (cxk k nb).ty fn.results.toList r O1) s) (hb:fn.body=some (Ay fn):=by kernel_rfl) (hnm:(fn.name == "runtime.NumGoroutine")=false:=by kernel_rfl) (hnt:(cxk k nb).nt=⟨fn.ntmps,[],nb,qfT⟩:=by kernel_rfl) (hlen:Nat.ble args.length fn.ntmps=true:=by kernel_rfl) (hs:(⟨(List.range args.length).zip args,O0⟩:St)=s:=by kernel_rfl):BR Tryz.prog f args O0 nb r O1:=fl follows (JeX k nb) hf h hb hnm hnt hlen hs
theorem yok (n kl:Nat):YOK Tryz.prog (cxk n kl):=⟨rfl⟩
variable {n:Nat}
def Ak (x:Ac):List D:=[.int .i64 x.Block,.int .i64 x.At,.int .i64 x.Cut,.str x.Put]
def AC (x:Al):List D:=[.int .i64 x.Op,.int .i64 x.N]
def Ab (x:Aa):List D:=[.int .i64 x.X,.int .i64 x.Y]
def As (x:Aw):List D:=[.int .i64 x.Kind,.int .i64 x.Texture,.sl (x.P.map Ab)]
def Au (x:Af):List D:=[.int .i64 x.Kind,.int .i64 x.Level,.str x.Text,.sl (x.Rows.map (eL eS)),.sl (x.F.map AC),.int .i64 x.Pic.W,.int .i64 x.Pic.H,.int .i64 x.Pic.Gap,.sl (x.Pic.F.map As),.int .i64 x.Page]
def CJ (x:AZ):List D:=[.int .i64 x.Reader,.int .i64 x.C.Block,.int .i64 x.C.At,.int .i64 x.C.Cut,.str x.C.Put]
@[reducible] def Bg {α:Type} (e:α->List D) (x:Cu α):List D:=e x.a0++e x.a1
def JjN (x:QL):List D:=[.int .u8 x.Kind,.int .u8 x.N,.sl (x.L.map (Bg eU8))]
@[reducible] def Je {α:Type} (e:α->List D) (x:Vd α):List D:=e x.a0++e x.a1++e x.a2++e x.a3++e x.a4++e x.a5
def NT (x:Bo):List D:=[.int .u8 x.W,.int .u8 x.H,.int .u8 x.Gap,.sl (x.F.map (Je eU8))]
def BJ (x:A7):List D:=[.int .u8 x.Kind,.int .u8 x.N,.sl (x.T.map eU8),.int .u8 x.F.Kind,.int .u8 x.F.N,.sl (x.F.L.map (Bg eU8)),.int .u8 x.P.W,.int .u8 x.P.H,.int .u8 x.P.Gap,.sl (x.P.F.map (Je eU8))]
def NU (x:A0):List D:=[.int .u8 x.Block,.int .u8 x.At,.int .u8 x.Cut,.sl (x.Put.map eU8)]
@[reducible] def JjO {α:Type} (e:α->List D) (x:YP α):List D:=e x.a0++e x.a1++e x.a2
def Cn (x:Ac):List AV:=[.d (.int .i64 x.Block),.d (.int .i64 x.At),.d (.int .i64 x.Cut),.d (.str x.Put)]
def Tr (x:Af):List AV:=[.d (.int .i64 x.Kind),.d (.int .i64 x.Level),.d (.str x.Text),.d (.sl (x.Rows.map (eL eS))),.d (.sl (x.F.map AC)),.d (.int .i64 x.Pic.W),.d (.int .i64 x.Pic.H),.d (.int .i64 x.Pic.Gap),.d (.sl (x.Pic.F.map As)),.d (.int .i64 x.Page)]
def AF (x:Ae):List AV:=[.d (.int .i64 x.W),.d (.int .i64 x.H),.d (.int .i64 x.Gap),.d (.sl (x.F.map As))]
def Dx (x:Aw):List AV:=[.d (.int .i64 x.Kind),.d (.int .i64 x.Texture),.d (.sl (x.P.map Ab))]
def YQ (x:QL):List AV:=[.d (.int .u8 x.Kind),.d (.int .u8 x.N),.d (.sl (x.L.map (Bg eU8)))]
def Jf (x:Bo):List AV:=[.d (.int .u8 x.W),.d (.int .u8 x.H),.d (.int .u8 x.Gap),.d (.sl (x.F.map (Je eU8)))]
def L5 (x:Ae) (v3:AV):List AV:=[.d (.int .i64 x.W),.d (.int .i64 x.H),.d (.int .i64 x.Gap),v3]
def H4 (x:A7):List AV:=[.d (.int .u8 x.Kind),.d (.int .u8 x.N),.d (.sl (x.T.map eU8)),.d (.int .u8 x.F.Kind),.d (.int .u8 x.F.N),.d (.sl (x.F.L.map (Bg eU8))),.d (.int .u8 x.P.W),.d (.int .u8 x.P.H),.d (.int .u8 x.P.Gap),.d (.sl (x.P.F.map (Je eU8)))]
def Gj (x:Af) (v3:AV) (v4:AV) (v8:AV):List AV:=[.d (.int .i64 x.Kind),.d (.int .i64 x.Level),.d (.str x.Text),v3,v4,.d (.int .i64 x.Pic.W),.d (.int .i64 x.Pic.H),.d (.int .i64 x.Pic.Gap),v8,.d (.int .i64 x.Page)]
def CO (x:A0):List AV:=[.d (.int .u8 x.Block),.d (.int .u8 x.At),.d (.int .u8 x.Cut),.d (.sl (x.Put.map eU8))]
section
variable (p0_:Int) (p1_:Int) (p2_:(List UInt8))
def JfO:St:=⟨(0,.d (.int .i64 p0_))::(1,.d (.int .i64 p1_))::(2,.d (.str p2_))::[],[]⟩
variable {p0_ p1_ p2_}
theorem AA {z} (H:AK n p0_ p1_ p2_=some z):Ap Tryz.prog 27 [.d (.int .i64 p0_),.d (.int .i64 p1_),.d (.str p2_)] (.agg [.d (.int .i64 z.Block),.d (.int .i64 z.At),.d (.int .i64 z.Cut),.d (.str z.Put)]):=by
 exact fO 11 (JfO p0_ p1_ p2_) Tryz.func27 (sr (ck 1 (en (sr (ck 5 (en (re (by cases H;exact pr rd))))))))
end
section
variable (p0_:Int)
def JfP:St:=⟨(0,.d (.int .u8 p0_))::[],[]⟩
variable {p0_}
theorem L6 {z} (H:FK n p0_=some z):Ap Tryz.prog 67 [.d (.int .u8 p0_)] (.d (.bool z)):=by
 exact fO 12 (JfP p0_) Tryz.func67 (sr (ck 1 (en (sr (ck 3 (en (sr (ck 4 (gc 1 (decide (32<=D6 .u8 p0_ 127)) (pA (ck 1 (en (re (by cases H;exact pr rd))))))))))))))
end
section
variable (p0_:(List UInt8)) (x_1:Int)
def JfQ:St:=⟨(0,.d (.str p0_))::[],[]⟩
def JfR:St:=⟨(0,.d (.str p0_))::(6,.d (.int .i64 ((p0_.length:Nat):Int)))::(7,.d (.int .i64 x_1))::[],[]⟩
def JfS:St:=⟨(0,.d (.str p0_))::[],[]⟩
def RQ:(Unit⊕(Int×Int))->Ex->St->Prop:=xS (xX 0 0 (λ (y:Unit)=>JfS p0_)) (xR ty Tryz.f46 (λ (y:(Int×Int))=>.tup [.d (.int .i64 y.1),.d (.int .i64 y.2)]))
def Lu:Int->St:=(λ (x:Int)=>JfR p0_ x)
variable {p0_ x_1}
theorem J5 (x:Int) (z:(Int⊕(Unit⊕(Int×Int)))) (H:Hb n p0_ x=some z):WP (cxk 19 0) (Ay Tryz.f46) [1,0,1,0,0] (Ax 0 (Lu p0_) (RQ p0_) z) (Lu p0_ x):=by
 revert H
 generalize x=x_1
 intro H
 refine sr (ck 1 (en (sq (cn H (λ H=>?_) (λ H=>?_)))))
 ·refine sk (qz (sq (bk 1 (sr (ck 2 (en (sr (ck 2 (bx H λ b1 h1 H=>sp (FY h1) (bx H λ r1 h2 H=>ca false (L6 h2) (ck 1 (en (cn H (λ H=>?_) (λ H=>?_))))))))))))))
  ·exact sr (ck 3 (en (re (qR (qr (by cases H;exact ro rfl rdT))))))
  ·exact sk (qN (qz (rz (ck 2 (ae (by cases H;exact og (sg [0,6,7])))))))
 ·exact ex 0 (qx (by cases H;exact xo rfl (sg [0])))
theorem Ve {z} (H:MP n p0_=some z):Ap Tryz.prog 46 [.d (.str p0_)] (.tup [.d (.int .i64 z.1),.d (.int .i64 z.2)]):=by
 refine fO 19 (JfQ p0_) Tryz.func46 (sr (ck 2 (en (sq (sr (ck 3 (en (bk 0 (bx H λ y1 h3 H=>?_)))))))))
 rcases y1 with y2|y3
 ·exact lX J5 h3 (sg [0,6,7]) rfl λ s hE1=>qH (qs (hE1) (sr (ck 4 (en (re (by cases H;exact pr rdT))))))
 ·exact lR J5 h3 (sg [0,6,7]) rfl λ s hE2=>qR (qr (by cases H;exact pr hE2))
end
section
variable (p0_:Int)
def JfT:St:=⟨(0,.d (.int .u8 p0_))::[],[]⟩
variable {p0_}
theorem Ts {z} (H:KL n p0_=some z):Ap Tryz.prog 47 [.d (.int .u8 p0_)] (.d (.int .i64 z)):=by
 refine fO 30 (JfT p0_) Tryz.func47 (sr (ck 1 (en (sr (ck 3 (en (sq (bk 0 (sr (ck 4 (gc 1 (decide (97<=D6 .u8 p0_ 127)) (pA (ck 1 (en (cn H (λ H=>?_) (λ H=>?_))))))))))))))))
 ·exact sr (ck 1 (en (re (qR (qr (by cases H;exact pr rd))))))
 ·refine sr (ck 4 (gc 1 (decide (65<=D6 .u8 p0_ 127)) (pA (ck 1 (en (cn H (λ H=>?_) (λ H=>?_)))))))
  ·exact sr (ck 1 (en (re (qR (qr (by cases H;exact pr rd))))))
  ·refine sr (ck 4 (gc 1 (decide (48<=D6 .u8 p0_ 127)) (pA (ck 1 (en (cn H (λ H=>?_) (λ H=>?_)))))))
   ·exact sr (ck 1 (en (re (qR (qr (by cases H;exact pr rd))))))
   ·refine sr (ck 3 (en (cn H (λ H=>?_) (λ H=>?_))))
    ·exact sr (ck 1 (en (re (qR (qr (by cases H;exact pr rd))))))
    ·exact sk (qN (qz (sr (ck 1 (en (re (by cases H;exact pr rd)))))))
end
section
variable (p0_:(List UInt8)) (last_1:Int) (x_2:Int) (last_2:Int)
def JfU:St:=⟨(0,.d (.str p0_))::[],[]⟩
def JfV:St:=⟨(0,.d (.str p0_))::(5,.d (.int .i64 last_1))::(24,.d (.int .i64 ((p0_.length:Nat):Int)))::(25,.d (.int .i64 x_2))::[],[]⟩
def JfW:St:=⟨(5,.d (.int .i64 last_2))::[],[]⟩
def QN:(Int⊕Bool)->Ex->St->Prop:=xS (xX 0 0 (λ (y:Int)=>JfW y)) (xR ty Tryz.f31 (λ (y:Bool)=>.d (.bool y)))
def J6:(Int×Int)->St:=(λ (x:(Int×Int))=>JfV p0_ x.1 x.2)
variable {p0_ last_1 x_2 last_2}
theorem Jg (x:(Int×Int)) (z:((Int×Int)⊕(Int⊕Bool))) (H:FZ n p0_ x.1 x.2=some z):WP (cxk 46 0) (Ay Tryz.f31) [1,1,1,1,0,1,0,0] (Ax 0 (J6 p0_) (QN) z) (J6 p0_ x):=by
 obtain ⟨last_1,x_2⟩:=x
 refine sr (ck 1 (en (sq (cn H (λ H=>?_) (λ H=>?_)))))
 ·refine sk (qz (sq (bk 1 (sr (ck 2 (en (sr (ck 2 (bx H λ b2 h5 H=>sp (FY h5) (bx H λ r3 h6 H=>ca false (Ts h6) (ck 1 (en (sq (sr (ck 4 (gc 2 (r3==4) (ck 1 (gc 1 ((r3==4)&&!(last_1==0)) (pG (g:=(r3==4)) (v:=.d (.bool ((last_1==0)||(last_1==4)))) (λ hg=>De (c:=.gv (r3==4) (.d (.bool (last_1==0)))) (a:=.d (.bool true)) (b:=.gv ((r3==4)&&!(last_1==0)) (.d (.bool (last_1==4)))) rfl rfl rfl ((λ hh=>hh) hg) trivial (λ ht=>by rw [(λ hh=>hh) hg,ht];rfl)) (pA (en (cn H (λ H=>?_) (λ H=>?_)))))))))))))))))))))))
  ·exact sr (ck 1 (en (re (qr (qR (qr (by cases H;exact ro rfl rd)))))))
  ·exact sk (qz (rz (ck 2 (ae (qN (qz (rz (ck 2 (ae (by cases H;exact og (sg [0,5,24,25])))))))))))
 ·exact ex 0 (qx (by cases H;exact xo rfl (sg [5])))
theorem Tt {z} (H:HY n p0_=some z):Ap Tryz.prog 31 [.d (.str p0_)] (.d (.bool z)):=by
 refine fO 46 (JfU p0_) Tryz.func31 (sr (ck 1 (en (sq (sr (ck 5 (gc 2 (!(decide (((p0_.length:Nat):Int)<1))) (pO (en (cn H (λ H=>?_) (λ H=>?_)))))))))))
 ·exact sr (ck 1 (en (re (qr (by cases H;exact pr rd)))))
 ·refine sk (qz (sq (sr (ck 1 (bx H λ r2 h4 H=>ca false (Ve h4) (ck 5 (en (sr (ck 2 (en (cn H (λ H=>?_) (λ H=>?_))))))))))))
  ·exact sr (ck 1 (en (re (qr (by cases H;exact pr rd)))))
  ·refine sk (qz (sr (ck 1 (en (sq (sr (ck 3 (en (bk 0 (bx H λ y4 h7 H=>?_))))))))))
   rcases y4 with y5|y6
   ·exact lX Jg h7 (sg [0,5,24,25]) rfl λ s hE3=>qH (qs (hE3) (sr (ck 3 (en (re (by cases H;exact pr rd))))))
   ·exact lR Jg h7 (sg [0,5,24,25]) rfl λ s hE4=>qR (qr (by cases H;exact pr hE4))
end
section
variable (p0_:(List Af))
def JfX:St:=⟨(0,.d (.sl (p0_.map Au)))::[],[]⟩
variable {p0_}
theorem RR {z} (H:Gx n p0_=some z):Ap Tryz.prog 32 [.d (.sl (p0_.map Au))] (.own 10 (z.map Au)):=by
 refine fO 8 (JfX p0_) Tryz.func32 (sr (ck 1 (en (sq (sq (rn 1 (.refl _) (ck 1 ?_)))))))
 have hD:=Jav H
 refine nd0 (nl (yok _ _) (xok _ _) (xs:=p0_) (enc:=Au) (λ b3 h8=>?_))
 have H:=hD b3 h8
 refine en (cn H (λ H=>?_) (λ H=>?_))
 ·exact sr (ck 1 (en (re (qr (by cases H;exact pr (rO (v:=.d (.nil)) [] (ad vz)))))))
 ·exact sk (qz (sr (ck 2 (bx H λ l1 h9 H=>sp (Tl Au 0 10 h9) (ck 1 (en (re (by cases H;exact pr (rO (v:=.osl 1 10 0 (z.length)) [1] (ao vo))))))))))
end
section
variable (p0_:(List Af)) (p1_:Ac) (x1:Af) (x_3:Bool)
def JfY:St:=⟨(0,.d (.sl (p0_.map Au)))::(1,.agg [.d (.int .i64 p1_.Block),.d (.int .i64 p1_.At),.d (.int .i64 p1_.Cut),.d (.str p1_.Put)])::[],[]⟩
def JfZ:St:=⟨(0,.d (.sl (p0_.map Au)))::(3,.ptr 0 0)::(6,.ptr 1 0)::(26,.d (.bool x_3))::[],[some (.box (Cn p1_)),some (.box (Tr x1))]⟩
variable {p0_ p1_ x1 x_3}
theorem I2 {z} (H:Gn n p0_ p1_=some z):Ap Tryz.prog 11 [.d (.sl (p0_.map Au)),.agg (Cn p1_)] (.tup [.own 10 (z.1.map Au),.d (.int .i64 z.2)]):=by
 refine fO 86 (JfY p0_ p1_) Tryz.func11 (sr (ck 3 (en (sq (sr (ck 5 (gc 1 (!(decide (p1_.Block<0))) (ck 1 (sE (g:=(!(decide (p1_.Block<0)))) (λ hg=>Av Au p0_) (gc 1 (!(decide (p1_.Block<0))) (pO (en (cn H (λ H=>?_) (λ H=>?_))))))))))))))
 ·exact sr (ck 2 (en (re (qr (by cases H;exact pr (rT (vs:=[.d (.nil),.d (.int .i64 320)]) [] (t1 (ad vz) (t1 (ad vd) (t0)))))))))
 ·refine sk (qz (sr (ck 3 (bx H λ x1 h10 H=>sp (Am Au h10) (ck 3 (en (sq (sr (ck 2 (en (bk 0 (sj (λ (x:Bool)=>JfZ p0_ p1_ x1 x) (λ (x:Bool)=>Df n p0_ p1_ x1 x) z ?_ (λ hFCa_Apply_J1=>?_)))))))))))))
  ·intro x_3 H
   refine cn H (λ H=>?_) (λ H=>?_)
   ·refine sk (qN (qz (sr (ck 4 (en (sq (sr (ck 5 (gc 2 (!(decide (p1_.At<0))) (pO (ck 2 (gc 1 (!((decide (p1_.At<0))||(decide (p1_.Cut<0)))) (ck 1 (gc 1 (!((decide (p1_.At<0))||(decide (p1_.Cut<0)))) (pO (ck 2 (gc 1 (!(((decide (p1_.At<0))||(decide (p1_.Cut<0)))||(decide (p1_.At>((x1.Text.length:Nat):Int))))) (ck 2 (gc 3 (!(((decide (p1_.At<0))||(decide (p1_.Cut<0)))||(decide (p1_.At>((x1.Text.length:Nat):Int))))) (pO (en (cn H (λ H=>?_) (λ H=>?_)))))))))))))))))))))))
    ·exact sr (ck 2 (en (re (qr (by cases H;exact pr (rT (vs:=[.d (.nil),.d (.int .i64 320)]) [] (t1 (ad vz) (t1 (ad vd) (t0)))))))))
    ·refine sk (qz (sr (ck 4 (bx H λ s1 h11 H=>sp (IP h11) (ck 2 (bx H λ s2 h12 H=>sp (NH h12) (ck 7 (bx H λ s3 h13 H=>sp (IP h13) (bx H λ s4 h14 H=>sp (NH h14) (ck 2 (en (sq (sr (ck 2 (bx H λ r4 h15 H=>ca false (Tt h15) (ck 1 (en (cn H (λ H=>?_) (λ H=>?_)))))))))))))))))))
     ·exact sr (ck 2 (en (re (qr (by cases H;exact pr (rT (vs:=[.d (.nil),.d (.int .i64 320)]) [] (t1 (ad vz) (t1 (ad vd) (t0)))))))))
     ·exact sk (qz (sr (ck 1 (bx H λ r5 h16 H=>cl [List.length r5] (RR h16) (ck 1 (en (sr (ck 4 (bx H λ x2 h17 H=>sp (Bi 2 10 h17) (bx H λ l2 h18 H=>stA Au 2 0 (ty 67) h17 h18 (en (sq (rg (tr (tr (sn 79 2 10 (CG h18)) (sn 8 2 10 (CG h18))) (sn 80 2 10 (CG h18))) (ck 3 (en (re (by cases H;exact pr (rT (vs:=[.osl 2 10 0 (l2.length),.d (.int .i64 0)]) [2] (t1 (ao vo) (t1 (ad vd) (t0)))))))))))))))))))))
   ·exact sr (ck 2 (en (re (qR (qr (by cases H;exact pr (rT (vs:=[.d (.nil),.d (.int .i64 320)]) [] (t1 (ad vz) (t1 (ad vd) (t0))))))))))
  refine sr (ck 2 (en (cn H (λ H=>?_) (λ H=>?_))))
  ·exact sk (qs (sg [0,3,6,26]) (hFCa_Apply_J1 (x1.Kind==1) H))
  ·refine sr (ck 2 (en (cn H (λ H=>?_) (λ H=>?_))))
   ·exact sk (qs (sg [0,3,6,26]) (hFCa_Apply_J1 (x1.Kind==2) H))
   ·exact rz (ck 2 (ae (qs (sg [0,3,6,26]) (hFCa_Apply_J1 (x1.Kind==4) H))))
end
section
variable (p0_:Ac) (p1_:Ac)
def Jf0:St:=⟨(0,.agg [.d (.int .i64 p0_.Block),.d (.int .i64 p0_.At),.d (.int .i64 p0_.Cut),.d (.str p0_.Put)])::(1,.agg [.d (.int .i64 p1_.Block),.d (.int .i64 p1_.At),.d (.int .i64 p1_.Cut),.d (.str p1_.Put)])::[],[]⟩
variable {p0_ p1_}
theorem HK {z} (H:EU n p0_ p1_=some z):Ap Tryz.prog 37 [.agg (Cn p0_),.agg (Cn p1_)] (.d (.bool z)):=by
 exact fO 20 (Jf0 p0_ p1_) Tryz.func37 (sr (ck 3 (en (sr (ck 7 (gc 1 (p0_.Block==p1_.Block) (ck 1 (gc 1 (p0_.Block==p1_.Block) (ck 1 (gc 3 (p0_.Block==p1_.Block) (pA (ck 1 (en (re (by cases H;exact pr rd)))))))))))))))
end
section
variable (p0_:Ac) (p1_:Ac)
def Jf1:St:=⟨(0,.agg [.d (.int .i64 p0_.Block),.d (.int .i64 p0_.At),.d (.int .i64 p0_.Cut),.d (.str p0_.Put)])::(1,.agg [.d (.int .i64 p1_.Block),.d (.int .i64 p1_.At),.d (.int .i64 p1_.Cut),.d (.str p1_.Put)])::[],[]⟩
variable {p0_ p1_}
theorem O4 {z} (H:JU n p0_ p1_=some z):Ap Tryz.prog 36 [.agg (Cn p0_),.agg (Cn p1_)] (.d (.bool z)):=by
 exact fO 19 (Jf1 p0_ p1_) Tryz.func36 (sr (ck 3 (en (sr (ck 8 (bx H λ r6 h19 H=>cG false (leZ) rfl (λ hg=>HK (Bc h19 hg)) (Or.inl rfl) (Ca (λ hh=>hh) (Ca (λ hh=>hh) (Dd))) rfl (ck 2 (bx H λ r7 h20 H=>cG false (leZ) rfl (λ hg=>HK (Bc h20 hg)) (Or.inl rfl) (Ca (λ hh=>hh) (Ca (λ hh=>hh) (Dd))) rfl (gc 1 (!(p0_.Block != p1_.Block)) (pO (ck 1 (en (re (by cases H;exact pr rd))))))))))))))
end
section
variable (p0_:Ac) (p1_:Ac) (c_1:Ac)
def Jf2:St:=⟨(0,.agg [.d (.int .i64 p0_.Block),.d (.int .i64 p0_.At),.d (.int .i64 p0_.Cut),.d (.str p0_.Put)])::(1,.agg [.d (.int .i64 p1_.Block),.d (.int .i64 p1_.At),.d (.int .i64 p1_.Cut),.d (.str p1_.Put)])::[],[]⟩
def Jf3:St:=⟨(2,.ptr 0 0)::(4,.ptr 1 0)::[],[some (.box (Cn c_1)),some (.box [.d (.int .i64 0),.d (.int .i64 0),.d (.int .i64 0),.d (.str [])])]⟩
variable {p0_ p1_ c_1}
theorem DU {z} (H:Du n p0_ p1_=some z):Ap Tryz.prog 15 [.agg (Cn p0_),.agg (Cn p1_)] (.tup [.agg [.d (.int .i64 z.1.Block),.d (.int .i64 z.1.At),.d (.int .i64 z.1.Cut),.d (.str z.1.Put)],.d (.bool z.2)]):=by
 refine fO 25 (Jf2 p0_ p1_) Tryz.func15 (sr (ck 4 (en (sq (sr (ck 2 (bx H λ r8 h21 H=>ca false (O4 h21) (ck 1 (en (cn H (λ H=>?_) (λ H=>?_)))))))))))
 ·exact sr (ck 3 (en (re (qr (by cases H;exact pr rdT)))))
 ·refine sk (qz (sj (λ (x:Ac)=>Jf3 x) (λ (x:Ac)=>JV n x) z ?_ (λ hFCa_Over_J1=>?_)))
  ·intro c_1 H
   exact sr (ck 3 (en (re (by cases H;exact pr rdT))))
  refine sr (ck 2 (bx H λ r9 h22 H=>ca false (HK h22) (en (cn H (λ H=>?_) (λ H=>?_)))))
  ·exact rz (ck 11 (ae (qs (sg [2,4]) (hFCa_Over_J1 ({ Block:=p0_.Block,At:=Ai .i64 p0_.At (AT .i64 ((p1_.Put.length:Nat):Int) p1_.Cut),Cut:=p0_.Cut,Put:=p0_.Put }:Ac) H))))
  ·exact sk (qs (sg [2,4]) (hFCa_Over_J1 p0_ H))
end
section
variable (p0_:Int)
def Jf4:St:=⟨(0,.d (.int .i64 p0_))::[],[]⟩
variable {p0_}
theorem Hm {z} (H:D9 n p0_=some z):Ap Tryz.prog 79 [.d (.int .i64 p0_)] (.d (.bool z)):=by
 exact fO 6 (Jf4 p0_) Tryz.func79 (sr (ck 1 (en (sr (ck 4 (en (re (by cases H;exact pr rd))))))))
end
section
variable (p0_:Int) (p1_:Int)
def Jf5:St:=⟨(0,.d (.int .i64 p0_))::(1,.d (.int .i64 p1_))::[],[]⟩
variable {p0_ p1_}
theorem Dq {z} (H:B1 n p0_ p1_=some z):Ap Tryz.prog 56 [.d (.int .i64 p0_),.d (.int .i64 p1_)] (.d (.int .i64 z)):=by
 refine fO 20 (Jf5 p0_ p1_) Tryz.func56 (sr (ck 1 (en (sr (ck 1 (bx H λ r10 h23 H=>ca false (Hm h23) (ck 1 (en (sr (ck 1 (bx H λ r11 h24 H=>ca false (Hm h24) (ck 1 (en (sq (sr (ck 1 (en (cn H (λ H=>?_) (λ H=>?_)))))))))))))))))))
 ·refine sq (sr (ck 1 (en (cn H (λ H=>?_) (λ H=>?_)))))
  ·exact sr (ck 1 (en (re (qr (qr (by cases H;exact pr rd))))))
  ·exact sk (qz (sr (ck 1 (en (re (qr (by cases H;exact pr rd)))))))
 ·refine sk (qz (sq (sr (ck 1 (en (cn H (λ H=>?_) (λ H=>?_)))))))
  ·exact sr (ck 1 (en (re (qr (by cases H;exact pr rd)))))
  ·refine sk (qz (sq (sr (ck 3 (en (cn H (λ H=>?_) (λ H=>?_)))))))
   ·exact sr (ck 1 (en (re (qr (by cases H;exact pr rd)))))
   ·refine sk (qz (sq (sr (ck 3 (en (cn H (λ H=>?_) (λ H=>?_)))))))
    ·exact sr (ck 1 (en (re (qr (by cases H;exact pr rd)))))
    ·exact sk (qz (sr (ck 1 (en (re (by cases H;exact pr rd))))))
end
section
variable (p0_:(List UInt8))
def Jf6:St:=⟨(0,.d (.str p0_))::[],[]⟩
variable {p0_}
theorem Fz {z} (H:CY n p0_=some z):Ap Tryz.prog 80 [.d (.str p0_)] (.d (.bool z)):=by
 exact fO 6 (Jf6 p0_) Tryz.func80 (sr (ck 1 (en (sr (ck 4 (en (re (by cases H;exact pr rd))))))))
end
section
variable (p0_:(List UInt8)) (p1_:(List UInt8))
def Jf7:St:=⟨(0,.d (.str p0_))::(1,.d (.str p1_))::[],[]⟩
variable {p0_ p1_}
theorem I3 {z} (H:Cp n p0_ p1_=some z):Ap Tryz.prog 57 [.d (.str p0_),.d (.str p1_)] (.d (.int .i64 z)):=by
 refine fO 20 (Jf7 p0_ p1_) Tryz.func57 (sr (ck 1 (en (sr (ck 1 (bx H λ r12 h25 H=>ca false (Fz h25) (ck 1 (en (sr (ck 1 (bx H λ r13 h26 H=>ca false (Fz h26) (ck 1 (en (sq (sr (ck 1 (en (cn H (λ H=>?_) (λ H=>?_)))))))))))))))))))
 ·refine sq (sr (ck 1 (en (cn H (λ H=>?_) (λ H=>?_)))))
  ·exact sr (ck 1 (en (re (qr (qr (by cases H;exact pr rd))))))
  ·exact sk (qz (sr (ck 1 (en (re (qr (by cases H;exact pr rd)))))))
 ·refine sk (qz (sq (sr (ck 1 (en (cn H (λ H=>?_) (λ H=>?_)))))))
  ·exact sr (ck 1 (en (re (qr (by cases H;exact pr rd)))))
  ·refine sk (qz (sq (sr (ck 3 (en (cn H (λ H=>?_) (λ H=>?_)))))))
   ·exact sr (ck 1 (en (re (qr (by cases H;exact pr rd)))))
   ·refine sk (qz (sq (sr (ck 3 (en (cn H (λ H=>?_) (λ H=>?_)))))))
    ·exact sr (ck 1 (en (re (qr (by cases H;exact pr rd)))))
    ·exact sk (qz (sr (ck 1 (en (re (by cases H;exact pr rd))))))
end
section
variable (p0_:(List Int)) (x_4:Int)
def Jf8:St:=⟨(0,.d (.sl (p0_.map A9)))::[],[]⟩
def Jf9:St:=⟨(5,.d (.sl (p0_.map A9)))::(6,.d (.int .i64 ((p0_.length:Nat):Int)))::(7,.d (.int .i64 x_4))::[],[]⟩
def Jga:St:=⟨[],[]⟩
def NV:(Unit⊕Int)->Ex->St->Prop:=xS (xX 0 0 (λ (y:Unit)=>Jga)) (xR ty Tryz.f55 (λ (y:Int)=>.d (.int .i64 y)))
def H5:Int->St:=(λ (x:Int)=>Jf9 p0_ x)
variable {p0_ x_4}
theorem Hn (x:Int) (z:(Int⊕(Unit⊕Int))) (H:Gy n p0_ x=some z):WP (cxk 15 0) (Ay Tryz.f55) [1,0,1,0,0] (Ax 0 (H5 p0_) (NV) z) (H5 p0_ x):=by
 revert H
 generalize x=x_4
 intro H
 refine sr (ck 1 (en (sq (cn H (λ H=>?_) (λ H=>?_)))))
 ·refine sk (qz (sq (bk 1 (sr (bx H λ x3 h27 H=>sp (Am A9 h27) (ck 2 (en (sr (ck 2 (en (cn H (λ H=>?_) (λ H=>?_))))))))))))
  ·exact sr (ck 2 (en (re (qR (qr (by cases H;exact ro rfl rd))))))
  ·exact sk (qN (qz (rz (ck 2 (ae (by cases H;exact og (sg [5,6,7])))))))
 ·exact ex 0 (qx (by cases H;exact xo rfl (sg [])))
theorem QO {z} (H:Hc n p0_=some z):Ap Tryz.prog 55 [.d (.sl (p0_.map A9))] (.d (.int .i64 z)):=by
 refine fO 15 (Jf8 p0_) Tryz.func55 (sr (ck 1 (en (sq (sr (ck 1 (sp (Av A9 p0_) (ck 1 (en (bk 0 (bx H λ y7 h28 H=>?_)))))))))))
 rcases y7 with y8|y9
 ·exact lX Hn h28 (sg [5,6,7]) rfl λ s hE5=>qH (qs (hE5) (sr (ck 1 (en (re (by cases H;exact pr rd))))))
 ·exact lR Hn h28 (sg [5,6,7]) rfl λ s hE6=>qR (qr (by cases H;exact pr hE6))
end
section
variable (p0_:Ac) (p1_:Ac)
def Jgb:St:=⟨(0,.agg [.d (.int .i64 p0_.Block),.d (.int .i64 p0_.At),.d (.int .i64 p0_.Cut),.d (.str p0_.Put)])::(1,.agg [.d (.int .i64 p1_.Block),.d (.int .i64 p1_.At),.d (.int .i64 p1_.Cut),.d (.str p1_.Put)])::[],[]⟩
variable {p0_ p1_}
theorem Tu {z} (H:Gp n p0_ p1_=some z):Ap Tryz.prog 39 [.agg (Cn p0_),.agg (Cn p1_)] (.d (.int .i64 z)):=by
 exact fO 27 (Jgb p0_ p1_) Tryz.func39 (sr (ck 3 (en (sr (ck 4 (bx H λ r14 h29 H=>ca false (Dq h29) (ck 4 (bx H λ r15 h30 H=>ca false (Dq h30) (ck 4 (bx H λ r16 h31 H=>ca false (Dq h31) (ck 4 (bx H λ r17 h32 H=>ca false (I3 h32) (ck 1 (bx H λ r18 h33 H=>cb (ks:=[2]) (obl:=[(0+List.length [r14,r15,r16,r17],List.length (List.map A9 [r14,r15,r16,r17]))]) true (leK leM (leZ)) (CN Gv rfl) (QO h33) (Or.inr trivial) rfl (ck 1 (en (re (by cases H;exact pr rd))))))))))))))))))
end
section
variable (p0_:Ac) (p1_:(List Ac)) (c_2:Ac) (x_5:Int) (c_3:Ac)
def Jgc:St:=⟨(0,.agg [.d (.int .i64 p0_.Block),.d (.int .i64 p0_.At),.d (.int .i64 p0_.Cut),.d (.str p0_.Put)])::(1,.d (.sl (p1_.map Ak)))::[],[]⟩
def Jgd:St:=⟨(1,.d (.sl (p1_.map Ak)))::(2,.ptr 0 0)::(4,.ptr 1 0)::(11,.d (.sl (p1_.map Ak)))::(12,.d (.int .i64 ((p1_.length:Nat):Int)))::(13,.d (.int .i64 x_5))::[],[some (.box (Cn c_2)),some (.box [.d (.int .i64 0),.d (.int .i64 0),.d (.int .i64 0),.d (.str [])])]⟩
def Jge:St:=⟨(1,.d (.sl (p1_.map Ak)))::(2,.ptr 0 0)::(4,.ptr 1 0)::[],[some (.box (Cn c_3)),some (.box [.d (.int .i64 0),.d (.int .i64 0),.d (.int .i64 0),.d (.str [])])]⟩
def QP:(Ac⊕(Ac×Int×Bool))->Ex->St->Prop:=xS (xX 0 0 (λ (y:Ac)=>Jge p1_ y)) (xR ty Tryz.f28 (λ (y:(Ac×Int×Bool))=>.tup [.agg [.d (.int .i64 y.1.Block),.d (.int .i64 y.1.At),.d (.int .i64 y.1.Cut),.d (.str y.1.Put)],.d (.int .i64 y.2.1),.d (.bool y.2.2)]))
def J7:(Ac×Int)->St:=(λ (x:(Ac×Int))=>Jgd p1_ x.1 x.2)
variable {p0_ p1_ c_2 x_5 c_3}
theorem Jh (x:(Ac×Int)) (z:((Ac×Int)⊕(Ac⊕(Ac×Int×Bool)))) (H:F3 n p1_ x.1 x.2=some z):WP (cxk 33 0) (Ay Tryz.f28) [1,0,1,0,0] (Ax 0 (J7 p1_) (QP p1_) z) (J7 p1_ x):=by
 obtain ⟨c_2,x_5⟩:=x
 refine sr (ck 1 (en (sq (cn H (λ H=>?_) (λ H=>?_)))))
 ·refine sk (qz (sq (bk 1 (sr (ck 1 (bx H λ x4 h34 H=>sp (Am Ak h34) (ck 4 (en (sr (ck 2 (bx H λ r19 h35 H=>ca false (DU h35) (ck 6 (en (sq (sr (ck 2 (en (cn H (λ H=>?_) (λ H=>?_)))))))))))))))))))
  ·exact sr (ck 5 (en (re (qr (qR (qr (by cases H;exact ro rfl rdT)))))))
  ·exact sk (qz (rz (ck 2 (ae (qN (qz (rz (ck 2 (ae (by cases H;exact og (sg [1,2,4,11,12,13])))))))))))
 ·exact ex 0 (qx (by cases H;exact xo rfl (sg [1,2,4])))
theorem MT {z} (H:HZ n p0_ p1_=some z):Ap Tryz.prog 28 [.agg (Cn p0_),.d (.sl (p1_.map Ak))] (.tup [.agg [.d (.int .i64 z.1.Block),.d (.int .i64 z.1.At),.d (.int .i64 z.1.Cut),.d (.str z.1.Put)],.d (.int .i64 z.2.1),.d (.bool z.2.2)]):=by
 refine fO 33 (Jgc p0_ p1_) Tryz.func28 (sr (ck 4 (en (sq (sr (ck 1 (sp (Av Ak p1_) (ck 1 (en (bk 0 (bx H λ y10 h36 H=>?_)))))))))))
 rcases y10 with y11|y12
 ·exact lX Jh h36 (sg [1,2,4,11,12,13]) rfl λ s hE7=>qH (qs (hE7) (sr (ck 2 (sp (Av Ak p1_) (ck 3 (en (re (by cases H;exact pr rdT))))))))
 ·exact lR Jh h36 (sg [1,2,4,11,12,13]) rfl λ s hE8=>qR (qr (by cases H;exact pr hE8))
end
theorem Vf {n:Nat} {o0_:(List Ac)} {z:(List Ac)} (H:QM n o0_=some z):BR Tryz.prog 38 [.osl 0 4 0 (o0_.length),.clo 39 []] [some (.arr 4 (o0_.map Ak))] 1 (.tup []) [some (.arr 4 (z.map Ak))]:=WF Tryz.laysSortF (by decide) Tryz.isAgg33 Tryz.sizeOf33 (enc:=Ak) (λ _=>rfl) (λ x d hd=>by simp only [Ak,List.mem_cons,List.not_mem_nil,or_false] at hd;rcases hd with rfl|rfl|rfl|rfl<;>rfl) (To Tryz.func39) (λ h=>Tu h) ⟨_,_,Tryz.func38,rfl,rfl⟩ H
section
variable (o0_:(List Ac)) (x_6:(List Ac)) (x_7:(Nat×Nat)) (k_1:Int) (s_1:(List Ac)) (k_2:Int) (k2_1:Int) (s_2:(List Ac)) (k_3:Int) (s_3:(List Ac)) (k_4:Int)
def JaO:St:=⟨(0,.osl 0 4 0 (o0_.length))::[],[some (.arr 4 (o0_.map Ak))]⟩
def QQ:St:=⟨(2,.osl 0 4 x_7.1 x_7.2)::[],[some (.arr 4 (x_6.map Ak))]⟩
def JaP:St:=⟨(0,.osl 0 4 0 (o0_.length))::(3,.d (.int .i64 k_1))::[],[some (.arr 4 (o0_.map Ak))]⟩
def JaQ:St:=⟨(0,.osl 0 4 0 (o0_.length))::[],[some (.arr 4 (o0_.map Ak))]⟩
def JaR:St:=⟨(0,.osl 0 4 0 (s_1.length))::(3,.d (.int .i64 k_2))::(4,.osl 0 4 ((0+Int.toNat k_1,Int.toNat ((o0_.length:Nat):Int)-Int.toNat k_1):Nat×Nat).1 ((0+Int.toNat k_1,Int.toNat ((o0_.length:Nat):Int)-Int.toNat k_1):Nat×Nat).2)::(5,.d (.int .i64 k2_1))::[],[some (.arr 4 (s_1.map Ak))]⟩
def JaS:St:=⟨(0,.osl 0 4 0 (s_2.length))::(3,.d (.int .i64 k_3))::[],[some (.arr 4 (s_2.map Ak))]⟩
def JaT:St:=⟨(0,.osl 0 4 0 (s_3.length))::(3,.d (.int .i64 k_4))::(4,.osl 0 4 ((0+Int.toNat k_1,Int.toNat ((o0_.length:Nat):Int)-Int.toNat k_1):Nat×Nat).1 ((0+Int.toNat k_1,Int.toNat ((o0_.length:Nat):Int)-Int.toNat k_1):Nat×Nat).2)::(5,.d (.int .i64 k2_1))::[],[some (.arr 4 (s_3.map Ak))]⟩
def NW:((List Ac)×Int)->Ex->St->Prop:=xX 1 2 (λ (y:((List Ac)×Int))=>JaS y.1 y.2)
def H6:((List Ac)×Int×Int)->St:=(λ (x:((List Ac)×Int×Int))=>JaR o0_ k_1 x.1 x.2.1 x.2.2)
def NX:(Unit⊕((List Ac)×(Nat×Nat)))->Ex->St->Prop:=xS (xX 1 0 (λ (y:Unit)=>JaQ o0_)) (xL 1 ty Tryz.f40 (λ (y:((List Ac)×(Nat×Nat)))=>.osl 0 4 y.2.1 y.2.2) (λ (y:((List Ac)×(Nat×Nat)))=>[some (.arr 4 (y.1.map Ak))]))
def H7:Int->St:=(λ (x:Int)=>JaP o0_ x)
variable {o0_ x_6 x_7 k_1 s_1 k_2 k2_1 s_2 k_3 s_3 k_4}
theorem MU (x:((List Ac)×Int×Int)) (z:(((List Ac)×Int×Int)⊕((List Ac)×Int))) (H:GA n o0_ k_1 x.1 x.2.1 x.2.2=some z):WP (cxk 61 1) (Ay Tryz.f40) [1,1,0,1,0,0,1,0,0,1,0,1,0,1,0,0] (Ax 1 (H6 o0_ k_1) (NW) z) (H6 o0_ k_1 x):=by
 obtain ⟨s_1,k_2,k2_1⟩:=x
 refine sq (sr (ck 4 (en (cn H (λ H=>?_) (λ H=>?_)))))
 ·refine sk (qz (sj (λ (x:((List Ac)×Int))=>JaT o0_ k_1 k2_1 x.1 x.2) (λ (x:((List Ac)×Int))=>Gz n k2_1 x.1 x.2) z ?_ (λ hFApi_Change_J1=>?_)))
  ·rintro ⟨s_3,k_4⟩ H
   exact rz (ck 3 (ae (by cases H;exact og (sg [0,3,4,5]))))
  refine bk 3 (sr (ck 2 (bx H λ x7 h40 H=>sp (PK 0 4 ((0+Int.toNat k_1,Int.toNat ((o0_.length:Nat):Int)-Int.toNat k_1):Nat×Nat).1 ((0+Int.toNat k_1,Int.toNat ((o0_.length:Nat):Int)-Int.toNat k_1):Nat×Nat).2 (QI h40)) (sp (Tm Ak 0 0 (ty 33) (PL h40)) (ck 3 (bx H λ x8 h41 H=>sp (PK 0 4 ((0+Int.toNat k_1,Int.toNat ((o0_.length:Nat):Int)-Int.toNat k_1):Nat×Nat).1 ((0+Int.toNat k_1,Int.toNat ((o0_.length:Nat):Int)-Int.toNat k_1):Nat×Nat).2 (QI h41)) (sp (Tm Ak 0 0 (ty 33) (PL h41)) (ck 1 (en (cn H (λ H=>?_) (λ H=>?_)))))))))))
  ·exact sr (ck 4 (bx H λ x9 h42 H=>sp (PK 0 4 ((0+Int.toNat k_1,Int.toNat ((o0_.length:Nat):Int)-Int.toNat k_1):Nat×Nat).1 ((0+Int.toNat k_1,Int.toNat ((o0_.length:Nat):Int)-Int.toNat k_1):Nat×Nat).2 (QI h42)) (sp (Tm Ak 0 0 (ty 33) (PL h42)) (bx H λ x10 h43 H=>sp (Bi 0 4 h43) (bx H λ l4 h44 H=>stA Ak 0 0 (ty 33) h43 h44 (en (rg (tr (sn 0 0 4 (CG h44)) (sn 45 0 4 (CG h44))) (ck 3 (ae (qN (qs (sg [0,3,4,5]) (hFApi_Change_J1 (l4,(Ai .i64 k_2 1)) H))))))))))))
  ·exact sk (qN (qs (sg [0,3,4,5]) (hFApi_Change_J1 (s_1,k_2) H)))
 ·exact ex 2 (qx (by cases H;exact xo rfl (sg [0,3])))
theorem Ho (x:Int) (z:(Int⊕(Unit⊕((List Ac)×(Nat×Nat))))) (H:GB n o0_ x=some z):WP (cxk 61 1) (Ay Tryz.f40) [1,1,0,1,0,0] (Ax 1 (H7 o0_) (NX o0_) z) (H7 o0_ x):=by
 revert H
 generalize x=k_1
 intro H
 refine sq (sr (ck 4 (en (cn H (λ H=>?_) (λ H=>?_)))))
 ·refine sk (qz (sq (bk 1 (sr (ck 2 (bx H λ x5 h37 H=>sp (Bi 0 4 h37) (sp (B9 Ak 0 0 (ty 33) h37) (ck 3 (bx H λ x6 h38 H=>sp (Bi 0 4 h38) (sp (B9 Ak 0 0 (ty 33) h38) (ck 1 (en (cn H (λ H=>?_) (λ H=>?_))))))))))))))
  ·exact sr (ck 2 (bx H λ l3 h39 H=>sp (LU 0 4 h39) (ck 1 (en (sq (sr (ck 1 (en (bk 2 (bx H λ y13 h45 H=>lX MU h45 (sg [0,3,4,5]) rfl λ s hE9=>qH (qs (hE9) (sr (ck 2 (bx H λ l5 h46 H=>sp (LU 0 4 h46) (bx H λ l6 h47 H=>xzP (xok _ _) Ak 0 4 ((0+Int.toNat y13.2,Int.toNat ((y13.1.length:Nat):Int)-Int.toNat y13.2):Nat×Nat).1 ((0+Int.toNat y13.2,Int.toNat ((y13.1.length:Nat):Int)-Int.toNat y13.2):Nat×Nat).2 h47 (en (sq (rg (tr (sn 0 0 4 (Va h47)) (sn 54 0 4 (Va h47))) (ck 2 (bx H λ l7 h48 H=>sp (LU 0 4 h48) (ck 1 (en (re (qR (qr (by cases H;exact lo rfl (rl (s':=QQ l6 ((0+Int.toNat 0,Int.toNat y13.2-Int.toNat 0):Nat×Nat)) (sg [2]))))))))))))))))))))))))))))
  ·exact sk (qN (qz (rz (ck 3 (ae (by cases H;exact og (sg [0,3])))))))
 ·exact ex 0 (qx (by cases H;exact xo rfl (sg [0])))
theorem QR {z} (H:JW n o0_=some z):BR Tryz.prog 40 [.osl 0 4 0 (o0_.length)] [some (.arr 4 (o0_.map Ak))] 1 (.osl 0 4 z.2.1 z.2.2) [some (.arr 4 (z.1.map Ak))]:=by
 refine fL 61 1 (JaO o0_) Tryz.func40 (sr (ck 1 (en (sq (sr (ck 3 (en (cn H (λ H=>?_) (λ H=>?_)))))))))
 ·exact sr (ck 2 (en (re (qr (by cases H;exact pL (rl (s':=QQ o0_ ((0,List.length o0_):Nat×Nat)) (sg [2])))))))
 ·refine sk (qz (sq (sr (ck 1 (en (bk 0 (bx H λ y14 h49 H=>?_)))))))
  rcases y14 with y15|y16
  ·exact lX Ho h49 (sg [0,3]) rfl λ s hE10=>qH (qs (hE10) (sr (ck 2 (en (re (by cases H;exact pL (rl (s':=QQ o0_ ((0,List.length o0_):Nat×Nat)) (sg [2]))))))))
  ·exact lL Ho h49 (sg [0,3]) rfl λ s hE11=>qR (qr (by cases H;exact pL hE11))
end
section
variable (p0_:(List AZ)) (v_1:An) (loud_1:(List Bool)) (x_8:Int) (v_2:An) (loud_2:(List Bool)) (v_3:An) (loud_3:(List Bool)) (j_1:Int) (v_4:An) (loud_4:(List Bool)) (v_5:An) (loud_5:(List Bool)) (y18:(An×(List Bool))) (agreed_1:(List Ac)) (x_9:Int) (agreed_2:(List Ac)) (agreed_3:(List Ac)) (r22:((List Ac)×(Nat×Nat))) (v_6:An) (x_10:Int) (v_7:An) (v_8:An)
def Jgf:St:=⟨(0,.d (.sl (p0_.map CJ)))::[],[]⟩
def Jgg:St:=⟨(0,.d (.sl (p0_.map CJ)))::(2,.ptr 0 0)::(3,.ptr 1 0)::(4,.osl 2 1 0 (loud_1.length))::(19,.d (.int .i64 ((p0_.length:Nat):Int)))::(20,.d (.int .i64 x_8))::[],[some (.box [.osl 3 4 0 (List.length ([]:List Ac)),.osl 4 2 0 (List.length ([]:List (Cu Int)))]),some (.box [.osl 5 4 0 (v_1.Agreed.length),.osl 6 2 0 (v_1.Quarrels.length)]),some (.arr 1 (loud_1.map eB)),some (.arr 4 (List.map Ak ([]:List Ac))),some (.arr 2 (List.map (Bg A9) ([]:List (Cu Int)))),some (.arr 4 (v_1.Agreed.map Ak)),some (.arr 2 (v_1.Quarrels.map (Bg A9)))]⟩
def Jgh:St:=⟨(0,.d (.sl (p0_.map CJ)))::(2,.ptr 0 0)::(3,.ptr 1 0)::(4,.osl 2 1 0 (loud_2.length))::[],[some (.box [.osl 3 4 0 (List.length ([]:List Ac)),.osl 4 2 0 (List.length ([]:List (Cu Int)))]),some (.box [.osl 5 4 0 (v_2.Agreed.length),.osl 6 2 0 (v_2.Quarrels.length)]),some (.arr 1 (loud_2.map eB)),some (.arr 4 (List.map Ak ([]:List Ac))),some (.arr 2 (List.map (Bg A9) ([]:List (Cu Int)))),some (.arr 4 (v_2.Agreed.map Ak)),some (.arr 2 (v_2.Quarrels.map (Bg A9)))]⟩
def Jgi:St:=⟨(0,.d (.sl (p0_.map CJ)))::(2,.ptr 0 0)::(3,.ptr 1 0)::(4,.osl 2 1 0 (loud_3.length))::(5,.d (.int .i64 x_8))::(6,.d (.int .i64 j_1))::(19,.d (.int .i64 ((p0_.length:Nat):Int)))::(20,.d (.int .i64 x_8))::[],[some (.box [.osl 3 4 0 (List.length ([]:List Ac)),.osl 4 2 0 (List.length ([]:List (Cu Int)))]),some (.box [.osl 5 4 0 (v_3.Agreed.length),.osl 6 2 0 (v_3.Quarrels.length)]),some (.arr 1 (loud_3.map eB)),some (.arr 4 (List.map Ak ([]:List Ac))),some (.arr 2 (List.map (Bg A9) ([]:List (Cu Int)))),some (.arr 4 (v_3.Agreed.map Ak)),some (.arr 2 (v_3.Quarrels.map (Bg A9)))]⟩
def Jgj:St:=⟨(0,.d (.sl (p0_.map CJ)))::(2,.ptr 0 0)::(3,.ptr 1 0)::(4,.osl 2 1 0 (loud_4.length))::(19,.d (.int .i64 ((p0_.length:Nat):Int)))::(20,.d (.int .i64 x_8))::[],[some (.box [.osl 3 4 0 (List.length ([]:List Ac)),.osl 4 2 0 (List.length ([]:List (Cu Int)))]),some (.box [.osl 5 4 0 (v_4.Agreed.length),.osl 6 2 0 (v_4.Quarrels.length)]),some (.arr 1 (loud_4.map eB)),some (.arr 4 (List.map Ak ([]:List Ac))),some (.arr 2 (List.map (Bg A9) ([]:List (Cu Int)))),some (.arr 4 (v_4.Agreed.map Ak)),some (.arr 2 (v_4.Quarrels.map (Bg A9)))]⟩
def Jgk:St:=⟨(0,.d (.sl (p0_.map CJ)))::(2,.ptr 0 0)::(3,.ptr 1 0)::(4,.osl 2 1 0 (loud_5.length))::(5,.d (.int .i64 x_8))::(6,.d (.int .i64 j_1))::(19,.d (.int .i64 ((p0_.length:Nat):Int)))::(20,.d (.int .i64 x_8))::[],[some (.box [.osl 3 4 0 (List.length ([]:List Ac)),.osl 4 2 0 (List.length ([]:List (Cu Int)))]),some (.box [.osl 5 4 0 (v_5.Agreed.length),.osl 6 2 0 (v_5.Quarrels.length)]),some (.arr 1 (loud_5.map eB)),some (.arr 4 (List.map Ak ([]:List Ac))),some (.arr 2 (List.map (Bg A9) ([]:List (Cu Int)))),some (.arr 4 (v_5.Agreed.map Ak)),some (.arr 2 (v_5.Quarrels.map (Bg A9)))]⟩
def RT:(An×(List Bool))->Ex->St->Prop:=xX 0 2 (λ (y:(An×(List Bool)))=>Jgj p0_ x_8 y.1 y.2)
def Lv:(An×(List Bool)×Int)->St:=(λ (x:(An×(List Bool)×Int))=>Jgi p0_ x_8 x.1 x.2.1 x.2.2)
def RU:(An×(List Bool))->Ex->St->Prop:=xX 0 0 (λ (y:(An×(List Bool)))=>Jgh p0_ y.1 y.2)
def Lw:(An×(List Bool)×Int)->St:=(λ (x:(An×(List Bool)×Int))=>Jgg p0_ x.1 x.2.1 x.2.2)
def Jgl:St:=⟨(2,.ptr 0 0)::(3,.ptr 1 0)::(4,.osl 2 1 0 (y18.2.length))::(7,.osl 3 4 0 (agreed_1.length))::(71,.d (.sl (p0_.map CJ)))::(72,.d (.int .i64 ((p0_.length:Nat):Int)))::(73,.d (.int .i64 x_9))::[],[some (.box [.osl 4 4 0 (List.length ([]:List Ac)),.osl 5 2 0 (List.length ([]:List (Cu Int)))]),some (.box [.osl 6 4 0 (y18.1.Agreed.length),.osl 7 2 0 (y18.1.Quarrels.length)]),some (.arr 1 (y18.2.map eB)),some (.arr 4 (agreed_1.map Ak)),some (.arr 4 (List.map Ak ([]:List Ac))),some (.arr 2 (List.map (Bg A9) ([]:List (Cu Int)))),some (.arr 4 (y18.1.Agreed.map Ak)),some (.arr 2 (y18.1.Quarrels.map (Bg A9)))]⟩
def Jgm:St:=⟨(2,.ptr 0 0)::(3,.ptr 1 0)::(7,.osl 2 4 0 (agreed_2.length))::[],[some (.box [.osl 3 4 0 (List.length ([]:List Ac)),.osl 4 2 0 (List.length ([]:List (Cu Int)))]),some (.box [.osl 5 4 0 (y18.1.Agreed.length),.osl 6 2 0 (y18.1.Quarrels.length)]),some (.arr 4 (agreed_2.map Ak)),some (.arr 4 (List.map Ak ([]:List Ac))),some (.arr 2 (List.map (Bg A9) ([]:List (Cu Int)))),some (.arr 4 (y18.1.Agreed.map Ak)),some (.arr 2 (y18.1.Quarrels.map (Bg A9)))]⟩
def Jgn:St:=⟨(2,.ptr 0 0)::(3,.ptr 1 0)::(4,.osl 2 1 0 (y18.2.length))::(7,.osl 3 4 0 (agreed_3.length))::(71,.d (.sl (p0_.map CJ)))::(72,.d (.int .i64 ((p0_.length:Nat):Int)))::(73,.d (.int .i64 x_9))::[],[some (.box [.osl 4 4 0 (List.length ([]:List Ac)),.osl 5 2 0 (List.length ([]:List (Cu Int)))]),some (.box [.osl 6 4 0 (y18.1.Agreed.length),.osl 7 2 0 (y18.1.Quarrels.length)]),some (.arr 1 (y18.2.map eB)),some (.arr 4 (agreed_3.map Ak)),some (.arr 4 (List.map Ak ([]:List Ac))),some (.arr 2 (List.map (Bg A9) ([]:List (Cu Int)))),some (.arr 4 (y18.1.Agreed.map Ak)),some (.arr 2 (y18.1.Quarrels.map (Bg A9)))]⟩
def RV:(List Ac)->Ex->St->Prop:=xX 0 4 (λ (y:(List Ac))=>Jgm y18 y)
def Lx:((List Ac)×Int)->St:=(λ (x:((List Ac)×Int))=>Jgl p0_ y18 x.1 x.2)
def JcI:St:=⟨(2,.ptr 0 0)::(3,.ptr 1 0)::(92,.osl 2 4 r22.2.1 r22.2.2)::(93,.d (.int .i64 ((r22.2.2:Nat):Int)))::(94,.d (.int .i64 x_10))::[],[some (.box [.osl 3 4 0 (List.length ([]:List Ac)),.osl 4 2 0 (List.length ([]:List (Cu Int)))]),some (.box [.osl 5 4 0 (v_6.Agreed.length),.osl 6 2 0 (v_6.Quarrels.length)]),some (.arr 4 (r22.1.map Ak)),some (.arr 4 (List.map Ak ([]:List Ac))),some (.arr 2 (List.map (Bg A9) ([]:List (Cu Int)))),some (.arr 4 (v_6.Agreed.map Ak)),some (.arr 2 (v_6.Quarrels.map (Bg A9)))]⟩
def JcJ:St:=⟨(2,.ptr 0 0)::(3,.ptr 1 0)::[],[some (.box [.osl 2 4 0 (List.length ([]:List Ac)),.osl 3 2 0 (List.length ([]:List (Cu Int)))]),some (.box [.osl 4 4 0 (v_7.Agreed.length),.osl 5 2 0 (v_7.Quarrels.length)]),some (.arr 4 (List.map Ak ([]:List Ac))),some (.arr 2 (List.map (Bg A9) ([]:List (Cu Int)))),some (.arr 4 (v_7.Agreed.map Ak)),some (.arr 2 (v_7.Quarrels.map (Bg A9)))]⟩
def JcK:St:=⟨(2,.ptr 0 0)::(3,.ptr 1 0)::(92,.osl 2 4 r22.2.1 r22.2.2)::(93,.d (.int .i64 ((r22.2.2:Nat):Int)))::(94,.d (.int .i64 x_10))::[],[some (.box [.osl 3 4 0 (List.length ([]:List Ac)),.osl 4 2 0 (List.length ([]:List (Cu Int)))]),some (.box [.osl 5 4 0 (v_8.Agreed.length),.osl 6 2 0 (v_8.Quarrels.length)]),some (.arr 4 (r22.1.map Ak)),some (.arr 4 (List.map Ak ([]:List Ac))),some (.arr 2 (List.map (Bg A9) ([]:List (Cu Int)))),some (.arr 4 (v_8.Agreed.map Ak)),some (.arr 2 (v_8.Quarrels.map (Bg A9)))]⟩
def RW:An->Ex->St->Prop:=xX 0 6 (λ (y:An)=>JcJ y)
def Ly:(An×Int)->St:=(λ (x:(An×Int))=>JcI r22 x.1 x.2)
variable {p0_ v_1 loud_1 x_8 v_2 loud_2 v_3 loud_3 j_1 v_4 loud_4 v_5 loud_5 y18 agreed_1 x_9 agreed_2 agreed_3 r22 v_6 x_10 v_7 v_8}
theorem QS (x:(An×(List Bool)×Int)) (z:((An×(List Bool)×Int)⊕(An×(List Bool)))) (H:JY n p0_ x_8 x.1 x.2.1 x.2.2=some z):WP (cxk 115 0) (Ay Tryz.f17) [1,1,1,0,1,0,0,1,1,0,0,1,1,0,0] (Ax 0 (Lv p0_ x_8) (RT p0_ x_8) z) (Lv p0_ x_8 x):=by
 obtain ⟨v_3,loud_3,j_1⟩:=x
 refine sq (sr (ck 2 (sp (Av CJ p0_) (ck 1 (en (cn H (λ H=>?_) (λ H=>?_)))))))
 ·refine sk (qz (sj (λ (x:(An×(List Bool)))=>Jgk p0_ x_8 j_1 x.1 x.2) (λ (x:(An×(List Bool)))=>JX n j_1 x.1 x.2) z ?_ (λ hFCa_Join_J1=>?_)))
  ·rintro ⟨v_5,loud_5⟩ H
   exact rz (ck 3 (ae (by cases H;exact og (sg [0,2,3,4,5,6,19,20]))))
  refine bk 3 (sr (ck 2 (bx H λ x11 h51 H=>sp (Am CJ h51) (ck 4 (bx H λ x12 h52 H=>sp (Am CJ h52) (ck 6 (bx H λ x13 h53 H=>sE (λ hg=>Am CJ (Bc h53 hg)) (gc 2 (!((x11.C.Block==x12.C.Block)&&((x11.C.At==x12.C.At)&&((x11.C.Cut==x12.C.Cut)&&((x11.C.Put==x12.C.Put)&&true))))) (ck 2 (bx H λ x14 h54 H=>sE (λ hg=>Am CJ (Bc h54 hg)) (gc 2 (!((x11.C.Block==x12.C.Block)&&((x11.C.At==x12.C.At)&&((x11.C.Cut==x12.C.Cut)&&((x11.C.Put==x12.C.Put)&&true))))) (bx H λ r20 h55 H=>cG false (leZ) rfl (λ hg=>O4 (Bc h55 hg)) (Or.inl rfl) (Ca (λ hh=>hh) (Ca (λ hh=>hh) (Dd))) rfl (gc 1 (!((x11.C.Block==x12.C.Block)&&((x11.C.At==x12.C.At)&&((x11.C.Cut==x12.C.Cut)&&((x11.C.Put==x12.C.Put)&&true))))) (pA (en (cn H (λ H=>?_) (λ H=>?_)))))))))))))))))
  ·exact sr (ck 6 (bx H λ l9 h56 H=>sp (Bd (Bg A9) 6 2 h56) (ck 2 (en (rz (ck 4 (bx H λ x15 h57 H=>sp (Bi 2 1 h57) (bx H λ l10 h58 H=>stA eB 2 0 (ty 4) h57 h58 (bx H λ x16 h59 H=>sp (Jcu 2 1 ((CG h58)) h59) (bx H λ l11 h60 H=>stA eB 2 0 (ty 4) h59 h60 (ae (qN (qs (tr (tr (tr (sn 4 2 1 (Eq.trans (CG h58) (CG h60))) (sn 64 2 1 (Eq.trans (CG h58) (CG h60)))) (sn 66 2 1 (Eq.trans (CG h58) (CG h60)))) (sg [0,2,3,4,5,6,19,20])) (hFCa_Join_J1 (({ Agreed:=v_3.Agreed,Quarrels:=l9 }:An),l11) H))))))))))))))
  ·exact sk (qN (qs (sg [0,2,3,4,5,6,19,20]) (hFCa_Join_J1 (v_3,loud_3) H)))
 ·exact ex 2 (qx (by cases H;exact xo rfl (sg [0,2,3,4,19,20])))
theorem QT (x:(An×(List Bool)×Int)) (z:((An×(List Bool)×Int)⊕(An×(List Bool)))) (H:Hd n p0_ x.1 x.2.1 x.2.2=some z):WP (cxk 115 0) (Ay Tryz.f17) [1,1,1,0,1,0,0] (Ax 0 (Lw p0_) (RU p0_) z) (Lw p0_ x):=by
 obtain ⟨v_1,loud_1,x_8⟩:=x
 refine sr (ck 1 (en (sq (cn H (λ H=>?_) (λ H=>?_)))))
 ·exact sk (qz (sq (bk 1 (sr (ck 2 (en (sr (ck 3 (en (bk 2 (bx H λ y17 h61 H=>lX QS h61 (sg [0,2,3,4,5,6,19,20]) rfl λ s hE12=>qH (qN (qs (hE12) (rz (ck 2 (ae (by cases H;exact og (sg [0,2,3,4,19,20]))))))))))))))))))
 ·exact ex 0 (qx (by cases H;exact xo rfl (sg [0,2,3,4])))
theorem QU (x:((List Ac)×Int)) (z:(((List Ac)×Int)⊕(List Ac))) (H:Fw n p0_ y18 x.1 x.2=some z):WP (cxk 115 0) (Ay Tryz.f17) [1,1,1,1,1,0,1,0,0] (Ax 0 (Lx p0_ y18) (RV y18) z) (Lx p0_ y18 x):=by
 obtain ⟨agreed_1,x_9⟩:=x
 refine sr (ck 1 (en (sq (cn H (λ H=>?_) (λ H=>?_)))))
 ·refine sk (qz (sj (λ (x:(List Ac))=>Jgn p0_ y18 x_9 x) (λ (x:(List Ac))=>JZ n x_9 x) z ?_ (λ hFCa_Join_J2=>?_)))
  ·intro agreed_3 H
   exact rz (ck 2 (ae (by cases H;exact og (sg [2,3,4,7,71,72,73]))))
  refine bk 5 (sr (ck 1 (bx H λ x17 h63 H=>sp (Am CJ h63) (ck 4 (en (sr (ck 2 (bx H λ x18 h64 H=>sp (Bi 2 1 h64) (sp (B9 eB 2 0 (ty 4) h64) (ck 1 (en (cn H (λ H=>?_) (λ H=>?_)))))))))))))
  ·exact rz (ck 4 (bx H λ l12 h65 H=>sp (Bd Ak 3 4 h65) (ck 1 (ae (qN (qs (sg [2,3,4,7,71,72,73]) (hFCa_Join_J2 l12 H)))))))
  ·exact sk (qN (qs (sg [2,3,4,7,71,72,73]) (hFCa_Join_J2 agreed_1 H)))
 ·exact ex 4 (qx (by cases H;exact xo rfl (sg [2,3,7])))
theorem QV (x:(An×Int)) (z:((An×Int)⊕An)) (H:He n r22 x.1 x.2=some z):WP (cxk 115 0) (Ay Tryz.f17) [1,1,1,1,1,1,1,0,1,0,0] (Ax 0 (Ly r22) (RW) z) (Ly r22 x):=by
 obtain ⟨v_6,x_10⟩:=x
 refine sr (ck 1 (en (sq (cn H (λ H=>?_) (λ H=>?_)))))
 ·refine sk (qz (sj (λ (x:An)=>JcK r22 x_10 x) (λ (x:An)=>J0 n x_10 x) z ?_ (λ hFCa_Join_J3=>?_)))
  ·intro v_8 H
   exact rz (ck 2 (ae (by cases H;exact og (sg [2,3,92,93,94]))))
  refine bk 7 (sr (bx H λ x19 h70 H=>sp (PK 2 4 r22.2.1 r22.2.2 (QI h70)) (sp (Tm Ak 2 0 (ty 33) (PL h70)) (ck 2 (en (sr (ck 3 (bx H λ r23 h71 H=>cb (ks:=[5]) (obl:=[(0+List.length v_6.Agreed,List.length (v_6.Agreed.map Ak))]) false (leK leM (leZ)) (CN rfl (CN Gv rfl)) (MT h71) (Or.inr ⟨⟨trivial,⟨trivial,⟨trivial,⟨trivial,trivial⟩⟩⟩⟩,⟨trivial,⟨trivial,trivial⟩⟩⟩) rfl (ck 8 (en (sr (ck 1 (en (cn H (λ H=>?_) (λ H=>?_)))))))))))))))
  ·exact rz (ck 4 (bx H λ l13 h72 H=>sp (Bd Ak 5 4 h72) (ck 2 (ae (qN (qs (sg [2,3,92,93,94]) (hFCa_Join_J3 ({ Agreed:=l13,Quarrels:=v_6.Quarrels }:An) H)))))))
  ·exact sk (qN (qs (sg [2,3,92,93,94]) (hFCa_Join_J3 v_6 H)))
 ·exact ex 6 (qx (by cases H;exact xo rfl (sg [2,3])))
theorem Vg {z} (H:MQ n p0_=some z):Ap Tryz.prog 17 [.d (.sl (p0_.map CJ))] (.agg [.own 4 (z.Agreed.map Ak),.own 2 (z.Quarrels.map (Bg A9))]):=by
 exact fO 115 (Jgf p0_) Tryz.func17 (sr (ck 1 (en (sr (ck 1 (en (sr (ck 1 (sp (Av CJ p0_) (bx H λ l8 h50 H=>sp (Jje eB 1 h50) (ck 1 (en (sq (sr (ck 1 (sp (Av CJ p0_) (ck 1 (en (bk 0 (bx H λ y18 h62 H=>lX QT h62 (tr (tr (tr (tr (Bv 0 0 4 (by kernel_rfl)) (Bv 0 1 2 (by kernel_rfl))) (Bv 1 0 4 (by kernel_rfl))) (Bv 1 1 2 (by kernel_rfl))) (sg [0,2,3,4,19,20])) rfl λ s hE13=>qH (qs (hE13) (sr (ck 1 (en (sq (sr (ck 1 (sp (Av CJ p0_) (ck 1 (en (bk 4 (bx H λ y19 h66 H=>lX QU h66 (tr (AQ.nilo 7 4 (by kernel_rfl)) (sg [2,3,4,7,71,72,73])) rfl λ s hE14=>qH (qs (hE14) (sr (ck 1 (bx H λ r21 h67 H=>lt [2] (Vf h67) (bx H λ _ h68 H=>en (sq (sq (rg (tr (sn 7 2 4 (SE h68)) (sn 89 2 4 (SE h68))) (ck 1 (bx H λ r22 h69 H=>lt [2] (QR h69) (ck 2 (en (bk 6 (bx H λ y20 h73 H=>lX QV h73 (sg [2,3,92,93,94]) rfl λ s hE15=>qH (qs (hE15) (sr (ck 2 (en (re (by cases H;exact pr (rO (v:=.agg [.osl 4 4 0 (z.Agreed.length),.osl 5 2 0 (z.Quarrels.length)]) [4,5] (a1 (c1 vo (c1 vo (c0)))))))))))))))))))))))))))))))))))))))))))))))))))))))))
end
section
variable (p0_:(List Al)) (p1_:(List Al)) (i_1:Int)
def Jgo:St:=⟨(0,.d (.sl (p0_.map AC)))::(1,.d (.sl (p1_.map AC)))::[],[]⟩
def Jgp:St:=⟨(0,.d (.sl (p0_.map AC)))::(1,.d (.sl (p1_.map AC)))::(5,.d (.int .i64 i_1))::[],[]⟩
def Jgq:St:=⟨[],[]⟩
def QX:(Unit⊕Bool)->Ex->St->Prop:=xS (xX 0 0 (λ (y:Unit)=>Jgq)) (xR ty Tryz.f50 (λ (y:Bool)=>.d (.bool y)))
def J8:Int->St:=(λ (x:Int)=>Jgp p0_ p1_ x)
variable {p0_ p1_ i_1}
theorem Ji (x:Int) (z:(Int⊕(Unit⊕Bool))) (H:F4 n p0_ p1_ x=some z):WP (cxk 26 0) (Ay Tryz.f50) [1,1,0,1,0,0] (Ax 0 (J8 p0_ p1_) (QX) z) (J8 p0_ p1_ x):=by
 revert H
 generalize x=i_1
 intro H
 refine sq (sr (ck 2 (sp (Av AC p0_) (ck 1 (en (cn H (λ H=>?_) (λ H=>?_)))))))
 ·refine sk (qz (sq (bk 1 (sr (ck 2 (bx H λ x20 h74 H=>sp (Am AC h74) (ck 3 (bx H λ x21 h75 H=>sp (Am AC h75) (ck 2 (en (cn H (λ H=>?_) (λ H=>?_))))))))))))
  ·exact sr (ck 1 (en (re (qR (qr (by cases H;exact ro rfl rd))))))
  ·exact sk (qN (qz (rz (ck 3 (ae (by cases H;exact og (sg [0,1,5])))))))
 ·exact ex 0 (qx (by cases H;exact xo rfl (sg [])))
theorem Tv {z} (H:NJ n p0_ p1_=some z):Ap Tryz.prog 50 [.d (.sl (p0_.map AC)),.d (.sl (p1_.map AC))] (.d (.bool z)):=by
 refine fO 26 (Jgo p0_ p1_) Tryz.func50 (sr (ck 1 (en (sq (sr (ck 1 (sp (Av AC p0_) (ck 1 (sp (Av AC p1_) (ck 1 (en (cn H (λ H=>?_) (λ H=>?_)))))))))))))
 ·exact sr (ck 1 (en (re (qr (by cases H;exact pr rd)))))
 ·refine sk (qz (sq (sr (ck 1 (en (bk 0 (bx H λ y21 h76 H=>?_)))))))
  rcases y21 with y22|y23
  ·exact lX Ji h76 (sg [0,1,5]) rfl λ s hE16=>qH (qs (hE16) (sr (ck 1 (en (re (by cases H;exact pr rd))))))
  ·exact lR Ji h76 (sg [0,1,5]) rfl λ s hE17=>qR (qr (by cases H;exact pr hE17))
end
section
variable (p0_:(List (List (List UInt8)))) (p1_:(List (List (List UInt8)))) (i_2:Int) (k_5:Int)
def Jgr:St:=⟨(0,.d (.sl (p0_.map (eL eS))))::(1,.d (.sl (p1_.map (eL eS))))::[],[]⟩
def Jgs:St:=⟨(0,.d (.sl (p0_.map (eL eS))))::(1,.d (.sl (p1_.map (eL eS))))::(5,.d (.int .i64 i_2))::[],[]⟩
def Jgt:St:=⟨[],[]⟩
def Jgu:St:=⟨(0,.d (.sl (p0_.map (eL eS))))::(1,.d (.sl (p1_.map (eL eS))))::(5,.d (.int .i64 i_2))::(6,.d (.int .i64 k_5))::[],[]⟩
def Jgv:St:=⟨(0,.d (.sl (p0_.map (eL eS))))::(1,.d (.sl (p1_.map (eL eS))))::(5,.d (.int .i64 i_2))::[],[]⟩
def L7:(Unit⊕Bool)->Ex->St->Prop:=xS (xX 0 2 (λ (y:Unit)=>Jgv p0_ p1_ i_2)) (xR ty Tryz.f51 (λ (y:Bool)=>.d (.bool y)))
def GL:Int->St:=(λ (x:Int)=>Jgu p0_ p1_ i_2 x)
def L8:(Unit⊕Bool)->Ex->St->Prop:=xS (xX 0 0 (λ (y:Unit)=>Jgt)) (xR ty Tryz.f51 (λ (y:Bool)=>.d (.bool y)))
def GM:Int->St:=(λ (x:Int)=>Jgs p0_ p1_ x)
variable {p0_ p1_ i_2 k_5}
theorem FO (x:Int) (z:(Int⊕(Unit⊕Bool))) (H:Dg n p0_ p1_ i_2 x=some z):WP (cxk 53 0) (Ay Tryz.f51) [1,1,0,1,0,0,1,0,0,1,1,0,0] (Ax 0 (GL p0_ p1_ i_2) (L7 p0_ p1_ i_2) z) (GL p0_ p1_ i_2 x):=by
 revert H
 generalize x=k_5
 intro H
 refine sq (sr (ck 3 (bx H λ x24 h79 H=>sp (Am (eL eS) h79) (ck 1 (sp (Av eS x24) (ck 1 (en (cn H (λ H=>?_) (λ H=>?_)))))))))
 ·refine sk (qz (sq (bk 3 (sr (ck 2 (bx H λ x25 h80 H=>sp (Am (eL eS) h80) (ck 2 (bx H λ x26 h81 H=>sp (Am eS h81) (ck 3 (bx H λ x27 h82 H=>sp (Am (eL eS) h82) (ck 2 (bx H λ x28 h83 H=>sp (Am eS h83) (ck 2 (en (cn H (λ H=>?_) (λ H=>?_))))))))))))))))
  ·exact sr (ck 1 (en (re (qR (qr (by cases H;exact ro rfl rd))))))
  ·exact sk (qN (qz (rz (ck 3 (ae (by cases H;exact og (sg [0,1,5,6])))))))
 ·exact ex 2 (qx (by cases H;exact xo rfl (sg [0,1,5])))
theorem FP (x:Int) (z:(Int⊕(Unit⊕Bool))) (H:Dh n p0_ p1_ x=some z):WP (cxk 53 0) (Ay Tryz.f51) [1,1,0,1,0,0] (Ax 0 (GM p0_ p1_) (L8) z) (GM p0_ p1_ x):=by
 revert H
 generalize x=i_2
 intro H
 refine sq (sr (ck 2 (sp (Av (eL eS) p0_) (ck 1 (en (cn H (λ H=>?_) (λ H=>?_)))))))
 ·refine sk (qz (sq (bk 1 (sq (sr (ck 2 (bx H λ x22 h77 H=>sp (Am (eL eS) h77) (ck 1 (sp (Av eS x22) (ck 2 (bx H λ x23 h78 H=>sp (Am (eL eS) h78) (ck 1 (sp (Av eS x23) (ck 1 (en (cn H (λ H=>?_) (λ H=>?_)))))))))))))))))
  ·exact sr (ck 1 (en (re (qr (qR (qr (by cases H;exact ro rfl rd)))))))
  ·refine sk (qz (sr (ck 1 (en (bk 2 (bx H λ y24 h84 H=>?_))))))
   rcases y24 with y25|y26
   ·exact lX FO h84 (sg [0,1,5,6]) rfl λ s hE18=>qH (qN (qs (hE18) (rz (ck 3 (ae (by cases H;exact og (sg [0,1,5])))))))
   ·exact lR FO h84 (sg [0,1,5,6]) rfl λ s hE19=>qR (qR (qr (by cases H;exact ro rfl hE19)))
 ·exact ex 0 (qx (by cases H;exact xo rfl (sg [])))
theorem NY {z} (H:HF n p0_ p1_=some z):Ap Tryz.prog 51 [.d (.sl (p0_.map (eL eS))),.d (.sl (p1_.map (eL eS)))] (.d (.bool z)):=by
 refine fO 53 (Jgr p0_ p1_) Tryz.func51 (sr (ck 1 (en (sq (sr (ck 1 (sp (Av (eL eS) p0_) (ck 1 (sp (Av (eL eS) p1_) (ck 1 (en (cn H (λ H=>?_) (λ H=>?_)))))))))))))
 ·exact sr (ck 1 (en (re (qr (by cases H;exact pr rd)))))
 ·refine sk (qz (sq (sr (ck 1 (en (bk 0 (bx H λ y27 h85 H=>?_)))))))
  rcases y27 with y28|y29
  ·exact lX FP h85 (sg [0,1,5]) rfl λ s hE20=>qH (qs (hE20) (sr (ck 1 (en (re (by cases H;exact pr rd))))))
  ·exact lR FP h85 (sg [0,1,5]) rfl λ s hE21=>qR (qr (by cases H;exact pr hE21))
end
section
variable (p0_:Ae) (p1_:Ae) (i_3:Int) (x29:Aw) (x30:Aw) (k_6:Int)
def Jgw:St:=⟨(0,.agg [.d (.int .i64 p0_.W),.d (.int .i64 p0_.H),.d (.int .i64 p0_.Gap),.d (.sl (p0_.F.map As))])::(1,.agg [.d (.int .i64 p1_.W),.d (.int .i64 p1_.H),.d (.int .i64 p1_.Gap),.d (.sl (p1_.F.map As))])::[],[]⟩
def Jgx:St:=⟨(2,.ptr 0 0)::(3,.ptr 1 0)::(5,.d (.int .i64 i_3))::[],[some (.box (AF p0_)),some (.box (AF p1_))]⟩
def Jgy:St:=⟨[],[]⟩
def Jgz:St:=⟨(2,.ptr 0 0)::(3,.ptr 1 0)::(5,.d (.int .i64 i_3))::(6,.ptr 2 0)::(7,.ptr 3 0)::(8,.d (.int .i64 k_6))::[],[some (.box (AF p0_)),some (.box (AF p1_)),some (.box (Dx x29)),some (.box (Dx x30))]⟩
def JgA:St:=⟨(2,.ptr 0 0)::(3,.ptr 1 0)::(5,.d (.int .i64 i_3))::[],[some (.box (AF p0_)),some (.box (AF p1_))]⟩
def JC:(Unit⊕Bool)->Ex->St->Prop:=xS (xX 0 2 (λ (y:Unit)=>JgA p0_ p1_ i_3)) (xR ty Tryz.f52 (λ (y:Bool)=>.d (.bool y)))
def EI:Int->St:=(λ (x:Int)=>Jgz p0_ p1_ i_3 x29 x30 x)
def JD:(Unit⊕Bool)->Ex->St->Prop:=xS (xX 0 0 (λ (y:Unit)=>Jgy)) (xR ty Tryz.f52 (λ (y:Bool)=>.d (.bool y)))
def EJ:Int->St:=(λ (x:Int)=>Jgx p0_ p1_ x)
variable {p0_ p1_ i_3 x29 x30 k_6}
theorem Ew (x:Int) (z:(Int⊕(Unit⊕Bool))) (H:Cq n p0_ p1_ i_3 x29 x30 x=some z):WP (cxk 93 0) (Ay Tryz.f52) [1,1,0,1,0,0,1,0,0,1,1,1,0,0] (Ax 0 (EI p0_ p1_ i_3 x29 x30) (JC p0_ p1_ i_3) z) (EI p0_ p1_ i_3 x29 x30 x):=by
 revert H
 generalize x=k_6
 intro H
 refine sq (sr (ck 3 (sp (Av Ab x29.P) (ck 1 (en (cn H (λ H=>?_) (λ H=>?_)))))))
 ·refine sk (qz (sq (bk 3 (sr (ck 3 (bx H λ x31 h88 H=>sp (Am Ab h88) (ck 4 (bx H λ x32 h89 H=>sp (Am Ab h89) (ck 2 (en (cn H (λ H=>?_) (λ H=>?_))))))))))))
  ·exact sr (ck 1 (en (re (qR (qr (by cases H;exact ro rfl rd))))))
  ·exact sk (qN (qz (rz (ck 3 (ae (by cases H;exact og (sg [2,3,5,6,7,8])))))))
 ·exact ex 2 (qx (by cases H;exact xo rfl (sg [2,3,5])))
theorem Ey (x:Int) (z:(Int⊕(Unit⊕Bool))) (H:Cr n p0_ p1_ x=some z):WP (cxk 93 0) (Ay Tryz.f52) [1,1,0,1,0,0] (Ax 0 (EJ p0_ p1_) (JD) z) (EJ p0_ p1_ x):=by
 revert H
 generalize x=i_3
 intro H
 refine sq (sr (ck 3 (sp (Av As p0_.F) (ck 1 (en (cn H (λ H=>?_) (λ H=>?_)))))))
 ·refine sk (qz (sq (bk 1 (sr (ck 3 (bx H λ x29 h86 H=>sp (Am As h86) (ck 4 (bx H λ x30 h87 H=>sp (Am As h87) (ck 5 (en (sq (sr (ck 7 (gc 1 (!(x29.Kind != x30.Kind)) (ck 1 (gc 2 (!(x29.Kind != x30.Kind)) (pO (ck 2 (gc 1 (!((x29.Kind != x30.Kind)||(x29.Texture != x30.Texture))) (sE (g:=(!((x29.Kind != x30.Kind)||(x29.Texture != x30.Texture)))) (λ hg=>Av Ab x29.P) (ck 1 (gc 1 (!((x29.Kind != x30.Kind)||(x29.Texture != x30.Texture))) (sE (g:=(!((x29.Kind != x30.Kind)||(x29.Texture != x30.Texture)))) (λ hg=>Av Ab x30.P) (gc 1 (!((x29.Kind != x30.Kind)||(x29.Texture != x30.Texture))) (pO (en (cn H (λ H=>?_) (λ H=>?_))))))))))))))))))))))))))))
  ·exact sr (ck 1 (en (re (qr (qR (qr (by cases H;exact ro rfl rd)))))))
  ·refine sk (qz (sr (ck 1 (en (bk 2 (bx H λ y30 h90 H=>?_))))))
   rcases y30 with y31|y32
   ·exact lX Ew h90 (sg [2,3,5,6,7,8]) rfl λ s hE22=>qH (qN (qs (hE22) (rz (ck 3 (ae (by cases H;exact og (sg [2,3,5])))))))
   ·exact lR Ew h90 (sg [2,3,5,6,7,8]) rfl λ s hE23=>qR (qR (qr (by cases H;exact ro rfl hE23)))
 ·exact ex 0 (qx (by cases H;exact xo rfl (sg [])))
theorem K2 {z} (H:EV n p0_ p1_=some z):Ap Tryz.prog 52 [.agg (AF p0_),.agg (AF p1_)] (.d (.bool z)):=by
 refine fO 93 (Jgw p0_ p1_) Tryz.func52 (sr (ck 3 (en (sq (sr (ck 7 (gc 1 (!(p0_.W != p1_.W)) (ck 1 (gc 2 (!(p0_.W != p1_.W)) (pO (ck 2 (gc 1 (!((p0_.W != p1_.W)||(p0_.H != p1_.H))) (ck 1 (gc 2 (!((p0_.W != p1_.W)||(p0_.H != p1_.H))) (pO (ck 2 (gc 1 (!(((p0_.W != p1_.W)||(p0_.H != p1_.H))||(p0_.Gap != p1_.Gap))) (sE (g:=(!(((p0_.W != p1_.W)||(p0_.H != p1_.H))||(p0_.Gap != p1_.Gap)))) (λ hg=>Av As p0_.F) (ck 1 (gc 1 (!(((p0_.W != p1_.W)||(p0_.H != p1_.H))||(p0_.Gap != p1_.Gap))) (sE (g:=(!(((p0_.W != p1_.W)||(p0_.H != p1_.H))||(p0_.Gap != p1_.Gap)))) (λ hg=>Av As p1_.F) (gc 1 (!(((p0_.W != p1_.W)||(p0_.H != p1_.H))||(p0_.Gap != p1_.Gap))) (pO (en (cn H (λ H=>?_) (λ H=>?_))))))))))))))))))))))))))
 ·exact sr (ck 1 (en (re (qr (by cases H;exact pr rd)))))
 ·refine sk (qz (sq (sr (ck 1 (en (bk 0 (bx H λ y33 h91 H=>?_)))))))
  rcases y33 with y34|y35
  ·exact lX Ey h91 (sg [2,3,5]) rfl λ s hE24=>qH (qs (hE24) (sr (ck 1 (en (re (by cases H;exact pr rd))))))
  ·exact lR Ey h91 (sg [2,3,5]) rfl λ s hE25=>qR (qr (by cases H;exact pr hE25))
end
section
variable (p0_:Af) (p1_:Af)
def JgB:St:=⟨(0,.agg [.d (.int .i64 p0_.Kind),.d (.int .i64 p0_.Level),.d (.str p0_.Text),.d (.sl (p0_.Rows.map (eL eS))),.d (.sl (p0_.F.map AC)),.d (.int .i64 p0_.Pic.W),.d (.int .i64 p0_.Pic.H),.d (.int .i64 p0_.Pic.Gap),.d (.sl (p0_.Pic.F.map As)),.d (.int .i64 p0_.Page)])::(1,.agg [.d (.int .i64 p1_.Kind),.d (.int .i64 p1_.Level),.d (.str p1_.Text),.d (.sl (p1_.Rows.map (eL eS))),.d (.sl (p1_.F.map AC)),.d (.int .i64 p1_.Pic.W),.d (.int .i64 p1_.Pic.H),.d (.int .i64 p1_.Pic.Gap),.d (.sl (p1_.Pic.F.map As)),.d (.int .i64 p1_.Page)])::[],[]⟩
variable {p0_ p1_}
theorem MV {z} (H:GC n p0_ p1_=some z):Ap Tryz.prog 34 [.agg (Tr p0_),.agg (Tr p1_)] (.d (.bool z)):=by
 refine fO 51 (JgB p0_ p1_) Tryz.func34 (sr (ck 3 (en (sq (sr (ck 7 (gc 1 (!(p0_.Kind != p1_.Kind)) (ck 1 (gc 2 (!(p0_.Kind != p1_.Kind)) (pO (ck 2 (gc 1 (!((p0_.Kind != p1_.Kind)||(p0_.Level != p1_.Level))) (ck 1 (gc 2 (!((p0_.Kind != p1_.Kind)||(p0_.Level != p1_.Level))) (pO (ck 2 (gc 1 (!(((p0_.Kind != p1_.Kind)||(p0_.Level != p1_.Level))||(!(p0_.Text==p1_.Text)))) (ck 1 (gc 2 (!(((p0_.Kind != p1_.Kind)||(p0_.Level != p1_.Level))||(!(p0_.Text==p1_.Text)))) (pO (ck 2 (gc 1 (!((((p0_.Kind != p1_.Kind)||(p0_.Level != p1_.Level))||(!(p0_.Text==p1_.Text)))||(p0_.Page != p1_.Page))) (ck 1 (gc 1 (!((((p0_.Kind != p1_.Kind)||(p0_.Level != p1_.Level))||(!(p0_.Text==p1_.Text)))||(p0_.Page != p1_.Page))) (bx H λ r24 h92 H=>cG false (leZ) rfl (λ hg=>Tv (Bc h92 hg)) (Or.inl rfl) (Ca (λ hh=>hh) (Ca (λ hh=>hh) (Dd))) rfl (gc 1 (!((((p0_.Kind != p1_.Kind)||(p0_.Level != p1_.Level))||(!(p0_.Text==p1_.Text)))||(p0_.Page != p1_.Page))) (pO (en (cn H (λ H=>?_) (λ H=>?_))))))))))))))))))))))))))))))
 ·exact sr (ck 1 (en (re (qr (by cases H;exact pr rd)))))
 ·exact sk (qz (sr (ck 4 (bx H λ r25 h93 H=>ca false (NY h93) (ck 2 (gc 1 r25 (ck 1 (gc 1 r25 (bx H λ r26 h94 H=>cG false (leZ) rfl (λ hg=>K2 (Bc h94 hg)) (Or.inl rfl) (Ca (λ hh=>hh) (Ca (λ hh=>hh) (Dd))) rfl (pA (ck 1 (en (re (by cases H;exact pr rd))))))))))))))
end
section
variable (p0_:(List Af)) (p1_:(List Af)) (i_4:Int)
def JgC:St:=⟨(0,.d (.sl (p0_.map Au)))::(1,.d (.sl (p1_.map Au)))::[],[]⟩
def JgD:St:=⟨(0,.d (.sl (p0_.map Au)))::(1,.d (.sl (p1_.map Au)))::(5,.d (.int .i64 i_4))::[],[]⟩
def JgE:St:=⟨[],[]⟩
def QY:(Unit⊕Bool)->Ex->St->Prop:=xS (xX 0 0 (λ (y:Unit)=>JgE)) (xR ty Tryz.f13 (λ (y:Bool)=>.d (.bool y)))
def J9:Int->St:=(λ (x:Int)=>JgD p0_ p1_ x)
variable {p0_ p1_ i_4}
theorem Jj (x:Int) (z:(Int⊕(Unit⊕Bool))) (H:F5 n p0_ p1_ x=some z):WP (cxk 27 0) (Ay Tryz.f13) [1,1,0,1,0,0] (Ax 0 (J9 p0_ p1_) (QY) z) (J9 p0_ p1_ x):=by
 revert H
 generalize x=i_4
 intro H
 refine sq (sr (ck 2 (sp (Av Au p0_) (ck 1 (en (cn H (λ H=>?_) (λ H=>?_)))))))
 ·refine sk (qz (sq (bk 1 (sr (ck 2 (bx H λ x33 h95 H=>sp (Am Au h95) (ck 3 (bx H λ x34 h96 H=>sp (Am Au h96) (ck 1 (bx H λ r27 h97 H=>ca false (MV h97) (ck 1 (en (cn H (λ H=>?_) (λ H=>?_))))))))))))))
  ·exact sr (ck 1 (en (re (qR (qr (by cases H;exact ro rfl rd))))))
  ·exact sk (qN (qz (rz (ck 3 (ae (by cases H;exact og (sg [0,1,5])))))))
 ·exact ex 0 (qx (by cases H;exact xo rfl (sg [])))
theorem MW {z} (H:EW n p0_ p1_=some z):Ap Tryz.prog 13 [.d (.sl (p0_.map Au)),.d (.sl (p1_.map Au))] (.d (.bool z)):=by
 refine fO 27 (JgC p0_ p1_) Tryz.func13 (sr (ck 1 (en (sq (sr (ck 1 (sp (Av Au p0_) (ck 1 (sp (Av Au p1_) (ck 1 (en (cn H (λ H=>?_) (λ H=>?_)))))))))))))
 ·exact sr (ck 1 (en (re (qr (by cases H;exact pr rd)))))
 ·refine sk (qz (sq (sr (ck 1 (en (bk 0 (bx H λ y36 h98 H=>?_)))))))
  rcases y36 with y37|y38
  ·exact lX Jj h98 (sg [0,1,5]) rfl λ s hE26=>qH (qs (hE26) (sr (ck 1 (en (re (by cases H;exact pr rd))))))
  ·exact lR Jj h98 (sg [0,1,5]) rfl λ s hE27=>qR (qr (by cases H;exact pr hE27))
end
section
variable (p0_:(List Ac)) (p1_:(List Ac)) (i_5:Int)
def JgF:St:=⟨(0,.d (.sl (p0_.map Ak)))::(1,.d (.sl (p1_.map Ak)))::[],[]⟩
def JgG:St:=⟨(0,.d (.sl (p0_.map Ak)))::(1,.d (.sl (p1_.map Ak)))::(5,.d (.int .i64 i_5))::[],[]⟩
def JgH:St:=⟨[],[]⟩
def JE:(Unit⊕Bool)->Ex->St->Prop:=xS (xX 0 0 (λ (y:Unit)=>JgH)) (xR ty Tryz.f21 (λ (y:Bool)=>.d (.bool y)))
def EK:Int->St:=(λ (x:Int)=>JgG p0_ p1_ x)
variable {p0_ p1_ i_5}
theorem Ez (x:Int) (z:(Int⊕(Unit⊕Bool))) (H:Cs n p0_ p1_ x=some z):WP (cxk 26 0) (Ay Tryz.f21) [1,1,0,1,0,0] (Ax 0 (EK p0_ p1_) (JE) z) (EK p0_ p1_ x):=by
 revert H
 generalize x=i_5
 intro H
 refine sq (sr (ck 2 (sp (Av Ak p0_) (ck 1 (en (cn H (λ H=>?_) (λ H=>?_)))))))
 ·refine sk (qz (sq (bk 1 (sr (ck 2 (bx H λ x35 h99 H=>sp (Am Ak h99) (ck 3 (bx H λ x36 h100 H=>sp (Am Ak h100) (ck 2 (en (cn H (λ H=>?_) (λ H=>?_))))))))))))
  ·exact sr (ck 1 (en (re (qR (qr (by cases H;exact ro rfl rd))))))
  ·exact sk (qN (qz (rz (ck 3 (ae (by cases H;exact og (sg [0,1,5])))))))
 ·exact ex 0 (qx (by cases H;exact xo rfl (sg [])))
theorem K3 {z} (H:EX n p0_ p1_=some z):Ap Tryz.prog 21 [.d (.sl (p0_.map Ak)),.d (.sl (p1_.map Ak))] (.d (.bool z)):=by
 refine fO 26 (JgF p0_ p1_) Tryz.func21 (sr (ck 1 (en (sq (sr (ck 1 (sp (Av Ak p0_) (ck 1 (sp (Av Ak p1_) (ck 1 (en (cn H (λ H=>?_) (λ H=>?_)))))))))))))
 ·exact sr (ck 1 (en (re (qr (by cases H;exact pr rd)))))
 ·refine sk (qz (sq (sr (ck 1 (en (bk 0 (bx H λ y39 h101 H=>?_)))))))
  rcases y39 with y40|y41
  ·exact lX Ez h101 (sg [0,1,5]) rfl λ s hE28=>qH (qs (hE28) (sr (ck 1 (en (re (by cases H;exact pr rd))))))
  ·exact lR Ez h101 (sg [0,1,5]) rfl λ s hE29=>qR (qr (by cases H;exact pr hE29))
end
section
variable (p0_:An) (p1_:An) (i_6:Int)
def JgI:St:=⟨(0,.agg [.d (.sl (p0_.Agreed.map Ak)),.d (.sl (p0_.Quarrels.map (Bg A9)))])::(1,.agg [.d (.sl (p1_.Agreed.map Ak)),.d (.sl (p1_.Quarrels.map (Bg A9)))])::[],[]⟩
def JgJ:St:=⟨(2,.ptr 0 0)::(3,.ptr 1 0)::(5,.d (.int .i64 i_6))::[],[some (.box [.d (.sl (p0_.Agreed.map Ak)),.d (.sl (p0_.Quarrels.map (Bg A9)))]),some (.box [.d (.sl (p1_.Agreed.map Ak)),.d (.sl (p1_.Quarrels.map (Bg A9)))])]⟩
def JgK:St:=⟨[],[]⟩
def QZ:(Unit⊕Bool)->Ex->St->Prop:=xS (xX 0 0 (λ (y:Unit)=>JgK)) (xR ty Tryz.f18 (λ (y:Bool)=>.d (.bool y)))
def Ka:Int->St:=(λ (x:Int)=>JgJ p0_ p1_ x)
variable {p0_ p1_ i_6}
theorem Jk (x:Int) (z:(Int⊕(Unit⊕Bool))) (H:F6 n p0_ p1_ x=some z):WP (cxk 39 0) (Ay Tryz.f18) [1,1,0,1,0,0] (Ax 0 (Ka p0_ p1_) (QZ) z) (Ka p0_ p1_ x):=by
 revert H
 generalize x=i_6
 intro H
 refine sq (sr (ck 3 (sp (Av (Bg A9) p0_.Quarrels) (ck 1 (en (cn H (λ H=>?_) (λ H=>?_)))))))
 ·refine sk (qz (sq (bk 1 (sr (ck 3 (bx H λ x37 h103 H=>sp (Am (Bg A9) h103) (ck 4 (bx H λ x38 h104 H=>sp (Am (Bg A9) h104) (ck 2 (en (cn H (λ H=>?_) (λ H=>?_))))))))))))
  ·exact sr (ck 1 (en (re (qR (qr (by cases H;exact ro rfl rd))))))
  ·exact sk (qN (qz (rz (ck 3 (ae (by cases H;exact og (sg [2,3,5])))))))
 ·exact ex 0 (qx (by cases H;exact xo rfl (sg [])))
theorem Tw {z} (H:NK n p0_ p1_=some z):Ap Tryz.prog 18 [.agg [.d (.sl (p0_.Agreed.map Ak)),.d (.sl (p0_.Quarrels.map (Bg A9)))],.agg [.d (.sl (p1_.Agreed.map Ak)),.d (.sl (p1_.Quarrels.map (Bg A9)))]] (.d (.bool z)):=by
 refine fO 39 (JgI p0_ p1_) Tryz.func18 (sr (ck 3 (en (sq (sr (ck 4 (bx H λ r28 h102 H=>ca false (K3 h102) (ck 3 (gc 1 (!(!r28)) (sE (g:=(!(!r28))) (λ hg=>Av (Bg A9) p0_.Quarrels) (ck 1 (gc 1 (!(!r28)) (sE (g:=(!(!r28))) (λ hg=>Av (Bg A9) p1_.Quarrels) (gc 1 (!(!r28)) (pO (en (cn H (λ H=>?_) (λ H=>?_))))))))))))))))))
 ·exact sr (ck 1 (en (re (qr (by cases H;exact pr rd)))))
 ·refine sk (qz (sq (sr (ck 1 (en (bk 0 (bx H λ y42 h105 H=>?_)))))))
  rcases y42 with y43|y44
  ·exact lX Jk h105 (sg [2,3,5]) rfl λ s hE30=>qH (qs (hE30) (sr (ck 1 (en (re (by cases H;exact pr rd))))))
  ·exact lR Jk h105 (sg [2,3,5]) rfl λ s hE31=>qR (qr (by cases H;exact pr hE31))
end
section
variable (r30:((List Af)×Int)) (r31:Ac) (r32:Ac) (r33:Ac) (r34:Ac) (i_7:Int)
def JjP:St:=⟨[],[]⟩
def JjQ:St:=⟨(1,.d (.sl (List.map Au ([({ Kind:=1,Level:=0,Text:=[97,98,99],Rows:=[],F:=[],Pic:=({ W:=0,H:=0,Gap:=0,F:=[] }:Ae),Page:=0 }:Af)]))))::(2,.d (.sl (r30.1.map Au)))::(3,.d (.int .i64 r30.2))::(4,.osl 0 4 0 (List.length ([r31,r32,({ Block:=1,At:=0,Cut:=0,Put:=[97] }:Ac),r33,r34])))::(5,.d (.int .i64 i_7))::[],[some (.arr 4 (List.map Ak ([r31,r32,({ Block:=1,At:=0,Cut:=0,Put:=[97] }:Ac),r33,r34])))]⟩
def JjR:St:=⟨(2,.d (.sl (r30.1.map Au)))::(3,.d (.int .i64 r30.2))::[],[]⟩
def NZ:(Unit⊕Bool)->Ex->St->Prop:=xS (xX 0 0 (λ (y:Unit)=>JjR r30)) (xR ty Tryz.f8 (λ (y:Bool)=>.d (.bool y)))
def H8:Int->St:=(λ (x:Int)=>JjQ r30 r31 r32 r33 r34 x)
variable {r30 r31 r32 r33 r34 i_7}
theorem Hp (x:Int) (z:(Int⊕(Unit⊕Bool))) (H:Ea n r30 r31 r32 r33 r34 x=some z):WP (cxk 165 0) (Ay Tryz.f8) [1,1,1,1,0,1,0,0] (Ax 0 (H8 r30 r31 r32 r33 r34) (NZ r30) z) (H8 r30 r31 r32 r33 r34 x):=by
 revert H
 generalize x=i_7
 intro H
 refine sq (sr (ck 4 (en (cn H (λ H=>?_) (λ H=>?_)))))
 ·refine sk (qz (sq (bk 1 (sr (ck 3 (bx H λ x39 h112 H=>sp (Bi 0 4 h112) (sp (B9 Ak 0 0 (ty 33) h112) (bx H λ r35 h113 H=>ca false (I2 h113) (ck 5 (en (sr (ck 2 (en (cn H (λ H=>?_) (λ H=>?_)))))))))))))))
  ·exact sr (ck 1 (en (re (qR (qr (by cases H;exact ro rfl rd))))))
  ·exact sk (qN (qz (rz (ck 3 (ae (by cases H;exact og (sg [1,2,3,4,5])))))))
 ·exact ex 0 (qx (by cases H;exact xo rfl (sg [2,3])))
theorem Q0 {z} (H:Hf n=some z):Ap Tryz.prog 8 [] (.d (.bool z)):=by
 refine fO 165 JjP Tryz.func8 (sr (ck 1 (en (sr (ck 3 (en (sq (rg (fz (enc:=Au) (xs:=([({ Kind:=1,Level:=0,Text:=[97,98,99],Rows:=[],F:=[],Pic:=({ W:=0,H:=0,Gap:=0,F:=[] }:Ae),Page:=0 }:Af)])) 1 0 10) (ck 1 (bx H λ r29 h106 H=>ca false (AA h106) (bx H λ r30 h107 H=>ca false (I2 h107) (ck 5 (en (sr (bx H λ r31 h108 H=>ca false (AA h108) (bx H λ r32 h109 H=>ca false (AA h109) (ck 1 (bx H λ r33 h110 H=>ca false (AA h110) (bx H λ r34 h111 H=>ca false (AA h111) (ck 2 (en (sq (sr (ck 1 (en (bk 0 (bx H λ y45 h114 H=>?_)))))))))))))))))))))))))))
 rcases y45 with y46|y47
 ·exact lX Hp h114 (sg [1,2,3,4,5]) rfl λ s hE32=>qH (qs (hE32) (sr (bx H λ r36 h115 H=>ca false (AA h115) (bx H λ r37 h116 H=>ca false (AA h116) (bx H λ r38 h117 H=>ca false (DU h117) (ck 6 (en (sr (bx H λ r39 h118 H=>ca false (AA h118) (bx H λ r40 h119 H=>ca false (AA h119) (bx H λ r41 h120 H=>ca false (DU h120) (ck 6 (en (sr (bx H λ r42 h121 H=>ca false (AA h121) (bx H λ r43 h122 H=>ca false (AA h122) (bx H λ r44 h123 H=>ca false (DU h123) (ck 6 (en (sr (bx H λ r45 h124 H=>ca false (AA h124) (bx H λ r46 h125 H=>ca false (AA h125) (bx H λ r47 h126 H=>ca false (DU h126) (ck 6 (en (sr (bx H λ r48 h127 H=>ca false (AA h127) (bx H λ r49 h128 H=>ca false (AA h128) (bx H λ r50 h129 H=>ca false (DU h129) (ck 6 (en (sr (bx H λ r51 h130 H=>ca false (AA h130) (ck 3 (en (sr (ck 2 (bx H λ r52 h131 H=>ca false (AA h131) (ck 1 (bx H λ r53 h132 H=>ca false (AA h132) (ck 1 (bx H λ r54 h133 H=>ca false (AA h133) (ck 2 (bx H λ r55 h134 H=>cb (ks:=[6]) (obl:=[(0+List.length [({ Reader:=0,C:=r51 }:AZ),({ Reader:=0,C:=r51 }:AZ),({ Reader:=0,C:=r52 }:AZ),({ Reader:=0,C:=r53 }:AZ),({ Reader:=0,C:=r54 }:AZ)],List.length (List.map CJ [({ Reader:=0,C:=r51 }:AZ),({ Reader:=0,C:=r51 }:AZ),({ Reader:=0,C:=r52 }:AZ),({ Reader:=0,C:=r53 }:AZ),({ Reader:=0,C:=r54 }:AZ)]))]) false (leK leM (leZ)) (CN Gv rfl) (Vg h134) (Or.inr ⟨(Jcw λ _=>rfl),⟨(Jcw λ _=>rfl),trivial⟩⟩) rfl (ck 2 (en (sr (bx H λ r56 h135 H=>ca false (AA h135) (bx H λ r57 h136 H=>ca false (AA h136) (bx H λ r58 h137 H=>ca false (AA h137) (ck 1 (bx H λ r59 h138 H=>cb (ks:=[8]) (obl:=[(0+List.length [r57,r58],List.length (List.map Ak [r57,r58]))]) false (leK leM (leZ)) (CN rfl (CN Gv rfl)) (MT h138) (Or.inr ⟨⟨trivial,⟨trivial,⟨trivial,⟨trivial,trivial⟩⟩⟩⟩,⟨trivial,⟨trivial,trivial⟩⟩⟩) rfl (ck 8 (en (sr (ck 5 (gc 1 (r30.2==0) (bx H λ r60 h139 H=>cG (ks:=[10]) (obl:=[(0+List.length ([({ Kind:=1,Level:=0,Text:=[97,120,121,99],Rows:=[],F:=[],Pic:=({ W:=0,H:=0,Gap:=0,F:=[] }:Ae),Page:=0 }:Af)]),List.length (List.map Au ([({ Kind:=1,Level:=0,Text:=[97,120,121,99],Rows:=[],F:=[],Pic:=({ W:=0,H:=0,Gap:=0,F:=[] }:Ae),Page:=0 }:Af)])))]) false (leK leM (leZ)) (CN rfl (CN Gv rfl)) (λ hg=>MW (Bc h139 hg)) (Or.inr trivial) (Ca (λ hh=>hh) (Ca (λ hh=>hh) (Dd))) rfl (pA (ck 2 (pA (ck 2 (bx H λ r61 h140 H=>cG false (leZ) rfl (λ hg=>AA (Bc h140 hg)) (Or.inl rfl) (Dd) rfl (gc 1 (((r30.2==0)&&r60)&&r38.2) (pA (ck 2 (gc 1 ((((r30.2==0)&&r60)&&r38.2)&&((r38.1.Block==r61.Block)&&((r38.1.At==r61.At)&&((r38.1.Cut==r61.Cut)&&((r38.1.Put==r61.Put)&&true))))) (pA (ck 2 (gc 1 (((((r30.2==0)&&r60)&&r38.2)&&((r38.1.Block==r61.Block)&&((r38.1.At==r61.At)&&((r38.1.Cut==r61.Cut)&&((r38.1.Put==r61.Put)&&true)))))&&(!r41.2)) (pA (ck 2 (pA (ck 2 (bx H λ r62 h141 H=>cG false (leZ) rfl (λ hg=>AA (Bc h141 hg)) (Or.inl rfl) (Dd) rfl (gc 1 (((((((r30.2==0)&&r60)&&r38.2)&&((r38.1.Block==r61.Block)&&((r38.1.At==r61.At)&&((r38.1.Cut==r61.Cut)&&((r38.1.Put==r61.Put)&&true)))))&&(!r41.2))&&(!r44.2))&&r47.2) (pA (ck 2 (pA (ck 2 (bx H λ r63 h142 H=>cG false (leZ) rfl (λ hg=>AA (Bc h142 hg)) (Or.inl rfl) (Dd) rfl (gc 1 (((((((((r30.2==0)&&r60)&&r38.2)&&((r38.1.Block==r61.Block)&&((r38.1.At==r61.At)&&((r38.1.Cut==r61.Cut)&&((r38.1.Put==r61.Put)&&true)))))&&(!r41.2))&&(!r44.2))&&r47.2)&&((r47.1.Block==r62.Block)&&((r47.1.At==r62.At)&&((r47.1.Cut==r62.Cut)&&((r47.1.Put==r62.Put)&&true)))))&&r50.2) (pA (ck 1 (en (sr (ck 3 (bx H λ r64 h143 H=>cG false (leZ) rfl (λ hg=>AA (Bc h143 hg)) (Or.inl rfl) (Dd) rfl (bx H λ r65 h144 H=>cG false (leZ) rfl (λ hg=>AA (Bc h144 hg)) (Or.inl rfl) (Dd) rfl (gc 1 ((((((((((r30.2==0)&&r60)&&r38.2)&&((r38.1.Block==r61.Block)&&((r38.1.At==r61.At)&&((r38.1.Cut==r61.Cut)&&((r38.1.Put==r61.Put)&&true)))))&&(!r41.2))&&(!r44.2))&&r47.2)&&((r47.1.Block==r62.Block)&&((r47.1.At==r62.At)&&((r47.1.Cut==r62.Cut)&&((r47.1.Put==r62.Put)&&true)))))&&r50.2)&&((r50.1.Block==r63.Block)&&((r50.1.At==r63.At)&&((r50.1.Cut==r63.Cut)&&((r50.1.Put==r63.Put)&&true))))) (ck 1 (gc 2 ((((((((((r30.2==0)&&r60)&&r38.2)&&((r38.1.Block==r61.Block)&&((r38.1.At==r61.At)&&((r38.1.Cut==r61.Cut)&&((r38.1.Put==r61.Put)&&true)))))&&(!r41.2))&&(!r44.2))&&r47.2)&&((r47.1.Block==r62.Block)&&((r47.1.At==r62.At)&&((r47.1.Cut==r62.Cut)&&((r47.1.Put==r62.Put)&&true)))))&&r50.2)&&((r50.1.Block==r63.Block)&&((r50.1.At==r63.At)&&((r50.1.Cut==r63.Cut)&&((r50.1.Put==r63.Put)&&true))))) (bx H λ r66 h145 H=>cG (ks:=[11,12]) (obl:=[(0+List.length [r64,r65],List.length (List.map Ak [r64,r65])),(0+List.length [({ a0:=3,a1:=4 }:(Cu Int))],List.length (List.map (Bg A9) [({ a0:=3,a1:=4 }:(Cu Int))]))]) false (leK leM (leK leM (leZ))) (CN rfl (CN (Jkh (CN Gv (CN Gv rfl))) rfl)) (λ hg=>Tw (Bc h145 hg)) (Or.inr trivial) (Ca (λ hh=>hh) (Ca (λ hh=>hh) (Dd))) rfl (pA (ck 2 (gc 1 (((((((((((r30.2==0)&&r60)&&r38.2)&&((r38.1.Block==r61.Block)&&((r38.1.At==r61.At)&&((r38.1.Cut==r61.Cut)&&((r38.1.Put==r61.Put)&&true)))))&&(!r41.2))&&(!r44.2))&&r47.2)&&((r47.1.Block==r62.Block)&&((r47.1.At==r62.At)&&((r47.1.Cut==r62.Cut)&&((r47.1.Put==r62.Put)&&true)))))&&r50.2)&&((r50.1.Block==r63.Block)&&((r50.1.At==r63.At)&&((r50.1.Cut==r63.Cut)&&((r50.1.Put==r63.Put)&&true)))))&&r66) (pA (ck 2 (gc 1 ((((((((((((r30.2==0)&&r60)&&r38.2)&&((r38.1.Block==r61.Block)&&((r38.1.At==r61.At)&&((r38.1.Cut==r61.Cut)&&((r38.1.Put==r61.Put)&&true)))))&&(!r41.2))&&(!r44.2))&&r47.2)&&((r47.1.Block==r62.Block)&&((r47.1.At==r62.At)&&((r47.1.Cut==r62.Cut)&&((r47.1.Put==r62.Put)&&true)))))&&r50.2)&&((r50.1.Block==r63.Block)&&((r50.1.At==r63.At)&&((r50.1.Cut==r63.Cut)&&((r50.1.Put==r63.Put)&&true)))))&&r66)&&(r59.2.1==1)) (pA (ck 1 (en (re (by cases H;exact pr rd))))))))))))))))))))))))))))))))))))))))))))))))))))))))))))))))))))))))))))))))))))))))))))))))))))))))
 ·exact lR Hp h114 (sg [1,2,3,4,5]) rfl λ s hE33=>qR (qr (by cases H;exact pr hE33))
end
section
variable (p0_:(List Int)) (p1_:Int) (p2_:(List UInt8)) (out_1:(List UInt8)) (i_8:Int) (out_2:(List UInt8)) (out_3:(List UInt8)) (out_4:(List UInt8))
def JgL:St:=⟨(0,.d (.sl (p0_.map eU8)))::(1,.d (.int .i64 p1_))::(2,.d (.str p2_))::[],[]⟩
def JgM:St:=⟨(0,.d (.sl (p0_.map eU8)))::(1,.d (.int .i64 p1_))::(2,.d (.str p2_))::(7,.d (.str out_1))::(8,.d (.int .i64 i_8))::[],[]⟩
def JgN:St:=⟨(2,.d (.str p2_))::(7,.d (.str out_2))::[],[]⟩
def JgO:St:=⟨(0,.d (.sl (p0_.map eU8)))::(1,.d (.int .i64 p1_))::(2,.d (.str p2_))::(7,.d (.str out_3))::(8,.d (.int .i64 i_8))::[],[]⟩
def Q2:(List UInt8)->Ex->St->Prop:=xX 0 0 (λ (y:(List UInt8))=>JgN p2_ y)
def Kb:((List UInt8)×Int)->St:=(λ (x:((List UInt8)×Int))=>JgM p0_ p1_ p2_ x.1 x.2)
def JgP:St:=⟨(2,.d (.str p2_))::(7,.d (.str out_4))::[],[]⟩
variable {p0_ p1_ p2_ out_1 i_8 out_2 out_3 out_4}
theorem Pe (x:((List UInt8)×Int)) (z:(((List UInt8)×Int)⊕(List UInt8))) (H:F8 n p0_ p1_ p2_ x.1 x.2=some z):WP (cxk 81 0) (Ay Tryz.f30) [1,1,0,1,0,0] (Ax 0 (Kb p0_ p1_ p2_) (Q2 p2_) z) (Kb p0_ p1_ p2_ x):=by
 obtain ⟨out_1,i_8⟩:=x
 refine sq (sr (ck 2 (sp (Av eU8 p0_) (ck 3 (gc 1 (decide (i_8<((p0_.length:Nat):Int))) (ck 1 (gc 1 (decide (i_8<((p0_.length:Nat):Int))) (pA (en (cn H (λ H=>?_) (λ H=>?_)))))))))))
 ·refine sk (qz (sj (λ (x:(List UInt8))=>JgO p0_ p1_ p2_ i_8 x) (λ (x:(List UInt8))=>F7 n i_8 x) z ?_ (λ hFR17_Text_J1=>?_)))
  ·intro out_3 H
   exact rz (ck 3 (ae (by cases H;exact og (sg [0,1,2,7,8]))))
  refine bk 1 (sr (ck 2 (bx H λ x40 h146 H=>sp (Am eU8 h146) (ck 5 (bx H λ gd1 h147 H=>so (D8 h147) (ck 1 (en (sr (ck 2 (en (cn H (λ H=>?_) (λ H=>?_))))))))))))
  ·exact rz (ck 5 (bx H λ s5 h148 H=>sp (IP h148) (bx H λ s6 h149 H=>sp (NH h149) (ck 1 (ae (qN (qs (sg [0,1,2,7,8]) (hFR17_Text_J1 s6 H))))))))
  ·refine sr (ck 5 (gc 1 (decide (((out_1.length:Nat):Int)>0)) (ck 1 (gc 2 (decide (((out_1.length:Nat):Int)>0)) (pA (ck 3 (gc 2 ((decide (((out_1.length:Nat):Int)>0))&&(decide (((out_1.length:Nat):Int)<AT .i64 p1_ 1))) (bx H λ b4 h150 H=>sE (λ hg=>FY (Bc h150 hg)) (gc 1 ((decide (((out_1.length:Nat):Int)>0))&&(decide (((out_1.length:Nat):Int)<AT .i64 p1_ 1))) (pA (en (cn H (λ H=>?_) (λ H=>?_)))))))))))))
   ·exact rz (ck 1 (bx H λ s7 h151 H=>sp (NH h151) (ck 1 (ae (qN (qs (sg [0,1,2,7,8]) (hFR17_Text_J1 s7 H)))))))
   ·exact sk (qN (qs (sg [0,1,2,7,8]) (hFR17_Text_J1 out_1 H)))
 ·exact ex 0 (qx (by cases H;exact xo rfl (sg [2,7])))
theorem I4 {z} (H:H1 n p0_ p1_ p2_=some z):Ap Tryz.prog 30 [.d (.sl (p0_.map eU8)),.d (.int .i64 p1_),.d (.str p2_)] (.d (.str z)):=by
 refine fO 81 (JgL p0_ p1_ p2_) Tryz.func30 (sr (ck 1 (en (sr (ck 1 (en (sq (sr (ck 1 (en (bk 0 (bx H λ y48 h152 H=>lX Pe h152 (sg [0,1,2,7,8]) rfl λ s hE34=>qH (qs (hE34) (sj (λ (x:(List UInt8))=>JgP p2_ x) (λ (x:(List UInt8))=>Eb n p2_ x) z ?_ (λ hFR17_Text_J2=>?_)))))))))))))))
 ·intro out_4 H
  refine sq (sr (ck 2 (en (cn H (λ H=>?_) (λ H=>?_)))))
  ·exact sr (ck 1 (bx H λ s8 h153 H=>sp (IP h153) (ck 1 (en (re (qr (by cases H;exact pr rd)))))))
  ·exact sk (qz (sr (ck 2 (en (re (by cases H;exact pr rd))))))
 refine sr (ck 6 (gc 2 (decide (((y48.length:Nat):Int)>0)) (bx H λ b5 h154 H=>sE (λ hg=>FY (Bc h154 hg)) (gc 1 (decide (((y48.length:Nat):Int)>0)) (pA (en (cn H (λ H=>?_) (λ H=>?_))))))))
 ·exact rz (ck 4 (bx H λ s9 h155 H=>sp (IP h155) (ck 1 (ae (qs (sg [2,7]) (hFR17_Text_J2 s9 H))))))
 ·exact sk (qs (sg [2,7]) (hFR17_Text_J2 y48 H))
end
section
variable (p0_:Int) (p1_:Int)
def JgQ:St:=⟨(0,.d (.int .u8 p0_))::(1,.d (.int .u8 p1_))::[],[]⟩
variable {p0_ p1_}
theorem HL {z} (H:EY n p0_ p1_=some z):Ap Tryz.prog 81 [.d (.int .u8 p0_),.d (.int .u8 p1_)] (.own 2 (z.map AC)):=by
 refine fO 60 (JgQ p0_ p1_) Tryz.func81 (sr (ck 1 (en (sr (ck 11 (en (sq (sr (ck 2 (en (bk 0 (sr (ck 2 (en (cn H (λ H=>?_) (λ H=>?_))))))))))))))))
 ·exact sr (ck 3 (en (re (qR (qr (by cases H;exact pr (rO (v:=.osl 2 2 0 (List.length [({ Op:=1,N:=IntKind.i64.wrap (Ah p1_ 26) }:Al)])) [2] (ao vo))))))))
 ·refine sr (ck 2 (en (cn H (λ H=>?_) (λ H=>?_))))
  ·exact sr (ck 5 (en (re (qR (qr (by cases H;exact pr (rO (v:=.osl 2 2 0 (List.length [({ Op:=2,N:=0 }:Al),({ Op:=1,N:=IntKind.i64.wrap (Ah p1_ 26) }:Al),({ Op:=0,N:=IntKind.i64.wrap p1_ }:Al)])) [2] (ao vo))))))))
  ·refine sr (ck 2 (en (cn H (λ H=>?_) (λ H=>?_))))
   ·exact sr (ck 5 (en (re (qR (qr (by cases H;exact pr (rO (v:=.osl 2 2 0 (List.length [({ Op:=3,N:=0 }:Al),({ Op:=0,N:=IntKind.i64.wrap p1_ }:Al),({ Op:=1,N:=IntKind.i64.wrap (Ah p1_ 26) }:Al)])) [2] (ao vo))))))))
   ·refine sr (ck 2 (en (cn H (λ H=>?_) (λ H=>?_))))
    ·exact sr (ck 5 (en (re (qR (qr (by cases H;exact pr (rO (v:=.osl 2 2 0 (List.length [({ Op:=4,N:=0 }:Al),({ Op:=0,N:=IntKind.i64.wrap p1_ }:Al),({ Op:=1,N:=IntKind.i64.wrap (Ah p1_ 26) }:Al)])) [2] (ao vo))))))))
    ·refine sr (ck 2 (en (cn H (λ H=>?_) (λ H=>?_))))
     ·exact sr (ck 5 (en (re (qR (qr (by cases H;exact pr (rO (v:=.osl 2 2 0 (List.length [({ Op:=7,N:=0 }:Al),({ Op:=1,N:=IntKind.i64.wrap (Ah p1_ 26) }:Al),({ Op:=0,N:=IntKind.i64.wrap p1_ }:Al)])) [2] (ao vo))))))))
     ·refine sr (ck 2 (en (cn H (λ H=>?_) (λ H=>?_))))
      ·exact sr (ck 7 (en (re (qR (qr (by cases H;exact pr (rO (v:=.osl 2 2 0 (List.length [({ Op:=9,N:=0 }:Al),({ Op:=10,N:=0 }:Al),({ Op:=2,N:=0 }:Al),({ Op:=1,N:=IntKind.i64.wrap (Ah p1_ 26) }:Al),({ Op:=0,N:=IntKind.i64.wrap p1_ }:Al)])) [2] (ao vo))))))))
      ·refine sr (ck 2 (en (cn H (λ H=>?_) (λ H=>?_))))
       ·exact sr (ck 5 (en (re (qR (qr (by cases H;exact pr (rO (v:=.osl 2 2 0 (List.length [({ Op:=6,N:=0 }:Al),({ Op:=0,N:=IntKind.i64.wrap p1_ }:Al),({ Op:=1,N:=IntKind.i64.wrap (Ah p1_ 26) }:Al)])) [2] (ao vo))))))))
       ·exact sk (qN (qz (sr (ck 3 (en (re (by cases H;exact pr (rO (v:=.osl 2 2 0 (List.length [({ Op:=0,N:=IntKind.i64.wrap p1_ }:Al)])) [2] (ao vo)))))))))
end
section
variable (p0_:Al) (x_11:Bool) (x_12:Bool)
def JcL:St:=⟨(0,.agg [.d (.int .i64 p0_.Op),.d (.int .i64 p0_.N)])::[],[]⟩
def JcM:St:=⟨[],[]⟩
def JcN:St:=⟨(1,.ptr 0 0)::(6,.d (.int .i64 p0_.Op))::(27,.d (.bool x_11))::[],[some (.box [.d (.int .i64 p0_.Op),.d (.int .i64 p0_.N)])]⟩
def JcO:St:=⟨(1,.ptr 0 0)::(6,.d (.int .i64 p0_.Op))::(38,.d (.bool x_12))::[],[some (.box [.d (.int .i64 p0_.Op),.d (.int .i64 p0_.N)])]⟩
variable {p0_ x_11 x_12}
theorem I5 {z} (H:Cd n p0_=some z):Ap Tryz.prog 111 [.agg [.d (.int .i64 p0_.Op),.d (.int .i64 p0_.N)]] (.d (.int .i64 z)):=by
 refine fO 88 (JcL p0_) Tryz.func111 (sr (ck 2 (en (sj (λ (x:Unit)=>JcM) (λ (x:Unit)=>Bj n) z ?_ (λ hFR9_Arity_J1=>?_)))))
 ·intro _ H
  exact sr (ck 1 (en (re (by cases H;exact pr rd))))
 refine sr (ck 2 (en (bk 0 (sr (ck 2 (en (cn H (λ H=>?_) (λ H=>?_))))))))
 ·refine sr (ck 5 (gc 2 (decide (p0_.N>=0)) (pA (en (cn H (λ H=>?_) (λ H=>?_))))))
  ·exact sr (ck 1 (en (re (qR (qr (by cases H;exact pr rd))))))
  ·exact sk (qN (qs (sg []) (hFR9_Arity_J1 () H)))
 ·refine sr (ck 2 (en (cn H (λ H=>?_) (λ H=>?_))))
  ·refine sr (ck 5 (gc 2 (decide (p0_.N>=0)) (pA (en (cn H (λ H=>?_) (λ H=>?_))))))
   ·exact sr (ck 1 (en (re (qR (qr (by cases H;exact pr rd))))))
   ·exact sk (qN (qs (sg []) (hFR9_Arity_J1 () H)))
  ·refine sj (λ (x:Bool)=>JcN p0_ x) (λ (x:Bool)=>Bk n p0_ x) z ?_ (λ hFR9_Arity_J2=>?_)
   ·intro x_11 H
    refine cn H (λ H=>?_) (λ H=>?_)
    ·refine sr (ck 3 (en (cn H (λ H=>?_) (λ H=>?_))))
     ·exact sr (ck 1 (en (re (qR (qr (by cases H;exact pr rd))))))
     ·exact sk (qN (qs (sg []) (hFR9_Arity_J1 () H)))
    ·refine sj (λ (x:Bool)=>JcO p0_ x) (λ (x:Bool)=>Ck n p0_ x) z ?_ (λ hFR9_Arity_J3=>?_)
     ·intro x_12 H
      refine cn H (λ H=>?_) (λ H=>?_)
      ·refine sr (ck 3 (en (cn H (λ H=>?_) (λ H=>?_))))
       ·exact sr (ck 1 (en (re (qR (qr (by cases H;exact pr rd))))))
       ·exact sk (qN (qs (sg []) (hFR9_Arity_J1 () H)))
      ·refine sr (ck 2 (en (cn H (λ H=>?_) (λ H=>?_))))
       ·refine sr (ck 5 (gc 2 (decide (p0_.N>=2)) (pA (en (cn H (λ H=>?_) (λ H=>?_))))))
        ·exact sr (ck 4 (en (re (qR (qr (by cases H;exact pr rd))))))
        ·exact sk (qN (qs (sg []) (hFR9_Arity_J1 () H)))
       ·refine sr (ck 2 (en (cn H (λ H=>?_) (λ H=>?_))))
        ·refine sr (ck 8 (en (sr (ck 5 (gc 1 (decide (p0_.N>0)) (pA (ck 2 (gc 1 ((decide (p0_.N>0))&&(decide (Dt .i64 p0_.N 8>=1))) (pA (ck 2 (gc 1 (((decide (p0_.N>0))&&(decide (Dt .i64 p0_.N 8>=1)))&&(decide (Dt .i64 p0_.N 8<=4))) (pA (ck 2 (gc 1 ((((decide (p0_.N>0))&&(decide (Dt .i64 p0_.N 8>=1)))&&(decide (Dt .i64 p0_.N 8<=4)))&&(decide (Ah p0_.N 8>=1))) (pA (en (cn H (λ H=>?_) (λ H=>?_))))))))))))))))))
         ·exact sr (ck 4 (en (re (qR (qr (by cases H;exact pr rd))))))
         ·exact sk (qN (qs (sg []) (hFR9_Arity_J1 () H)))
        ·exact sk (qN (qs (sg []) (hFR9_Arity_J1 () H)))
     refine sr (ck 2 (en (cn H (λ H=>?_) (λ H=>?_))))
     ·exact sk (qs (sg [1,6,38]) (hFR9_Arity_J3 (p0_.Op==9) H))
     ·refine sr (ck 2 (en (cn H (λ H=>?_) (λ H=>?_))))
      ·exact sk (qs (sg [1,6,38]) (hFR9_Arity_J3 (p0_.Op==10) H))
      ·exact rz (ck 2 (ae (qs (sg [1,6,38]) (hFR9_Arity_J3 (p0_.Op==11) H))))
   refine sr (ck 2 (en (cn H (λ H=>?_) (λ H=>?_))))
   ·exact sk (qs (sg [1,6,27]) (hFR9_Arity_J2 (p0_.Op==2) H))
   ·refine sr (ck 2 (en (cn H (λ H=>?_) (λ H=>?_))))
    ·exact sk (qs (sg [1,6,27]) (hFR9_Arity_J2 (p0_.Op==3) H))
    ·refine sr (ck 2 (en (cn H (λ H=>?_) (λ H=>?_))))
     ·exact sk (qs (sg [1,6,27]) (hFR9_Arity_J2 (p0_.Op==4) H))
     ·refine sr (ck 2 (en (cn H (λ H=>?_) (λ H=>?_))))
      ·exact sk (qs (sg [1,6,27]) (hFR9_Arity_J2 (p0_.Op==5) H))
      ·refine sr (ck 2 (en (cn H (λ H=>?_) (λ H=>?_))))
       ·exact sk (qs (sg [1,6,27]) (hFR9_Arity_J2 (p0_.Op==6) H))
       ·refine sr (ck 2 (en (cn H (λ H=>?_) (λ H=>?_))))
        ·exact sk (qs (sg [1,6,27]) (hFR9_Arity_J2 (p0_.Op==7) H))
        ·exact rz (ck 2 (ae (qs (sg [1,6,27]) (hFR9_Arity_J2 (p0_.Op==8) H))))
end
end Go.AI
end
