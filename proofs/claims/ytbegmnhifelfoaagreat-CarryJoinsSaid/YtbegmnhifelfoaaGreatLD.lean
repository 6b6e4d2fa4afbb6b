/- Part 4 of 6 of the proof: lemmas about the model and the program's functions, with no condition beyond those that each states. -/
import Derived.Test.YtbegmnhifelfoaaGreatLC
import Derived.Shelf.Sort.Plain
import Derived.Shelf.Slices.In.SortNone
import Derived.Shelf.SlSortCmp.NoneTotal
import Derived.Test.YtbegmnhifelfoaaGreatProg
import Derived.Shelf.SlLaysF0
import Derived.KernelRfl
section
namespace Go.AI
variable {P:Program} {Γ:Cx} {C:Code} {p:List Nat} {Q:Ex->St->Prop} {s s':St} {K:St->Prop} {i nk:Nat}
variable {α β ζ ε σ ρ τ:Type}
def ndQ (Γ:Cx) (c:Code) (i:Nat) (Q:Ex->St->Prop):Ex->St->Prop:=λ _ s=>∃ o,(A3 c)[i]? = some o/\Jks Γ o (λ s'=>GK Γ false (A3 c) ((A3 c).drop (i+1)) (Q .normal) s') s
structure ND (Γ:Cx) (c:Code) (i:Nat) (Q:Ex->St->Prop) (s:St):Prop where
 out:ndQ Γ c i Q .normal s
theorem ZM {m:Nat} {ops:List Oper}:∀ (l:List Oper) (Q:St->Prop) (s:St),GK Γ false (ops.take m) l Q s->GK Γ false ops l Q s:=by
 intro l
 induction l with
 | nil=>intro Q s h;exact h
 | cons o l ih=>intro Q s h;exact GL (ih Q) (My h)
theorem rn (m:Nat) (hs:AR Γ.nt.nk s s') (hk:RF Γ (FT m (nav p C)) [] 0 (ndQ Γ (nav p C) m (Um C p s' Q)) s') (h:(JB (nav p C)&&!Ms (nav p C))=true:=by kernel_rfl):WP Γ C p Q s:=by
 refine ⟨?_⟩
 have hk:=hk.out
 unfold AZ at hk
 simp only [nav,List.drop_zero] at hk
 unfold Um at hk
 generalize nav p C=c at *
 cases c with
 | region id ops d=>
  simp only [JB,Ms,Bool.true_and,Bool.not_eq_true'] at h
  subst h
  refine ⟨s',hs,.inr (.inr ⟨rfl,?_⟩)⟩
  have hk:GK Γ false (ops.toList.take m) (ops.toList.take m) _ s':=hk
  have hk:=ZM _ _ _ hk
  by_cases hm:m<ops.toList.length
  ·refine ⟨m,ops.toList[m],JmT hm,D0 (λ s1 h1=>?_) _ _ hk⟩
   obtain ⟨o,ho,h1⟩:=h1
   rw [show A3 (.region id ops false)=ops.toList from rfl,JmT hm] at ho
   cases ho
   obtain ⟨q1,q2,S,q3,q4⟩:=h1
   exact ⟨q1,q2,S,q3,λ st' hst=>D0 (λ s2 h2=>h2.2) _ _ (q4 st' hst)⟩
  ·exfalso
   obtain ⟨S,_,_,hQS⟩:=E0 _ _ _ hk
   obtain ⟨o,ho,_⟩:=hQS
   rw [show A3 (.region id ops false)=ops.toList from rfl,List.getElem?_eq_none (by omega)] at ho
   cases ho
 | _=>cases h
theorem nd0 {c:Code} {m:Nat} (hk:ND Γ c m Q s) (hi:Nat.ble (A3 (FT m c)).length i=true:=by kernel_rfl):RF Γ (FT m c) [] i (ndQ Γ c m Q) s:=⟨Mt i hi hk.out⟩
structure YOK (P:Program) (Γ:Cx):Prop where
 exn:Γ.exn=Ow P
def JbA (Γ:Cx) (c:Code) (o:Oper):Bool:=!Ms c&&o.guard.isNone&&Bw Γ.nt o.dst
theorem Wd (hY:YOK P Γ) {o:Oper} {S:St->Prop} (ho:(A3 (nav p C))[i]? = some o) (h0:JbA Γ (nav p C) o=true) (hx:Ow P Γ.nt o s S) (hk:∀ s',S s'->RF Γ C p (i+1) Q s'):ND Γ (nav p C) i Q s:=by
 simp only [JbA,JmU,Bool.not_eq_true'] at h0
 obtain ⟨⟨h1,h2⟩,h3⟩:=h0
 refine ⟨o,ho,by simpa using h2,h3,S,by rw [hY.exn];exact hx,λ s' hs=>?_⟩
 have:=(hk s' hs).out
 unfold AZ at this
 rw [h1] at this
 exact this
def itD (c:Code) (i:Nat):Option Tmp:=match (A3 c)[i]? with
 | some o=>o.dst
 | none=>none
def JlT (Z:ζ->Prop) (r1:ζ->AV) (O1:ζ->List (Option Ob)):AV->List (Option Ob)->Prop:=λ r O=>∃ y,Z y/\r=r1 y/\O=O1 y
def nxN (Γ:Cx) (c:Code) (i:Nat) (ord:List Nat) (nb:Nat) (r:AV) (O1:List (Option Ob)) (s:St):Option St:=
 match (A3 c)[i]? with
 | some o=>bif JbA Γ c o&&Nat.ble nb ord.length&&Nat.ble nb O1.length&&ord.all (λ k=>Nat.blt k s.objs.length) then
   some ⟨putA o.dst false true (M8 (Dv ord s.objs.length nb) r) s.env,CG s.objs ord nb O1⟩ else none
 | none=>none
theorem nc (hY:YOK P Γ) (ord:List Nat) {f:FuncId} {ys:List AV} {O0 raw0:List (Option Ob)} {nb:Nat} {Z:ζ->Prop} {r1:ζ->AV} {O1:ζ->List (Option Ob)} (hr:Hn P f ys O0 nb (JlT Z r1 O1)) (hp0:raw0=O0)
  (hk:∀ y,Z y->RF Γ C p (i+1) Q ((nxN Γ (nav p C) i ord nb (r1 y) (O1 y) s).getD s)) (hg:Ee (nav p C) i s=[]:=by kernel_rfl)
  (hc:SV (nav p C) i s=some ((some f,((SV (nav p C) i s).getD ((none,[]),[])).1.2),ord):=by kernel_rfl) (hxs:((SV (nav p C) i s).getD ((none,[]),[])).1.2.map (JY ord)=ys:=by kernel_rfl) (hO:EO s.objs ord=raw0:=by kernel_rfl)
  (hn:∀ y,(nxN Γ (nav p C) i ord nb (r1 y) (O1 y) s).isSome=true:=by intro y;kernel_rfl) (hb:Nat.ble nb ord.length=true:=by kernel_rfl) (hb2:ord.all (λ k=>Nat.blt k s.objs.length)=true:=by kernel_rfl) (h0:((A3 (nav p C))[i]?.map (JbA Γ (nav p C)))=some true:=by kernel_rfl):ND Γ (nav p C) i Q s:=by
 generalize ((SV (nav p C) i s).getD ((none,[]),[])).1.2=zs at hc hxs
 subst hp0
 unfold SV at hc
 split at hc
 ·rename_i o ho
  rw [ho] at h0
  simp only [Option.map_some,Jm4] at h0
  simp only [Jm4,Prod.mk.injEq] at hc
  obtain ⟨hc,hord⟩:=hc
  rw [hc] at hord
  simp only at hord
  subst hord
  subst hxs
  subst hO
  have hgob:D7 true (o.op.operands.toList.map (Al s.env)):=by
   refine Ki (g:=true) ?_
   unfold Ee at hg
   rw [ho] at hg
   simp only at hg
   rw [hg]
   exact CY
  have hall:∀ y,Nat.ble nb (O1 y).length=true:=λ y=>by
   have:=hn y
   unfold nxN at this
   rw [ho] at this
   simp only at this
   cases hb3:Nat.ble nb (O1 y).length with
   | true=>rfl
   | false=>rw [hb3] at this;simp at this
  refine Wd hY ho h0 (ZK hgob hc hr (Jm8 hb) (λ r O hR=>?_) λ k hk=>?_) λ s' hs=>?_
  ·obtain ⟨y,_,_,rfl⟩:=hR
   exact Jm8 (hall y)
  ·exact Jm8 (JmG.1 hb2 k hk)
  ·obtain ⟨r,O,⟨y,hy,rfl,rfl⟩,rfl⟩:=hs
   have h:=hk y hy
   have e:nxN Γ (nav p C) i (AF s.objs zs) nb (r1 y) (O1 y) s=some ⟨putA o.dst false true (M8 (Dv (AF s.objs zs) s.objs.length nb) (r1 y)) s.env,CG s.objs (AF s.objs zs) nb (O1 y)⟩:=by
    unfold nxN
    rw [ho]
    simp only [h0,hb,hall y,hb2,Bool.and_self,cond_true]
   rw [e] at h
   exact h
 ·cases hc
theorem JdM {o:Oper} {st:St} {nt:Slt} {T:Nat->Ty} (hΓ:I3 P T) {t yt:TypeId} {x y:Operand} {es:List (List D)} {esz eb:Nat} {ez:List D} (hop:o.op=.binOp .eql t x y yt) (hok:(T t).ok=true) (hkind:(T t).kind=.slice esz eb ez) (hx:Al st.env x=.d (.sl es)) (hy:Al st.env y=.d .nil) :
  Ow P nt o st (λ s'=>∃ b,(es≠[]->b=false)/\s'=⟨putA o.dst false true (.d (.bool b)) st.env,st.objs⟩):=by
 intro N H0 F0 w0 a w hI hdst r n K Qw _ hK
 obtain ⟨F,ρ,hS,hSl,hn,hdf⟩:=hI
 obtain ⟨d,hd,_,hkd⟩:=(hΓ t hok).desc
 rw [hkind] at hkd
 obtain ⟨elem,i,z,rfl,_⟩:=hkd
 have hxr:=A0 hSl x
 rw [hx] at hxr
 have hyr:=A0 hSl y
 rw [hy] at hyr
 generalize hxv:a.eval x=xv at hxr
 generalize hyv:a.eval y=yv at hyr
 cases hyr with
 | d _ _ hyd=>
  cases hyd
  have e0:∀ (q:Nat) p m c (w:World),(Op.equalIn (q+1) t (.slice p m c) (.slice none 0 0)).run P w=.ok p.isNone w:=λ q p m c w=>by
   cases p<;>simp [Op.equalIn,run_underlying hd]
  have e1:∀ p m c (w:World),(Op.equal t (.slice p m c) (.slice none 0 0)).run P w=.ok p.isNone w:=λ p m c w=>e0 9999 p m c w
  have e2:∀ p m c (w:World),(execOp a.eval o).run P w=.ok (.value (.bool (p:Option Addr).isNone)) w\/a.eval x≠.slice p m c:=λ p m c w=>by
   by_cases h:a.eval x=.slice p m c
   ·left
    simp only [execOp,hop,h,hyv,eqGuard,binOp,e1,JmD,JmB,JmE]
    simp
   ·exact .inr h
  have hrun:∃ b,(es≠[]->b=false)/\(execOp a.eval o).run P w=.ok (.value (.bool b)) w:=by
   cases hxr with
   | d _ _ hxd=>
    cases hxd with
    | sl0 ad cap=>exact ⟨_,λ h=>absurd rfl h,(e2 ad 0 cap w).resolve_right (λ h=>h hxv)⟩
    | sl _ b off cap=>exact ⟨_,λ _=>rfl,(e2 (some ⟨b,off,none⟩) es.length cap w).resolve_right (λ h=>h hxv)⟩
  obtain ⟨b,hb,hrun⟩:=hrun
  refine DP (by rw [hop];intro c e;cases e) ?_
  unfold Oper.wp
  rw [hrun,Oper.upon_value]
  exact hK _ _ _ ⟨b,hb,rfl⟩ ⟨F,ρ,hS,hSl.putA hn hdst (.mkBool _),hn.put hdst,by rw [Bv];exact hdf⟩
def nlB (Γ:Cx) (c:Code) (i:Nat) (s:St):Bool:=match (A3 c)[i]? with
 | some o=>JbA Γ c o&&(match o.op with
  | .binOp .eql t x y _=>(Γ.ty t).ok&&(match (Γ.ty t).kind,Al s.env y with
   | .slice _ _ _,.d .nil=>true
   | _,_=>false)
  | _=>false)
 | none=>false
def nlV (c:Code) (i:Nat) (s:St):Option (List (List D)):=match (A3 c)[i]? with
 | some o=>(match o.op with
  | .binOp _ _ x _ _=>(match Al s.env x with
   | .d (.sl es)=>some es
   | _=>none)
  | _=>none)
 | none=>none
theorem nl (hY:YOK P Γ) (hX:XOK P Γ) {xs:List α} {enc:α->List D} (hk:∀ b,nlS xs b->RF Γ C p (i+1) Q ⟨putA (itD (nav p C) i) false true (.d (.bool b)) s.env,s.objs⟩) (hb:nlB Γ (nav p C) i s=true:=by kernel_rfl) (hv:nlV (nav p C) i s=some (xs.map enc):=by kernel_rfl):ND Γ (nav p C) i Q s:=by
 unfold nlB at hb
 unfold itD at hk
 unfold nlV at hv
 split at hb
 ·rename_i o ho
  rw [ho] at hk hv
  simp only [JmU] at hb
  obtain ⟨hb1,hb2⟩:=hb
  split at hb2
  ·rename_i t x y yt hop
   simp only [JmU] at hb2
   obtain ⟨hb2,hb3⟩:=hb2
   split at hb3
   ·rename_i hkd hy
    simp only [hop] at hv
    split at hv
    ·rename_i es hx
     simp only [Jm4] at hv
     subst hv
     refine Wd hY ho hb1 (JdM hX.ty hop hb2 hkd hx hy) λ s' hs=>?_
     obtain ⟨b,hb,rfl⟩:=hs
     exact hk b λ hne=>hb (by simpa using hne)
    ·cases hv
   ·cases hb3
  ·cases hb2
 ·cases hb
end Go.AI
end
section
namespace Go.AI
variable {α:Type}
def ZN (rows:List (List α)) (i j:Int):Option α:=(idx rows i).bind λ r=>idx r j
def ZO (rows:List (List α)) (i j:Int) (b:α):Option (List (List α)):=(idx rows i).bind λ r=>(put r j b).bind λ r'=>put rows i r'
end Go.AI
end
section
namespace Go.AI
variable {P:Program} {Γ:Cx} {C:Code} {p:List Nat} {Q:Ex->St->Prop} {s s':St} {i nk:Nat}
variable {α β ζ:Type}
def JlU:D->Bool
 | .int _ _=>true
 | .bool _=>true
 | .str _=>true
 | _=>false
theorem XL:∀ (l pre cells:List AV),cells.length=l.length->splice (pre++cells) pre.length l=pre++l:=by
 intro l
 induction l with
 | nil=>intro pre cells h;rw [List.length_eq_zero_iff.1 h];rfl
 | cons v l ih=>
  intro pre cells h
  cases cells with
  | nil=>cases h
  | cons c cells=>
   simp only [splice]
   have e:(pre++c::cells).set pre.length v=(pre++[v])++cells:=by simp
   rw [e]
   have:=ih (pre++[v]) cells (by simpa using h)
   simp only [List.length_append,List.length_cons,List.length_nil] at this
   rw [this,List.append_assoc];rfl
theorem JbB (z:D) (N k:Nat) (t:Ty) (hk:obA s.objs k=some (.box ((List.replicate N z).map .d)):=by kernel_rfl) (ht:Nat.beq t.size N=true:=by kernel_rfl) :
  FS s (DN t s.objs (.ptr k 0) (.agg ((List.replicate N z).map .d))) .top [] [] (some (k,.box ((List.replicate N z).map .d))):=by
 have ht:=Jm0 ht
 have hall:((List.replicate N z).map AV.d).all D9=true:=by
  rw [JmG]
  intro x hx
  obtain ⟨y,_,rfl⟩:=JmN.1 hx
  rfl
 have hsp:splice ((List.replicate N z).map AV.d) 0 ((List.replicate N z).map AV.d)=(List.replicate N z).map AV.d:=XL _ [] _ rfl
 refine .of (ob:=((List.replicate N z).map AV.d).length=t.size/\0+t.size<=((List.replicate N z).map AV.d).length) ?_ ⟨by simp [ht],by simp [ht]⟩
 simp only [DN,hk,Bp,Ar,hall,Bool.and_self,cond_true,hsp]
theorem JdN {α:Type} (e:α->D) (b:α) (N n m k:Nat) (hN:Nat.beq (n*m) N=true) (h:obA s.objs k=some (.box ((List.replicate N (e b)).map .d))):AR nk s ⟨s.env,s.objs.set k (some (.arr m ((List.replicate n (List.replicate m b)).map (List.map e))))⟩:=by
 have hN:=Jm0 hN
 have e1:((List.replicate n ()).flatMap λ _=>List.replicate m (e b))=List.replicate N (e b):=by
  rw [List.flatMap_def,List.map_replicate,List.flatten_replicate_replicate,hN]
 have e2:(List.replicate n (List.replicate m b)).map (List.map e)=(List.replicate n ()).map λ _=>List.replicate m (e b):=by simp
 rw [e2]
 exact JdA (λ _:Unit=>List.replicate m (e b)) (List.replicate n ()) k m (λ _=>by simp) (by rw [e1];exact h)
theorem Yx (k sz n esz i0 off:Nat) {j:Int} {u:Unit} (h:BM (decide (0<=j/\j<(n:Nat)))=some u) (hne:Nat.beq esz sz=false:=by kernel_rfl):FS s (P5 (.array n esz) (.eptr k sz i0 off) j) (.eptr k sz i0 (off+j.toNat*esz)) [] [] none:=by
 refine .of (ob:=0<=j/\j<(n:Nat)) ?_ (of_decide_eq_true (Lk h))
 simp only [P5,hne,cond_false,A7]
theorem ZP {rows:List (List α)} {i j:Int} {b:α} (h:ZN rows i j=some b):∃ r,idx rows i=some r/\idx r j=some b:=by
 unfold ZN at h
 cases hr:idx rows i with
 | none=>rw [hr] at h;cases h
 | some r=>rw [hr] at h;exact ⟨r,rfl,h⟩
theorem JgM (e:α->D) (k sz:Nat) (t:Ty) {rows:List (List α)} {i j:Int} {b:α} (h:ZN rows i j=some b) (hk:obA s.objs k=some (.arr sz (rows.map (List.map e))):=by kernel_rfl) (ht:(!t.agg&&Nat.beq t.size 1)=true:=by kernel_rfl) :
  FS s (CZ t s.objs (.eptr k sz (0+i.toNat) (0+j.toNat*1))) (.d (e b)) [] [] none:=by
 obtain ⟨r,h1,h2⟩:=ZP h
 obtain ⟨i0,i1,i2⟩:=FB h1
 obtain ⟨j0,j1,j2⟩:=FB h2
 simp only [JmU,Bool.not_eq_true'] at ht
 have hs:=Jm0 ht.2
 have e1:(rows.map (List.map e))[0+i.toNat]? = some (r.map e):=by rw [Jm7,JmX,i2];rfl
 have e2:((r.map e).map AV.d)[0+j.toNat*1]? = some (.d (e b)):=by rw [Jm7,Nat.mul_one,JmX,JmX,j2];rfl
 refine .of (ob:=sz=sz/\0+i.toNat<(rows.map (List.map e)).length/\0+j.toNat*1+t.size<=(r.map e).length) ?_ ⟨rfl,Ae e1,?_⟩
 ·simp only [CZ,hk,e1,JmH,BY,ht.1,cond_false,e2,A7]
 ·have:=Ae e2;rw [JmQ] at this;omega
theorem ZQ {rows zs:List (List α)} {i j:Int} {b:α} (h:ZO rows i j b=some zs):∃ r r',idx rows i=some r/\put r j b=some r'/\put rows i r'=some zs:=by
 unfold ZO at h
 cases hr:idx rows i with
 | none=>rw [hr] at h;cases h
 | some r=>
  rw [hr] at h
  simp only [JmC] at h
  cases hp:put r j b with
  | none=>rw [hp] at h;cases h
  | some r'=>rw [hp] at h;exact ⟨r,r',rfl,hp,h⟩
theorem Yy {xs zs:List α} {i:Int} {y:α} (h:put xs i y=some zs):zs=xs.set i.toNat y/\i.toNat<xs.length:=by
 unfold put at h
 split at h
 ·rename_i hc;cases h;exact ⟨rfl,by omega⟩
 ·cases h
theorem JlV (e:α->D) (k sz:Nat) (t:Ty) {rows zs:List (List α)} {n m:Int} {b:α} (h:ZO rows n m b=some zs) (hm:m<(sz:Int)) (hk:RF Γ C p (i+1) Q ((L6 Γ (nav p C) i .top [] [] (some (k,.arr sz (zs.map (List.map e)))) s).getD s))
  (h1:obA s.objs k=some (.arr sz (rows.map (List.map e))):=by kernel_rfl) (hv:stV (nav p C) i s=.d (e b):=by kernel_rfl) (hpl:JlU (e b)=true:=by kernel_rfl) (h5:Nat.beq t.size 1=true:=by kernel_rfl)
  (hx:OB Γ (nav p C) i s=DN t s.objs (.eptr k sz (0+n.toNat) (0+m.toNat*1)) (stV (nav p C) i s):=by kernel_rfl) (hn:(L6 Γ (nav p C) i .top [] [] (some (k,.arr sz (zs.map (List.map e)))) s).isSome=true:=by kernel_rfl):RF Γ C p i Q s:=by
 obtain ⟨r,r',q1,q2,q3⟩:=ZQ h
 obtain ⟨i0,i1,i2⟩:=FB q1
 have hm0:0<=m:=by
  unfold put at q2
  split at q2
  ·omega
  ·cases q2
 obtain ⟨rfl,q4⟩:=Yy q2
 obtain ⟨rfl,q5⟩:=Yy q3
 have e1:(rows.map (List.map e))[0+n.toNat]? = some (r.map e):=by rw [Jm7,JmX,i2];rfl
 have hex:CP s.objs [AV.d (e b)]=some ⟨[e b],[],True/\True⟩:=by
  have:Ia s.objs (AV.d (e b))=some ⟨e b,[],True⟩:=by
   cases hb:e b<;>first|rfl|(rw [hb] at hpl;cases hpl)
  simp only [CP,this];rfl
 refine sp (v:=.top) (obs:=[]) (rm:=[]) ?_ hk hx hn
 rw [hv]
 have hs:=Jm0 h5
 refine .of (ob:=sz=sz/\[e b].length=t.size/\0+n.toNat<(rows.map (List.map e)).length/\0+m.toNat*1+t.size<=sz/\(True/\True)) ?_ ⟨rfl,by simp [hs],Ae e1,by omega,trivial,trivial⟩
 have hsol:(Bp (AV.d (e b))&&(Ar (AV.d (e b))).all D9&&!([]:List Nat).contains k)=true:=rfl
 have hcc:Ar (AV.d (e b))=[AV.d (e b)]:=rfl
 simp only [DN,h1,hcc,hex]
 simp only [hcc] at hsol
 rw [hsol,cond_true,e1]
 simp only [JmH,Jm7,Nat.mul_one,Ea,List.map_set]
end Go.AI
end
section
namespace Go.AI
open Go.Sort Go.Shelf Go.Proofs
variable {P:Program} {ρs:Ren}
theorem Sim.more {N:Nat->Prop} {H0 F0 F:Nat->Option Obj} {ρ:Nat->Option Loc} {O:List (Option Ob)} {h:Array Obj} (hS:Sim N H0 F0 F ρ O h) (os:Array Obj):Sim N H0 F0 F ρ O (h++os):=by
 have hl:∀ b,b<h.size->(h++os)[b]? = h[b]? := λ b hb=>Array.getElem?_append_left hb
 have hg:∀ b o,h[b]? = some o->(h++os)[b]? = some o:=λ b o hb=>by rw [hl b (Ap hb)];exact hb
 obtain ⟨σ,hσ⟩:=hS.inn
 have hM:∀ k c M,σ k c=some M->(h++os)[M.b]? = h[M.b]? := λ k c M hM=>hl _ (hσ.new k c M hM).2.1
 refine { hS with size:=λ b hb=>hS.size b (by simp at hb;omega),old:=λ b hb=>?_,frz:=λ b o hb=>hg b o (hS.frz b o hb),loc:=λ k L hk=>?_,obj:=λ k L ob hk ho=>?_,inn:=⟨σ,λ k c M hM=>?_,hσ.obj,hσ.sep,λ k L sz es hk ho i e j isz xs hi hj cs t fr v hb hv=>?_⟩ }
 ·have:b<h.size:=by
   apply Classical.byContradiction;intro hn
   exact hb (hS.size b (by omega))
  rw [hl b this];exact hS.old b hb
 ·have:=hS.loc k L hk;simp;omega
 ·obtain ⟨g1,g2,g3⟩:=hS.obj k L ob hk ho
  exact ⟨g1.mono (FLe.refl _) (RLe.refl _) (hl _ (hS.loc k L hk)),g2,g3⟩
 ·obtain ⟨g1,g2,g3⟩:=hσ.new k c M hM
  exact ⟨g1,by simp;omega,g3⟩
 ·rw [hl _ (hS.loc k L hk)] at hb
  exact (hσ.rep k L sz es hk ho i e j isz xs hi hj cs t fr v hb hv).mono (FLe.refl _) λ L' hL'=>hM _ _ _ hL'
end Go.AI
end
section
namespace Go.AI
def XM {β:Type} (lt:β->β->Bool) (x:β):List β->List β
 | []=>[x]
 | y::l=>if lt y x=true then y::XM lt x l else x::y::l
def Mz {β:Type} (lt:β->β->Bool):List β->List β
 | []=>[]
 | x::l=>XM lt x (Mz lt l)
def We {β:Type} (lt:β->β->Bool) (xs:List β):Option (List β):=if xs.length<4611686018427387904 then some (Mz lt xs) else none
section
variable {β:Type} {lt:β->β->Bool}
theorem OD (x:β):∀ l:List β,(XM lt x l).Perm (x::l)
 | []=>.refl _
 | y::l=>by
  unfold XM
  split
  ·exact ((OD x l).cons y).trans (.swap x y l)
  ·exact .refl _
theorem Kj:∀ l:List β,(Mz lt l).Perm l
 | []=>.refl _
 | x::l=>(OD x _).trans ((Kj l).cons x)
theorem PS (hn:∀ x y z,lt x y=false->lt y z=false->lt x z=false) (ha:∀ x y,lt x y=true->lt y x=false) {x:β}:∀ {l:List β},l.Pairwise (λ a b=>lt b a=false)->(XM lt x l).Pairwise (λ a b=>lt b a=false)
 | [],_=>by simp [XM]
 | y::l,h=>by
  unfold XM
  rw [List.pairwise_cons] at h
  split
  ·rename_i hyx
   refine List.pairwise_cons.2 ⟨λ z hz=>?_,PS hn ha h.2⟩
   rcases List.mem_cons.1 ((OD x l).mem_iff.1 hz) with rfl|hz
   ·exact ha _ _ hyx
   ·exact h.1 z hz
  ·rename_i hyx
   have hyx:lt y x=false:=by simpa using hyx
   refine List.pairwise_cons.2 ⟨λ z hz=>?_,List.pairwise_cons.2 h⟩
   rcases List.mem_cons.1 hz with rfl|hz
   ·exact hyx
   ·exact hn _ _ _ (h.1 z hz) hyx
theorem H1 (hn:∀ x y z,lt x y=false->lt y z=false->lt x z=false) (ha:∀ x y,lt x y=true->lt y x=false):∀ l:List β,(Mz lt l).Pairwise (λ a b=>lt b a=false)
 | []=>.nil
 | _::l=>PS hn ha (H1 hn ha l)
theorem Uu (hi:∀ x,lt x x=false) (hn:∀ x y z,lt x y=false->lt y z=false->lt x z=false) (ht:∀ x y z,lt x y=true->lt y z=true->lt x z=true) (hT:∀ x y,lt x y=false->lt y x=false->x=y) (l:List β):Mz lt l=l.mergeSort λ x y=>!lt y x:=by
 have ha:∀ x y,lt x y=true->lt y x=false:=λ x y h=>by
  rw [Bool.eq_false_iff];intro h'
  have:=ht x y x h h';rw [hi] at this;cases this
 refine List.Perm.eq_of_pairwise (le:=λ a b=>lt b a=false) (λ a b _ _ h1 h2=>hT _ _ h2 h1) (H1 hn ha l) ?_ ((Kj l).trans (List.mergeSort_perm _ _).symm)
 have:=List.pairwise_mergeSort (le:=λ x y:β=>!lt y x) (λ a b c h1 h2=>by simp at *;exact hn _ _ _ h2 h1) (λ a b=>by
  cases h:lt b a with
  | false=>simp
  | true=>simp [ha _ _ h]) l
 exact this.imp λ h=>by simpa using h
end
end Go.AI
end
section
namespace Go.AI
open Go.Sort Go.Shelf Go.Proofs
variable {P:Program} {ρs:Ren} {β:Type} [Inhabited β]
theorem Bg.is_val {F:Nat->Option Obj} {x:D} {v:Value} (h:Bg F x v) (hp:x.isPlain=true):v=x.val:=by
 cases h<;>first|rfl|cases hp
theorem SW {x:D} (hp:x.isPlain=true):x.val.oneCell'=true:=Bg.oneCell (Bg.val (λ _=>none) hp)
theorem JbC {g:Nat} {enc:β->List D} (hpl:∀ x,∀ d∈enc x,d.isPlain=true) {cf:β->β->Int} (hcmp:∀ x y,Aq P g [.agg ((enc x).map .d),.agg ((enc y).map .d)] (.d (.int .i64 (cf x y)))) (k blk off size:Nat) (w:World):CmpLays P g #[] (λ x=>(enc x).map D.val) k cf blk off size w:=by
 intro m os dk _ x y
 generalize sortWorldK (λ x=>(enc x).map D.val) k w blk off m dk os=W
 have ag:∀ z:β,Ah (λ _=>none) noR (.agg ((enc z).map .d)) (.agg ((enc z).map D.val).toArray):=λ z=>by
  refine .agg _ _ (by simp) λ i a v h1 h2=>?_
  simp only [JmX,JmW] at h1
  obtain ⟨d,hd,rfl⟩:=h1
  simp only [List.getElem?_toArray,JmX,hd,Option.map_some,Jm4] at h2
  subst h2
  exact .d _ _ (Bg.val _ (hpl z d (JmV hd)))
 refine ((hcmp x y).2 (λ _=>none) W _ ⟨rfl,λ i a v h1 h2=>?_⟩ (λ b o h=>by cases h)).mono λ e w' he=>?_
 ·match i,h1,h2 with
  | 0,h1,h2=>cases h1;cases h2;exact ag x
  | 1,h1,h2=>cases h1;cases h2;exact ag y
 ·obtain ⟨v,F',ρ,rfl,hS,hv,hmu⟩:=he
  refine ⟨?_,w'.drawn-W.drawn,w'.heap.extract W.heap.size w'.heap.size,?_⟩
  ·have hv:Ah F' ρ (.d (.int .i64 (cf x y))) v:=hv
   rw [hv.int]
  ·obtain ⟨h1,h2,h3,h4,h5⟩:=hmu
   have hh:w'.heap=W.heap++w'.heap.extract W.heap.size w'.heap.size:=by
    apply Array.ext_getElem?
    intro b
    rw [Array.getElem?_append]
    split
    ·rename_i hb
     exact hS.old b (by omega)
    ·rename_i hb
     rw [Array.getElem?_extract]
     split
     ·congr 1;omega
     ·rw [Array.getElem?_eq_none (by omega)]
   show w'={ W with drawn:=W.drawn+(w'.drawn-W.drawn),heap:=W.heap++w'.heap.extract W.heap.size w'.heap.size }
   rw [← hh,Nat.add_sub_cancel' h5]
   cases w';cases W
   simp only at h1 h2 h4
   subst h1;subst h2;subst h4;rfl
theorem XN (L:SlLaysF0.n6 P ρs) (k:Nat) (hk1:1<=k) (aE:∀ w,(isAgg (ρs.t 24)).run P w=.ok true w) (zE:∀ w,(Go.sizeOf (ρs.t 24)).run P w=.ok k w) {enc:β->List D} (hk:∀ x,(enc x).length=k) (hpl:∀ x,∀ d∈enc x,d.isPlain=true) {cf:β->β->Int} (hO:SWO (ltOf cf)) (hT:∀ x y,ltOf cf x y=false->ltOf cf y x=false->x=y) {g:Nat} (eg:∀ args w,(callFunc g args).run P w=.ok (.enter g args) w)
  (hcmp:∀ x y,Aq P g [.agg ((enc x).map .d),.agg ((enc y).map .d)] (.d (.int .i64 (cf x y)))) (hf:∃ fn c,P.funcs[ρs.f 6]? = some fn/\fn.body=some c/\(fn.name == "runtime.NumGoroutine")=false) {xs zs:List β} (h:We (ltOf cf) xs=some zs) :
  BL P (ρs.f 6) [.osl 0 k 0 xs.length,.clo g []] [some (.arr k (xs.map enc))] 1 (.tup []) [some (.arr k (zs.map enc))]:=by
 have hz:xs.length<4611686018427387904/\zs=xs.mergeSort λ x y=>!(ltOf cf) y x:=by
  unfold We at h
  split at h
  ·rename_i h1;exact ⟨h1,by rw [← Uu hO.irrefl hO.ntrans hO.trans hT];exact (Option.some.inj h).symm⟩
  ·cases h
 obtain ⟨hlt,hzs⟩:=hz
 refine ⟨hf,λ N F ρ w vs hS hcr=>?_⟩
 obtain ⟨v,u,rfl⟩:∃ v u,vs=#[v,u]:=by
  have h1:vs.size=2:=by simpa using hcr.1.symm
  exact ⟨vs[0],vs[1],by apply Array.ext;simp [h1];intro i h1' h2;simp at h2;match i,h2 with|0,_=>rfl|1,_=>rfl⟩
 have hv:=hcr.2 0 _ v rfl rfl
 have hu:=hcr.2 1 _ u rfl rfl
 have hu:u=.func (.func g) #[] #[]:=by
  cases hu with
  | clo _ _ vs hl _=>
   have:vs=#[]:=Array.eq_empty_of_size_eq_zero hl.symm
   rw [this]
 subst hu
 have hlen:zs.length=xs.length:=by rw [hzs];exact List.length_mergeSort _
 have htup:∀ F' ρ',Ah F' ρ' (.tup []) (.tuple #[]):=λ F' ρ'=>.tup [] #[] rfl λ i a v h=>by simp at h
 generalize hn:xs.length=n at hv
 cases hv with
 | osl0 _ _ _ a=>
  have hx:xs=[]:=List.length_eq_zero_iff.1 hn
  have hz0:zs=[]:=List.length_eq_zero_iff.1 (by omega)
  refine (AnyF.slices_SortFunc_none L a 0 _ w).mono λ e w' he=>?_
  obtain ⟨rfl,rfl⟩:=he
  subst hx;subst hz0
  exact ⟨_,F,ρ,rfl,hS,λ j _ L h=>h,htup _ _,Mu.refl _⟩
 | osl _ _ _ _ cap Lo hL hc hs hz=>
  obtain ⟨⟨g1,g2,cs,t,fr,g3,g4,g5,g6⟩,gN,gF⟩:=hS.obj 0 Lo _ hL rfl
  simp only [JmQ] at g2
  have hdm:∀ j,j<xs.length*k->j / k<xs.length/\j % k<k/\j / k*k+j % k=j:=λ j hj=>⟨(Nat.div_lt_iff_lt_mul (by omega)).2 hj,Nat.mod_lt _ (by omega),by rw [Nat.mul_comm];exact Nat.div_add_mod j k⟩
  have hcell:∀ j,j<xs.length*k->cs[Lo.base+j]? = some ((flatK (λ x=>(enc x).map D.val) k xs.toArray)[j]!):=λ j hj=>by
   obtain ⟨d1,d2,d3⟩:=hdm j hj
   have hx:xs.toArray[j / k]! = xs[j / k]:=by rw [getElem!_pos _ (j / k) (by simpa using d1)];simp
   have hd2:j % k<(enc xs[j / k]).length:=by rw [hk];exact d2
   obtain ⟨v,hv,hd⟩:=g6 (j / k) (enc xs[j / k]) (by rw [JmX,JmT d1];rfl) (j % k) _ (JmT hd2)
   have:=hd.is_val (hpl _ _ (JmI hd2))
   subst this
   rw [get_flatK _ _ _ j (by simpa using hj),hx]
   rw [show Lo.base+j=Lo.base+j / k*k+j % k by omega,hv,getElem!_pos _ (j % k) (by simpa using hd2)]
   simp
  have hH:HoldsK (λ x=>(enc x).map D.val) k w Lo.b (Lo.base+0*k) xs.toArray:=λ j hj=>by
   have hj:j<xs.length*k:=by simpa using hj
   have:=hcell j hj
   refine ⟨by simp only [World.cell?,g3,Option.isSome_none,Jm5,if_false,Nat.zero_mul,Nat.add_zero];exact this,QU g3 (g5 _ ?_)⟩
   simp;omega
  have hcon:=AnyQ.slices_SortFunc_total L k aE zE (λ x=>(enc x).map D.val) (λ x=>by simp [hk]) (λ x v hv=>by
   simp only [JmN] at hv
   obtain ⟨d,hd,rfl⟩:=hv
   exact SW (hpl x d hd)) cf hO g #[] Lo.b (Lo.base+0*k) cap xs.toArray w eg (JbC hpl hcmp k _ _ _ w) hH (Ap g3) (by simpa using hlt) hT
  rw [show xs.toArray.size=n by simpa using hn] at hcon
  refine hcon.mono λ e w' he=>?_
  obtain ⟨rfl,m,os,rfl⟩:=he
  rw [show xs.toArray.toList=xs from rfl,← hzs]
  have hheap:(sortWorldK (λ x=>(enc x).map D.val) k w Lo.b (Lo.base+0*k) m zs.toArray os).heap=w.heap.setIfInBounds Lo.b (.cells (putCells id Lo.base (flatK (λ x=>(enc x).map D.val) k zs.toArray) cs) t fr)++os:=by
   simp only [sortWorldK,putRowK,grow,putRow,mapBlock,Sort.ahead,Nat.zero_mul,Nat.add_zero]
   congr 1
   apply Array.ext_getElem?
   intro i
   rw [Array.getElem?_modify,Array.getElem?_setIfInBounds]
   split
   ·rename_i e;subst e
    rw [if_pos (Ap g3),g3];rfl
   ·rfl
  have hS1:=hS.rewrite (k':=0) (L':=Lo) (x:=.cells (putCells id Lo.base (flatK (λ x=>(enc x).map D.val) k zs.toArray) cs) t fr) (O':=[some (.arr k (zs.map enc))]) hL rfl (by rw [Ce hL];exact RLe.refl _) rfl (λ j ob' hj hob'=>by
    have:=AT hob';simp at this;omega) (by simp) (by simp) (λ ob' hob'=>by
    cases hob'
    refine ⟨λ e he=>?_,by simp;rw [hlen];exact g2,_,t,fr,by rw [Array.getElem?_setIfInBounds_self_of_lt (Ap g3)],by simp [putCells,g4],g5,λ i e hi j x hx=>?_⟩
    ·simp only [JmN] at he;obtain ⟨y,_,rfl⟩:=he;exact hk y
    ·simp only [JmX,JmW] at hi
     obtain ⟨y,hy,rfl⟩:=hi
     have hj:j<k:=by have:=Ae hx;rw [hk] at this;exact this
     have hil:=Ae hy
     have hlt2:i*k+j<zs.length*k:=by
      have:(i+1)*k<=zs.length*k:=JmF k (by omega)
      rw [Jm6] at this;omega
     have hcs:Lo.base+i*k+j<cs.size:=by
      have:=hcell (i*k+j) (by rw [← hlen];exact hlt2)
      have:=Ap this;omega
     refine ⟨x.val,?_,Bg.val _ (hpl y x (JmV hx))⟩
     have e1:(flatK (λ x=>(enc x).map D.val) k zs.toArray)[i*k+j]! = x.val:=by
      rw [get_flatK _ _ _ _ (by simpa using hlt2)]
      have h1:(i*k+j) / k=i:=by rw [Nat.mul_comm,Nat.mul_add_div (by omega),Nat.div_eq_of_lt hj];omega
      have h2:(i*k+j) % k=j:=by rw [Nat.mul_comm,Nat.mul_add_mod];exact Nat.mod_eq_of_lt hj
      rw [h1,h2]
      have e0:zs.toArray[i]! = y:=by
       rw [getElem!_pos _ i (by simpa using hil)]
       simpa [JmT hil] using hy
      rw [e0]
      have hjl:j<((enc y).map D.val).length:=by simp [hk];exact hj
      rw [getElem!_pos _ j hjl,List.getElem_map]
      have:=JmT (l:=enc y) (by rw [hk];exact hj)
      rw [this] at hx;cases hx;rfl
     simp only [putCells,Array.getElem?_mapIdx,JmY hcs,Option.map_some]
     rw [if_pos ⟨by omega,by simp;omega⟩,show Lo.base+i*k+j-Lo.base=i*k+j by omega,e1];rfl) (λ ob' hob'=>by cases hob';rfl)
  rw [Ce hL] at hS1
  refine ⟨_,F,ρ,rfl,by rw [hheap];exact hS1.more os,λ j _ L h=>h,htup _ _,rfl,rfl,by rw [hheap];simp,rfl,Nat.le_add_right _ _⟩
end Go.AI
end
section
namespace Go.AI
variable {β:Type}
def ltC (c:β->β->Option Int) (x y:β):Bool:=decide ((c x y).getD 0<0)
structure Yz (c:β->β->Option Int):Prop where
 tot:∀ x y,(c x y).isSome=true
 irrefl:∀ x,ltC c x x=false
 trans:∀ x y z,ltC c x y=true->ltC c y z=true->ltC c x z=true
 ntrans:∀ x y z,ltC c x y=false->ltC c y z=false->ltC c x z=false
 one:∀ x y,ltC c x y=false->ltC c y x=false->x=y
open Classical in
noncomputable def sortC (c:β->β->Option Int) (xs:List β):Option (List β):=if Yz c then We (ltC c) xs else none
theorem RM {c:β->β->Option Int} {xs zs:List β} (h:sortC c xs=some zs):Yz c/\We (ltC c) xs=some zs:=by
 unfold sortC at h
 split at h
 ·rename_i hc;exact ⟨hc,h⟩
 ·cases h
theorem JbD {c:β->β->Option Int} (hc:Yz c) (xs:List β) (h:xs.length<4611686018427387904):sortC c xs=some (Mz (ltC c) xs):=by
 unfold sortC We
 rw [if_pos hc,if_pos h]
end Go.AI
end
section
namespace Go.AI
open Go.Sort Go.Shelf Go.Proofs
theorem Uv {P:Program} {g:Nat} {fn:Func} (hf:P.funcs[g]? = some fn) (hb:fn.body=some (Av fn):=by kernel_rfl) (hnm:(fn.name == "runtime.NumGoroutine")=false:=by kernel_rfl) (args:Array Value) (w:World):(callFunc g args).run P w=.ok (.enter g args) w:=by
 simp only [callFunc,JmD,run_program,JmB,hf,hnm,hb,Jm5,if_false,Option.isNone_some,JmE]
theorem XO {P:Program} {ρs:Ren} {β:Type} [Inhabited β] (L:SlLaysF0.n6 P ρs) {k:Nat} (hk1:1<=k) (aE:∀ w,(isAgg (ρs.t 24)).run P w=.ok true w) (zE:∀ w,(Go.sizeOf (ρs.t 24)).run P w=.ok k w) {enc:β->List D} (hk:∀ x,(enc x).length=k) (hpl:∀ x,∀ d∈enc x,d.isPlain=true) {c:β->β->Option Int} {g:Nat} (eg:∀ args w,(callFunc g args).run P w=.ok (.enter g args) w)
  (hcmp:∀ {x y:β} {z:Int},c x y=some z->Aq P g [.agg ((enc x).map .d),.agg ((enc y).map .d)] (.d (.int .i64 z))) (hf:∃ fn c,P.funcs[ρs.f 6]? = some fn/\fn.body=some c/\(fn.name == "runtime.NumGoroutine")=false) {xs zs:List β} (h:sortC c xs=some zs) :
  BL P (ρs.f 6) [.osl 0 k 0 xs.length,.clo g []] [some (.arr k (xs.map enc))] 1 (.tup []) [some (.arr k (zs.map enc))]:=by
 obtain ⟨hc,h⟩:=RM h
 refine XN L k hk1 aE zE hk hpl (cf:=λ x y=>(c x y).getD 0) ⟨hc.irrefl,hc.trans,hc.ntrans⟩ hc.one eg (λ x y=>hcmp ?_) hf h
 have:=hc.tot x y
 rw [Option.isSome_iff_exists] at this
 obtain ⟨n,hn⟩:=this
 rw [hn];rfl
end Go.AI
end
section
namespace Go.Proofs
open Go.Shelf
def Tryz.laysSortF_ren:Go.Shelf.Ren:=⟨λ|6=>38|15=>54|14=>53|28=>77|29=>78|20=>69|21=>70|22=>71|23=>72|24=>73|25=>74|26=>75|27=>76|46=>88|47=>89|48=>90|49=>91|50=>92|57=>102|n=>n,λ|22=>35|24=>33|25=>88|3=>3|39=>108|0=>0|53=>134|55=>136|4=>4|46=>127|45=>126|50=>131|5=>5|9=>9|66=>149|70=>153|76=>164|77=>165|n=>n,λ|n=>n⟩
theorem Tryz.laysSortF:Go.Proofs.SlLaysF0.n6 Tryz.prog Tryz.laysSortF_ren:={
 mixed:=by kernel_rfl
 f6:=⟨ "slices.SortFunc[[]sixdot/api.Change,sixdot/api.Change]",by decide,Tryz.func38.trans (congrArg some (by kernel_rfl))⟩
 f14:=⟨ "slices.pdqsortCmpFunc[sixdot/api.Change]",by decide,Tryz.func53.trans (congrArg some (by kernel_rfl))⟩
 f15:=Tryz.func54.trans (congrArg some (by kernel_rfl))
 f20:=⟨ "slices.insertionSortCmpFunc[sixdot/api.Change]",by decide,Tryz.func69.trans (congrArg some (by kernel_rfl))⟩
 f21:=⟨ "slices.heapSortCmpFunc[sixdot/api.Change]",by decide,Tryz.func70.trans (congrArg some (by kernel_rfl))⟩
 f22:=⟨ "slices.breakPatternsCmpFunc[sixdot/api.Change]",by decide,Tryz.func71.trans (congrArg some (by kernel_rfl))⟩
 f23:=⟨ "slices.choosePivotCmpFunc[sixdot/api.Change]",by decide,Tryz.func72.trans (congrArg some (by kernel_rfl))⟩
 f24:=⟨ "slices.reverseRangeCmpFunc[sixdot/api.Change]",by decide,Tryz.func73.trans (congrArg some (by kernel_rfl))⟩
 f25:=⟨ "slices.partialInsertionSortCmpFunc[sixdot/api.Change]",by decide,Tryz.func74.trans (congrArg some (by kernel_rfl))⟩
 f26:=⟨ "slices.partitionEqualCmpFunc[sixdot/api.Change]",by decide,Tryz.func75.trans (congrArg some (by kernel_rfl))⟩
 f27:=⟨ "slices.partitionCmpFunc[sixdot/api.Change]",by decide,Tryz.func76.trans (congrArg some (by kernel_rfl))⟩
 f28:=Tryz.func77.trans (congrArg some (by kernel_rfl))
 f29:=Tryz.func78.trans (congrArg some (by kernel_rfl))
 f46:=⟨ "slices.siftDownCmpFunc[sixdot/api.Change]",by decide,Tryz.func88.trans (congrArg some (by kernel_rfl))⟩
 f47:=Tryz.func89.trans (congrArg some (by kernel_rfl))
 f48:=Tryz.func90.trans (congrArg some (by kernel_rfl))
 f49:=⟨ "slices.medianAdjacentCmpFunc[sixdot/api.Change]",by decide,Tryz.func91.trans (congrArg some (by kernel_rfl))⟩
 f50:=⟨ "slices.medianCmpFunc[sixdot/api.Change]",by decide,Tryz.func92.trans (congrArg some (by kernel_rfl))⟩
 f57:=⟨ "slices.order2CmpFunc[sixdot/api.Change]",by decide,Tryz.func102.trans (congrArg some (by kernel_rfl))⟩
 t0:=Tryz.underlying0
 a0:=Tryz.isAgg0
 z0:=Tryz.sizeOf0
 v0:=Tryz.zeroValue0
 t3:=Tryz.underlying3
 a3:=Tryz.isAgg3
 z3:=Tryz.sizeOf3
 v3:=Tryz.zeroValue3
 t4:=Tryz.underlying4
 a4:=Tryz.isAgg4
 z4:=Tryz.sizeOf4
 v4:=Tryz.zeroValue4
 t5:=Tryz.underlying5
 a5:=Tryz.isAgg5
 z5:=Tryz.sizeOf5
 v5:=Tryz.zeroValue5
 t9:=Tryz.underlying9
 a9:=Tryz.isAgg9
 z9:=Tryz.sizeOf9
 v9:=Tryz.zeroValue9
 t22:=Tryz.underlying35
 a22:=Tryz.isAgg35
 z22:=Tryz.sizeOf35
 v22:=Tryz.zeroValue35
 t25:=Tryz.underlying88
 a25:=Tryz.isAgg88
 z25:=Tryz.sizeOf88
 v25:=Tryz.zeroValue88
 t39:=Tryz.underlying108
 a39:=Tryz.isAgg108
 z39:=Tryz.sizeOf108
 v39:=Tryz.zeroValue108
 t45:=Tryz.underlying126
 a45:=Tryz.isAgg126
 z45:=Tryz.sizeOf126
 v45:=Tryz.zeroValue126
 t46:=Tryz.underlying127
 a46:=Tryz.isAgg127
 z46:=Tryz.sizeOf127
 v46:=Tryz.zeroValue127
 t50:=Tryz.underlying131
 a50:=Tryz.isAgg131
 z50:=Tryz.sizeOf131
 v50:=Tryz.zeroValue131
 t53:=Tryz.underlying134
 a53:=Tryz.isAgg134
 z53:=Tryz.sizeOf134
 v53:=Tryz.zeroValue134
 t55:=Tryz.underlying136
 a55:=Tryz.isAgg136
 z55:=Tryz.sizeOf136
 v55:=Tryz.zeroValue136
 t66:=Tryz.underlying149
 a66:=Tryz.isAgg149
 z66:=Tryz.sizeOf149
 v66:=Tryz.zeroValue149
 t70:=Tryz.underlying153
 a70:=Tryz.isAgg153
 z70:=Tryz.sizeOf153
 v70:=Tryz.zeroValue153
 t76:=Tryz.underlying164
 a76:=Tryz.isAgg164
 z76:=Tryz.sizeOf164
 v76:=Tryz.zeroValue164
 t77:=Tryz.underlying165
 a77:=Tryz.isAgg165
 z77:=Tryz.sizeOf165
 v77:=Tryz.zeroValue165 }
end Go.Proofs
end
section
namespace Go.AI
variable {P:Program} {F:Nat->Option Obj} {ρ:Nat->Option Loc} {w:World}
theorem RN:∀ (a r:List TK) (l l':List AV) (b:Bool),AM (a++r) l l'=some b->∃ b1 b2,AM a (l.take a.length) (l'.take a.length)=some b1/\AM r (l.drop a.length) (l'.drop a.length)=some b2/\b=(b1&&b2):=by
 intro a
 induction a with
 | nil=>intro r l l' b h;exact ⟨true,b,by simp [AM],by simpa using h,by simp⟩
 | cons k a ih=>
  intro r l l' b h
  rw [List.cons_append] at h
  unfold AM at h
  split at h
  ·rename_i heq;cases heq
  all_goals (first|(cases h;done)|skip)
  ·rename_i k0 ks0 k1 x xs0 k2 y ys0 e0
   cases e0
   split at h
   ·rename_i r' hr'
    obtain ⟨b1,b2,h1,h2,h3⟩:=ih r _ _ _ hr'
    cases hk:(k1==k2) with
    | false=>rw [hk] at h;cases h
    | true=>
     rw [hk,cond_true] at h;cases h
     exact ⟨(x==y)&&b1,b2,by simp [AM,h1,hk],by simpa using h2,by rw [h3,Bool.and_assoc]⟩
   ·cases h
  ·rename_i ks0 x xs0 y ys0 e0
   cases e0
   split at h
   ·rename_i r' hr'
    obtain ⟨b1,b2,h1,h2,h3⟩:=ih r _ _ _ hr'
    cases h
    exact ⟨(x==y)&&b1,b2,by simp [AM,h1],by simpa using h2,by rw [h3,Bool.and_assoc]⟩
   ·cases h
  ·rename_i ks0 x xs0 y ys0 e0
   cases e0
   split at h
   ·rename_i r' hr'
    obtain ⟨b1,b2,h1,h2,h3⟩:=ih r _ _ _ hr'
    cases h
    exact ⟨(x==y)&&b1,b2,by simp [AM,h1],by simpa using h2,by rw [h3,Bool.and_assoc]⟩
   ·cases h
def JfQ (P:Program) (t:TypeId) (a:List TK):Prop:=∃ fields i,P.underlying t=some (.struct fields)/\P.stoodInHeld t=false/\P.info? t=some i/\i.size=a.length/\fields.size=a.length/\∀ (j:Nat) f k,fields[j]? = some f->a[j]? = some k->f.name ≠ "_"/\f.offset=j/\JaY P f.type k
inductive JdO (P:Program) (t:TypeId):List TK->Prop
 | one {k:TK} (h:JaY P t k):JdO P t [k]
 | nest {a:List TK} (h:JfQ P t a):JdO P t a
inductive JbE (P:Program):List Field->Nat->List TK->Prop
 | nil {i:Nat}:JbE P [] i []
 | cons {f:Field} {fs:List Field} {i:Nat} {a r:List TK} (h0:f.name ≠ "_"/\f.offset=i) (h:JdO P f.type a) (hr:JbE P fs (i+a.length) r):JbE P (f::fs) i (a++r)
def At (F:Nat->Option Obj) (ρ:Nat->Option Loc) (xs:Array Value) (o:Nat) (l:List AV):Prop:=∀ (j:Nat) a,l[j]? = some a->∃ v,xs[o+j]? = some v/\Ah F ρ a v
theorem At.take {xs:Array Value} {o:Nat} {l:List AV} (h:At F ρ xs o l) (n:Nat):At F ρ xs o (l.take n):=λ j a ha=>by
 rw [List.getElem?_take] at ha
 split at ha
 ·exact h j a ha
 ·cases ha
theorem At.drop {xs:Array Value} {o:Nat} {l:List AV} (h:At F ρ xs o l) (n:Nat):At F ρ xs (o+n) (l.drop n):=λ j a ha=>by
 rw [JmO] at ha
 rw [JmP];exact h _ a ha
theorem L7 {t:TypeId} {a:List TK} (h:JfQ P t a) (cs:Array Value) (o:Nat):(part t cs o).run P w=.ok (.agg (cs.extract o (o+a.length))) w:=by
 obtain ⟨fields,i,h1,_,h3,h4,_⟩:=h
 simp only [part,JmD,Lg w h1,JmB,Hl,if_true,AN w h3,h4,JmE]
theorem ZR {t:TypeId} {a:List TK} (h:JdO P t a) (d:Nat) {xs ys:Array Value} {o:Nat} {l l':List AV} {b:Bool} (he:AM a l l'=some b) (hx:At F ρ xs o l) (hy:At F ρ ys o l') :
  ∃ u v,(part t xs o).run P w=.ok u w/\(part t ys o).run P w=.ok v w/\(Op.equalIn (d+1+1) t u v).run P w=.ok b w:=by
 obtain ⟨e1,e2⟩:=V4 _ _ _ _ he
 cases h with
 | @one k hk=>
  match l,e1 with
  | [x],_=>
   match l',e2 with
   | [y],_=>
    obtain ⟨u,hu,hux⟩:=hx 0 x rfl
    obtain ⟨v,hv,hvy⟩:=hy 0 y rfl
    refine ⟨u,v,Cw (Mr hk) (by simpa using hu),Cw (Mr hk) (by simpa using hv),?_⟩
    unfold AM at he
    split at he
    ·rename_i heq;cases heq
    ·rename_i k0 ks0 k1 p xs0 k2 q ys0 e0 e3 e4
     cases e0
     simp only [List.cons.injEq] at e3 e4
     obtain ⟨rfl,rfl⟩:=e3
     obtain ⟨rfl,rfl⟩:=e4
     simp only [AM] at he
     cases hkk:(k1==k2) with
     | false=>rw [hkk] at he;cases he
     | true=>
      rw [hkk,cond_true] at he
      have:k1=k2:=by simpa using hkk
      subst this
      cases he
      rw [hux.int,hvy.int,Bool.and_true]
      obtain ⟨k3,hk3⟩:=hk
      exact run_equalIn_int w (d+1) t k1 k3 p q hk3
    ·rename_i e0 e3 e4
     cases e0
     simp only [List.cons.injEq] at e3 e4
     obtain ⟨rfl,rfl⟩:=e3
     obtain ⟨rfl,rfl⟩:=e4
     simp only [AM,Jm4] at he
     subst he
     rw [hux.bool,hvy.bool,Bool.and_true]
     exact run_equalIn_bool' w (d+1) t _ _ hk
    ·rename_i e0 e3 e4
     cases e0
     simp only [List.cons.injEq] at e3 e4
     obtain ⟨rfl,rfl⟩:=e3
     obtain ⟨rfl,rfl⟩:=e4
     simp only [AM,Jm4] at he
     subst he
     rw [hux.str,hvy.str,run_equalIn_string w (d+1) t _ _ hk,BS,BS,Bool.and_true]
    ·cases he
 | nest hn=>
  refine ⟨_,_,L7 hn xs o,L7 hn ys o,?_⟩
  obtain ⟨fields,i,h1,h2,h3,h4,h5,h6⟩:=hn
  have hfo:P.fieldsOf t=fields:=by simp [Program.fieldsOf,h1]
  rw [run_equalIn_struct w (d+1) t _ _ (by rw [hfo];exact h1) h2,hfo]
  have hex:∀ (zs:Array Value) (m:List AV),m.length=a.length->At F ρ zs o m->∀ (j:Nat) c,m[j]? = some c->∃ v,(zs.extract o (o+a.length))[0+j]? = some v/\Ah F ρ c v:=λ zs m hm hz j c hc=>by
   obtain ⟨v,hv,hr⟩:=hz j c hc
   have hj:=Ae hc
   refine ⟨v,?_,hr⟩
   rw [Jm7,Array.getElem?_extract,if_pos (by have:=Ap hv;omega)]
   exact hv
  refine Nt (F:=F) (ρ:=ρ) d _ _ fields.toList a 0 l l' b (by simpa using h5) (λ j f k q1 q2=>?_) he (hex xs l e1 hx) (hex ys l' e2 hy)
  obtain ⟨a1,a2,a3⟩:=h6 j f k (by simpa using q1) q2
  exact ⟨a1,by omega,a3⟩
theorem Uw (d:Nat) {xs ys:Array Value} {fs:List Field} {i:Nat} {ks:List TK} (hs:JbE P fs i ks):∀ {l l':List AV} {r:Bool},AM ks l l'=some r->At F ρ xs i l->At F ρ ys i l'->(Op.eqFields (d+1+1) xs ys fs).run P w=.ok r w:=by
 induction hs with
 | nil=>
  intro l l' r h _ _
  cases l with
  | cons=>simp [AM] at h
  | nil=>cases l' with
   | cons=>simp [AM] at h
   | nil=>simp [AM] at h;subst h;rfl
 | @cons f fs i a rs h0 hl _ ih=>
  intro l l' r h hx hy
  obtain ⟨b1,b2,h1,h2,rfl⟩:=RN _ _ _ _ _ h
  obtain ⟨u,v,q1,q2,q3⟩:=ZR (F:=F) (ρ:=ρ) (w:=w) hl d h1 (hx.take _) (hy.take _)
  obtain ⟨hnm,hoff⟩:=h0
  simp only [Op.eqFields]
  rw [if_pos hnm,hoff]
  simp only [JmD,q1,q2,JmB,q3]
  cases b1 with
  | false=>simp
  | true=>simp only [JmJ,Jm5,if_false,Bool.true_and];exact ih h2 (hx.drop _) (hy.drop _)
theorem JbF {l:List AV} {xs:Array Value} (h:Ah F ρ (.agg l) (.agg xs)):At F ρ xs 0 l:=by
 cases h with
 | agg _ _ hl hr=>
  intro j a ha
  have hj:=Ae ha
  refine ⟨xs[j],?_,hr j a _ ha (JmY (by omega))⟩
  rw [Jm7];exact JmY (by omega)
theorem JdP {t:TypeId} {fields:Array Field} {ks:List TK} (hd:P.underlying t=some (.struct fields)) (hst:P.stoodInHeld t=false) (hg:P.eqGuardType P.depth t=false) (hs:JbE P fields.toList 0 ks):Nc P t ks:=by
 intro l l' r xs ys F ρ w x y h hx hy
 have hfo:P.fieldsOf t=fields:=by simp [Program.fieldsOf,hd]
 have hrun:(Op.equalIn 10000 t (.agg xs) (.agg ys)).run P w=.ok r w:=by
  rw [run_equalIn_struct w 9999 t xs ys (by rw [hfo];exact hd) hst,hfo]
  exact Uw 9997 hs h (JbF hx) (JbF hy)
 constructor
 ·simp only [JmD,run_eqGuard_agg w .eql t x y xs ys hg,JmB]
  rw [run_eql_struct,hrun];rfl
 ·simp only [JmD,run_eqGuard_agg w .neq t x y xs ys hg,JmB]
  rw [run_neq_struct,hrun];rfl
end Go.AI
end
section
namespace Go.AI
open Go.Proofs
set_option maxRecDepth 100000
theorem GM:Inf Tryz.prog 3 1 8 (.int .i64 0):=AK (by kernel_rfl)
theorem JgN:Inf Tryz.prog 4 1 1 (.bool false):=AK (by kernel_rfl)
theorem LE:Inf Tryz.prog 5 1 1 (.int .u8 0):=AK (by kernel_rfl)
theorem JdQ:Inf Tryz.prog 9 1 16 (.string ⟨#[]⟩):=AK (by kernel_rfl)
theorem JkP:Inf Tryz.prog 22 1 24 (.slice none 0 0):=AK (by kernel_rfl)
theorem JbG:Inf Tryz.prog 23 1 24 (.slice none 0 0):=AK (by kernel_rfl)
theorem JfR:Inf Tryz.prog 25 4 32 (.agg #[.int .u8 0,.int .u8 0,.int .u8 0,.slice none 0 0]):=AK (by kernel_rfl)
theorem JbH:Inf Tryz.prog 26 1 1 (.int .i8 0):=AK (by kernel_rfl)
theorem JkQ:Inf Tryz.prog 27 3 3 (.agg #[.int .i8 0,.int .i8 0,.int .i8 0]):=AK (by kernel_rfl)
theorem JkR:Inf Tryz.prog 30 1 24 (.slice none 0 0):=AK (by kernel_rfl)
theorem YA:Inf Tryz.prog 33 4 40 (.agg #[.int .i64 0,.int .i64 0,.int .i64 0,.string ⟨#[]⟩]):=AK (by kernel_rfl)
theorem JfS:Inf Tryz.prog 35 1 24 (.slice none 0 0):=AK (by kernel_rfl)
theorem JbI:Inf Tryz.prog 36 1 8 (.int .i64 0):=AK (by kernel_rfl)
theorem JkS:Inf Tryz.prog 45 1 24 (.slice none 0 0):=AK (by kernel_rfl)
theorem JkT:Inf Tryz.prog 46 1 24 (.slice none 0 0):=AK (by kernel_rfl)
theorem JfT:Inf Tryz.prog 48 1 24 (.slice none 0 0):=AK (by kernel_rfl)
theorem JkU:Inf Tryz.prog 50 2 48 (.agg #[.slice none 0 0,.slice none 0 0]):=AK (by kernel_rfl)
theorem JfU:Inf Tryz.prog 54 2 16 (.agg #[.int .i64 0,.int .i64 0]):=AK (by kernel_rfl)
theorem JfV:Inf Tryz.prog 56 5 48 (.agg #[.int .i64 0,.int .i64 0,.int .i64 0,.int .i64 0,.string ⟨#[]⟩]):=AK (by kernel_rfl)
theorem JfW:Inf Tryz.prog 60 1 24 (.slice none 0 0):=AK (by kernel_rfl)
theorem JfX:Inf Tryz.prog 62 1 24 (.slice none 0 0):=AK (by kernel_rfl)
theorem JfY:Inf Tryz.prog 63 1 24 (.slice none 0 0):=AK (by kernel_rfl)
theorem JfZ:Inf Tryz.prog 65 4 48 (.agg #[.int .i64 0,.int .i64 0,.int .i64 0,.slice none 0 0]):=AK (by kernel_rfl)
theorem Jf0:Inf Tryz.prog 67 10 136 (.agg #[.int .i64 0,.int .i64 0,.string ⟨#[]⟩,.slice none 0 0,.slice none 0 0,.int .i64 0,.int .i64 0,.int .i64 0,.slice none 0 0,.int .i64 0]):=AK (by kernel_rfl)
theorem Jf1:Inf Tryz.prog 78 1 24 (.slice none 0 0):=AK (by kernel_rfl)
theorem JkV:Inf Tryz.prog 86 1 24 (.slice none 0 0):=AK (by kernel_rfl)
theorem JkW:Inf Tryz.prog 88 1 8 (.nilFunc):=AK (by kernel_rfl)
theorem Jf2:Inf Tryz.prog 92 1 24 (.slice none 0 0):=AK (by kernel_rfl)
theorem Jf3:Inf Tryz.prog 94 3 32 (.agg #[.int .u8 0,.int .u8 0,.slice none 0 0]):=AK (by kernel_rfl)
theorem Jf4:Inf Tryz.prog 95 1 24 (.slice none 0 0):=AK (by kernel_rfl)
theorem Jf5:Inf Tryz.prog 97 4 32 (.agg #[.int .u8 0,.int .u8 0,.int .u8 0,.slice none 0 0]):=AK (by kernel_rfl)
theorem Jf6:Inf Tryz.prog 99 10 96 (.agg #[.int .u8 0,.int .u8 0,.slice none 0 0,.int .u8 0,.int .u8 0,.slice none 0 0,.int .u8 0,.int .u8 0,.int .u8 0,.slice none 0 0]):=AK (by kernel_rfl)
theorem JgO:Inf Tryz.prog 108 1 8 (.int .u64 0):=AK (by kernel_rfl)
theorem JbJ:Inf Tryz.prog 112 1 24 (.slice none 0 0):=AK (by kernel_rfl)
theorem JbK:Inf Tryz.prog 119 2 16 (.agg #[.int .i64 0,.int .i64 0]):=AK (by kernel_rfl)
theorem Ux:Inf Tryz.prog 120 1 24 (.slice none 0 0):=AK (by kernel_rfl)
theorem JbL:Inf Tryz.prog 122 3 40 (.agg #[.int .i64 0,.int .i64 0,.slice none 0 0]):=AK (by kernel_rfl)
theorem JbM:Inf Tryz.prog 124 2 16 (.agg #[.int .i64 0,.int .i64 0]):=AK (by kernel_rfl)
theorem JgP:Inf Tryz.prog 126 1 8 (.int .i64 0):=AK (by kernel_rfl)
theorem JgQ:Inf Tryz.prog 134 1 4 (.int .u32 0):=AK (by kernel_rfl)
theorem JgR:Inf Tryz.prog 136 1 8 (.int .u64 0):=AK (by kernel_rfl)
theorem JbN:Inf Tryz.prog 139 2 2 (.agg #[.int .u8 0,.int .u8 0]):=AK (by kernel_rfl)
theorem JbO:Inf Tryz.prog 141 6 6 (.agg #[.int .u8 0,.int .u8 0,.int .u8 0,.int .u8 0,.int .u8 0,.int .u8 0]):=AK (by kernel_rfl)
theorem JgS:Inf Tryz.prog 143 3 24 (.agg #[.int .i64 0,.int .i64 0,.int .i64 0]):=AK (by kernel_rfl)
theorem JgT:Inf Tryz.prog 146 3 40 (.agg #[.slice none 0 0,.int .i64 0,.int .i64 0]):=AK (by kernel_rfl)
theorem JgU:Inf Tryz.prog 149 1 8 (.int .u64 0):=AK (by kernel_rfl)
theorem JgV:Inf Tryz.prog 153 1 8 (.pointer none):=AK (by kernel_rfl)
theorem JgW:Inf Tryz.prog 155 1 24 (.slice none 0 0):=AK (by kernel_rfl)
theorem JgX:Inf Tryz.prog 157 1 24 (.slice none 0 0):=AK (by kernel_rfl)
theorem JgY:Inf Tryz.prog 182 1 24 (.slice none 0 0):=AK (by kernel_rfl)
theorem JbP:Inf Tryz.prog 184 1 1 (.int .u8 0):=AK (by kernel_rfl)
theorem JbQ:Inf Tryz.prog 185 60 60 (.agg (Array.replicate 60 (.bool false))):=AK (by kernel_rfl)
theorem JgZ:Inf Tryz.prog 186 3600 3600 (.agg (Array.replicate 3600 (.bool false))):=AK (by kernel_rfl)
def ty:Nat->Ty
 | 3=>⟨true,[],1,false,[.int .i64 0],.int .i64⟩
 | 4=>⟨true,[],1,false,[.bool false],.bool⟩
 | 5=>⟨true,[],1,false,[.int .u8 0],.int .u8⟩
 | 9=>⟨true,[],1,false,[.str []],.string⟩
 | 22=>⟨true,[],1,false,[.nil],.slice 10 96 [.int .u8 0,.int .u8 0,.nil,.int .u8 0,.int .u8 0,.nil,.int .u8 0,.int .u8 0,.int .u8 0,.nil]⟩
 | 23=>⟨true,[],1,false,[.nil],.slice 1 1 [.int .u8 0]⟩
 | 25=>⟨true,[],4,true,[.int .u8 0,.int .u8 0,.int .u8 0,.nil],.struct [(0,1),(1,1),(2,1),(3,1)]⟩
 | 26=>⟨true,[],1,false,[.int .i8 0],.int .i8⟩
 | 27=>⟨true,[.int .i8,.int .i8,.int .i8],3,true,[.int .i8 0,.int .i8 0,.int .i8 0],.array 3 1⟩
 | 30=>⟨true,[],1,false,[.nil],.slice 10 136 [.int .i64 0,.int .i64 0,.str [],.nil,.nil,.int .i64 0,.int .i64 0,.int .i64 0,.nil,.int .i64 0]⟩
 | 33=>⟨true,[.int .i64,.int .i64,.int .i64,.string],4,true,[.int .i64 0,.int .i64 0,.int .i64 0,.str []],.struct [(0,1),(1,1),(2,1),(3,1)]⟩
 | 35=>⟨true,[],1,false,[.nil],.slice 4 40 [.int .i64 0,.int .i64 0,.int .i64 0,.str []]⟩
 | 36=>⟨true,[],1,false,[.int .i64 0],.int .i64⟩
 | 45=>⟨true,[],1,false,[.nil],.slice 4 32 [.int .u8 0,.int .u8 0,.int .u8 0,.nil]⟩
 | 46=>⟨true,[],1,false,[.nil],.slice 5 48 [.int .i64 0,.int .i64 0,.int .i64 0,.int .i64 0,.str []]⟩
 | 48=>⟨true,[],1,false,[.nil],.slice 2 16 [.int .i64 0,.int .i64 0]⟩
 | 50=>⟨true,[],2,true,[.nil,.nil],.struct [(0,1),(1,1)]⟩
 | 54=>⟨true,[.int .i64,.int .i64],2,true,[.int .i64 0,.int .i64 0],.array 2 1⟩
 | 56=>⟨true,[.int .i64,.int .i64,.int .i64,.int .i64,.string],5,true,[.int .i64 0,.int .i64 0,.int .i64 0,.int .i64 0,.str []],.struct [(0,1),(1,4)]⟩
 | 60=>⟨true,[],1,false,[.nil],.slice 1 24 [.nil]⟩
 | 62=>⟨true,[],1,false,[.nil],.slice 2 16 [.int .i64 0,.int .i64 0]⟩
 | 63=>⟨true,[],1,false,[.nil],.slice 3 40 [.int .i64 0,.int .i64 0,.nil]⟩
 | 65=>⟨true,[],4,true,[.int .i64 0,.int .i64 0,.int .i64 0,.nil],.struct [(0,1),(1,1),(2,1),(3,1)]⟩
 | 67=>⟨true,[],10,true,[.int .i64 0,.int .i64 0,.str [],.nil,.nil,.int .i64 0,.int .i64 0,.int .i64 0,.nil,.int .i64 0],.struct [(0,1),(1,1),(2,1),(3,1),(4,1),(5,4),(9,1)]⟩
 | 78=>⟨true,[],1,false,[.nil],.slice 1 8 [.int .i64 0]⟩
 | 86=>⟨true,[],1,false,[.nil],.slice 1 1 [.bool false]⟩
 | 88=>⟨true,[],1,false,[.nilf],.other⟩
 | 92=>⟨true,[],1,false,[.nil],.slice 2 2 [.int .u8 0,.int .u8 0]⟩
 | 94=>⟨true,[],3,true,[.int .u8 0,.int .u8 0,.nil],.struct [(0,1),(1,1),(2,1)]⟩
 | 95=>⟨true,[],1,false,[.nil],.slice 6 6 [.int .u8 0,.int .u8 0,.int .u8 0,.int .u8 0,.int .u8 0,.int .u8 0]⟩
 | 97=>⟨true,[],4,true,[.int .u8 0,.int .u8 0,.int .u8 0,.nil],.struct [(0,1),(1,1),(2,1),(3,1)]⟩
 | 99=>⟨true,[],10,true,[.int .u8 0,.int .u8 0,.nil,.int .u8 0,.int .u8 0,.nil,.int .u8 0,.int .u8 0,.int .u8 0,.nil],.struct [(0,1),(1,1),(2,1),(3,3),(6,4)]⟩
 | 108=>⟨true,[],1,false,[.int .u64 0],.int .u64⟩
 | 112=>⟨true,[],1,false,[.nil],.slice 1 16 [.str []]⟩
 | 119=>⟨true,[.int .i64,.int .i64],2,true,[.int .i64 0,.int .i64 0],.struct [(0,1),(1,1)]⟩
 | 120=>⟨true,[],1,false,[.nil],.slice 2 16 [.int .i64 0,.int .i64 0]⟩
 | 122=>⟨true,[],3,true,[.int .i64 0,.int .i64 0,.nil],.struct [(0,1),(1,1),(2,1)]⟩
 | 124=>⟨true,[.int .i64,.int .i64],2,true,[.int .i64 0,.int .i64 0],.struct [(0,1),(1,1)]⟩
 | 126=>⟨true,[],1,false,[.int .i64 0],.int .i64⟩
 | 134=>⟨true,[],1,false,[.int .u32 0],.int .u32⟩
 | 136=>⟨true,[],1,false,[.int .u64 0],.int .u64⟩
 | 139=>⟨true,[.int .u8,.int .u8],2,true,[.int .u8 0,.int .u8 0],.array 2 1⟩
 | 141=>⟨true,[.int .u8,.int .u8,.int .u8,.int .u8,.int .u8,.int .u8],6,true,[.int .u8 0,.int .u8 0,.int .u8 0,.int .u8 0,.int .u8 0,.int .u8 0],.array 6 1⟩
 | 143=>⟨true,[.int .i64,.int .i64,.int .i64],3,true,[.int .i64 0,.int .i64 0,.int .i64 0],.struct [(0,1),(1,1),(2,1)]⟩
 | 146=>⟨true,[],3,true,[.nil,.int .i64 0,.int .i64 0],.struct [(0,1),(1,1),(2,1)]⟩
 | 149=>⟨true,[],1,false,[.int .u64 0],.int .u64⟩
 | 153=>⟨true,[],1,false,[.nilp],.other⟩
 | 155=>⟨true,[],1,false,[.nil],.slice 1 24 [.nil]⟩
 | 157=>⟨true,[],1,false,[.nil],.slice 1 24 [.nil]⟩
 | 182=>⟨true,[],1,false,[.nil],.slice 1 1 [.int .u8 0]⟩
 | 184=>⟨true,[],1,false,[.int .u8 0],.int .u8⟩
 | 185=>⟨true,[],60,true,(List.replicate 60 (.bool false)),.array 60 1⟩
 | 186=>⟨true,[],3600,true,(List.replicate 3600 (.bool false)),.array 60 60⟩
 | _=>⟨false,[],0,false,[],.other⟩
theorem tf3:Ay Tryz.prog 3 (ty 3):=tfM GM Tryz.underlying3 rfl
theorem tf4:Ay Tryz.prog 4 (ty 4):=tfM JgN Tryz.underlying4 rfl
theorem tf5:Ay Tryz.prog 5 (ty 5):=tfM LE Tryz.underlying5 rfl
theorem tf9:Ay Tryz.prog 9 (ty 9):=tfM JdQ Tryz.underlying9 rfl
theorem JlW:Ay Tryz.prog 22 (ty 22):=tfM JkP Tryz.underlying22 (slK Jf6)
theorem JlX:Ay Tryz.prog 23 (ty 23):=tfM JbG Tryz.underlying23 (slK LE (λ _=>Tryz.underlying5))
theorem JlY:Ay Tryz.prog 25 (ty 25):=tfM JfR Tryz.underlying25 (stF (A2 (B6 LE Tryz.underlying5) (A2 (B6 LE Tryz.underlying5) (A2 (B6 LE Tryz.underlying5) (A2 (B6 JbG Tryz.underlying23) Hr)))))
theorem JlZ:Ay Tryz.prog 26 (ty 26):=tfM JbH Tryz.underlying26 rfl
theorem Jl0:Ay Tryz.prog 27 (ty 27):=tfM JkQ Tryz.underlying27 (arK JbH) (λ _=>Uk Tryz.underlying27 Tryz.underlying26 JbH (by kernel_rfl))
theorem Jl1:Ay Tryz.prog 30 (ty 30):=tfM JkR Tryz.underlying30 (slK Jf0)
theorem Jl2:Ay Tryz.prog 33 (ty 33):=tfM YA Tryz.underlying33 (stF (A2 (B6 GM Tryz.underlying3) (A2 (B6 GM Tryz.underlying3) (A2 (B6 GM Tryz.underlying3) (A2 (B6 JdQ Tryz.underlying9) Hr))))) (λ _=>QF Tryz.underlying33 (by kernel_rfl) (by kernel_rfl) rfl λ j f k h1 h2=>match j,h1,h2 with|0,h1,h2=>(by cases h1;cases h2;exact ⟨by decide,rfl,⟨_,Tryz.underlying3⟩⟩)|1,h1,h2=>(by cases h1;cases h2;exact ⟨by decide,rfl,⟨_,Tryz.underlying3⟩⟩)|2,h1,h2=>(by cases h1;cases h2;exact ⟨by decide,rfl,⟨_,Tryz.underlying3⟩⟩)|3,h1,h2=>(by cases h1;cases h2;exact ⟨by decide,rfl,Tryz.underlying9⟩)|n+4,h1,_=>by simp at h1)
theorem Jl3:Ay Tryz.prog 35 (ty 35):=tfM JfS Tryz.underlying35 (slK YA)
theorem Jl4:Ay Tryz.prog 36 (ty 36):=tfM JbI Tryz.underlying36 rfl
theorem Jl5:Ay Tryz.prog 45 (ty 45):=tfM JkS Tryz.underlying45 (slK JfR)
theorem Jl6:Ay Tryz.prog 46 (ty 46):=tfM JkT Tryz.underlying46 (slK JfV)
theorem Jl7:Ay Tryz.prog 48 (ty 48):=tfM JfT Tryz.underlying48 (slK JfU)
theorem Jl8:Ay Tryz.prog 50 (ty 50):=tfM JkU Tryz.underlying50 (stF (A2 (B6 JfS Tryz.underlying35) (A2 (B6 JfT Tryz.underlying48) Hr)))
theorem Jl9:Ay Tryz.prog 54 (ty 54):=tfM JfU Tryz.underlying54 (arK GM) (λ _=>Uk Tryz.underlying54 Tryz.underlying3 GM (by kernel_rfl))
theorem Jma:Ay Tryz.prog 56 (ty 56):=tfM JfV Tryz.underlying56 (stF (A2 (B6 GM Tryz.underlying3) (A2 (B6 YA Tryz.underlying33) Hr))) (λ _=>JdP Tryz.underlying56 (by kernel_rfl) (by kernel_rfl) (.cons (a:=[.int .i64]) ⟨by decide,rfl⟩ (.one ⟨_,Tryz.underlying3⟩) (.cons (a:=[.int .i64,.int .i64,.int .i64,.string]) ⟨by decide,rfl⟩ (.nest (by obtain ⟨j,h1,h2,_⟩:=YA;exact ⟨_,j,Tryz.underlying33,(by kernel_rfl),h1,h2,rfl,λ j f k h1 h2=>match j,h1,h2 with|0,h1,h2=>(by cases h1;cases h2;exact ⟨by decide,rfl,⟨_,Tryz.underlying3⟩⟩)|1,h1,h2=>(by cases h1;cases h2;exact ⟨by decide,rfl,⟨_,Tryz.underlying3⟩⟩)|2,h1,h2=>(by cases h1;cases h2;exact ⟨by decide,rfl,⟨_,Tryz.underlying3⟩⟩)|3,h1,h2=>(by cases h1;cases h2;exact ⟨by decide,rfl,Tryz.underlying9⟩)|n+4,h1,_=>by simp at h1⟩)) .nil)))
theorem Jmb:Ay Tryz.prog 60 (ty 60):=tfM JfW Tryz.underlying60 (slK JbJ)
theorem Jmc:Ay Tryz.prog 62 (ty 62):=tfM JfX Tryz.underlying62 (slK JbK)
theorem Jmd:Ay Tryz.prog 63 (ty 63):=tfM JfY Tryz.underlying63 (slK JbL)
theorem Jme:Ay Tryz.prog 65 (ty 65):=tfM JfZ Tryz.underlying65 (stF (A2 (B6 GM Tryz.underlying3) (A2 (B6 GM Tryz.underlying3) (A2 (B6 GM Tryz.underlying3) (A2 (B6 JfY Tryz.underlying63) Hr)))))
theorem Jmf:Ay Tryz.prog 67 (ty 67):=tfM Jf0 Tryz.underlying67 (stF (A2 (B6 GM Tryz.underlying3) (A2 (B6 GM Tryz.underlying3) (A2 (B6 JdQ Tryz.underlying9) (A2 (B6 JfW Tryz.underlying60) (A2 (B6 JfX Tryz.underlying62) (A2 (B6 JfZ Tryz.underlying65) (A2 (B6 GM Tryz.underlying3) Hr))))))))
theorem Jmg:Ay Tryz.prog 78 (ty 78):=tfM Jf1 Tryz.underlying78 (slK GM)
theorem Jmh:Ay Tryz.prog 86 (ty 86):=tfM JkV Tryz.underlying86 (slK JgN)
theorem Jmi:Ay Tryz.prog 88 (ty 88):=tfM JkW Tryz.underlying88 trivial
theorem Jmj:Ay Tryz.prog 92 (ty 92):=tfM Jf2 Tryz.underlying92 (slK JbN)
theorem Jmk:Ay Tryz.prog 94 (ty 94):=tfM Jf3 Tryz.underlying94 (stF (A2 (B6 LE Tryz.underlying5) (A2 (B6 LE Tryz.underlying5) (A2 (B6 Jf2 Tryz.underlying92) Hr))))
theorem Jml:Ay Tryz.prog 95 (ty 95):=tfM Jf4 Tryz.underlying95 (slK JbO)
theorem Jmm:Ay Tryz.prog 97 (ty 97):=tfM Jf5 Tryz.underlying97 (stF (A2 (B6 LE Tryz.underlying5) (A2 (B6 LE Tryz.underlying5) (A2 (B6 LE Tryz.underlying5) (A2 (B6 Jf4 Tryz.underlying95) Hr)))))
theorem Jmn:Ay Tryz.prog 99 (ty 99):=tfM Jf6 Tryz.underlying99 (stF (A2 (B6 LE Tryz.underlying5) (A2 (B6 LE Tryz.underlying5) (A2 (B6 JbG Tryz.underlying23) (A2 (B6 Jf3 Tryz.underlying94) (A2 (B6 Jf5 Tryz.underlying97) Hr))))))
theorem JkX:Ay Tryz.prog 108 (ty 108):=tfM JgO Tryz.underlying108 rfl
theorem JkY:Ay Tryz.prog 112 (ty 112):=tfM JbJ Tryz.underlying112 (slK JdQ)
theorem JkZ:Ay Tryz.prog 119 (ty 119):=tfM JbK Tryz.underlying119 (stF (A2 (B6 GM Tryz.underlying3) (A2 (B6 GM Tryz.underlying3) Hr))) (λ _=>QF Tryz.underlying119 (by kernel_rfl) (by kernel_rfl) rfl λ j f k h1 h2=>match j,h1,h2 with|0,h1,h2=>(by cases h1;cases h2;exact ⟨by decide,rfl,⟨_,Tryz.underlying3⟩⟩)|1,h1,h2=>(by cases h1;cases h2;exact ⟨by decide,rfl,⟨_,Tryz.underlying3⟩⟩)|n+2,h1,_=>by simp at h1)
theorem Jk0:Ay Tryz.prog 120 (ty 120):=tfM Ux Tryz.underlying120 (slK JbM)
theorem Jk1:Ay Tryz.prog 122 (ty 122):=tfM JbL Tryz.underlying122 (stF (A2 (B6 GM Tryz.underlying3) (A2 (B6 GM Tryz.underlying3) (A2 (B6 Ux Tryz.underlying120) Hr))))
theorem Jk2:Ay Tryz.prog 124 (ty 124):=tfM JbM Tryz.underlying124 (stF (A2 (B6 GM Tryz.underlying3) (A2 (B6 GM Tryz.underlying3) Hr))) (λ _=>QF Tryz.underlying124 (by kernel_rfl) (by kernel_rfl) rfl λ j f k h1 h2=>match j,h1,h2 with|0,h1,h2=>(by cases h1;cases h2;exact ⟨by decide,rfl,⟨_,Tryz.underlying3⟩⟩)|1,h1,h2=>(by cases h1;cases h2;exact ⟨by decide,rfl,⟨_,Tryz.underlying3⟩⟩)|n+2,h1,_=>by simp at h1)
theorem Jk3:Ay Tryz.prog 126 (ty 126):=tfM JgP Tryz.underlying126 rfl
theorem Jk4:Ay Tryz.prog 134 (ty 134):=tfM JgQ Tryz.underlying134 rfl
theorem Jk5:Ay Tryz.prog 136 (ty 136):=tfM JgR Tryz.underlying136 rfl
theorem Jk6:Ay Tryz.prog 139 (ty 139):=tfM JbN Tryz.underlying139 (arK LE) (λ _=>Uk Tryz.underlying139 Tryz.underlying5 LE (by kernel_rfl))
theorem Jk7:Ay Tryz.prog 141 (ty 141):=tfM JbO Tryz.underlying141 (arK LE) (λ _=>Uk Tryz.underlying141 Tryz.underlying5 LE (by kernel_rfl))
theorem Jk8:Ay Tryz.prog 143 (ty 143):=tfM JgS Tryz.underlying143 (stF (A2 (B6 GM Tryz.underlying3) (A2 (B6 GM Tryz.underlying3) (A2 (B6 JbI Tryz.underlying36) Hr)))) (λ _=>QF Tryz.underlying143 (by kernel_rfl) (by kernel_rfl) rfl λ j f k h1 h2=>match j,h1,h2 with|0,h1,h2=>(by cases h1;cases h2;exact ⟨by decide,rfl,⟨_,Tryz.underlying3⟩⟩)|1,h1,h2=>(by cases h1;cases h2;exact ⟨by decide,rfl,⟨_,Tryz.underlying3⟩⟩)|2,h1,h2=>(by cases h1;cases h2;exact ⟨by decide,rfl,⟨_,Tryz.underlying36⟩⟩)|n+3,h1,_=>by simp at h1)
theorem Jk9:Ay Tryz.prog 146 (ty 146):=tfM JgT Tryz.underlying146 (stF (A2 (B6 Ux Tryz.underlying120) (A2 (B6 GM Tryz.underlying3) (A2 (B6 JbI Tryz.underlying36) Hr))))
theorem Jla:Ay Tryz.prog 149 (ty 149):=tfM JgU Tryz.underlying149 rfl
theorem Jlb:Ay Tryz.prog 153 (ty 153):=tfM JgV Tryz.underlying153 trivial
theorem Jlc:Ay Tryz.prog 155 (ty 155):=tfM JgW Tryz.underlying155 (slK Ux)
theorem Jld:Ay Tryz.prog 157 (ty 157):=tfM JgX Tryz.underlying157 (slK Jf1)
theorem Jle:Ay Tryz.prog 182 (ty 182):=tfM JgY Tryz.underlying182 (slK JbP (λ _=>Tryz.underlying184))
theorem Jlf:Ay Tryz.prog 184 (ty 184):=tfM JbP Tryz.underlying184 rfl
theorem Jlg:Ay Tryz.prog 185 (ty 185):=tfM JbQ Tryz.underlying185 (arK JgN)
theorem Jlh:Ay Tryz.prog 186 (ty 186):=tfM JgZ Tryz.underlying186 (arK JbQ)
theorem tyOK:I3 Tryz.prog ty:=by
 intro t h
 unfold ty at h
 split at h
 ·exact tf3
 ·exact tf4
 ·exact tf5
 ·exact tf9
 ·exact JlW
 ·exact JlX
 ·exact JlY
 ·exact JlZ
 ·exact Jl0
 ·exact Jl1
 ·exact Jl2
 ·exact Jl3
 ·exact Jl4
 ·exact Jl5
 ·exact Jl6
 ·exact Jl7
 ·exact Jl8
 ·exact Jl9
 ·exact Jma
 ·exact Jmb
 ·exact Jmc
 ·exact Jmd
 ·exact Jme
 ·exact Jmf
 ·exact Jmg
 ·exact Jmh
 ·exact Jmi
 ·exact Jmj
 ·exact Jmk
 ·exact Jml
 ·exact Jmm
 ·exact Jmn
 ·exact JkX
 ·exact JkY
 ·exact JkZ
 ·exact Jk0
 ·exact Jk1
 ·exact Jk2
 ·exact Jk3
 ·exact Jk4
 ·exact Jk5
 ·exact Jk6
 ·exact Jk7
 ·exact Jk8
 ·exact Jk9
 ·exact Jla
 ·exact Jlb
 ·exact Jlc
 ·exact Jld
 ·exact Jle
 ·exact Jlf
 ·exact Jlg
 ·exact Jlh
 ·cases h
theorem follows:Tryz.prog.follows .mixedOrders=true:=by kernel_rfl
def qfT:List (Nat×Nat):=[]
theorem Jmo:∀ f k,(f,k)∈qfT->∀ vs:Array Value,vs.size=k->QD Tryz.prog (Nb f vs):=λ _ _ h=>by cases h
def cxk (n nk:Nat):Cx:=⟨ty,⟨n,[],nk,qfT⟩,Aq Tryz.prog,BL Tryz.prog,PH Tryz.prog,Ow Tryz.prog,Hn Tryz.prog,false⟩
theorem Jf7 (n nk:Nat):Fy Tryz.prog (cxk n nk):=⟨tyOK,λ _ _ _ h=>h,λ _ _ _ _ _ _ h=>h,λ _ _ _ _ _ h=>h,λ _ _ _ _ h=>h,λ _ _ _ _ _ h=>h,Jmo,λ h=>by cases h⟩
end Go.AI
end
section
namespace Go.AI
structure Ab where
 Block:Int
 At:Int
 Cut:Int
 Put:(List UInt8)
 deriving DecidableEq,Inhabited
structure Ao where
 Op:Int
 N:Int
 deriving DecidableEq,Inhabited
structure Aa where
 X:Int
 Y:Int
 deriving DecidableEq,Inhabited
structure Ax where
 Kind:Int
 Texture:Int
 P:(List Aa)
 deriving DecidableEq,Inhabited
structure Ag where
 W:Int
 H:Int
 Gap:Int
 F:(List Ax)
 deriving DecidableEq,Inhabited
structure Ai where
 Kind:Int
 Level:Int
 Text:(List UInt8)
 Rows:(List (List (List UInt8)))
 F:(List Ao)
 Pic:Ag
 Page:Int
 deriving DecidableEq,Inhabited
structure AH where
 Reader:Int
 C:Ab
 deriving DecidableEq,Inhabited
structure BF (α:Type) where
 a0:α
 a1:α
 deriving DecidableEq,Inhabited
structure Af where
 Agreed:(List Ab)
 Quarrels:(List (BF Int))
 deriving DecidableEq,Inhabited
structure RO where
 Kind:Int
 N:Int
 L:(List (BF Int))
 deriving DecidableEq,Inhabited
structure Wf (α:Type) where
 a0:α
 a1:α
 a2:α
 a3:α
 a4:α
 a5:α
 deriving DecidableEq,Inhabited
structure Bs where
 W:Int
 H:Int
 Gap:Int
 F:(List (Wf Int))
 deriving DecidableEq,Inhabited
structure Cn where
 I:Int
 J:Int
 E:Int
 deriving DecidableEq,Inhabited
structure Jf where
 L:(List Aa)
 At:Int
 E:Int
 deriving DecidableEq,Inhabited
structure Be where
 Kind:Int
 N:Int
 T:(List Int)
 F:RO
 P:Bs
 deriving DecidableEq,Inhabited
structure AS where
 Block:Int
 At:Int
 Cut:Int
 Put:(List Int)
 deriving DecidableEq,Inhabited
structure JmA (α:Type) where
 a0:α
 a1:α
 a2:α
 deriving DecidableEq,Inhabited
def AL (_:Nat) (p0_:Int) (p1_:Int) (p2_:(List UInt8)):Option Ab:=
 some ({ Block:=0,At:=p0_,Cut:=p1_,Put:=p2_ }:Ab)
def FU (_:Nat) (p0_:Int):Option Bool:=
 some ((decide (32<=Ed .u8 p0_ 127))&&(decide (Ed .u8 p0_ 127<=126)))
def Ht (n:Nat) (p0_:(List UInt8)) (x_1:Int):Option (Int⊕(Unit⊕(Int×Int))):=
 if decide (x_1<((p0_.length:Nat):Int))=true then
  (Je p0_ x_1).bind λ b1=>
  (FU n b1).bind λ r1=>
  if (!r1)=true then
   some (.inr (.inr (x_1,60)))
  else
   some (.inl (Ak .i64 x_1 1))
 else
  some (.inr (.inl ()))
def Nz (n:Nat) (p0_:(List UInt8)):Option (Int×Int):=
 (whl (λ (x:Int)=>Ht n p0_ x) n 0).bind λ y1=>
 match y1 with
 | Sum.inl _=>
  some (((p0_.length:Nat):Int),0)
 | Sum.inr y3=>
  some y3
def Ll (_:Nat) (p0_:Int):Option Int:=
 if ((decide (97<=Ed .u8 p0_ 127))&&(decide (Ed .u8 p0_ 127<=122)))=true then
  some 1
 else
  if ((decide (65<=Ed .u8 p0_ 127))&&(decide (Ed .u8 p0_ 127<=90)))=true then
   some 2
  else
   if ((decide (48<=Ed .u8 p0_ 127))&&(decide (Ed .u8 p0_ 127<=57)))=true then
    some 3
   else
    if ((Ed .u8 p0_ 127)==32)=true then
     some 4
    else
     some 5
def Gg (n:Nat) (p0_:(List UInt8)) (last_1:Int) (x_2:Int):Option ((Int×Int)⊕(Int⊕Bool)):=
 if decide (x_2<((p0_.length:Nat):Int))=true then
  (Je p0_ x_2).bind λ b2=>
  (Ll n b2).bind λ r3=>
  if ((r3==4)&&((last_1==0)||(last_1==4)))=true then
   some (.inr (.inr false))
  else
   some (.inl (r3,(Ak .i64 x_2 1)))
 else
  some (.inr (.inl last_1))
def Il (n:Nat) (p0_:(List UInt8)):Option Bool:=
 if ((decide (((p0_.length:Nat):Int)<1))||(decide (((p0_.length:Nat):Int)>400)))=true then
  some false
 else
  (Nz n p0_).bind λ r2=>
  if (r2.2 != 0)=true then
   some false
  else
   (whl (λ (x:(Int×Int))=>Gg n p0_ x.1 x.2) n (0,0)).bind λ y4=>
   match y4 with
   | Sum.inl y5=>
    some (y5 != 4)
   | Sum.inr y6=>
    some y6
noncomputable def GN (_:Nat) (p0_:(List Ai)):Option (List Ai):=
 dem (nlS p0_) λ (b3:Bool)=>
 if b3=true then
  some []
 else
  (app 136 ([]:List Ai) p0_).bind λ l1=>
  some l1
noncomputable def Di (n:Nat) (p0_:(List Ai)) (p1_:Ab) (x1:Ai) (x_3:Bool):Option ((List Ai)×Int):=
 if x_3=true then
  if ((((decide (p1_.At<0))||(decide (p1_.Cut<0)))||(decide (p1_.At>((x1.Text.length:Nat):Int))))||(decide (p1_.Cut>AW .i64 ((x1.Text.length:Nat):Int) p1_.At)))=true then
   some ([],320)
  else
   (sub x1.Text 0 p1_.At).bind λ s1=>
   (cat s1 p1_.Put).bind λ s2=>
   (sub x1.Text (Ak .i64 p1_.At p1_.Cut) ((x1.Text.length:Nat):Int)).bind λ s3=>
   (cat s2 s3).bind λ s4=>
   (Il n s4).bind λ r4=>
   if (!r4)=true then
    some ([],320)
   else
    (GN n p0_).bind λ r5=>
    (idx r5 p1_.Block).bind λ _=>
    (put r5 p1_.Block ({ Kind:=x1.Kind,Level:=x1.Level,Text:=s4,Rows:=x1.Rows,F:=x1.F,Pic:=x1.Pic,Page:=x1.Page }:Ai)).bind λ l2=>
    some (l2,0)
 else
  some ([],320)
noncomputable def Im (n:Nat) (p0_:(List Ai)) (p1_:Ab):Option ((List Ai)×Int):=
 if ((decide (p1_.Block<0))||(decide (p1_.Block>=((p0_.length:Nat):Int))))=true then
  some ([],320)
 else
  (idx p0_ p1_.Block).bind λ x1=>
  if (x1.Kind==1)=true then
   Di n p0_ p1_ x1 (x1.Kind==1)
  else
   if (x1.Kind==2)=true then
    Di n p0_ p1_ x1 (x1.Kind==2)
   else
    Di n p0_ p1_ x1 (x1.Kind==4)
def E4 (_:Nat) (p0_:Ab) (p1_:Ab):Option Bool:=
 some ((p0_.Block==p1_.Block)&&(decide (p0_.Cut<=AW .i64 p1_.At p0_.At)))
def Kk (n:Nat) (p0_:Ab) (p1_:Ab):Option Bool:=
 (if (!(p0_.Block != p1_.Block))=true then E4 n p0_ p1_ else some default).bind λ r6=>
 (if (!(p0_.Block != p1_.Block))=true then E4 n p1_ p0_ else some default).bind λ r7=>
 some ((p0_.Block != p1_.Block)||(!(r6==r7)))
def Kl (_:Nat) (c_1:Ab):Option (Ab×Bool):=
 some (c_1,true)
def Dx (n:Nat) (p0_:Ab) (p1_:Ab):Option (Ab×Bool):=
 (Kk n p0_ p1_).bind λ r8=>
 if (!r8)=true then
  some (({ Block:=0,At:=0,Cut:=0,Put:=[] }:Ab),false)
 else
  (E4 n p1_ p0_).bind λ r9=>
  if r9=true then
   Kl n ({ Block:=p0_.Block,At:=Ak .i64 p0_.At (AW .i64 ((p1_.Put.length:Nat):Int) p1_.Cut),Cut:=p0_.Cut,Put:=p0_.Put }:Ab)
  else
   Kl n p0_
def Eg (_:Nat) (p0_:Int):Option Bool:=
 some (p0_ != p0_)
def B7 (n:Nat) (p0_:Int) (p1_:Int):Option Int:=
 (Eg n p0_).bind λ r10=>
 (Eg n p1_).bind λ r11=>
 if r10=true then
  if r11=true then
   some 0
  else
   some (-1)
 else
  if r11=true then
   some 1
  else
   if decide (p0_<p1_)=true then
    some (-1)
   else
    if decide (p0_>p1_)=true then
     some 1
    else
     some 0
def C2 (_:Nat) (p0_:(List UInt8)):Option Bool:=
 some (!(p0_==p0_))
def Cs (n:Nat) (p0_:(List UInt8)) (p1_:(List UInt8)):Option Int:=
 (C2 n p0_).bind λ r12=>
 (C2 n p1_).bind λ r13=>
 if r12=true then
  if r13=true then
   some 0
  else
   some (-1)
 else
  if r13=true then
   some 1
  else
   if (Op.bytesLess p0_ p1_)=true then
    some (-1)
   else
    if (!(Op.bytesLess p0_ p1_||p0_==p1_))=true then
     some 1
    else
     some 0
def GO (_:Nat) (p0_:(List Int)) (x_4:Int):Option (Int⊕(Unit⊕Int)):=
 if decide (x_4<((p0_.length:Nat):Int))=true then
  (idx p0_ x_4).bind λ x3=>
  if (x3 != 0)=true then
   some (.inr (.inr x3))
  else
   some (.inl (Ak .i64 x_4 1))
 else
  some (.inr (.inl ()))
def Hu (n:Nat) (p0_:(List Int)):Option Int:=
 (whl (λ (x:Int)=>GO n p0_ x) n 0).bind λ y7=>
 match y7 with
 | Sum.inl _=>
  some 0
 | Sum.inr y9=>
  some y9
def GD (n:Nat) (p0_:Ab) (p1_:Ab):Option Int:=
 (B7 n p0_.Block p1_.Block).bind λ r14=>
 (B7 n p0_.At p1_.At).bind λ r15=>
 (B7 n p0_.Cut p1_.Cut).bind λ r16=>
 (Cs n p0_.Put p1_.Put).bind λ r17=>
 (Hu n [r14,r15,r16,r17]).bind λ r18=>
 some r18
def Gh (n:Nat) (p1_:(List Ab)) (c_2:Ab) (x_5:Int):Option ((Ab×Int)⊕(Ab⊕(Ab×Int×Bool))):=
 if decide (x_5<((p1_.length:Nat):Int))=true then
  (idx p1_ x_5).bind λ x4=>
  (Dx n c_2 x4).bind λ r19=>
  if (!r19.2)=true then
   some (.inr (.inr (({ Block:=0,At:=0,Cut:=0,Put:=[] }:Ab),x_5,false)))
  else
   some (.inl (r19.1,(Ak .i64 x_5 1)))
 else
  some (.inr (.inl c_2))
def Io (n:Nat) (p0_:Ab) (p1_:(List Ab)):Option (Ab×Int×Bool):=
 (whl (λ (x:(Ab×Int))=>Gh n p1_ x.1 x.2) n (p0_,0)).bind λ y10=>
 match y10 with
 | Sum.inl y11=>
  some (y11,((p1_.length:Nat):Int),true)
 | Sum.inr y12=>
  some y12
noncomputable def RP (n:Nat) (o0_:(List Ab)):Option (List Ab):=
 sortC (λ (x:Ab) (y:Ab)=>GD n x y) o0_
def GP (_:Nat) (k2_1:Int) (s_3:(List Ab)) (k_4:Int):Option (((List Ab)×Int×Int)⊕((List Ab)×Int)):=
 some (.inl (s_3,k_4,(Ak .i64 k2_1 1)))
def GQ (n:Nat) (o0_:(List Ab)) (k_1:Int) (s_1:(List Ab)) (k_2:Int) (k2_1:Int):Option (((List Ab)×Int×Int)⊕((List Ab)×Int)):=
 if decide (k2_1<((((0+Int.toNat k_1,Int.toNat ((o0_.length:Nat):Int)-Int.toNat k_1):Nat×Nat).2:Nat):Int))=true then
  (ixP s_1 ((0+Int.toNat k_1,Int.toNat ((o0_.length:Nat):Int)-Int.toNat k_1):Nat×Nat) k2_1).bind λ x7=>
  (ixP s_1 ((0+Int.toNat k_1,Int.toNat ((o0_.length:Nat):Int)-Int.toNat k_1):Nat×Nat) (AW .i64 k2_1 1)).bind λ x8=>
  if (!((x7.Block==x8.Block)&&((x7.At==x8.At)&&((x7.Cut==x8.Cut)&&((x7.Put==x8.Put)&&true)))))=true then
   (ixP s_1 ((0+Int.toNat k_1,Int.toNat ((o0_.length:Nat):Int)-Int.toNat k_1):Nat×Nat) k2_1).bind λ x9=>
   (idx s_1 k_2).bind λ _=>
   (put s_1 k_2 x9).bind λ l4=>
   GP n k2_1 l4 (Ak .i64 k_2 1)
  else
   GP n k2_1 s_1 k_2
 else
  some (.inr (s_1,k_2))
def GS (n:Nat) (o0_:(List Ab)) (k_1:Int):Option (Int⊕(Unit⊕((List Ab)×(Nat×Nat)))):=
 if decide (k_1<((o0_.length:Nat):Int))=true then
  (idx o0_ k_1).bind λ x5=>
  (idx o0_ (AW .i64 k_1 1)).bind λ x6=>
  if ((x5.Block==x6.Block)&&((x5.At==x6.At)&&((x5.Cut==x6.Cut)&&((x5.Put==x6.Put)&&true))))=true then
   (sub o0_ k_1 ((o0_.length:Nat):Int)).bind λ _=>
   (whl (λ (x:((List Ab)×Int×Int))=>GQ n o0_ k_1 x.1 x.2.1 x.2.2) n (o0_,k_1,1)).bind λ y13=>
   (sub y13.1 y13.2 ((y13.1.length:Nat):Int)).bind λ _=>
   (ZH y13.1 ((0+Int.toNat y13.2,Int.toNat ((y13.1.length:Nat):Int)-Int.toNat y13.2):Nat×Nat).1 ((0+Int.toNat y13.2,Int.toNat ((y13.1.length:Nat):Int)-Int.toNat y13.2):Nat×Nat).2 (⟨0,0,0,[]⟩:Ab)).bind λ l6=>
   (sub l6 0 y13.2).bind λ _=>
   some (.inr (.inr (l6,((0+Int.toNat 0,Int.toNat y13.2-Int.toNat 0):Nat×Nat))))
  else
   some (.inl (Ak .i64 k_1 1))
 else
  some (.inr (.inl ()))
def Km (n:Nat) (o0_:(List Ab)):Option ((List Ab)×(Nat×Nat)):=
 if decide (((o0_.length:Nat):Int)<2)=true then
  some (o0_,((0,List.length o0_):Nat×Nat))
 else
  (whl (λ (x:Int)=>GS n o0_ x) n 1).bind λ y14=>
  match y14 with
  | Sum.inl _=>
   some (o0_,((0,List.length o0_):Nat×Nat))
  | Sum.inr y16=>
   some y16
def Kn (_:Nat) (j_1:Int) (v_5:Af) (loud_5:(List Bool)):Option ((Af×(List Bool)×Int)⊕(Af×(List Bool))):=
 some (.inl (v_5,loud_5,(Ak .i64 j_1 1)))
def Ko (n:Nat) (p0_:(List AH)) (x_8:Int) (v_3:Af) (loud_3:(List Bool)) (j_1:Int):Option ((Af×(List Bool)×Int)⊕(Af×(List Bool))):=
 if decide (j_1<((p0_.length:Nat):Int))=true then
  (idx p0_ x_8).bind λ x11=>
  (idx p0_ j_1).bind λ x12=>
  (if (!((x11.C.Block==x12.C.Block)&&((x11.C.At==x12.C.At)&&((x11.C.Cut==x12.C.Cut)&&((x11.C.Put==x12.C.Put)&&true)))))=true then idx p0_ x_8 else some default).bind λ x13=>
  (if (!((x11.C.Block==x12.C.Block)&&((x11.C.At==x12.C.At)&&((x11.C.Cut==x12.C.Cut)&&((x11.C.Put==x12.C.Put)&&true)))))=true then idx p0_ j_1 else some default).bind λ x14=>
  (if (!((x11.C.Block==x12.C.Block)&&((x11.C.At==x12.C.At)&&((x11.C.Cut==x12.C.Cut)&&((x11.C.Put==x12.C.Put)&&true)))))=true then Kk n x13.C x14.C else some default).bind λ r20=>
  if ((!((x11.C.Block==x12.C.Block)&&((x11.C.At==x12.C.At)&&((x11.C.Cut==x12.C.Cut)&&((x11.C.Put==x12.C.Put)&&true)))))&&(!r20))=true then
   (app 16 v_3.Quarrels [({ a0:=x_8,a1:=j_1 }:(BF Int))]).bind λ l9=>
   (idx loud_3 x_8).bind λ _=>
   (put loud_3 x_8 true).bind λ l10=>
   (idx l10 j_1).bind λ _=>
   (put l10 j_1 true).bind λ l11=>
   Kn n j_1 ({ Agreed:=v_3.Agreed,Quarrels:=l9 }:Af) l11
  else
   Kn n j_1 v_3 loud_3
 else
  some (.inr (v_3,loud_3))
def Hv (n:Nat) (p0_:(List AH)) (v_1:Af) (loud_1:(List Bool)) (x_8:Int):Option ((Af×(List Bool)×Int)⊕(Af×(List Bool))):=
 if decide (x_8<((p0_.length:Nat):Int))=true then
  (whl (λ (x:(Af×(List Bool)×Int))=>Ko n p0_ x_8 x.1 x.2.1 x.2.2) n (v_1,loud_1,(Ak .i64 x_8 1))).bind λ y17=>
  some (.inl (y17.1,y17.2,(Ak .i64 x_8 1)))
 else
  some (.inr (v_1,loud_1))
def Kp (_:Nat) (x_9:Int) (agreed_3:(List Ab)):Option (((List Ab)×Int)⊕(List Ab)):=
 some (.inl (agreed_3,(Ak .i64 x_9 1)))
def FF (n:Nat) (p0_:(List AH)) (y18:(Af×(List Bool))) (agreed_1:(List Ab)) (x_9:Int):Option (((List Ab)×Int)⊕(List Ab)):=
 if decide (x_9<((p0_.length:Nat):Int))=true then
  (idx p0_ x_9).bind λ x17=>
  (idx y18.2 x_9).bind λ x18=>
  if (!x18)=true then
   (app 40 agreed_1 [x17.C]).bind λ l12=>
   Kp n x_9 l12
  else
   Kp n x_9 agreed_1
 else
  some (.inr agreed_1)
def Kq (_:Nat) (x_10:Int) (v_8:Af):Option ((Af×Int)⊕Af):=
 some (.inl (v_8,(Ak .i64 x_10 1)))
def Hw (n:Nat) (r22:((List Ab)×(Nat×Nat))) (v_6:Af) (x_10:Int):Option ((Af×Int)⊕Af):=
 if decide (x_10<((r22.2.2:Nat):Int))=true then
  (ixP r22.1 r22.2 x_10).bind λ x19=>
  (Io n x19 v_6.Agreed).bind λ r23=>
  if r23.2.2=true then
   (app 40 v_6.Agreed [r23.1]).bind λ l13=>
   Kq n x_10 ({ Agreed:=l13,Quarrels:=v_6.Quarrels }:Af)
  else
   Kq n x_10 v_6
 else
  some (.inr v_6)
noncomputable def Kr (n:Nat) (p0_:(List AH)):Option Af:=
 (mkl 1 ((p0_.length:Nat):Int) (false:Bool)).bind λ l8=>
 (whl (λ (x:(Af×(List Bool)×Int))=>Hv n p0_ x.1 x.2.1 x.2.2) n (({ Agreed:=([]:List Ab),Quarrels:=([]:List (BF Int)) }:Af),l8,0)).bind λ y18=>
 (whl (λ (x:((List Ab)×Int))=>FF n p0_ y18 x.1 x.2) n (([]:List Ab),0)).bind λ y19=>
 (RP n y19).bind λ r21=>
 (BM (decide (List.length y19=List.length r21))).bind λ _=>
 (Km n r21).bind λ r22=>
 (whl (λ (x:(Af×Int))=>Hw n r22 x.1 x.2) n (y18.1,0)).bind λ y20=>
 some y20
def Gi (_:Nat) (p0_:(List Ao)) (p1_:(List Ao)) (i_1:Int):Option (Int⊕(Unit⊕Bool)):=
 if decide (i_1<((p0_.length:Nat):Int))=true then
  (idx p0_ i_1).bind λ x20=>
  (idx p1_ i_1).bind λ x21=>
  if (!((x20.Op==x21.Op)&&((x20.N==x21.N)&&true)))=true then
   some (.inr (.inr false))
  else
   some (.inl (Ak .i64 i_1 1))
 else
  some (.inr (.inl ()))
def OE (n:Nat) (p0_:(List Ao)) (p1_:(List Ao)):Option Bool:=
 if (((p0_.length:Nat):Int) != ((p1_.length:Nat):Int))=true then
  some false
 else
  (whl (λ (x:Int)=>Gi n p0_ p1_ x) n 0).bind λ y21=>
  match y21 with
  | Sum.inl _=>
   some true
  | Sum.inr y23=>
   some y23
def Dj (_:Nat) (p0_:(List (List (List UInt8)))) (p1_:(List (List (List UInt8)))) (i_2:Int) (k_5:Int):Option (Int⊕(Unit⊕Bool)):=
 (idx p0_ i_2).bind λ x24=>
 if decide (k_5<((x24.length:Nat):Int))=true then
  (idx p0_ i_2).bind λ x25=>
  (idx x25 k_5).bind λ x26=>
  (idx p1_ i_2).bind λ x27=>
  (idx x27 k_5).bind λ x28=>
  if (!(x26==x28))=true then
   some (.inr (.inr false))
  else
   some (.inl (Ak .i64 k_5 1))
 else
  some (.inr (.inl ()))
def Dk (n:Nat) (p0_:(List (List (List UInt8)))) (p1_:(List (List (List UInt8)))) (i_2:Int):Option (Int⊕(Unit⊕Bool)):=
 if decide (i_2<((p0_.length:Nat):Int))=true then
  (idx p0_ i_2).bind λ x22=>
  (idx p1_ i_2).bind λ x23=>
  if (((x22.length:Nat):Int) != ((x23.length:Nat):Int))=true then
   some (.inr (.inr false))
  else
   (whl (λ (x:Int)=>Dj n p0_ p1_ i_2 x) n 0).bind λ y24=>
   match y24 with
   | Sum.inl _=>
    some (.inl (Ak .i64 i_2 1))
   | Sum.inr y26=>
    some (.inr (.inr y26))
 else
  some (.inr (.inl ()))
def H2 (n:Nat) (p0_:(List (List (List UInt8)))) (p1_:(List (List (List UInt8)))):Option Bool:=
 if (((p0_.length:Nat):Int) != ((p1_.length:Nat):Int))=true then
  some false
 else
  (whl (λ (x:Int)=>Dk n p0_ p1_ x) n 0).bind λ y27=>
  match y27 with
  | Sum.inl _=>
   some true
  | Sum.inr y29=>
   some y29
def Ct (_:Nat) (_:Ag) (_:Ag) (_:Int) (x29:Ax) (x30:Ax) (k_6:Int):Option (Int⊕(Unit⊕Bool)):=
 if decide (k_6<((x29.P.length:Nat):Int))=true then
  (idx x29.P k_6).bind λ x31=>
  (idx x30.P k_6).bind λ x32=>
  if (!((x31.X==x32.X)&&((x31.Y==x32.Y)&&true)))=true then
   some (.inr (.inr false))
  else
   some (.inl (Ak .i64 k_6 1))
 else
  some (.inr (.inl ()))
def Cu (n:Nat) (p0_:Ag) (p1_:Ag) (i_3:Int):Option (Int⊕(Unit⊕Bool)):=
 if decide (i_3<((p0_.F.length:Nat):Int))=true then
  (idx p0_.F i_3).bind λ x29=>
  (idx p1_.F i_3).bind λ x30=>
  if (((x29.Kind != x30.Kind)||(x29.Texture != x30.Texture))||(((x29.P.length:Nat):Int) != ((x30.P.length:Nat):Int)))=true then
   some (.inr (.inr false))
  else
   (whl (λ (x:Int)=>Ct n p0_ p1_ i_3 x29 x30 x) n 0).bind λ y30=>
   match y30 with
   | Sum.inl _=>
    some (.inl (Ak .i64 i_3 1))
   | Sum.inr y32=>
    some (.inr (.inr y32))
 else
  some (.inr (.inl ()))
def E5 (n:Nat) (p0_:Ag) (p1_:Ag):Option Bool:=
 if ((((p0_.W != p1_.W)||(p0_.H != p1_.H))||(p0_.Gap != p1_.Gap))||(((p0_.F.length:Nat):Int) != ((p1_.F.length:Nat):Int)))=true then
  some false
 else
  (whl (λ (x:Int)=>Cu n p0_ p1_ x) n 0).bind λ y33=>
  match y33 with
  | Sum.inl _=>
   some true
  | Sum.inr y35=>
   some y35
def GT (n:Nat) (p0_:Ai) (p1_:Ai):Option Bool:=
 (if (!((((p0_.Kind != p1_.Kind)||(p0_.Level != p1_.Level))||(!(p0_.Text==p1_.Text)))||(p0_.Page != p1_.Page)))=true then OE n p0_.F p1_.F else some default).bind λ r24=>
 if (((((p0_.Kind != p1_.Kind)||(p0_.Level != p1_.Level))||(!(p0_.Text==p1_.Text)))||(p0_.Page != p1_.Page))||(!r24))=true then
  some false
 else
  (H2 n p0_.Rows p1_.Rows).bind λ r25=>
  (if r25=true then E5 n p0_.Pic p1_.Pic else some default).bind λ r26=>
  some (r25&&r26)
def Gj (n:Nat) (p0_:(List Ai)) (p1_:(List Ai)) (i_4:Int):Option (Int⊕(Unit⊕Bool)):=
 if decide (i_4<((p0_.length:Nat):Int))=true then
  (idx p0_ i_4).bind λ x33=>
  (idx p1_ i_4).bind λ x34=>
  (GT n x33 x34).bind λ r27=>
  if (!r27)=true then
   some (.inr (.inr false))
  else
   some (.inl (Ak .i64 i_4 1))
 else
  some (.inr (.inl ()))
def Ip (n:Nat) (p0_:(List Ai)) (p1_:(List Ai)):Option Bool:=
 if (((p0_.length:Nat):Int) != ((p1_.length:Nat):Int))=true then
  some false
 else
  (whl (λ (x:Int)=>Gj n p0_ p1_ x) n 0).bind λ y36=>
  match y36 with
  | Sum.inl _=>
   some true
  | Sum.inr y38=>
   some y38
def Cv (_:Nat) (p0_:(List Ab)) (p1_:(List Ab)) (i_5:Int):Option (Int⊕(Unit⊕Bool)):=
 if decide (i_5<((p0_.length:Nat):Int))=true then
  (idx p0_ i_5).bind λ x35=>
  (idx p1_ i_5).bind λ x36=>
  if (!((x35.Block==x36.Block)&&((x35.At==x36.At)&&((x35.Cut==x36.Cut)&&((x35.Put==x36.Put)&&true)))))=true then
   some (.inr (.inr false))
  else
   some (.inl (Ak .i64 i_5 1))
 else
  some (.inr (.inl ()))
def E6 (n:Nat) (p0_:(List Ab)) (p1_:(List Ab)):Option Bool:=
 if (((p0_.length:Nat):Int) != ((p1_.length:Nat):Int))=true then
  some false
 else
  (whl (λ (x:Int)=>Cv n p0_ p1_ x) n 0).bind λ y39=>
  match y39 with
  | Sum.inl _=>
   some true
  | Sum.inr y41=>
   some y41
def Gk (_:Nat) (p0_:Af) (p1_:Af) (i_6:Int):Option (Int⊕(Unit⊕Bool)):=
 if decide (i_6<((p0_.Quarrels.length:Nat):Int))=true then
  (idx p0_.Quarrels i_6).bind λ x37=>
  (idx p1_.Quarrels i_6).bind λ x38=>
  if (!((x37.a0==x38.a0)&&((x37.a1==x38.a1)&&true)))=true then
   some (.inr (.inr false))
  else
   some (.inl (Ak .i64 i_6 1))
 else
  some (.inr (.inl ()))
def Lm (n:Nat) (p0_:Af) (p1_:Af):Option Bool:=
 (E6 n p0_.Agreed p1_.Agreed).bind λ r28=>
 if ((!r28)||(((p0_.Quarrels.length:Nat):Int) != ((p1_.Quarrels.length:Nat):Int)))=true then
  some false
 else
  (whl (λ (x:Int)=>Gk n p0_ p1_ x) n 0).bind λ y42=>
  match y42 with
  | Sum.inl _=>
   some true
  | Sum.inr y44=>
   some y44
noncomputable def Eh (n:Nat) (_:((List Ai)×Int)) (r31:Ab) (r32:Ab) (r33:Ab) (r34:Ab) (i_7:Int):Option (Int⊕(Unit⊕Bool)):=
 if decide (i_7<((List.length ([r31,r32,({ Block:=1,At:=0,Cut:=0,Put:=[97] }:Ab),r33,r34]):Nat):Int))=true then
  (idx ([r31,r32,({ Block:=1,At:=0,Cut:=0,Put:=[97] }:Ab),r33,r34]) i_7).bind λ x39=>
  (Im n ([({ Kind:=1,Level:=0,Text:=[97,98,99],Rows:=[],F:=[],Pic:=({ W:=0,H:=0,Gap:=0,F:=[] }:Ag),Page:=0 }:Ai)]) x39).bind λ r35=>
  if (r35.2 != 320)=true then
   some (.inr (.inr false))
  else
   some (.inl (Ak .i64 i_7 1))
 else
  some (.inr (.inl ()))
noncomputable def Hx (n:Nat) :Option Bool:=
 (AL n 1 1 [120,121]).bind λ r29=>
 (Im n ([({ Kind:=1,Level:=0,Text:=[97,98,99],Rows:=[],F:=[],Pic:=({ W:=0,H:=0,Gap:=0,F:=[] }:Ag),Page:=0 }:Ai)]) r29).bind λ r30=>
 (AL n 0 3 []).bind λ r31=>
 (AL n 4 0 [97]).bind λ r32=>
 (AL n (-1) 0 [97]).bind λ r33=>
 (AL n 0 0 [32]).bind λ r34=>
 (whl (λ (x:Int)=>Eh n r30 r31 r32 r33 r34 x) n 0).bind λ y45=>
 match y45 with
 | Sum.inl _=>
  (AL n 2 1 []).bind λ r36=>
  (AL n 0 1 [120,121,122]).bind λ r37=>
  (Dx n r36 r37).bind λ r38=>
  (AL n 1 0 [97]).bind λ r39=>
  (AL n 1 0 [98]).bind λ r40=>
  (Dx n r39 r40).bind λ r41=>
  (AL n 0 2 []).bind λ r42=>
  (AL n 1 2 []).bind λ r43=>
  (Dx n r42 r43).bind λ r44=>
  (AL n 1 0 [97]).bind λ r45=>
  (AL n 1 1 []).bind λ r46=>
  (Dx n r45 r46).bind λ r47=>
  (AL n 1 1 []).bind λ r48=>
  (AL n 1 0 [97]).bind λ r49=>
  (Dx n r48 r49).bind λ r50=>
  (AL n 2 1 [122]).bind λ r51=>
  (AL n 0 1 [120,121]).bind λ r52=>
  (AL n 1 0 [112]).bind λ r53=>
  (AL n 1 0 [113]).bind λ r54=>
  (Kr n [({ Reader:=0,C:=r51 }:AH),({ Reader:=0,C:=r51 }:AH),({ Reader:=0,C:=r52 }:AH),({ Reader:=0,C:=r53 }:AH),({ Reader:=0,C:=r54 }:AH)]).bind λ r55=>
  (AL n 1 0 [97]).bind λ r56=>
  (AL n 0 0 [98]).bind λ r57=>
  (AL n 2 0 [99]).bind λ r58=>
  (Io n r56 [r57,r58]).bind λ r59=>
  (if (r30.2==0)=true then Ip n r30.1 ([({ Kind:=1,Level:=0,Text:=[97,120,121,99],Rows:=[],F:=[],Pic:=({ W:=0,H:=0,Gap:=0,F:=[] }:Ag),Page:=0 }:Ai)]) else some default).bind λ r60=>
  (if (((r30.2==0)&&r60)&&r38.2)=true then AL n 4 1 [] else some default).bind λ r61=>
  (if (((((((r30.2==0)&&r60)&&r38.2)&&((r38.1.Block==r61.Block)&&((r38.1.At==r61.At)&&((r38.1.Cut==r61.Cut)&&((r38.1.Put==r61.Put)&&true)))))&&(!r41.2))&&(!r44.2))&&r47.2)=true then AL n 1 0 [97] else some default).bind λ r62=>
  (if (((((((((r30.2==0)&&r60)&&r38.2)&&((r38.1.Block==r61.Block)&&((r38.1.At==r61.At)&&((r38.1.Cut==r61.Cut)&&((r38.1.Put==r61.Put)&&true)))))&&(!r41.2))&&(!r44.2))&&r47.2)&&((r47.1.Block==r62.Block)&&((r47.1.At==r62.At)&&((r47.1.Cut==r62.Cut)&&((r47.1.Put==r62.Put)&&true)))))&&r50.2)=true then AL n 2 1 [] else some default).bind λ r63=>
  (if ((((((((((r30.2==0)&&r60)&&r38.2)&&((r38.1.Block==r61.Block)&&((r38.1.At==r61.At)&&((r38.1.Cut==r61.Cut)&&((r38.1.Put==r61.Put)&&true)))))&&(!r41.2))&&(!r44.2))&&r47.2)&&((r47.1.Block==r62.Block)&&((r47.1.At==r62.At)&&((r47.1.Cut==r62.Cut)&&((r47.1.Put==r62.Put)&&true)))))&&r50.2)&&((r50.1.Block==r63.Block)&&((r50.1.At==r63.At)&&((r50.1.Cut==r63.Cut)&&((r50.1.Put==r63.Put)&&true)))))=true then AL n 0 1 [120,121] else some default).bind λ r64=>
  (if ((((((((((r30.2==0)&&r60)&&r38.2)&&((r38.1.Block==r61.Block)&&((r38.1.At==r61.At)&&((r38.1.Cut==r61.Cut)&&((r38.1.Put==r61.Put)&&true)))))&&(!r41.2))&&(!r44.2))&&r47.2)&&((r47.1.Block==r62.Block)&&((r47.1.At==r62.At)&&((r47.1.Cut==r62.Cut)&&((r47.1.Put==r62.Put)&&true)))))&&r50.2)&&((r50.1.Block==r63.Block)&&((r50.1.At==r63.At)&&((r50.1.Cut==r63.Cut)&&((r50.1.Put==r63.Put)&&true)))))=true then AL n 3 1 [122] else some default).bind λ r65=>
  (if ((((((((((r30.2==0)&&r60)&&r38.2)&&((r38.1.Block==r61.Block)&&((r38.1.At==r61.At)&&((r38.1.Cut==r61.Cut)&&((r38.1.Put==r61.Put)&&true)))))&&(!r41.2))&&(!r44.2))&&r47.2)&&((r47.1.Block==r62.Block)&&((r47.1.At==r62.At)&&((r47.1.Cut==r62.Cut)&&((r47.1.Put==r62.Put)&&true)))))&&r50.2)&&((r50.1.Block==r63.Block)&&((r50.1.At==r63.At)&&((r50.1.Cut==r63.Cut)&&((r50.1.Put==r63.Put)&&true)))))=true then Lm n r55 ({ Agreed:=[r64,r65],Quarrels:=[({ a0:=3,a1:=4 }:(BF Int))] }:Af) else some default).bind λ r66=>
  some (((((((((((((r30.2==0)&&r60)&&r38.2)&&((r38.1.Block==r61.Block)&&((r38.1.At==r61.At)&&((r38.1.Cut==r61.Cut)&&((r38.1.Put==r61.Put)&&true)))))&&(!r41.2))&&(!r44.2))&&r47.2)&&((r47.1.Block==r62.Block)&&((r47.1.At==r62.At)&&((r47.1.Cut==r62.Cut)&&((r47.1.Put==r62.Put)&&true)))))&&r50.2)&&((r50.1.Block==r63.Block)&&((r50.1.At==r63.At)&&((r50.1.Cut==r63.Cut)&&((r50.1.Put==r63.Put)&&true)))))&&r66)&&(r59.2.1==1))&&(!r59.2.2))
 | Sum.inr y47=>
  some y47
def Gl (_:Nat) (i_8:Int) (out_3:(List UInt8)):Option (((List UInt8)×Int)⊕(List UInt8)):=
 some (.inl (out_3,(Ak .i64 i_8 1)))
def Gm (n:Nat) (p0_:(List Int)) (p1_:Int) (p2_:(List UInt8)) (out_1:(List UInt8)) (i_8:Int):Option (((List UInt8)×Int)⊕(List UInt8)):=
 if ((decide (i_8<((p0_.length:Nat):Int)))&&(decide (((out_1.length:Nat):Int)<p1_)))=true then
  (idx p0_ i_8).bind λ x40=>
  (BM (!((Ak .i64 ((p2_.length:Nat):Int) 1)==0))).bind λ _=>
  if decide (Am (IntKind.i64.wrap x40) (Ak .i64 ((p2_.length:Nat):Int) 1)>0)=true then
   (sub p2_ (AW .i64 (Am (IntKind.i64.wrap x40) (Ak .i64 ((p2_.length:Nat):Int) 1)) 1) (Am (IntKind.i64.wrap x40) (Ak .i64 ((p2_.length:Nat):Int) 1))).bind λ s5=>
   (cat out_1 s5).bind λ s6=>
   Gl n i_8 s6
  else
   (if ((decide (((out_1.length:Nat):Int)>0))&&(decide (((out_1.length:Nat):Int)<AW .i64 p1_ 1)))=true then Je out_1 (AW .i64 ((out_1.length:Nat):Int) 1) else some default).bind λ b4=>
   if (((decide (((out_1.length:Nat):Int)>0))&&(decide (((out_1.length:Nat):Int)<AW .i64 p1_ 1)))&&(b4 != 32))=true then
    (cat out_1 [32]).bind λ s7=>
    Gl n i_8 s7
   else
    Gl n i_8 out_1
 else
  some (.inr out_1)
def Ei (_:Nat) (p2_:(List UInt8)) (out_4:(List UInt8)):Option (List UInt8):=
 if (out_4==[])=true then
  (sub p2_ 0 1).bind λ s8=>
  some s8
 else
  some out_4
def Iq (n:Nat) (p0_:(List Int)) (p1_:Int) (p2_:(List UInt8)):Option (List UInt8):=
 (whl (λ (x:((List UInt8)×Int))=>Gm n p0_ p1_ p2_ x.1 x.2) n ([],0)).bind λ y48=>
 (if decide (((y48.length:Nat):Int)>0)=true then Je y48 (AW .i64 ((y48.length:Nat):Int) 1) else some default).bind λ b5=>
 if ((decide (((y48.length:Nat):Int)>0))&&(b5==32))=true then
  (sub y48 0 (AW .i64 ((y48.length:Nat):Int) 1)).bind λ s9=>
  Ei n p2_ s9
 else
  Ei n p2_ y48
def E7 (_:Nat) (p0_:Int) (p1_:Int):Option (List Ao):=
 if ((Am p0_ 8)==1)=true then
  some [({ Op:=1,N:=IntKind.i64.wrap (Am p1_ 26) }:Ao)]
 else
  if ((Am p0_ 8)==2)=true then
   some [({ Op:=2,N:=0 }:Ao),({ Op:=1,N:=IntKind.i64.wrap (Am p1_ 26) }:Ao),({ Op:=0,N:=IntKind.i64.wrap p1_ }:Ao)]
  else
   if ((Am p0_ 8)==3)=true then
    some [({ Op:=3,N:=0 }:Ao),({ Op:=0,N:=IntKind.i64.wrap p1_ }:Ao),({ Op:=1,N:=IntKind.i64.wrap (Am p1_ 26) }:Ao)]
   else
    if ((Am p0_ 8)==4)=true then
     some [({ Op:=4,N:=0 }:Ao),({ Op:=0,N:=IntKind.i64.wrap p1_ }:Ao),({ Op:=1,N:=IntKind.i64.wrap (Am p1_ 26) }:Ao)]
    else
     if ((Am p0_ 8)==5)=true then
      some [({ Op:=7,N:=0 }:Ao),({ Op:=1,N:=IntKind.i64.wrap (Am p1_ 26) }:Ao),({ Op:=0,N:=IntKind.i64.wrap p1_ }:Ao)]
     else
      if ((Am p0_ 8)==6)=true then
       some [({ Op:=9,N:=0 }:Ao),({ Op:=10,N:=0 }:Ao),({ Op:=2,N:=0 }:Ao),({ Op:=1,N:=IntKind.i64.wrap (Am p1_ 26) }:Ao),({ Op:=0,N:=IntKind.i64.wrap p1_ }:Ao)]
      else
       if ((Am p0_ 8)==7)=true then
        some [({ Op:=6,N:=0 }:Ao),({ Op:=0,N:=IntKind.i64.wrap p1_ }:Ao),({ Op:=1,N:=IntKind.i64.wrap (Am p1_ 26) }:Ao)]
       else
        some [({ Op:=0,N:=IntKind.i64.wrap p1_ }:Ao)]
def Bn (_:Nat) :Option Int:=
 some (-1)
def Co (n:Nat) (p0_:Ao) (x_12:Bool):Option Int:=
 if x_12=true then
  if (p0_.N==0)=true then
   some 1
  else
   Bn n
 else
  if (p0_.Op==12)=true then
   if ((decide (p0_.N>=2))&&(decide (p0_.N<=5)))=true then
    some (Ak .i64 p0_.N 1)
   else
    Bn n
  else
   if (p0_.Op==13)=true then
    if (((((decide (p0_.N>0))&&(decide (Ds .i64 p0_.N 8>=1)))&&(decide (Ds .i64 p0_.N 8<=4)))&&(decide (Am p0_.N 8>=1)))&&(decide (Am p0_.N 8<=4)))=true then
     some (BX .i64 (Ds .i64 p0_.N 8) (Am p0_.N 8))
    else
     Bn n
   else
    Bn n
def Bo (n:Nat) (p0_:Ao) (x_11:Bool):Option Int:=
 if x_11=true then
  if (p0_.N==0)=true then
   some 2
  else
   Bn n
 else
  if (p0_.Op==9)=true then
   Co n p0_ (p0_.Op==9)
  else
   if (p0_.Op==10)=true then
    Co n p0_ (p0_.Op==10)
   else
    Co n p0_ (p0_.Op==11)
def Ch (n:Nat) (p0_:Ao):Option Int:=
 if (p0_.Op==0)=true then
  if ((decide (p0_.N>=0))&&(decide (p0_.N<=99999)))=true then
   some 0
  else
   Bn n
 else
  if (p0_.Op==1)=true then
   if ((decide (p0_.N>=0))&&(decide (p0_.N<=25)))=true then
    some 0
   else
    Bn n
  else
   if (p0_.Op==2)=true then
    Bo n p0_ (p0_.Op==2)
   else
    if (p0_.Op==3)=true then
     Bo n p0_ (p0_.Op==3)
    else
     if (p0_.Op==4)=true then
      Bo n p0_ (p0_.Op==4)
     else
      if (p0_.Op==5)=true then
       Bo n p0_ (p0_.Op==5)
      else
       if (p0_.Op==6)=true then
        Bo n p0_ (p0_.Op==6)
       else
        if (p0_.Op==7)=true then
         Bo n p0_ (p0_.Op==7)
        else
         Bo n p0_ (p0_.Op==8)
def GU (n:Nat) (p0_:(List Ao)) (i_9:Int) (open_1:Int):Option ((Int×Int)⊕(Int⊕Int)):=
 if decide (open_1>0)=true then
  (if (!((decide (i_9<0))||(decide (i_9>=((p0_.length:Nat):Int)))))=true then idx p0_ i_9 else some default).bind λ x41=>
  (if (!((decide (i_9<0))||(decide (i_9>=((p0_.length:Nat):Int)))))=true then Ch n x41 else some default).bind λ r67=>
  if (((decide (i_9<0))||(decide (i_9>=((p0_.length:Nat):Int))))||(decide (r67<0)))=true then
   some (.inr (.inr (-1)))
  else
   (idx p0_ i_9).bind λ x42=>
   (Ch n x42).bind λ r68=>
   some (.inl ((Ak .i64 i_9 1),(Ak .i64 open_1 (AW .i64 r68 1))))
 else
  some (.inr (.inl i_9))
def Ln (n:Nat) (p0_:(List Ao)) (p1_:Int):Option Int:=
 (whl (λ (x:(Int×Int))=>GU n p0_ x.1 x.2) n (p1_,1)).bind λ y49=>
 match y49 with
 | Sum.inl y50=>
  some y50
 | Sum.inr y51=>
  some y51
def Ci (n:Nat) (p0_:(List Ao)) (p1_:Int) (out_5:(List Int)) (at_1:Int) (k_7:Int):Option (((List Int)×Int×Int)⊕(List Int)):=
 (idx p0_ p1_).bind λ x43=>
 (Ch n x43).bind λ r69=>
 if decide (k_7<r69)=true then
  (app 8 out_5 [at_1]).bind λ l14=>
  (Ln n p0_ at_1).bind λ r70=>
  some (.inl (l14,r70,(Ak .i64 k_7 1)))
 else
  some (.inr out_5)
def Dl (n:Nat) (p0_:(List Ao)) (p1_:Int):Option (List Int):=
 (whl (λ (x:((List Int)×Int×Int))=>Ci n p0_ p1_ x.1 x.2.1 x.2.2) n (([]:List Int),(Ak .i64 p1_ 1),0)).bind λ y52=>
 some y52
def C3 (_:Nat) (p0_:Int) (x_13:Bool):Option Int:=
 if x_13=true then
  some 2
 else
  if (p0_==4)=true then
   some 3
  else
   some 4
def Cz (n:Nat) (p0_:Int):Option Int:=
 if (p0_==5)=true then
  some 1
 else
  if (p0_==2)=true then
   C3 n p0_ (p0_==2)
  else
   C3 n p0_ (p0_==3)
def Gn (_:Nat) :Option Bool:=
 some true
def Gp (_:Nat) (p0_:(List Ao)) (r71:(List Int)) (k_8:Int):Option (Int⊕(Unit⊕Bool)):=
 if decide (k_8<((r71.length:Nat):Int))=true then
  (idx r71 k_8).bind λ x50=>
  (idx p0_ x50).bind λ x51=>
  if (x51.Op != 0)=true then
   some (.inr (.inr false))
  else
   some (.inl (Ak .i64 k_8 1))
 else
  some (.inr (.inl ()))
def CJ (n:Nat) (p0_:(List Ao)) (p1_:Int) (r71:(List Int)) (x44:Ao) (x_14:Bool):Option Bool:=
 if x_14=true then
  (idx p0_ p1_).bind λ x45=>
  (Cz n x45.Op).bind λ r72=>
  (idx r71 0).bind λ x46=>
  (idx p0_ x46).bind λ x47=>
  (Cz n x47.Op).bind λ r73=>
  (if decide (r73>=r72)=true then idx r71 1 else some default).bind λ x48=>
  (if decide (r73>=r72)=true then idx p0_ x48 else some default).bind λ x49=>
  (if decide (r73>=r72)=true then Cz n x49.Op else some default).bind λ r74=>
  some ((decide (r73>=r72))&&(decide (r74>r72)))
 else
  if (x44.Op==12)=true then
   (whl (λ (x:Int)=>Gp n p0_ r71 x) n 0).bind λ y53=>
   match y53 with
   | Sum.inl _=>
    Gn n
   | Sum.inr y55=>
    some y55
  else
   Gn n
def OF (n:Nat) (p0_:(List Ao)) (p1_:Int):Option Bool:=
 (Dl n p0_ p1_).bind λ r71=>
 (idx p0_ p1_).bind λ x44=>
 if (x44.Op==2)=true then
  CJ n p0_ p1_ r71 x44 (x44.Op==2)
 else
  if (x44.Op==3)=true then
   CJ n p0_ p1_ r71 x44 (x44.Op==3)
  else
   if (x44.Op==4)=true then
    CJ n p0_ p1_ r71 x44 (x44.Op==4)
   else
    CJ n p0_ p1_ r71 x44 (x44.Op==5)
def Hy (n:Nat) (p0_:(List Ao)) (i_11:Int):Option (Int⊕(Unit⊕Bool)):=
 if decide (i_11<((p0_.length:Nat):Int))=true then
  (OF n p0_ i_11).bind λ r76=>
  if (!r76)=true then
   some (.inr (.inr false))
  else
   some (.inl (Ak .i64 i_11 1))
 else
  some (.inr (.inl ()))
def NA (n:Nat) (p0_:(List Ao)):Option Bool:=
 (if (!((((p0_.length:Nat):Int)==0)||(decide (((p0_.length:Nat):Int)>200))))=true then Ln n p0_ 0 else some default).bind λ r75=>
 if (((((p0_.length:Nat):Int)==0)||(decide (((p0_.length:Nat):Int)>200)))||(r75 != ((p0_.length:Nat):Int)))=true then
  some false
 else
  (whl (λ (x:Int)=>Hy n p0_ x) n 0).bind λ y56=>
  match y56 with
  | Sum.inl _=>
   some true
  | Sum.inr y58=>
   some y58
def CK (_:Nat) (rec101_:((List Ao)->Int->Option Int)) (p0_:(List Ao)) (r78:(List Int)) (out_7:Int) (k_9:Int):Option ((Int×Int)⊕Int):=
 if decide (k_9<((r78.length:Nat):Int))=true then
  (idx r78 k_9).bind λ x52=>
  (rec101_ p0_ x52).bind λ r79=>
  some (.inl ((if r79>out_7 then r79 else out_7),(Ak .i64 k_9 1)))
 else
  some (.inr out_7)
def BG (n:Nat) (rec101_:((List Ao)->Int->Option Int)) (p0_:(List Ao)) (p1_:Int):Option Int:=
 (Dl n p0_ p1_).bind λ r78=>
 (whl (λ (x:(Int×Int))=>CK n rec101_ p0_ r78 x.1 x.2) n (0,0)).bind λ y59=>
 some (Ak .i64 y59 1)
def OG (n:Nat) (p0_:(List Ao)) (p1_:Int):Option Int:=
 JZ (λ _ _=>none) (BG n) n p0_ p1_
def TI (n:Nat) (p0_:(List Ao)):Option Int:=
 (OG n p0_ 0).bind λ r80=>
 some r80
def E8 (n:Nat) (p0_:(List Ao)):Option Bool:=
 (if decide (((p0_.length:Nat):Int)<=60)=true then NA n p0_ else some default).bind λ r81=>
 (if ((decide (((p0_.length:Nat):Int)<=60))&&r81)=true then TI n p0_ else some default).bind λ r82=>
 some (((decide (((p0_.length:Nat):Int)<=60))&&r81)&&(decide (r82<=8)))
def Jg (_:Nat) (i_12:Int) (out_12:(List Ao)):Option (((List Ao)×Int)⊕(List Ao)):=
 some (.inl (out_12,(Ak .i64 i_12 1)))
def Ej (n:Nat) (p0_:RO) (out_10:(List Ao)) (i_12:Int) (k_10:(BF Int)):Option (((List Ao)×Int)⊕(List Ao)):=
 if ((Am p0_.Kind 4)==0)=true then
  (app 16 out_10 [({ Op:=0,N:=BX .i64 (IntKind.i64.wrap k_10.a0) (IntKind.i64.wrap k_10.a1) }:Ao)]).bind λ l15=>
  Jg n i_12 l15
 else
  (E7 n k_10.a0 k_10.a1).bind λ r83=>
  (app 16 out_10 r83).bind λ l16=>
  Jg n i_12 l16
def Gq (n:Nat) (p0_:RO) (n_1:Int) (out_10:(List Ao)) (i_12:Int):Option (((List Ao)×Int)⊕(List Ao)):=
 if decide (i_12<n_1)=true then
  if decide (i_12<((p0_.L.length:Nat):Int))=true then
   (idx p0_.L i_12).bind λ x53=>
   Ej n p0_ out_10 i_12 x53
  else
   Ej n p0_ out_10 i_12 ({ a0:=0,a1:=0 }:(BF Int))
 else
  some (.inr out_10)
def Dm (n:Nat) (p0_:RO) (out_9:(List Ao)) (n_1:Int):Option (List Ao):=
 (whl (λ (x:((List Ao)×Int))=>Gq n p0_ n_1 x.1 x.2) n (out_9,0)).bind λ y60=>
 (E8 n y60).bind λ r84=>
 if (!r84)=true then
  (E7 n 0 p0_.N).bind λ r85=>
  some r85
 else
  some y60
def Lp (n:Nat) (p0_:RO):Option (List Ao):=
 if ((Am p0_.Kind 4)==0)=true then
  Dm n p0_ [({ Op:=12,N:=AW .i64 (Ak .i64 3 (IntKind.i64.wrap (Am p0_.N 4))) 1 }:Ao)] (Ak .i64 3 (IntKind.i64.wrap (Am p0_.N 4)))
 else
  if ((Am p0_.Kind 4)==1)=true then
   Dm n p0_ [({ Op:=13,N:=Ak .i64 (BX .i64 8 (Ak .i64 1 (IntKind.i64.wrap (Am p0_.N 4)))) (Ak .i64 1 (IntKind.i64.wrap (Am (Ds .u8 p0_.N 4) 4))) }:Ao)] (BX .i64 (Ak .i64 1 (IntKind.i64.wrap (Am p0_.N 4))) (Ak .i64 1 (IntKind.i64.wrap (Am (Ds .u8 p0_.N 4) 4))))
  else
   if ((Am p0_.Kind 4)==3)=true then
    (E7 n p0_.N (Ds .u8 p0_.N 8)).bind λ r86=>
    some r86
   else
    Dm n p0_ [({ Op:=6,N:=0 }:Ao)] 2
def DE (_:Nat) (p0_:(Wf Int)) (out_13:(List Aa)):Option Ax:=
 some ({ Kind:=Ak .i64 1 (IntKind.i64.wrap (Am p0_.a0 3)),Texture:=0,P:=out_13 }:Ax)
def DF (_:Nat) (p0_:(Wf Int)) (out_14:(List Aa)):Option Ax:=
 some ({ Kind:=Ak .i64 1 (IntKind.i64.wrap (Am p0_.a0 3)),Texture:=IntKind.i64.wrap (Am (Ds .u8 p0_.a0 3) 4),P:=out_14 }:Ax)
def Gr (n:Nat) (p0_:(Wf Int)) (p1_:Int) (p2_:Int):Option Ax:=
 (BM (!(p1_==0))).bind λ _=>
 (BM (!(p2_==0))).bind λ _=>
 if ((Ak .i64 1 (IntKind.i64.wrap (Am p0_.a0 3)))==1)=true then
  some ({ Kind:=Ak .i64 1 (IntKind.i64.wrap (Am p0_.a0 3)),Texture:=0,P:=[({ X:=Am (IntKind.i64.wrap p0_.a1) p1_,Y:=Am (IntKind.i64.wrap p0_.a2) p2_ }:Aa)] }:Ax)
 else
  if ((Ak .i64 1 (IntKind.i64.wrap (Am p0_.a0 3)))==2)=true then
   if ((Am p0_.a5 2)==1)=true then
    (app 16 [({ X:=Am (IntKind.i64.wrap p0_.a1) p1_,Y:=Am (IntKind.i64.wrap p0_.a2) p2_ }:Aa),({ X:=(if AW .i64 p1_ 1<Ak .i64 (Am (IntKind.i64.wrap p0_.a1) p1_) (Ak .i64 1 (Am (IntKind.i64.wrap p0_.a3) 8)) then AW .i64 p1_ 1 else Ak .i64 (Am (IntKind.i64.wrap p0_.a1) p1_) (Ak .i64 1 (Am (IntKind.i64.wrap p0_.a3) 8))),Y:=(if AW .i64 p2_ 1<Ak .i64 (Am (IntKind.i64.wrap p0_.a2) p2_) (Ak .i64 1 (Am (IntKind.i64.wrap p0_.a4) 8)) then AW .i64 p2_ 1 else Ak .i64 (Am (IntKind.i64.wrap p0_.a2) p2_) (Ak .i64 1 (Am (IntKind.i64.wrap p0_.a4) 8))) }:Aa)] [({ X:=Am (IntKind.i64.wrap p0_.a1) p1_,Y:=(if AW .i64 p2_ 1<Ak .i64 (Am (IntKind.i64.wrap p0_.a2) p2_) (Ak .i64 1 (Am (IntKind.i64.wrap p0_.a4) 8)) then AW .i64 p2_ 1 else Ak .i64 (Am (IntKind.i64.wrap p0_.a2) p2_) (Ak .i64 1 (Am (IntKind.i64.wrap p0_.a4) 8))) }:Aa)]).bind λ l17=>
    DE n p0_ l17
   else
    DE n p0_ [({ X:=Am (IntKind.i64.wrap p0_.a1) p1_,Y:=Am (IntKind.i64.wrap p0_.a2) p2_ }:Aa),({ X:=(if AW .i64 p1_ 1<Ak .i64 (Am (IntKind.i64.wrap p0_.a1) p1_) (Ak .i64 1 (Am (IntKind.i64.wrap p0_.a3) 8)) then AW .i64 p1_ 1 else Ak .i64 (Am (IntKind.i64.wrap p0_.a1) p1_) (Ak .i64 1 (Am (IntKind.i64.wrap p0_.a3) 8))),Y:=(if AW .i64 p2_ 1<Ak .i64 (Am (IntKind.i64.wrap p0_.a2) p2_) (Ak .i64 1 (Am (IntKind.i64.wrap p0_.a4) 8)) then AW .i64 p2_ 1 else Ak .i64 (Am (IntKind.i64.wrap p0_.a2) p2_) (Ak .i64 1 (Am (IntKind.i64.wrap p0_.a4) 8))) }:Aa)]
  else
   if ((Am p0_.a5 2)==1)=true then
    (app 16 [({ X:=Am (IntKind.i64.wrap p0_.a1) p1_,Y:=Am (IntKind.i64.wrap p0_.a2) p2_ }:Aa),({ X:=(if AW .i64 p1_ 1<Ak .i64 (Am (IntKind.i64.wrap p0_.a1) p1_) (Ak .i64 1 (Am (IntKind.i64.wrap p0_.a3) 8)) then AW .i64 p1_ 1 else Ak .i64 (Am (IntKind.i64.wrap p0_.a1) p1_) (Ak .i64 1 (Am (IntKind.i64.wrap p0_.a3) 8))),Y:=Am (IntKind.i64.wrap p0_.a2) p2_ }:Aa),({ X:=(if AW .i64 p1_ 1<Ak .i64 (Am (IntKind.i64.wrap p0_.a1) p1_) (Ak .i64 1 (Am (IntKind.i64.wrap p0_.a3) 8)) then AW .i64 p1_ 1 else Ak .i64 (Am (IntKind.i64.wrap p0_.a1) p1_) (Ak .i64 1 (Am (IntKind.i64.wrap p0_.a3) 8))),Y:=(if AW .i64 p2_ 1<Ak .i64 (Am (IntKind.i64.wrap p0_.a2) p2_) (Ak .i64 1 (Am (IntKind.i64.wrap p0_.a4) 8)) then AW .i64 p2_ 1 else Ak .i64 (Am (IntKind.i64.wrap p0_.a2) p2_) (Ak .i64 1 (Am (IntKind.i64.wrap p0_.a4) 8))) }:Aa)] [({ X:=Am (IntKind.i64.wrap p0_.a1) p1_,Y:=(if AW .i64 p2_ 1<Ak .i64 (Am (IntKind.i64.wrap p0_.a2) p2_) (Ak .i64 1 (Am (IntKind.i64.wrap p0_.a4) 8)) then AW .i64 p2_ 1 else Ak .i64 (Am (IntKind.i64.wrap p0_.a2) p2_) (Ak .i64 1 (Am (IntKind.i64.wrap p0_.a4) 8))) }:Aa)]).bind λ l18=>
    DF n p0_ l18
   else
    DF n p0_ [({ X:=Am (IntKind.i64.wrap p0_.a1) p1_,Y:=Am (IntKind.i64.wrap p0_.a2) p2_ }:Aa),({ X:=(if AW .i64 p1_ 1<Ak .i64 (Am (IntKind.i64.wrap p0_.a1) p1_) (Ak .i64 1 (Am (IntKind.i64.wrap p0_.a3) 8)) then AW .i64 p1_ 1 else Ak .i64 (Am (IntKind.i64.wrap p0_.a1) p1_) (Ak .i64 1 (Am (IntKind.i64.wrap p0_.a3) 8))),Y:=Am (IntKind.i64.wrap p0_.a2) p2_ }:Aa),({ X:=(if AW .i64 p1_ 1<Ak .i64 (Am (IntKind.i64.wrap p0_.a1) p1_) (Ak .i64 1 (Am (IntKind.i64.wrap p0_.a3) 8)) then AW .i64 p1_ 1 else Ak .i64 (Am (IntKind.i64.wrap p0_.a1) p1_) (Ak .i64 1 (Am (IntKind.i64.wrap p0_.a3) 8))),Y:=(if AW .i64 p2_ 1<Ak .i64 (Am (IntKind.i64.wrap p0_.a2) p2_) (Ak .i64 1 (Am (IntKind.i64.wrap p0_.a4) 8)) then AW .i64 p2_ 1 else Ak .i64 (Am (IntKind.i64.wrap p0_.a2) p2_) (Ak .i64 1 (Am (IntKind.i64.wrap p0_.a4) 8))) }:Aa)]
def Gs (n:Nat) (p0_:Bs) (p_1:Ag) (i_13:Int):Option ((Ag×Int)⊕Ag):=
 if ((decide (i_13<((p0_.F.length:Nat):Int)))&&(decide (i_13<4)))=true then
  (idx p0_.F i_13).bind λ x54=>
  (Gr n x54 p_1.W p_1.H).bind λ r87=>
  (app 40 p_1.F [r87]).bind λ l19=>
  some (.inl (({ W:=p_1.W,H:=p_1.H,Gap:=p_1.Gap,F:=l19 }:Ag),(Ak .i64 i_13 1)))
 else
  some (.inr p_1)
def Jh (_:Nat) (p_3:Ag):Option Ag:=
 some p_3
def Lq (n:Nat) (p0_:Bs):Option Ag:=
 (whl (λ (x:(Ag×Int))=>Gs n p0_ x.1 x.2) n (({ W:=Ak .i64 12 (BX .i64 2 (IntKind.i64.wrap (Am p0_.W 13))),H:=Ak .i64 12 (BX .i64 3 (IntKind.i64.wrap (Am p0_.H 9))),Gap:=Ak .i64 2 (IntKind.i64.wrap (Am p0_.Gap 3)),F:=([]:List Ax) }:Ag),0)).bind λ y61=>
 if (((y61.F.length:Nat):Int)==0)=true then
  Jh n ({ W:=y61.W,H:=y61.H,Gap:=y61.Gap,F:=[({ Kind:=1,Texture:=0,P:=[({ X:=1,Y:=1 }:Aa)] }:Ax)] }:Ag)
 else
  Jh n y61
def Fj (_:Nat) (p0_:Ax) (i_14:Int):Option (Int⊕(Unit⊕Bool)):=
 if decide (i_14<((p0_.P.length:Nat):Int))=true then
  (idx p0_.P i_14).bind λ x55=>
  if ((((decide (x55.X<0))||(decide (x55.Y<0)))||(decide (x55.X>=60)))||(decide (x55.Y>=60)))=true then
   some (.inr (.inr false))
  else
   some (.inl (Ak .i64 i_14 1))
 else
  some (.inr (.inl ()))
def MA (n:Nat) (p0_:Ax):Option Bool:=
 (whl (λ (x:Int)=>Fj n p0_ x) n 0).bind λ y62=>
 match y62 with
 | Sum.inl _=>
  if decide (((p0_.P.length:Nat):Int)>12)=true then
   some false
  else
   if (p0_.Kind==1)=true then
    some ((((p0_.P.length:Nat):Int)==1)&&(p0_.Texture==0))
   else
    if (p0_.Kind==2)=true then
     some ((decide (((p0_.P.length:Nat):Int)>=2))&&(p0_.Texture==0))
    else
     if (p0_.Kind==3)=true then
      some (((decide (((p0_.P.length:Nat):Int)>=3))&&(decide (p0_.Texture>=0)))&&(decide (p0_.Texture<=3)))
     else
      some false
 | Sum.inr y64=>
  some y64
def Ir (_:Nat) (p0_:(List Aa)) (p1_:Int):Option (Aa×Aa):=
 (idx p0_ p1_).bind λ x56=>
 (BM (!(((p0_.length:Nat):Int)==0))).bind λ _=>
 (idx p0_ (Am (Ak .i64 p1_ 1) ((p0_.length:Nat):Int))).bind λ x57=>
 some (x56,x57)
def Is (_:Nat) (p0_:Int):Option Int:=
 some (if Jgs .i64 p0_>p0_ then Jgs .i64 p0_ else p0_)
def GV (n:Nat) (p0_:Aa) (p1_:Aa):Option Int:=
 (Is n (AW .i64 p0_.X p1_.X)).bind λ r88=>
 (Is n (AW .i64 p0_.Y p1_.Y)).bind λ r89=>
 some (if r89>r88 then r89 else r88)
def Fk (_:Nat) (q_1:Int):Option Int:=
 some q_1
def GW (n:Nat) (p0_:Int) (p1_:Int):Option Int:=
 (BM (!(p1_==0))).bind λ _=>
 (BM (!(p1_==0))).bind λ _=>
 if decide (Am p0_ p1_<0)=true then
  Fk n (AW .i64 (Ds .i64 p0_ p1_) 1)
 else
  Fk n (Ds .i64 p0_ p1_)
def Gt (n:Nat) (p0_:Aa) (p1_:Aa) (r90:Int) (out_15:(List Aa)) (k_11:Int):Option (((List Aa)×Int)⊕(List Aa)):=
 if decide (k_11<=r90)=true then
  (GW n (Ak .i64 (BX .i64 2 (Ak .i64 (BX .i64 p0_.X r90) (BX .i64 k_11 (AW .i64 p1_.X p0_.X)))) r90) (BX .i64 2 r90)).bind λ r91=>
  (GW n (Ak .i64 (BX .i64 2 (Ak .i64 (BX .i64 p0_.Y r90) (BX .i64 k_11 (AW .i64 p1_.Y p0_.Y)))) r90) (BX .i64 2 r90)).bind λ r92=>
  (app 16 out_15 [({ X:=r91,Y:=r92 }:Aa)]).bind λ l20=>
  some (.inl (l20,(Ak .i64 k_11 1)))
 else
  some (.inr out_15)
def OH (n:Nat) (p0_:Aa) (p1_:Aa):Option (List Aa):=
 (GV n p0_ p1_).bind λ r90=>
 if (r90==0)=true then
  some [p0_]
 else
  (whl (λ (x:((List Aa)×Int))=>Gt n p0_ p1_ r90 x.1 x.2) n (([]:List Aa),0)).bind λ y65=>
  some y65
def Fl (n:Nat) (p0_:(List Aa)) (p1_:Int) (out_17:(List Aa)) (i_15:Int):Option (((List Aa)×Int)⊕(List Aa)):=
 if decide (i_15<p1_)=true then
  (Ir n p0_ i_15).bind λ r93=>
  (OH n r93.1 r93.2).bind λ r94=>
  (app 16 out_17 r94).bind λ l21=>
  some (.inl (l21,(Ak .i64 i_15 1)))
 else
  some (.inr out_17)
def Ji (n:Nat) (p0_:(List Aa)) (p1_:Int):Option (List Aa):=
 (whl (λ (x:((List Aa)×Int))=>Fl n p0_ p1_ x.1 x.2) n (([]:List Aa),0)).bind λ y66=>
 some y66
def Ek (_:Nat) (i_16:Int) (there_3:(List (List Bool))):Option (((List (List Bool))×Int)⊕(List (List Bool))):=
 some (.inl (there_3,(Ak .i64 i_16 1)))
def El (n:Nat) (p0_:(List Aa)) (there_1:(List (List Bool))) (i_16:Int):Option (((List (List Bool))×Int)⊕(List (List Bool))):=
 if decide (i_16<((p0_.length:Nat):Int))=true then
  (idx p0_ i_16).bind λ x58=>
  if ((((decide (x58.X>=0))&&(decide (x58.Y>=0)))&&(decide (x58.X<60)))&&(decide (x58.Y<60)))=true then
   (BM (decide ((0:Int)<=x58.Y/\x58.Y<((60:Nat):Int)))).bind λ _=>
   (BM (decide ((0:Int)<=x58.X/\x58.X<((60:Nat):Int)))).bind λ _=>
   (ZO there_1 x58.Y x58.X true).bind λ l22=>
   Ek n i_16 l22
  else
   Ek n i_16 there_1
 else
  some (.inr there_1)
def Em (_:Nat) (x_15:Int) (out_23:(List Aa)):Option (((List Aa)×Int)⊕(List Aa)):=
 some (.inl (out_23,(Ak .i64 x_15 1)))
def En (n:Nat) (y67:(List (List Bool))) (y_1:Int) (out_21:(List Aa)) (x_15:Int):Option (((List Aa)×Int)⊕(List Aa)):=
 if decide (x_15<60)=true then
  (BM (decide ((0:Int)<=y_1/\y_1<((60:Nat):Int)))).bind λ _=>
  (BM (decide ((0:Int)<=x_15/\x_15<((60:Nat):Int)))).bind λ _=>
  (ZN y67 y_1 x_15).bind λ x59=>
  if x59=true then
   (app 16 out_21 [({ X:=x_15,Y:=y_1 }:Aa)]).bind λ l23=>
   Em n x_15 l23
  else
   Em n x_15 out_21
 else
  some (.inr out_21)
def Eo (n:Nat) (y67:(List (List Bool))) (out_19:(List Aa)) (y_1:Int):Option (((List Aa)×Int)⊕(List Aa)):=
 if decide (y_1<60)=true then
  (whl (λ (x:((List Aa)×Int))=>En n y67 y_1 x.1 x.2) n (out_19,0)).bind λ y68=>
  some (.inl (y68,(Ak .i64 y_1 1)))
 else
  some (.inr out_19)
def Hz (n:Nat) (p0_:(List Aa)):Option (List Aa):=
 (whl (λ (x:((List (List Bool))×Int))=>El n p0_ x.1 x.2) n ((List.replicate 60 (List.replicate 60 (false:Bool))),0)).bind λ y67=>
 (whl (λ (x:((List Aa)×Int))=>Eo n y67 x.1 x.2) n (([]:List Aa),0)).bind λ y69=>
 some y69
def Gu (_:Nat) (p0_:Int) (p1_:Aa):Option Bool:=
 some (((p0_==3)||((p0_==2)&&((Am p1_.Y 2)==0)))||((p0_==1)&&((Am (Ak .i64 p1_.X p1_.Y) 2)==0)))
def OI (_:Nat) (p0_:Aa) (p1_:Aa) (p2_:Aa):Option Int:=
 some (AW .i64 (BX .i64 (AW .i64 p1_.X p0_.X) (AW .i64 p2_.Y p0_.Y)) (BX .i64 (AW .i64 p1_.Y p0_.Y) (AW .i64 p2_.X p0_.X)))
def QJ (n:Nat) (p0_:Aa) (p1_:Aa) (p2_:Aa):Option Bool:=
 (OI n p0_ p1_ p2_).bind λ r95=>
 some (((((r95==0)&&(decide (p2_.X>=(if p1_.X<p0_.X then p1_.X else p0_.X))))&&(decide (p2_.X<=(if p1_.X>p0_.X then p1_.X else p0_.X))))&&(decide (p2_.Y>=(if p1_.Y<p0_.Y then p1_.Y else p0_.Y))))&&(decide (p2_.Y<=(if p1_.Y>p0_.Y then p1_.Y else p0_.Y))))
def HA (_:Nat) (p0_:Aa) (p1_:Aa) (p2_:Aa):Option Bool:=
 if ((decide (p0_.Y<=p2_.Y))==(decide (p1_.Y<=p2_.Y)))=true then
  some false
 else
  if decide (p1_.Y>p0_.Y)=true then
   some (decide (BX .i64 (AW .i64 p2_.X p0_.X) (AW .i64 p1_.Y p0_.Y)<BX .i64 (AW .i64 p2_.Y p0_.Y) (AW .i64 p1_.X p0_.X)))
  else
   some (decide (BX .i64 (AW .i64 p2_.X p0_.X) (AW .i64 p1_.Y p0_.Y)>BX .i64 (AW .i64 p2_.Y p0_.Y) (AW .i64 p1_.X p0_.X)))
def Ep (_:Nat) (i_17:Int) (odd_3:Bool):Option ((Bool×Int)⊕(Bool⊕Bool)):=
 some (.inl (odd_3,(Ak .i64 i_17 1)))
def Er (n:Nat) (p0_:(List Aa)) (p1_:Aa) (odd_1:Bool) (i_17:Int):Option ((Bool×Int)⊕(Bool⊕Bool)):=
 if decide (i_17<((p0_.length:Nat):Int))=true then
  (Ir n p0_ i_17).bind λ r96=>
  (QJ n r96.1 r96.2 p1_).bind λ r97=>
  if r97=true then
   some (.inr (.inr true))
  else
   (HA n r96.1 r96.2 p1_).bind λ r98=>
   if r98=true then
    Ep n i_17 (!odd_1)
   else
    Ep n i_17 odd_1
 else
  some (.inr (.inl odd_1))
def Ks (n:Nat) (p0_:(List Aa)) (p1_:Aa):Option Bool:=
 (whl (λ (x:(Bool×Int))=>Er n p0_ p1_ x.1 x.2) n (false,0)).bind λ y70=>
 match y70 with
 | Sum.inl y71=>
  some y71
 | Sum.inr y72=>
  some y72
def Es (_:Nat) (x_16:Int) (out_28:(List Aa)):Option (((List Aa)×Int)⊕(List Aa)):=
 some (.inl (out_28,(Ak .i64 x_16 1)))
def Et (n:Nat) (p0_:Ax) (y_2:Int) (out_26:(List Aa)) (x_16:Int):Option (((List Aa)×Int)⊕(List Aa)):=
 if decide (x_16<60)=true then
  (Gu n p0_.Texture ({ X:=x_16,Y:=y_2 }:Aa)).bind λ r102=>
  (if r102=true then Ks n p0_.P ({ X:=x_16,Y:=y_2 }:Aa) else some default).bind λ r103=>
  if (r102&&r103)=true then
   (app 16 out_26 [({ X:=x_16,Y:=y_2 }:Aa)]).bind λ l24=>
   Es n x_16 l24
  else
   Es n x_16 out_26
 else
  some (.inr out_26)
def Eu (n:Nat) (p0_:Ax) (out_24:(List Aa)) (y_2:Int):Option (((List Aa)×Int)⊕(List Aa)):=
 if decide (y_2<60)=true then
  (whl (λ (x:((List Aa)×Int))=>Et n p0_ y_2 x.1 x.2) n (out_24,0)).bind λ y73=>
  some (.inl (y73,(Ak .i64 y_2 1)))
 else
  some (.inr out_24)
def Db (n:Nat) (p0_:Ax):Option (List Aa):=
 if (p0_.Kind==1)=true then
  some p0_.P
 else
  if (p0_.Kind==2)=true then
   (Ji n p0_.P (AW .i64 ((p0_.P.length:Nat):Int) 1)).bind λ r99=>
   (Hz n r99).bind λ r100=>
   some r100
  else
   (Ji n p0_.P ((p0_.P.length:Nat):Int)).bind λ r101=>
   (whl (λ (x:((List Aa)×Int))=>Eu n p0_ x.1 x.2) n (r101,0)).bind λ y74=>
   (Hz n y74).bind λ r104=>
   some r104
def Ew (_:Nat) (p0_:(List Aa)) (p1_:Int) (p2_:Int) (i_18:Int):Option (Int⊕(Unit⊕Bool)):=
 if decide (i_18<((p0_.length:Nat):Int))=true then
  (idx p0_ i_18).bind λ x60=>
  (if (!(decide (x60.X<0)))=true then idx p0_ i_18 else some default).bind λ x61=>
  (if (!((decide (x60.X<0))||(decide (x61.X>=p1_))))=true then idx p0_ i_18 else some default).bind λ x62=>
  (if (!(((decide (x60.X<0))||(decide (x61.X>=p1_)))||(decide (x62.Y<0))))=true then idx p0_ i_18 else some default).bind λ x63=>
  if ((((decide (x60.X<0))||(decide (x61.X>=p1_)))||(decide (x62.Y<0)))||(decide (x63.Y>=p2_)))=true then
   some (.inr (.inr false))
  else
   some (.inl (Ak .i64 i_18 1))
 else
  some (.inr (.inl ()))
def Kt (n:Nat) (p0_:(List Aa)) (p1_:Int) (p2_:Int):Option Bool:=
 (whl (λ (x:Int)=>Ew n p0_ p1_ p2_ x) n 0).bind λ y75=>
 match y75 with
 | Sum.inl _=>
  some true
 | Sum.inr y77=>
  some y77
def Fm (n:Nat) (p0_:Ag) (i_19:Int):Option (Int⊕(Unit⊕Bool)):=
 if decide (i_19<((p0_.F.length:Nat):Int))=true then
  (idx p0_.F i_19).bind λ x64=>
  (MA n x64).bind λ r105=>
  (if (!(!r105))=true then idx p0_.F i_19 else some default).bind λ x65=>
  (if (!(!r105))=true then Db n x65 else some default).bind λ r106=>
  (if (!(!r105))=true then Kt n r106 p0_.W p0_.H else some default).bind λ r107=>
  if ((!r105)||(!r107))=true then
   some (.inr (.inr false))
  else
   some (.inl (Ak .i64 i_19 1))
 else
  some (.inr (.inl ()))
def E9 (n:Nat) (p0_:Ag):Option Bool:=
 if ((((((((((decide (p0_.W<4))||(decide (p0_.W>60)))||((Am p0_.W 2) != 0))||(decide (p0_.H<3)))||(decide (p0_.H>60)))||((Am p0_.H 3) != 0))||(decide (p0_.Gap<2)))||(decide (p0_.Gap>6)))||(decide (((p0_.F.length:Nat):Int)<1)))||(decide (((p0_.F.length:Nat):Int)>8)))=true then
  some false
 else
  (whl (λ (x:Int)=>Fm n p0_ x) n 0).bind λ y78=>
  match y78 with
  | Sum.inl _=>
   some true
  | Sum.inr y80=>
   some y80
def Ey (n:Nat) (p0_:Ag) (out_29:(List (List Aa))) (i_20:Int):Option (((List (List Aa))×Int)⊕(List (List Aa))):=
 if decide (i_20<((p0_.F.length:Nat):Int))=true then
  (idx p0_.F i_20).bind λ x66=>
  (Db n x66).bind λ r108=>
  (app 24 out_29 [r108]).bind λ l25=>
  some (.inl (l25,(Ak .i64 i_20 1)))
 else
  some (.inr out_29)
def FG (n:Nat) (p0_:Ag):Option (List (List Aa)):=
 (whl (λ (x:((List (List Aa))×Int))=>Ey n p0_ x.1 x.2) n (([]:List (List Aa)),0)).bind λ y81=>
 some y81
def CA (_:Nat) (k_12:Int) (out_35:Int):Option ((Int×Int)⊕Int):=
 some (.inl (out_35,(Ak .i64 k_12 1)))
def B8 (n:Nat) (p0_:(List Aa)) (p1_:(List Aa)) (i_21:Int) (out_33:Int) (k_12:Int):Option ((Int×Int)⊕Int):=
 if decide (k_12<((p1_.length:Nat):Int))=true then
  (idx p0_ i_21).bind λ x67=>
  (idx p1_ k_12).bind λ x68=>
  (GV n x67 x68).bind λ r109=>
  if ((decide (out_33<0))||(decide (r109<out_33)))=true then
   CA n k_12 r109
  else
   CA n k_12 out_33
 else
  some (.inr out_33)
def B9 (n:Nat) (p0_:(List Aa)) (p1_:(List Aa)) (out_31:Int) (i_21:Int):Option ((Int×Int)⊕Int):=
 if decide (i_21<((p0_.length:Nat):Int))=true then
  (whl (λ (x:(Int×Int))=>B8 n p0_ p1_ i_21 x.1 x.2) n (out_31,0)).bind λ y82=>
  some (.inl (y82,(Ak .i64 i_21 1)))
 else
  some (.inr out_31)
def BC (n:Nat) (p0_:(List Aa)) (p1_:(List Aa)):Option Int:=
 (whl (λ (x:(Int×Int))=>B9 n p0_ p1_ x.1 x.2) n ((-1),0)).bind λ y83=>
 some y83
def C4 (n:Nat) (r111:(List (List Aa))) (_:(List (List Int))) (i_22:Int) (row_1:(List Int)) (k_13:Int):Option (((List Int)×Int)⊕(List Int)):=
 if decide (k_13<((r111.length:Nat):Int))=true then
  (idx r111 i_22).bind λ x69=>
  (idx r111 k_13).bind λ x70=>
  (BC n x69 x70).bind λ r112=>
  (app 8 row_1 [r112]).bind λ l26=>
  some (.inl (l26,(Ak .i64 k_13 1)))
 else
  some (.inr row_1)
def C5 (n:Nat) (r111:(List (List Aa))) (out_36:(List (List Int))) (i_22:Int):Option (((List (List Int))×Int)⊕(List (List Int))):=
 if decide (i_22<((r111.length:Nat):Int))=true then
  (whl (λ (x:((List Int)×Int))=>C4 n r111 out_36 i_22 x.1 x.2) n (([]:List Int),0)).bind λ y84=>
  (app 24 out_36 [y84]).bind λ l27=>
  some (.inl (l27,(Ak .i64 i_22 1)))
 else
  some (.inr out_36)
def GX (n:Nat) (p0_:Ag):Option (List (List Int)):=
 (E9 n p0_).bind λ r110=>
 if (!r110)=true then
  some []
 else
  (FG n p0_).bind λ r111=>
  (whl (λ (x:((List (List Int))×Int))=>C5 n r111 x.1 x.2) n (([]:List (List Int)),0)).bind λ y85=>
  some y85
def HB (_:Nat) (p0_:(List Aa)) (p1_:Aa) (i_23:Int):Option (Int⊕(Unit⊕Bool)):=
 if decide (i_23<((p0_.length:Nat):Int))=true then
  (idx p0_ i_23).bind λ x71=>
  if ((x71.X==p1_.X)&&((x71.Y==p1_.Y)&&true))=true then
   some (.inr (.inr true))
  else
   some (.inl (Ak .i64 i_23 1))
 else
  some (.inr (.inl ()))
def Ku (n:Nat) (p0_:(List Aa)) (p1_:Aa):Option Bool:=
 (whl (λ (x:Int)=>HB n p0_ p1_ x) n 0).bind λ y86=>
 match y86 with
 | Sum.inl _=>
  some false
 | Sum.inr y88=>
  some y88
def PT (_:Nat) (p0_:Aa) (p1_:Aa):Option Bool:=
 some ((decide (p0_.Y<p1_.Y))||((p0_.Y==p1_.Y)&&(decide (p0_.X<p1_.X))))
def GY (_:Nat) (i_24:Int) (out_40:(List Aa)):Option (((List Aa)×Int)⊕(List Aa)):=
 some (.inl (out_40,(Ak .i64 i_24 1)))
def GZ (n:Nat) (p0_:(List Aa)) (out_38:(List Aa)) (i_24:Int) (at_2:Int):Option (Int⊕Int):=
 (if decide (at_2>0)=true then idx p0_ i_24 else some default).bind λ x73=>
 (if decide (at_2>0)=true then idx out_38 (AW .i64 at_2 1) else some default).bind λ x74=>
 (if decide (at_2>0)=true then PT n x73 x74 else some default).bind λ r114=>
 if ((decide (at_2>0))&&r114)=true then
  some (.inl (AW .i64 at_2 1))
 else
  some (.inr at_2)
def Ez (n:Nat) (p0_:(List Aa)) (out_38:(List Aa)) (i_24:Int):Option (((List Aa)×Int)⊕(List Aa)):=
 if decide (i_24<((p0_.length:Nat):Int))=true then
  (idx p0_ i_24).bind λ x72=>
  (Ku n out_38 x72).bind λ r113=>
  if r113=true then
   GY n i_24 out_38
  else
   (whl (λ (x:Int)=>GZ n p0_ out_38 i_24 x) n ((out_38.length:Nat):Int)).bind λ y89=>
   (sub out_38 y89 ((out_38.length:Nat):Int)).bind λ l28=>
   (app 16 ([]:List Aa) l28).bind λ l29=>
   (sub out_38 0 y89).bind λ l30=>
   (idx p0_ i_24).bind λ x75=>
   (app 16 l30 [x75]).bind λ l31=>
   (app 16 l31 l29).bind λ l32=>
   GY n i_24 l32
 else
  some (.inr out_38)
def HC (n:Nat) (p0_:(List Aa)):Option (List Aa):=
 (whl (λ (x:((List Aa)×Int))=>Ez n p0_ x.1 x.2) n (([]:List Aa),0)).bind λ y90=>
 some y90
def Fa (_:Nat) (i_25:Int) (one_5:(List Aa)) (grown_4:Bool):Option (((List Aa)×Bool×Int)⊕((List Aa)×Bool)):=
 some (.inl (one_5,grown_4,(Ak .i64 i_25 1)))
def Dn (n:Nat) (p1_:Int) (rest_1:(List Aa)) (_:(List (List Aa))) (one_3:(List Aa)) (grown_2:Bool) (i_25:Int):Option (((List Aa)×Bool×Int)⊕((List Aa)×Bool)):=
 if decide (i_25<((rest_1.length:Nat):Int))=true then
  (idx rest_1 i_25).bind λ x77=>
  (Ku n one_3 x77).bind λ r116=>
  (if (!r116)=true then sub rest_1 i_25 (Ak .i64 i_25 1) else some default).bind λ l33=>
  (if (!r116)=true then BC n one_3 l33 else some default).bind λ r117=>
  if ((!r116)&&(decide (r117<=p1_)))=true then
   (idx rest_1 i_25).bind λ x78=>
   (app 16 one_3 [x78]).bind λ l34=>
   Fa n i_25 l34 true
  else
   Fa n i_25 one_3 grown_2
 else
  some (.inr (one_3,grown_2))
def Fb (n:Nat) (p1_:Int) (rest_1:(List Aa)) (out_41:(List (List Aa))) (one_1:(List Aa)) (grown_1:Bool):Option (((List Aa)×Bool)⊕(List Aa)):=
 if grown_1=true then
  (whl (λ (x:((List Aa)×Bool×Int))=>Dn n p1_ rest_1 out_41 x.1 x.2.1 x.2.2) n (one_1,false,0)).bind λ y91=>
  some (.inl (y91.1,y91.2))
 else
  some (.inr one_1)
def Fd (_:Nat) (i_26:Int) (left_3:(List Aa)):Option (((List Aa)×Int)⊕(List Aa)):=
 some (.inl (left_3,(Ak .i64 i_26 1)))
def Do (n:Nat) (_:Int) (rest_1:(List Aa)) (_:(List (List Aa))) (y92:(List Aa)) (left_1:(List Aa)) (i_26:Int):Option (((List Aa)×Int)⊕(List Aa)):=
 if decide (i_26<((rest_1.length:Nat):Int))=true then
  (idx rest_1 i_26).bind λ x79=>
  (Ku n y92 x79).bind λ r118=>
  if (!r118)=true then
   (idx rest_1 i_26).bind λ x80=>
   (app 16 left_1 [x80]).bind λ l35=>
   Fd n i_26 l35
  else
   Fd n i_26 left_1
 else
  some (.inr left_1)
def Fe (n:Nat) (p1_:Int) (rest_1:(List Aa)) (out_41:(List (List Aa))):Option (((List Aa)×(List (List Aa)))⊕(List (List Aa))):=
 if decide (((rest_1.length:Nat):Int)>0)=true then
  (idx rest_1 0).bind λ x76=>
  (whl (λ (x:((List Aa)×Bool))=>Fb n p1_ rest_1 out_41 x.1 x.2) n ([x76],true)).bind λ y92=>
  (whl (λ (x:((List Aa)×Int))=>Do n p1_ rest_1 out_41 y92 x.1 x.2) n (([]:List Aa),0)).bind λ y93=>
  (HC n y92).bind λ r119=>
  (app 24 out_41 [r119]).bind λ l36=>
  some (.inl (y93,l36))
 else
  some (.inr out_41)
def H3 (n:Nat) (p0_:(List Aa)) (p1_:Int):Option (List (List Aa)):=
 (HC n p0_).bind λ r115=>
 (whl (λ (x:((List Aa)×(List (List Aa))))=>Fe n p1_ x.1 x.2) n (r115,([]:List (List Aa)))).bind λ y94=>
 some y94
def Fn (n:Nat) (p0_:Ag) (r121:(List (List Aa))) (_:(List (List Int))) (i_27:Int):Option (Int⊕(Unit⊕Cn)):=
 if decide (i_27<((r121.length:Nat):Int))=true then
  (idx r121 i_27).bind λ x81=>
  (H3 n x81 p0_.Gap).bind λ r123=>
  if (((r123.length:Nat):Int) != 1)=true then
   some (.inr (.inr ({ I:=i_27,J:=i_27,E:=130 }:Cn)))
  else
   some (.inl (Ak .i64 i_27 1))
 else
  some (.inr (.inl ()))
def H4 (_:Nat) (p0_:Ag) (r121:(List (List Aa))) (r122:(List (List Int))) (i_28:Int) (k_14:Int):Option (Int⊕(Unit⊕Cn)):=
 if decide (k_14<((r121.length:Nat):Int))=true then
  (idx r122 i_28).bind λ x82=>
  (idx x82 k_14).bind λ x83=>
  if decide (x83<=p0_.Gap)=true then
   some (.inr (.inr ({ I:=i_28,J:=k_14,E:=140 }:Cn)))
  else
   some (.inl (Ak .i64 k_14 1))
 else
  some (.inr (.inl ()))
def Dy (n:Nat) (p0_:Ag) (r121:(List (List Aa))) (r122:(List (List Int))) (i_28:Int):Option (Int⊕(Unit⊕Cn)):=
 if decide (i_28<((r121.length:Nat):Int))=true then
  (whl (λ (x:Int)=>H4 n p0_ r121 r122 i_28 x) n (Ak .i64 i_28 1)).bind λ y98=>
  match y98 with
  | Sum.inl _=>
   some (.inl (Ak .i64 i_28 1))
  | Sum.inr y100=>
   some (.inr (.inr y100))
 else
  some (.inr (.inl ()))
def MB (n:Nat) (p0_:Ag):Option Cn:=
 (E9 n p0_).bind λ r120=>
 if (!r120)=true then
  some ({ I:=0,J:=0,E:=1 }:Cn)
 else
  (FG n p0_).bind λ r121=>
  (GX n p0_).bind λ r122=>
  (whl (λ (x:Int)=>Fn n p0_ r121 r122 x) n 0).bind λ y95=>
  match y95 with
  | Sum.inl _=>
   (whl (λ (x:Int)=>Dy n p0_ r121 r122 x) n 0).bind λ y101=>
   match y101 with
   | Sum.inl _=>
    some ({ I:=0,J:=0,E:=0 }:Cn)
   | Sum.inr y103=>
    some y103
  | Sum.inr y97=>
   some y97
def Ff (_:Nat) (p0_:Int):Option (List Int):=
 (idx [1,3,9,25,17,11,27,19] p0_).bind λ x84=>
 some [60,x84]
def Dc (_:Nat) (k_15:Int) (out_47:(List Aa)):Option (((List Aa)×Int)⊕(List Aa)):=
 some (.inl (out_47,(Ak .i64 k_15 1)))
def CB (n:Nat) (p1_:Aa) (r124:(List Int)) (r_1:Int) (out_45:(List Aa)) (k_15:Int):Option (((List Aa)×Int)⊕(List Aa)):=
 if decide (k_15<4)=true then
  (idx r124 (Ds .i64 k_15 2)).bind λ x85=>
  (BM (decide (0<=(Ak .i64 (BX .i64 3 (Am k_15 2)) r_1)))).bind λ _=>
  if ((Ed .u8 (JlN .u8 x85 (Ak .i64 (BX .i64 3 (Am k_15 2)) r_1)) 1)==1)=true then
   (app 16 out_45 [({ X:=Ak .i64 (BX .i64 2 p1_.X) k_15,Y:=Ak .i64 (BX .i64 3 p1_.Y) r_1 }:Aa)]).bind λ l37=>
   Dc n k_15 l37
  else
   Dc n k_15 out_45
 else
  some (.inr out_45)
def CC (n:Nat) (p1_:Aa) (r124:(List Int)) (out_43:(List Aa)) (r_1:Int):Option (((List Aa)×Int)⊕(List Aa)):=
 if decide (r_1<3)=true then
  (whl (λ (x:((List Aa)×Int))=>CB n p1_ r124 r_1 x.1 x.2) n (out_43,0)).bind λ y104=>
  some (.inl (y104,(Ak .i64 r_1 1)))
 else
  some (.inr out_43)
def Cp (n:Nat) (p0_:Int) (p1_:Aa):Option (List Aa):=
 (Ff n p0_).bind λ r124=>
 (whl (λ (x:((List Aa)×Int))=>CC n p1_ r124 x.1 x.2) n (([]:List Aa),0)).bind λ y105=>
 some y105
def Gv (n:Nat) (p0_:Ag) (_:Int) (r125:(List (List Aa))) (r126:(List Aa)) (k_16:Int):Option (Int⊕(Unit⊕Bool)):=
 if decide (k_16<((r125.length:Nat):Int))=true then
  (idx r125 k_16).bind λ x86=>
  (BC n r126 x86).bind λ r127=>
  if decide (r127<=p0_.Gap)=true then
   some (.inr (.inr false))
  else
   some (.inl (Ak .i64 k_16 1))
 else
  some (.inr (.inl ()))
def OJ (n:Nat) (p0_:Ag) (p1_:Int) (p2_:Aa):Option Bool:=
 if ((((((decide (p2_.X<0))||(decide (p2_.Y<0)))||(decide (p2_.X>60)))||(decide (p2_.Y>60)))||(decide (BX .i64 2 (Ak .i64 p2_.X 2)>p0_.W)))||(decide (BX .i64 3 (Ak .i64 p2_.Y 1)>p0_.H)))=true then
  some false
 else
  (FG n p0_).bind λ r125=>
  (Cp n p1_ p2_).bind λ r126=>
  (whl (λ (x:Int)=>Gv n p0_ p1_ r125 r126 x) n 0).bind λ y106=>
  match y106 with
  | Sum.inl _=>
   (idx r125 p1_).bind λ x87=>
   (BC n r126 x87).bind λ r128=>
   some (decide (r128<=BX .i64 3 p0_.Gap))
  | Sum.inr y108=>
   some y108
def DT (_:Nat) (x_17:Int) (out_52:(List Aa)):Option (((List Aa)×Int)⊕(List Aa)):=
 some (.inl (out_52,(Ak .i64 x_17 1)))
def DU (n:Nat) (p0_:Ag) (p1_:Int) (y_3:Int) (out_50:(List Aa)) (x_17:Int):Option (((List Aa)×Int)⊕(List Aa)):=
 if decide (BX .i64 2 (Ak .i64 x_17 2)<=p0_.W)=true then
  (OJ n p0_ p1_ ({ X:=x_17,Y:=y_3 }:Aa)).bind λ r129=>
  if r129=true then
   (app 16 out_50 [({ X:=x_17,Y:=y_3 }:Aa)]).bind λ l38=>
   DT n x_17 l38
  else
   DT n x_17 out_50
 else
  some (.inr out_50)
def DV (n:Nat) (p0_:Ag) (p1_:Int) (out_48:(List Aa)) (y_3:Int):Option (((List Aa)×Int)⊕(List Aa)):=
 if decide (BX .i64 3 (Ak .i64 y_3 1)<=p0_.H)=true then
  (whl (λ (x:((List Aa)×Int))=>DU n p0_ p1_ y_3 x.1 x.2) n (out_48,0)).bind λ y109=>
  some (.inl (y109,(Ak .i64 y_3 1)))
 else
  some (.inr out_48)
def FV (n:Nat) (p0_:Ag) (p1_:Int):Option (List Aa):=
 (whl (λ (x:((List Aa)×Int))=>DV n p0_ p1_ x.1 x.2) n (([]:List Aa),0)).bind λ y110=>
 some y110
def CD (_:Nat) (n_4:Int):Option (Int⊕(Unit⊕(List Aa))):=
 some (.inl (Ak .i64 n_4 1))
def Ca (n:Nat) (p0_:Ag) (o0_:(List Aa)) (o1_:(List (List Aa))) (n_4:Int) (free_5:Bool) (k_19:Int):Option ((Bool×Int)⊕Bool):=
 if decide (k_19<((o0_.length:Nat):Int))=true then
  (if free_5=true then idx o1_ ((o0_.length:Nat):Int) else some default).bind λ x101=>
  (if free_5=true then idx x101 n_4 else some default).bind λ x102=>
  (if free_5=true then Cp n ((o0_.length:Nat):Int) x102 else some default).bind λ r138=>
  (if free_5=true then idx o0_ k_19 else some default).bind λ x103=>
  (if free_5=true then Cp n k_19 x103 else some default).bind λ r139=>
  (if free_5=true then BC n r138 r139 else some default).bind λ r140=>
  some (.inl ((free_5&&(decide (r140>p0_.Gap))),(Ak .i64 k_19 1)))
 else
  some (.inr free_5)
def BN (n:Nat) (rec98k1_:(Ag->(List Aa)->(List (List Aa))->Option (List Aa))) (p0_:Ag) (o0_:(List Aa)) (o1_:(List (List Aa))) (n_4:Int):Option (Int⊕(Unit⊕(List Aa))):=
 (idx o1_ ((o0_.length:Nat):Int)).bind λ x100=>
 if decide (n_4<((x100.length:Nat):Int))=true then
  (whl (λ (x:(Bool×Int))=>Ca n p0_ o0_ o1_ n_4 x.1 x.2) n (true,0)).bind λ y119=>
  if (!y119)=true then
   CD n n_4
  else
   (app 16 ([]:List Aa) o0_).bind λ l43=>
   (idx o1_ ((o0_.length:Nat):Int)).bind λ x104=>
   (idx x104 n_4).bind λ x105=>
   (app 16 l43 [x105]).bind λ l44=>
   (rec98k1_ p0_ l44 o1_).bind λ r141=>
   if (((r141.length:Nat):Int)==((o1_.length:Nat):Int))=true then
    some (.inr (.inr r141))
   else
    CD n n_4
 else
  some (.inr (.inl ()))
def Bb (n:Nat) (rec98k1_:(Ag->(List Aa)->(List (List Aa))->Option (List Aa))) (p0_:Ag) (o0_:(List Aa)) (o1_:(List (List Aa))):Option (List Aa):=
 if (((o0_.length:Nat):Int)==((o1_.length:Nat):Int))=true then
  some o0_
 else
  (whl (λ (x:Int)=>BN n rec98k1_ p0_ o0_ o1_ x) n 0).bind λ y120=>
  match y120 with
  | Sum.inl _=>
   some ([]:List Aa)
  | Sum.inr y122=>
   some y122
def H5 (n:Nat) (p0_:Ag) (o0_:(List Aa)) (o1_:(List (List Aa))):Option (List Aa):=
 JZ (λ _ _ _=>none) (Bb n) n p0_ o0_ o1_
def EA (_:Nat) (n_5:Int):Option (Int⊕(Unit⊕(List Aa))):=
 some (.inl (Ak .i64 n_5 1))
def EB (n:Nat) (p0_:Ag) (o0_:(List (List Aa))) (n_5:Int) (free_7:Bool) (k_20:Int):Option ((Bool×Int)⊕Bool):=
 if decide (k_20<0)=true then
  (if free_7=true then idx o0_ 0 else some default).bind λ x107=>
  (if free_7=true then idx x107 n_5 else some default).bind λ x108=>
  (if free_7=true then Cp n 0 x108 else some default).bind λ r142=>
  (if free_7=true then idx ([]:List Aa) k_20 else some default).bind λ x109=>
  (if free_7=true then Cp n k_20 x109 else some default).bind λ r143=>
  (if free_7=true then BC n r142 r143 else some default).bind λ r144=>
  some (.inl ((free_7&&(decide (r144>p0_.Gap))),(Ak .i64 k_20 1)))
 else
  some (.inr free_7)
def C6 (n:Nat) (p0_:Ag) (o0_:(List (List Aa))) (n_5:Int):Option (Int⊕(Unit⊕(List Aa))):=
 (idx o0_ 0).bind λ x106=>
 if decide (n_5<((x106.length:Nat):Int))=true then
  (whl (λ (x:(Bool×Int))=>EB n p0_ o0_ n_5 x.1 x.2) n (true,0)).bind λ y123=>
  if (!y123)=true then
   EA n n_5
  else
   (app 16 ([]:List Aa) ([]:List Aa)).bind λ l45=>
   (idx o0_ 0).bind λ x110=>
   (idx x110 n_5).bind λ x111=>
   (app 16 l45 [x111]).bind λ l46=>
   (H5 n p0_ l46 o0_).bind λ r145=>
   if (((r145.length:Nat):Int)==((o0_.length:Nat):Int))=true then
    some (.inr (.inr r145))
   else
    EA n n_5
 else
  some (.inr (.inl ()))
def Cb (n:Nat) (_:(Ag->(List (List Aa))->Option (List Aa))) (p0_:Ag) (o0_:(List (List Aa))):Option (List Aa):=
 if (0==((o0_.length:Nat):Int))=true then
  some ([]:List Aa)
 else
  (whl (λ (x:Int)=>C6 n p0_ o0_ x) n 0).bind λ y124=>
  match y124 with
  | Sum.inl _=>
   some ([]:List Aa)
  | Sum.inr y126=>
   some y126
def G0 (n:Nat) (p0_:Ag) (o0_:(List (List Aa))):Option (List Aa):=
 JZ (λ _ _=>none) (Cb n) n p0_ o0_
def Fp (n:Nat) (p0_:Ag) (all_1:(List (List Aa))) (best_1:(List Aa)) (i_29:Int):Option (((List (List Aa))×(List Aa)×Int)⊕((List Aa)⊕Jf)):=
 if decide (i_29<((p0_.F.length:Nat):Int))=true then
  (FV n p0_ i_29).bind λ r146=>
  (app 24 all_1 [r146]).bind λ l47=>
  (G0 n p0_ l47).bind λ r147=>
  if decide (((r147.length:Nat):Int)<=i_29)=true then
   some (.inr (.inr ({ L:=[],At:=i_29,E:=150 }:Jf)))
  else
   some (.inl (l47,r147,(Ak .i64 i_29 1)))
 else
  some (.inr (.inl best_1))
def MC (n:Nat) (p0_:Ag):Option Jf:=
 (whl (λ (x:((List (List Aa))×(List Aa)×Int))=>Fp n p0_ x.1 x.2.1 x.2.2) n (([]:List (List Aa)),([]:List Aa),0)).bind λ y127=>
 match y127 with
 | Sum.inl y128=>
  some ({ L:=y128,At:=((y128.length:Nat):Int),E:=0 }:Jf)
 | Sum.inr y129=>
  some y129
def D1 (n:Nat) (p0_:Ag):Option Bool:=
 (MB n p0_).bind λ r148=>
 if (r148.E != 0)=true then
  some false
 else
  (MC n p0_).bind λ r149=>
  some (r149.E==0)
def Fq (_:Nat) (r150:(List UInt8)):Option Ai:=
 some ({ Kind:=1,Level:=0,Text:=r150,Rows:=[],F:=[],Pic:=({ W:=0,H:=0,Gap:=0,F:=[] }:Ag),Page:=0 }:Ai)
def Fr (n:Nat) (p0_:Be) (p1_:(List UInt8)) (_:Ai) (i_30:Int) (row_3:(List (List UInt8))) (k_21:Int):Option (((List (List UInt8))×Int)⊕(List (List UInt8))):=
 if decide (k_21<Ak .i64 1 (IntKind.i64.wrap (Am p0_.N 3)))=true then
  (sub p0_.T (if ((p0_.T.length:Nat):Int)<BX .i64 2 (Ak .i64 i_30 k_21) then ((p0_.T.length:Nat):Int) else BX .i64 2 (Ak .i64 i_30 k_21)) ((p0_.T.length:Nat):Int)).bind λ l48=>
  (Iq n l48 4 p1_).bind λ r151=>
  (app 16 row_3 [r151]).bind λ l49=>
  some (.inl (l49,(Ak .i64 k_21 1)))
 else
  some (.inr row_3)
def Fs (n:Nat) (p0_:Be) (p1_:(List UInt8)) (out_53:Ai) (i_30:Int):Option ((Ai×Int)⊕Ai):=
 if decide (i_30<Ak .i64 1 (IntKind.i64.wrap (Am (Ds .u8 p0_.N 4) 3)))=true then
  (whl (λ (x:((List (List UInt8))×Int))=>Fr n p0_ p1_ out_53 i_30 x.1 x.2) n (([]:List (List UInt8)),0)).bind λ y130=>
  (app 24 out_53.Rows [y130]).bind λ l50=>
  some (.inl (({ Kind:=out_53.Kind,Level:=out_53.Level,Text:=out_53.Text,Rows:=l50,F:=out_53.F,Pic:=out_53.Pic,Page:=out_53.Page }:Ai),(Ak .i64 i_30 1)))
 else
  some (.inr out_53)
def Dz (n:Nat) (p0_:Be) (r150:(List UInt8)) (x_27:Bool):Option Ai:=
 if x_27=true then
  some ({ Kind:=4,Level:=0,Text:=r150,Rows:=[],F:=[],Pic:=({ W:=0,H:=0,Gap:=0,F:=[] }:Ag),Page:=0 }:Ai)
 else
  if ((Am p0_.Kind 9)==5)=true then
   (Lp n p0_.F).bind λ r152=>
   some ({ Kind:=5,Level:=0,Text:=[],Rows:=[],F:=r152,Pic:=({ W:=0,H:=0,Gap:=0,F:=[] }:Ag),Page:=0 }:Ai)
  else
   if ((Am p0_.Kind 9)==6)=true then
    (sub p0_.P.F 0 (if 2<((p0_.P.F.length:Nat):Int) then 2 else ((p0_.P.F.length:Nat):Int))).bind λ l51=>
    (Lq n ({ W:=p0_.P.W,H:=p0_.P.H,Gap:=p0_.P.Gap,F:=l51 }:Bs)).bind λ r153=>
    (D1 n r153).bind λ r154=>
    if r154=true then
     some ({ Kind:=6,Level:=0,Text:=[],Rows:=[],F:=[],Pic:=r153,Page:=0 }:Ai)
    else
     Fq n r150
   else
    if ((Am p0_.Kind 9)==7)=true then
     some ({ Kind:=7,Level:=0,Text:=[],Rows:=[],F:=[],Pic:=({ W:=0,H:=0,Gap:=0,F:=[] }:Ag),Page:=Ak .i64 1 (IntKind.i64.wrap p0_.N) }:Ai)
    else
     Fq n r150
def MD (n:Nat) (p0_:Be) (p1_:(List UInt8)):Option Ai:=
 (Iq n p0_.T 12 p1_).bind λ r150=>
 if ((Am p0_.Kind 9)==1)=true then
  some ({ Kind:=2,Level:=Ak .i64 1 (IntKind.i64.wrap (Am p0_.N 3)),Text:=r150,Rows:=[],F:=[],Pic:=({ W:=0,H:=0,Gap:=0,F:=[] }:Ag),Page:=0 }:Ai)
 else
  if ((Am p0_.Kind 9)==2)=true then
   (whl (λ (x:(Ai×Int))=>Fs n p0_ p1_ x.1 x.2) n (({ Kind:=3,Level:=0,Text:=[],Rows:=([]:List (List (List UInt8))),F:=([]:List Ao),Pic:=({ W:=0,H:=0,Gap:=0,F:=([]:List Ax) }:Ag),Page:=0 }:Ai),0)).bind λ y131=>
   some y131
  else
   if ((Am p0_.Kind 9)==3)=true then
    Dz n p0_ r150 ((Am p0_.Kind 9)==3)
   else
    Dz n p0_ r150 ((Am p0_.Kind 9)==4)
def Kv (_:Nat) (p0_:Ag):Option Bool:=
 some ((((p0_.W==0)&&(p0_.H==0))&&(p0_.Gap==0))&&(((p0_.F.length:Nat):Int)==0))
def H6 (_:Nat) (p0_:Int):Option Bool:=
 some ((decide (Ed .u8 p0_ 127>=32))&&(decide (Ed .u8 p0_ 127<=126)))
end Go.AI
end
section
namespace Go.AI
def HD (n:Nat) (p0_:(List UInt8)) (i_31:Int):Option (Int⊕(Unit⊕(Int×Int))):=
 if decide (i_31<((p0_.length:Nat):Int))=true then
  (Je p0_ i_31).bind λ b6=>
  (H6 n b6).bind λ r155=>
  if (!r155)=true then
   some (.inr (.inr (i_31,60)))
  else
   some (.inl (Ak .i64 i_31 1))
 else
  some (.inr (.inl ()))
def NB (n:Nat) (p0_:(List UInt8)):Option (Int×Int):=
 (whl (λ (x:Int)=>HD n p0_ x) n 0).bind λ y132=>
 match y132 with
 | Sum.inl _=>
  some (((p0_.length:Nat):Int),0)
 | Sum.inr y134=>
  some y134
def Jj (n:Nat) (p0_:(List UInt8)):Option Bool:=
 (NB n p0_).bind λ r156=>
 some (r156.2==0)
def GE (_:Nat) (p0_:Int):Option Bool:=
 some ((Ed .u8 p0_ 127)==32)
def Jk (n:Nat) (p0_:(List UInt8)) (i_32:Int):Option (Int⊕(Unit⊕Bool)):=
 if decide (i_32<((p0_.length:Nat):Int))=true then
  (Je p0_ i_32).bind λ b9=>
  (GE n b9).bind λ r160=>
  (if r160=true then Je p0_ (AW .i64 i_32 1) else some default).bind λ b10=>
  (if r160=true then GE n b10 else some default).bind λ r161=>
  if (r160&&r161)=true then
   some (.inr (.inr false))
  else
   some (.inl (Ak .i64 i_32 1))
 else
  some (.inr (.inl ()))
def GG (n:Nat) (p0_:(List UInt8)):Option Bool:=
 (Jj n p0_).bind λ r157=>
 (if (!(((!r157)||(((p0_.length:Nat):Int)==0))||(decide (((p0_.length:Nat):Int)>400))))=true then Je p0_ 0 else some default).bind λ b7=>
 (if (!(((!r157)||(((p0_.length:Nat):Int)==0))||(decide (((p0_.length:Nat):Int)>400))))=true then GE n b7 else some default).bind λ r158=>
 (if (!((((!r157)||(((p0_.length:Nat):Int)==0))||(decide (((p0_.length:Nat):Int)>400)))||r158))=true then Je p0_ (AW .i64 ((p0_.length:Nat):Int) 1) else some default).bind λ b8=>
 (if (!((((!r157)||(((p0_.length:Nat):Int)==0))||(decide (((p0_.length:Nat):Int)>400)))||r158))=true then GE n b8 else some default).bind λ r159=>
 if (((((!r157)||(((p0_.length:Nat):Int)==0))||(decide (((p0_.length:Nat):Int)>400)))||r158)||r159)=true then
  some false
 else
  (whl (λ (x:Int)=>Jk n p0_ x) n 1).bind λ y135=>
  match y135 with
  | Sum.inl _=>
   some true
  | Sum.inr y137=>
   some y137
def DG (n:Nat) (p0_:(List (List (List UInt8)))) (i_33:Int) (k_22:Int):Option (Int⊕(Unit⊕Bool)):=
 (idx p0_ i_33).bind λ x116=>
 if decide (k_22<((x116.length:Nat):Int))=true then
  (idx p0_ i_33).bind λ x117=>
  (idx x117 k_22).bind λ x118=>
  (GG n x118).bind λ r162=>
  (if (!(!r162))=true then idx p0_ i_33 else some default).bind λ x119=>
  (if (!(!r162))=true then idx x119 k_22 else some default).bind λ x120=>
  if ((!r162)||(decide (((x120.length:Nat):Int)>40)))=true then
   some (.inr (.inr false))
  else
   some (.inl (Ak .i64 k_22 1))
 else
  some (.inr (.inl ()))
def DH (n:Nat) (p0_:(List (List (List UInt8)))) (i_33:Int):Option (Int⊕(Unit⊕Bool)):=
 if decide (i_33<((p0_.length:Nat):Int))=true then
  (idx p0_ i_33).bind λ x112=>
  (idx p0_ 0).bind λ x113=>
  (if (!(((x112.length:Nat):Int) != ((x113.length:Nat):Int)))=true then idx p0_ i_33 else some default).bind λ x114=>
  (if (!((((x112.length:Nat):Int) != ((x113.length:Nat):Int))||(decide (((x114.length:Nat):Int)<1))))=true then idx p0_ i_33 else some default).bind λ x115=>
  if (((((x112.length:Nat):Int) != ((x113.length:Nat):Int))||(decide (((x114.length:Nat):Int)<1)))||(decide (((x115.length:Nat):Int)>4)))=true then
   some (.inr (.inr false))
  else
   (whl (λ (x:Int)=>DG n p0_ i_33 x) n 0).bind λ y138=>
   match y138 with
   | Sum.inl _=>
    some (.inl (Ak .i64 i_33 1))
   | Sum.inr y140=>
    some (.inr (.inr y140))
 else
  some (.inr (.inl ()))
def EC (n:Nat) (p0_:(List (List (List UInt8)))):Option Bool:=
 if ((decide (((p0_.length:Nat):Int)<1))||(decide (((p0_.length:Nat):Int)>6)))=true then
  some false
 else
  (whl (λ (x:Int)=>DH n p0_ x) n 0).bind λ y141=>
  match y141 with
  | Sum.inl _=>
   some true
  | Sum.inr y143=>
   some y143
def B5 (_:Nat) (text_1:Bool) (level_1:Bool) (rows_1:Bool) (tree_1:Bool) (picture_1:Bool) (page_1:Bool):Option Bool:=
 some (((((text_1&&level_1)&&rows_1)&&tree_1)&&picture_1)&&page_1)
def Ft (_:Nat) (p0_:(List Ai)) (p1_:Int) (x121:Ai) (_:Bool) (page_2:Bool) (k_23:Int):Option ((Bool×Int)⊕Bool):=
 if decide (k_23<p1_)=true then
  (if page_2=true then idx p0_ k_23 else some default).bind λ x124=>
  (if (page_2&&!(x124.Kind != 7))=true then idx p0_ k_23 else some default).bind λ x125=>
  some (.inl ((page_2&&((x124.Kind != 7)||(decide (x125.Page<x121.Page)))),(Ak .i64 k_23 1)))
 else
  some (.inr page_2)
def ME (n:Nat) (p0_:(List Ai)) (p1_:Int):Option Bool:=
 (idx p0_ p1_).bind λ x121=>
 (Kv n x121.Pic).bind λ r163=>
 if (x121.Kind==1)=true then
  (GG n x121.Text).bind λ r164=>
  B5 n r164 (x121.Level==0) (((x121.Rows.length:Nat):Int)==0) (((x121.F.length:Nat):Int)==0) r163 (x121.Page==0)
 else
  if (x121.Kind==2)=true then
   (GG n x121.Text).bind λ r165=>
   B5 n r165 ((decide (x121.Level>=1))&&(decide (x121.Level<=3))) (((x121.Rows.length:Nat):Int)==0) (((x121.F.length:Nat):Int)==0) r163 (x121.Page==0)
  else
   if (x121.Kind==3)=true then
    (EC n x121.Rows).bind λ r166=>
    B5 n (x121.Text==[]) (x121.Level==0) r166 (((x121.F.length:Nat):Int)==0) r163 (x121.Page==0)
   else
    if (x121.Kind==4)=true then
     (GG n x121.Text).bind λ r167=>
     (if (r167&&(decide (p1_>0)))=true then idx p0_ (AW .i64 p1_ 1) else some default).bind λ x122=>
     (if ((r167&&(decide (p1_>0)))&&!(x122.Kind==1))=true then idx p0_ (AW .i64 p1_ 1) else some default).bind λ x123=>
     B5 n ((r167&&(decide (p1_>0)))&&((x122.Kind==1)||(x123.Kind==4))) (x121.Level==0) (((x121.Rows.length:Nat):Int)==0) (((x121.F.length:Nat):Int)==0) r163 (x121.Page==0)
    else
     if (x121.Kind==5)=true then
      (E8 n x121.F).bind λ r168=>
      B5 n (x121.Text==[]) (x121.Level==0) (((x121.Rows.length:Nat):Int)==0) r168 r163 (x121.Page==0)
     else
      if (x121.Kind==6)=true then
       (D1 n x121.Pic).bind λ r169=>
       B5 n (x121.Text==[]) (x121.Level==0) (((x121.Rows.length:Nat):Int)==0) (((x121.F.length:Nat):Int)==0) r169 (x121.Page==0)
      else
       if (x121.Kind==7)=true then
        (whl (λ (x:(Bool×Int))=>Ft n p0_ p1_ x121 r163 x.1 x.2) n (((decide (x121.Page>=1))&&(decide (x121.Page<=9999))),0)).bind λ y144=>
        B5 n (x121.Text==[]) (x121.Level==0) (((x121.Rows.length:Nat):Int)==0) (((x121.F.length:Nat):Int)==0) r163 y144
       else
        some false
def Jl (_:Nat) (i_34:Int) (out_57:(List Ai)):Option (((List Ai)×Int)⊕(List Ai)):=
 some (.inl (out_57,(Ak .i64 i_34 1)))
def Gw (n:Nat) (p0_:(List Be)) (p1_:Int) (p2_:(List UInt8)) (out_55:(List Ai)) (i_34:Int):Option (((List Ai)×Int)⊕(List Ai)):=
 if ((decide (i_34<((p0_.length:Nat):Int)))&&(decide (i_34<p1_)))=true then
  (idx p0_ i_34).bind λ x126=>
  (MD n x126 p2_).bind λ r170=>
  (app 136 out_55 [r170]).bind λ l52=>
  (ME n l52 (AW .i64 ((l52.length:Nat):Int) 1)).bind λ r171=>
  if (!r171)=true then
   (sub l52 0 (AW .i64 ((l52.length:Nat):Int) 1)).bind λ l53=>
   Jl n i_34 l53
  else
   Jl n i_34 l52
 else
  some (.inr out_55)
def OK (n:Nat) (p0_:(List Be)) (p1_:Int) (p2_:(List UInt8)):Option (List Ai):=
 (whl (λ (x:((List Ai)×Int))=>Gw n p0_ p1_ p2_ x.1 x.2) n (([]:List Ai),0)).bind λ y145=>
 some y145
def OL (n:Nat) (p0_:(List Be)):Option (List Ai):=
 (OK n p0_ 5 [97,98,99]).bind λ r172=>
 some r172
def HE (_:Nat) (p0_:(List Ai)) (p1_:Int):Option Bool:=
 (if ((decide (p1_>=0))&&(decide (p1_<((p0_.length:Nat):Int))))=true then idx p0_ p1_ else some default).bind λ x127=>
 (if (((decide (p1_>=0))&&(decide (p1_<((p0_.length:Nat):Int))))&&!(x127.Kind==1))=true then idx p0_ p1_ else some default).bind λ x128=>
 (if (((decide (p1_>=0))&&(decide (p1_<((p0_.length:Nat):Int))))&&!((x127.Kind==1)||(x128.Kind==2)))=true then idx p0_ p1_ else some default).bind λ x129=>
 some (((decide (p1_>=0))&&(decide (p1_<((p0_.length:Nat):Int))))&&(((x127.Kind==1)||(x128.Kind==2))||(x129.Kind==4)))
def Jm (_:Nat) (i_35:Int) (l_3:(List Int)):Option (((List Int)×Int)⊕(List Int)):=
 some (.inl (l_3,(Ak .i64 i_35 1)))
def Gx (n:Nat) (p0_:(List Ai)) (_:AS) (_:(List UInt8)) (l_1:(List Int)) (i_35:Int):Option (((List Int)×Int)⊕(List Int)):=
 if decide (i_35<((p0_.length:Nat):Int))=true then
  (HE n p0_ i_35).bind λ r173=>
  if r173=true then
   (app 8 l_1 [i_35]).bind λ l54=>
   Jm n i_35 l54
  else
   Jm n i_35 l_1
 else
  some (.inr l_1)
def Jn (_:Nat) (c_4:Ab):Option Ab:=
 some c_4
def OM (n:Nat) (p0_:(List Ai)) (p1_:AS) (p2_:(List UInt8)):Option Ab:=
 (whl (λ (x:((List Int)×Int))=>Gx n p0_ p1_ p2_ x.1 x.2) n (([]:List Int),0)).bind λ y146=>
 if (((y146.length:Nat):Int)==0)=true then
  some ({ Block:=IntKind.i64.wrap p1_.Block,At:=0,Cut:=0,Put:=[] }:Ab)
 else
  (BM (!(((y146.length:Nat):Int)==0))).bind λ _=>
  (idx y146 (Am (IntKind.i64.wrap p1_.Block) ((y146.length:Nat):Int))).bind λ x130=>
  (idx p0_ x130).bind λ x131=>
  (BM (!((Ak .i64 ((x131.Text.length:Nat):Int) 1)==0))).bind λ _=>
  (BM (!((Ak .i64 (AW .i64 ((x131.Text.length:Nat):Int) (Am (IntKind.i64.wrap p1_.At) (Ak .i64 ((x131.Text.length:Nat):Int) 1))) 1)==0))).bind λ _=>
  if decide (((p1_.Put.length:Nat):Int)>0)=true then
   (Iq n p1_.Put 4 p2_).bind λ r174=>
   Jn n ({ Block:=x130,At:=Am (IntKind.i64.wrap p1_.At) (Ak .i64 ((x131.Text.length:Nat):Int) 1),Cut:=Am (IntKind.i64.wrap (Am p1_.Cut 4)) (Ak .i64 (AW .i64 ((x131.Text.length:Nat):Int) (Am (IntKind.i64.wrap p1_.At) (Ak .i64 ((x131.Text.length:Nat):Int) 1))) 1),Put:=r174 }:Ab)
  else
   Jn n ({ Block:=x130,At:=Am (IntKind.i64.wrap p1_.At) (Ak .i64 ((x131.Text.length:Nat):Int) 1),Cut:=Am (IntKind.i64.wrap (Am p1_.Cut 4)) (Ak .i64 (AW .i64 ((x131.Text.length:Nat):Int) (Am (IntKind.i64.wrap p1_.At) (Ak .i64 ((x131.Text.length:Nat):Int) 1))) 1),Put:=[] }:Ab)
def ED (n:Nat) (p0_:(List Ai)) (p1_:(List AS)) (p2_:Int) (out_58:(List AH)) (i_38:Int):Option (((List AH)×Int)⊕(List AH)):=
 if ((decide (i_38<((p1_.length:Nat):Int)))&&(decide (i_38<p2_)))=true then
  (idx p1_ i_38).bind λ x136=>
  (idx p1_ i_38).bind λ x137=>
  (OM n p0_ x137 [97,98,99]).bind λ r200=>
  (app 48 out_58 [({ Reader:=IntKind.i64.wrap (Ds .u8 x136.Cut 64),C:=r200 }:AH)]).bind λ l57=>
  some (.inl (l57,(Ak .i64 i_38 1)))
 else
  some (.inr out_58)
def Kw (n:Nat) (p0_:(List Ai)) (p1_:(List AS)) (p2_:Int):Option (List AH):=
 (whl (λ (x:((List AH)×Int))=>ED n p0_ p1_ p2_ x.1 x.2) n (([]:List AH),0)).bind λ y153=>
 some y153
def D2 (_:Nat) (p0_:Ab) (p1_:Ab):Option Bool:=
 some ((p0_.Block==p1_.Block)&&(decide (Ak .i64 p0_.At p0_.Cut<=p1_.At)))
def GH (n:Nat) (p0_:Ab) (p1_:Ab):Option Bool:=
 (if (!(p0_.Block != p1_.Block))=true then D2 n p0_ p1_ else some default).bind λ r201=>
 (if (!(p0_.Block != p1_.Block))=true then D2 n p1_ p0_ else some default).bind λ r202=>
 some ((p0_.Block != p1_.Block)||(!(r201==r202)))
def Lr (_:Nat) (p0_:Ab) (p1_:Ab):Option Bool:=
 if (p0_.Block != p1_.Block)=true then
  some (decide (p0_.Block<p1_.Block))
 else
  some ((decide (p0_.At<p1_.At))||((p0_.At==p1_.At)&&(decide (p0_.Cut<p1_.Cut))))
def DK (_:Nat) (p1_:Ab) (o0_:(List Ab)) (i_41:Int):Option (Int⊕(Unit⊕(List Ab))):=
 if decide (i_41<((o0_.length:Nat):Int))=true then
  (idx o0_ i_41).bind λ x141=>
  if ((x141.Block==p1_.Block)&&((x141.At==p1_.At)&&((x141.Cut==p1_.Cut)&&((x141.Put==p1_.Put)&&true))))=true then
   some (.inr (.inr o0_))
  else
   some (.inl (Ak .i64 i_41 1))
 else
  some (.inr (.inl ()))
def FW (_:Nat) (o0_:(List Ab)) (i_42:Int) (out_66:(List Ab)) (done_6:Bool):Option (((List Ab)×Bool×Int)⊕((List Ab)×Bool)):=
 (idx o0_ i_42).bind λ x142=>
 (app 40 out_66 [x142]).bind λ l61=>
 some (.inl (l61,done_6,(Ak .i64 i_42 1)))
def DL (n:Nat) (p1_:Ab) (o0_:(List Ab)) (out_64:(List Ab)) (done_4:Bool) (i_42:Int):Option (((List Ab)×Bool×Int)⊕((List Ab)×Bool)):=
 if decide (i_42<((o0_.length:Nat):Int))=true then
  (if (!done_4)=true then idx o0_ i_42 else some default).bind λ x143=>
  (if (!done_4)=true then Lr n p1_ x143 else some default).bind λ r204=>
  if ((!done_4)&&r204)=true then
   (app 40 out_64 [p1_]).bind λ l62=>
   FW n o0_ i_42 l62 true
  else
   FW n o0_ i_42 out_64 done_4
 else
  some (.inr (out_64,done_4))
def FX (_:Nat) (out_67:(List Ab)):Option (List Ab):=
 some out_67
def Jo (n:Nat) (p1_:Ab) (o0_:(List Ab)):Option (List Ab):=
 (whl (λ (x:Int)=>DK n p1_ o0_ x) n 0).bind λ y158=>
 match y158 with
 | Sum.inl _=>
  (whl (λ (x:((List Ab)×Bool×Int))=>DL n p1_ o0_ x.1 x.2.1 x.2.2) n (([]:List Ab),false,0)).bind λ y161=>
  if (!y161.2)=true then
   (app 40 y161.1 [p1_]).bind λ l63=>
   FX n l63
  else
   FX n y161.1
 | Sum.inr y160=>
  some y160
def G1 (_:Nat) (i_43:Int) (out_70:(List Ab)):Option (((List Ab)×Int)⊕(List Ab)):=
 some (.inl (out_70,(Ak .i64 i_43 1)))
def EE (n:Nat) (p0_:(List AH)) (_:(List Ab)) (i_43:Int) (free_9:Bool) (k_24:Int):Option ((Bool×Int)⊕Bool):=
 if decide (k_24<((p0_.length:Nat):Int))=true then
  (if free_9=true then idx p0_ i_43 else some default).bind λ x144=>
  (if free_9=true then idx p0_ k_24 else some default).bind λ x145=>
  (if (free_9&&!((x144.C.Block==x145.C.Block)&&((x144.C.At==x145.C.At)&&((x144.C.Cut==x145.C.Cut)&&((x144.C.Put==x145.C.Put)&&true)))))=true then idx p0_ i_43 else some default).bind λ x146=>
  (if (free_9&&!((x144.C.Block==x145.C.Block)&&((x144.C.At==x145.C.At)&&((x144.C.Cut==x145.C.Cut)&&((x144.C.Put==x145.C.Put)&&true)))))=true then idx p0_ k_24 else some default).bind λ x147=>
  (if (free_9&&!((x144.C.Block==x145.C.Block)&&((x144.C.At==x145.C.At)&&((x144.C.Cut==x145.C.Cut)&&((x144.C.Put==x145.C.Put)&&true)))))=true then GH n x146.C x147.C else some default).bind λ r205=>
  some (.inl ((free_9&&(((x144.C.Block==x145.C.Block)&&((x144.C.At==x145.C.At)&&((x144.C.Cut==x145.C.Cut)&&((x144.C.Put==x145.C.Put)&&true))))||r205)),(Ak .i64 k_24 1)))
 else
  some (.inr free_9)
def EF (n:Nat) (p0_:(List AH)) (out_68:(List Ab)) (i_43:Int):Option (((List Ab)×Int)⊕(List Ab)):=
 if decide (i_43<((p0_.length:Nat):Int))=true then
  (whl (λ (x:(Bool×Int))=>EE n p0_ out_68 i_43 x.1 x.2) n (true,0)).bind λ y162=>
  if y162=true then
   (idx p0_ i_43).bind λ x148=>
   (Jo n x148.C out_68).bind λ r206=>
   G1 n i_43 r206
  else
   G1 n i_43 out_68
 else
  some (.inr out_68)
def HF (n:Nat) (p0_:(List AH)):Option (List Ab):=
 (whl (λ (x:((List Ab)×Int))=>EF n p0_ x.1 x.2) n (([]:List Ab),0)).bind λ y163=>
 some y163
def Jp (_:Nat) (c_5:Ab):Option (Ab×Bool):=
 some (c_5,true)
def Ls (n:Nat) (p0_:Ab) (p1_:Ab):Option (Ab×Bool):=
 (GH n p0_ p1_).bind λ r207=>
 if (!r207)=true then
  some (({ Block:=0,At:=0,Cut:=0,Put:=[] }:Ab),false)
 else
  (D2 n p1_ p0_).bind λ r208=>
  if r208=true then
   Jp n ({ Block:=p0_.Block,At:=Ak .i64 p0_.At (AW .i64 ((p1_.Put.length:Nat):Int) p1_.Cut),Cut:=p0_.Cut,Put:=p0_.Put }:Ab)
  else
   Jp n p0_
def Fu (n:Nat) (p1_:(List Ab)) (c_6:Ab) (i_44:Int):Option ((Ab×Int)⊕(Ab⊕(Ab×Int×Bool))):=
 if decide (i_44<((p1_.length:Nat):Int))=true then
  (idx p1_ i_44).bind λ x149=>
  (Ls n c_6 x149).bind λ r209=>
  if (!r209.2)=true then
   some (.inr (.inr (({ Block:=0,At:=0,Cut:=0,Put:=[] }:Ab),i_44,false)))
  else
   some (.inl (r209.1,(Ak .i64 i_44 1)))
 else
  some (.inr (.inl c_6))
def MF (n:Nat) (p0_:Ab) (p1_:(List Ab)):Option (Ab×Int×Bool):=
 (whl (λ (x:(Ab×Int))=>Fu n p1_ x.1 x.2) n (p0_,0)).bind λ y164=>
 match y164 with
 | Sum.inl y165=>
  some (y165,((p1_.length:Nat):Int),true)
 | Sum.inr y166=>
  some y166
def Jq (_:Nat) (k_25:Int) (v_13:Af):Option ((Af×Int)⊕Af):=
 some (.inl (v_13,(Ak .i64 k_25 1)))
def Jr (n:Nat) (p0_:(List AH)) (_:(List Ab)) (i_45:Int) (v_11:Af) (k_25:Int):Option ((Af×Int)⊕Af):=
 if decide (k_25<((p0_.length:Nat):Int))=true then
  (idx p0_ i_45).bind λ x150=>
  (idx p0_ k_25).bind λ x151=>
  (if (!((x150.C.Block==x151.C.Block)&&((x150.C.At==x151.C.At)&&((x150.C.Cut==x151.C.Cut)&&((x150.C.Put==x151.C.Put)&&true)))))=true then idx p0_ i_45 else some default).bind λ x152=>
  (if (!((x150.C.Block==x151.C.Block)&&((x150.C.At==x151.C.At)&&((x150.C.Cut==x151.C.Cut)&&((x150.C.Put==x151.C.Put)&&true)))))=true then idx p0_ k_25 else some default).bind λ x153=>
  (if (!((x150.C.Block==x151.C.Block)&&((x150.C.At==x151.C.At)&&((x150.C.Cut==x151.C.Cut)&&((x150.C.Put==x151.C.Put)&&true)))))=true then GH n x152.C x153.C else some default).bind λ r211=>
  if ((!((x150.C.Block==x151.C.Block)&&((x150.C.At==x151.C.At)&&((x150.C.Cut==x151.C.Cut)&&((x150.C.Put==x151.C.Put)&&true)))))&&(!r211))=true then
   (app 16 v_11.Quarrels [({ a0:=i_45,a1:=k_25 }:(BF Int))]).bind λ l64=>
   Jq n k_25 ({ Agreed:=v_11.Agreed,Quarrels:=l64 }:Af)
  else
   Jq n k_25 v_11
 else
  some (.inr v_11)
def Gy (n:Nat) (p0_:(List AH)) (r210:(List Ab)) (v_9:Af) (i_45:Int):Option ((Af×Int)⊕Af):=
 if decide (i_45<((p0_.length:Nat):Int))=true then
  (whl (λ (x:(Af×Int))=>Jr n p0_ r210 i_45 x.1 x.2) n (v_9,(Ak .i64 i_45 1))).bind λ y167=>
  some (.inl (y167,(Ak .i64 i_45 1)))
 else
  some (.inr v_9)
def Gz (n:Nat) (r210:(List Ab)) (v_14:Af) (i_46:Int):Option ((Af×Int)⊕Af):=
 if decide (i_46<((r210.length:Nat):Int))=true then
  (idx r210 i_46).bind λ x154=>
  (MF n x154 v_14.Agreed).bind λ r212=>
  (app 40 v_14.Agreed [r212.1]).bind λ l65=>
  some (.inl (({ Agreed:=l65,Quarrels:=v_14.Quarrels }:Af),(Ak .i64 i_46 1)))
 else
  some (.inr v_14)
def ON (n:Nat) (p0_:(List AH)):Option Af:=
 (HF n p0_).bind λ r210=>
 (whl (λ (x:(Af×Int))=>Gy n p0_ r210 x.1 x.2) n (({ Agreed:=([]:List Ab),Quarrels:=([]:List (BF Int)) }:Af),0)).bind λ y168=>
 (whl (λ (x:(Af×Int))=>Gz n r210 x.1 x.2) n (y168,0)).bind λ y169=>
 some y169
def CL (_:Nat) (_:Bool) (_:(List AH)) (r216:Af) (_:(List Ab)) (i_47:Int) (in_1:Bool) (k_26:Int):Option ((Bool×Int)⊕Bool):=
 if decide (k_26<((r216.Quarrels.length:Nat):Int))=true then
  (if (!in_1)=true then idx r216.Quarrels k_26 else some default).bind λ x155=>
  (if (!(in_1||(x155.a0==i_47)))=true then idx r216.Quarrels k_26 else some default).bind λ x156=>
  some (.inl (((in_1||(x155.a0==i_47))||(x156.a1==i_47)),(Ak .i64 k_26 1)))
 else
  some (.inr in_1)
def CM (_:Nat) (_:Bool) (r215:(List AH)) (_:Af) (r219:(List Ab)) (i_47:Int) (_:Bool) (agreed_4:Bool) (k_27:Int):Option ((Bool×Int)⊕Bool):=
 if decide (k_27<((r219.length:Nat):Int))=true then
  (if (!agreed_4)=true then idx r219 k_27 else some default).bind λ x157=>
  (if (!agreed_4)=true then idx r215 i_47 else some default).bind λ x158=>
  some (.inl ((agreed_4||((x157.Block==x158.C.Block)&&((x157.At==x158.C.At)&&((x157.Cut==x158.C.Cut)&&((x157.Put==x158.C.Put)&&true))))),(Ak .i64 k_27 1)))
 else
  some (.inr agreed_4)
def CN (n:Nat) (r213:Bool) (r215:(List AH)) (r216:Af) (r219:(List Ab)) (i_47:Int):Option (Int⊕(Unit⊕Bool)):=
 if decide (i_47<((r215.length:Nat):Int))=true then
  (whl (λ (x:(Bool×Int))=>CL n r213 r215 r216 r219 i_47 x.1 x.2) n (false,0)).bind λ y170=>
  (whl (λ (x:(Bool×Int))=>CM n r213 r215 r216 r219 i_47 y170 x.1 x.2) n (false,0)).bind λ y171=>
  if (y170==y171)=true then
   some (.inr (.inr false))
  else
   some (.inl (Ak .i64 i_47 1))
 else
  some (.inr (.inl ()))
noncomputable def FY (n:Nat) (p0_:(List Be)) (p1_:(List AS)):Option Bool:=
 (Hx n).bind λ r213=>
 (OL n p0_).bind λ r214=>
 (Kw n r214 p1_ 6).bind λ r215=>
 (Kr n r215).bind λ r216=>
 (ON n r215).bind λ r217=>
 (Lm n r216 r217).bind λ r218=>
 if (!r218)=true then
  some false
 else
  (HF n r215).bind λ r219=>
  (whl (λ (x:Int)=>CN n r213 r215 r216 r219 x) n 0).bind λ y172=>
  match y172 with
  | Sum.inl _=>
   some ((((r216.Agreed.length:Nat):Int)==((r219.length:Nat):Int))&&r213)
  | Sum.inr y174=>
   some y174
end Go.AI
end
section
namespace Go.AI
open Go.Proofs
set_option maxRecDepth 10000
theorem xok (n kl:Nat):XOK Tryz.prog (cxk n kl):=⟨tyOK,rfl⟩
theorem fO (k:Nat) (s:St) {fn:Func} {f:FuncId} {args:List AV} {r:AV} (hf:Tryz.prog.funcs[f]? = some fn) (h:WP (cxk k 0) (Av fn) [] (V1 (cxk k 0).ty fn.results.toList r) s) (hb:fn.body=some (Av fn):=by kernel_rfl) (hnm:(fn.name == "runtime.NumGoroutine")=false:=by kernel_rfl) (hnt:(cxk k 0).nt.n=fn.ntmps:=by kernel_rfl) (hlen:Nat.ble args.length fn.ntmps=true:=by kernel_rfl) (hs:(⟨(List.range args.length).zip args,[]⟩:St)=s:=by kernel_rfl):Aq Tryz.prog f args r:=fo follows (Jf7 k 0) hf h hb hnm hnt hlen hs
theorem fL (k nb:Nat) (s:St) {fn:Func} {f:FuncId} {args:List AV} {O0 O1:List (Option Ob)} {r:AV} (hf:Tryz.prog.funcs[f]? = some fn) (h:WP (cxk k nb) (Av fn) [] (V2 nb (cxk k nb).ty fn.results.toList r O1) s) (hb:fn.body=some (Av fn):=by kernel_rfl) (hnm:(fn.name == "runtime.NumGoroutine")=false:=by kernel_rfl) (hnt:(cxk k nb).nt=⟨fn.ntmps,[],nb,qfT⟩:=by kernel_rfl) (hlen:Nat.ble args.length fn.ntmps=true:=by kernel_rfl) (hs:(⟨(List.range args.length).zip args,O0⟩:St)=s:=by kernel_rfl):BL Tryz.prog f args O0 nb r O1:=fl follows (Jf7 k nb) hf h hb hnm hnt hlen hs
theorem yok (n kl:Nat):YOK Tryz.prog (cxk n kl):=⟨rfl⟩
variable {n:Nat}
def Ad (x:Ab):List D:=[.int .i64 x.Block,.int .i64 x.At,.int .i64 x.Cut,.str x.Put]
def AC (x:Ao):List D:=[.int .i64 x.Op,.int .i64 x.N]
def Ac (x:Aa):List D:=[.int .i64 x.X,.int .i64 x.Y]
def Aw (x:Ax):List D:=[.int .i64 x.Kind,.int .i64 x.Texture,.sl (x.P.map Ac)]
def AD (x:Ai):List D:=[.int .i64 x.Kind,.int .i64 x.Level,.str x.Text,.sl (x.Rows.map (eL eS)),.sl (x.F.map AC),.int .i64 x.Pic.W,.int .i64 x.Pic.H,.int .i64 x.Pic.Gap,.sl (x.Pic.F.map Aw),.int .i64 x.Page]
def AU (x:AH):List D:=[.int .i64 x.Reader,.int .i64 x.C.Block,.int .i64 x.C.At,.int .i64 x.C.Cut,.str x.C.Put]
@[reducible] def AY {α:Type} (e:α->List D) (x:BF α):List D:=e x.a0++e x.a1
def Jli (x:RO):List D:=[.int .u8 x.Kind,.int .u8 x.N,.sl (x.L.map (AY eU8))]
@[reducible] def JC {α:Type} (e:α->List D) (x:Wf α):List D:=e x.a0++e x.a1++e x.a2++e x.a3++e x.a4++e x.a5
def OO (x:Bs):List D:=[.int .u8 x.W,.int .u8 x.H,.int .u8 x.Gap,.sl (x.F.map (JC eU8))]
def BO (x:Be):List D:=[.int .u8 x.Kind,.int .u8 x.N,.sl (x.T.map eU8),.int .u8 x.F.Kind,.int .u8 x.F.N,.sl (x.F.L.map (AY eU8)),.int .u8 x.P.W,.int .u8 x.P.H,.int .u8 x.P.Gap,.sl (x.P.F.map (JC eU8))]
def Bc (x:AS):List D:=[.int .u8 x.Block,.int .u8 x.At,.int .u8 x.Cut,.sl (x.Put.map eU8)]
def Ba (x:Ab):List AV:=[.d (.int .i64 x.Block),.d (.int .i64 x.At),.d (.int .i64 x.Cut),.d (.str x.Put)]
def Uy (x:Ai):List AV:=[.d (.int .i64 x.Kind),.d (.int .i64 x.Level),.d (.str x.Text),.d (.sl (x.Rows.map (eL eS))),.d (.sl (x.F.map AC)),.d (.int .i64 x.Pic.W),.d (.int .i64 x.Pic.H),.d (.int .i64 x.Pic.Gap),.d (.sl (x.Pic.F.map Aw)),.d (.int .i64 x.Page)]
def AG (x:Ag):List AV:=[.d (.int .i64 x.W),.d (.int .i64 x.H),.d (.int .i64 x.Gap),.d (.sl (x.F.map Aw))]
def DA (x:Ax):List AV:=[.d (.int .i64 x.Kind),.d (.int .i64 x.Texture),.d (.sl (x.P.map Ac))]
def ZS (x:RO):List AV:=[.d (.int .u8 x.Kind),.d (.int .u8 x.N),.d (.sl (x.L.map (AY eU8)))]
def JD (x:Bs):List AV:=[.d (.int .u8 x.W),.d (.int .u8 x.H),.d (.int .u8 x.Gap),.d (.sl (x.F.map (JC eU8)))]
def MG (x:Ag) (v3:AV):List AV:=[.d (.int .i64 x.W),.d (.int .i64 x.H),.d (.int .i64 x.Gap),v3]
def Iu (x:Be):List AV:=[.d (.int .u8 x.Kind),.d (.int .u8 x.N),.d (.sl (x.T.map eU8)),.d (.int .u8 x.F.Kind),.d (.int .u8 x.F.N),.d (.sl (x.F.L.map (AY eU8))),.d (.int .u8 x.P.W),.d (.int .u8 x.P.H),.d (.int .u8 x.P.Gap),.d (.sl (x.P.F.map (JC eU8)))]
def GA (x:Ai) (v3:AV) (v4:AV) (v8:AV):List AV:=[.d (.int .i64 x.Kind),.d (.int .i64 x.Level),.d (.str x.Text),v3,v4,.d (.int .i64 x.Pic.W),.d (.int .i64 x.Pic.H),.d (.int .i64 x.Pic.Gap),v8,.d (.int .i64 x.Page)]
def DM (x:AS):List AV:=[.d (.int .u8 x.Block),.d (.int .u8 x.At),.d (.int .u8 x.Cut),.d (.sl (x.Put.map eU8))]
section
variable (p0_:Int) (p1_:Int) (p2_:(List UInt8))
def Jg0:St:=⟨(0,.d (.int .i64 p0_))::(1,.d (.int .i64 p1_))::(2,.d (.str p2_))::[],[]⟩
variable {p0_ p1_ p2_}
theorem Az {z} (H:AL n p0_ p1_ p2_=some z):Aq Tryz.prog 27 [.d (.int .i64 p0_),.d (.int .i64 p1_),.d (.str p2_)] (.agg [.d (.int .i64 z.Block),.d (.int .i64 z.At),.d (.int .i64 z.Cut),.d (.str z.Put)]):=by
 exact fO 11 (Jg0 p0_ p1_ p2_) Tryz.func27 (sr (ck 1 (en (sr (ck 5 (en (re (by cases H;exact pr rd))))))))
end
section
variable (p0_:Int)
def Jg1:St:=⟨(0,.d (.int .u8 p0_))::[],[]⟩
variable {p0_}
theorem MH {z} (H:FU n p0_=some z):Aq Tryz.prog 67 [.d (.int .u8 p0_)] (.d (.bool z)):=by
 exact fO 12 (Jg1 p0_) Tryz.func67 (sr (ck 1 (en (sr (ck 3 (en (sr (ck 4 (gc 1 (decide (32<=Ed .u8 p0_ 127)) (pA (ck 1 (en (re (by cases H;exact pr rd))))))))))))))
end
section
variable (p0_:(List UInt8)) (x_1:Int)
def Jg2:St:=⟨(0,.d (.str p0_))::[],[]⟩
def Jg3:St:=⟨(0,.d (.str p0_))::(6,.d (.int .i64 ((p0_.length:Nat):Int)))::(7,.d (.int .i64 x_1))::[],[]⟩
def Jg4:St:=⟨(0,.d (.str p0_))::[],[]⟩
def SX:(Unit⊕(Int×Int))->Ex->St->Prop:=xS (xX 0 0 (λ (y:Unit)=>Jg4 p0_)) (xR ty Tryz.f46 (λ (y:(Int×Int))=>.tup [.d (.int .i64 y.1),.d (.int .i64 y.2)]))
def L8:Int->St:=(λ (x:Int)=>Jg3 p0_ x)
variable {p0_ x_1}
theorem Kx (x:Int) (z:(Int⊕(Unit⊕(Int×Int)))) (H:Ht n p0_ x=some z):WP (cxk 19 0) (Av Tryz.f46) [1,0,1,0,0] (As 0 (L8 p0_) (SX p0_) z) (L8 p0_ x):=by
 revert H
 generalize x=x_1
 intro H
 refine sr (ck 1 (en (sq (cn H (λ H=>?_) (λ H=>?_)))))
 ·refine sk (qz (sq (bk 1 (sr (ck 2 (en (sr (ck 2 (bx H λ b1 h1 H=>sp (Gf h1) (bx H λ r1 h2 H=>ca false (MH h2) (ck 1 (en (cn H (λ H=>?_) (λ H=>?_))))))))))))))
  ·exact sr (ck 3 (en (re (qR (qr (by cases H;exact ro rfl rdT))))))
  ·exact sk (qN (qz (rz (ck 2 (ae (by cases H;exact og (sg [0,6,7])))))))
 ·exact ex 0 (qx (by cases H;exact xo rfl (sg [0])))
theorem Wg {z} (H:Nz n p0_=some z):Aq Tryz.prog 46 [.d (.str p0_)] (.tup [.d (.int .i64 z.1),.d (.int .i64 z.2)]):=by
 refine fO 19 (Jg2 p0_) Tryz.func46 (sr (ck 2 (en (sq (sr (ck 3 (en (bk 0 (bx H λ y1 h3 H=>?_)))))))))
 rcases y1 with y2|y3
 ·exact lX Kx h3 (sg [0,6,7]) rfl λ s hE1=>qH (qs (hE1) (sr (ck 4 (en (re (by cases H;exact pr rdT))))))
 ·exact lR Kx h3 (sg [0,6,7]) rfl λ s hE2=>qR (qr (by cases H;exact pr hE2))
end
section
variable (p0_:Int)
def Jg5:St:=⟨(0,.d (.int .u8 p0_))::[],[]⟩
variable {p0_}
theorem Uz {z} (H:Ll n p0_=some z):Aq Tryz.prog 47 [.d (.int .u8 p0_)] (.d (.int .i64 z)):=by
 refine fO 30 (Jg5 p0_) Tryz.func47 (sr (ck 1 (en (sr (ck 3 (en (sq (bk 0 (sr (ck 4 (gc 1 (decide (97<=Ed .u8 p0_ 127)) (pA (ck 1 (en (cn H (λ H=>?_) (λ H=>?_))))))))))))))))
 ·exact sr (ck 1 (en (re (qR (qr (by cases H;exact pr rd))))))
 ·refine sr (ck 4 (gc 1 (decide (65<=Ed .u8 p0_ 127)) (pA (ck 1 (en (cn H (λ H=>?_) (λ H=>?_)))))))
  ·exact sr (ck 1 (en (re (qR (qr (by cases H;exact pr rd))))))
  ·refine sr (ck 4 (gc 1 (decide (48<=Ed .u8 p0_ 127)) (pA (ck 1 (en (cn H (λ H=>?_) (λ H=>?_)))))))
   ·exact sr (ck 1 (en (re (qR (qr (by cases H;exact pr rd))))))
   ·refine sr (ck 3 (en (cn H (λ H=>?_) (λ H=>?_))))
    ·exact sr (ck 1 (en (re (qR (qr (by cases H;exact pr rd))))))
    ·exact sk (qN (qz (sr (ck 1 (en (re (by cases H;exact pr rd)))))))
end
section
variable (p0_:(List UInt8)) (last_1:Int) (x_2:Int) (last_2:Int)
def Jg6:St:=⟨(0,.d (.str p0_))::[],[]⟩
def Jg7:St:=⟨(0,.d (.str p0_))::(5,.d (.int .i64 last_1))::(24,.d (.int .i64 ((p0_.length:Nat):Int)))::(25,.d (.int .i64 x_2))::[],[]⟩
def Jg8:St:=⟨(5,.d (.int .i64 last_2))::[],[]⟩
def RQ:(Int⊕Bool)->Ex->St->Prop:=xS (xX 0 0 (λ (y:Int)=>Jg8 y)) (xR ty Tryz.f31 (λ (y:Bool)=>.d (.bool y)))
def Ky:(Int×Int)->St:=(λ (x:(Int×Int))=>Jg7 p0_ x.1 x.2)
variable {p0_ last_1 x_2 last_2}
theorem JE (x:(Int×Int)) (z:((Int×Int)⊕(Int⊕Bool))) (H:Gg n p0_ x.1 x.2=some z):WP (cxk 46 0) (Av Tryz.f31) [1,1,1,1,0,1,0,0] (As 0 (Ky p0_) (RQ) z) (Ky p0_ x):=by
 obtain ⟨last_1,x_2⟩:=x
 refine sr (ck 1 (en (sq (cn H (λ H=>?_) (λ H=>?_)))))
 ·refine sk (qz (sq (bk 1 (sr (ck 2 (en (sr (ck 2 (bx H λ b2 h5 H=>sp (Gf h5) (bx H λ r3 h6 H=>ca false (Uz h6) (ck 1 (en (sq (sr (ck 4 (gc 2 (r3==4) (ck 1 (gc 1 ((r3==4)&&!(last_1==0)) (pG (g:=(r3==4)) (v:=.d (.bool ((last_1==0)||(last_1==4)))) (λ hg=>CV (c:=.gv (r3==4) (.d (.bool (last_1==0)))) (a:=.d (.bool true)) (b:=.gv ((r3==4)&&!(last_1==0)) (.d (.bool (last_1==4)))) rfl rfl rfl ((λ hh=>hh) hg) trivial (λ ht=>by rw [(λ hh=>hh) hg,ht];rfl)) (pA (en (cn H (λ H=>?_) (λ H=>?_)))))))))))))))))))))))
  ·exact sr (ck 1 (en (re (qr (qR (qr (by cases H;exact ro rfl rd)))))))
  ·exact sk (qz (rz (ck 2 (ae (qN (qz (rz (ck 2 (ae (by cases H;exact og (sg [0,5,24,25])))))))))))
 ·exact ex 0 (qx (by cases H;exact xo rfl (sg [5])))
theorem UA {z} (H:Il n p0_=some z):Aq Tryz.prog 31 [.d (.str p0_)] (.d (.bool z)):=by
 refine fO 46 (Jg6 p0_) Tryz.func31 (sr (ck 1 (en (sq (sr (ck 5 (gc 2 (!(decide (((p0_.length:Nat):Int)<1))) (pO (en (cn H (λ H=>?_) (λ H=>?_)))))))))))
 ·exact sr (ck 1 (en (re (qr (by cases H;exact pr rd)))))
 ·refine sk (qz (sq (sr (ck 1 (bx H λ r2 h4 H=>ca false (Wg h4) (ck 5 (en (sr (ck 2 (en (cn H (λ H=>?_) (λ H=>?_))))))))))))
  ·exact sr (ck 1 (en (re (qr (by cases H;exact pr rd)))))
  ·refine sk (qz (sr (ck 1 (en (sq (sr (ck 3 (en (bk 0 (bx H λ y4 h7 H=>?_))))))))))
   rcases y4 with y5|y6
   ·exact lX JE h7 (sg [0,5,24,25]) rfl λ s hE3=>qH (qs (hE3) (sr (ck 3 (en (re (by cases H;exact pr rd))))))
   ·exact lR JE h7 (sg [0,5,24,25]) rfl λ s hE4=>qR (qr (by cases H;exact pr hE4))
end
section
variable (p0_:(List Ai))
def Jg9:St:=⟨(0,.d (.sl (p0_.map AD)))::[],[]⟩
variable {p0_}
theorem SY {z} (H:GN n p0_=some z):Aq Tryz.prog 32 [.d (.sl (p0_.map AD))] (.own 10 (z.map AD)):=by
 refine fO 8 (Jg9 p0_) Tryz.func32 (sr (ck 1 (en (sq (sq (rn 1 (.refl _) (ck 1 ?_)))))))
 have hD:=Jby H
 refine nd0 (nl (yok _ _) (xok _ _) (xs:=p0_) (enc:=AD) (λ b3 h8=>?_))
 have H:=hD b3 h8
 refine en (cn H (λ H=>?_) (λ H=>?_))
 ·exact sr (ck 1 (en (re (qr (by cases H;exact pr (rO (v:=.d (.nil)) [] (ad vz)))))))
 ·exact sk (qz (sr (ck 2 (bx H λ l1 h9 H=>sp (XI AD 0 10 h9) (ck 1 (en (re (by cases H;exact pr (rO (v:=.osl 1 10 0 (z.length)) [1] (ao vo))))))))))
end
section
variable (p0_:(List Ai)) (p1_:Ab) (x1:Ai) (x_3:Bool)
def Jha:St:=⟨(0,.d (.sl (p0_.map AD)))::(1,.agg [.d (.int .i64 p1_.Block),.d (.int .i64 p1_.At),.d (.int .i64 p1_.Cut),.d (.str p1_.Put)])::[],[]⟩
def Jhb:St:=⟨(0,.d (.sl (p0_.map AD)))::(3,.ptr 0 0)::(6,.ptr 1 0)::(26,.d (.bool x_3))::[],[some (.box (Ba p1_)),some (.box (Uy x1))]⟩
variable {p0_ p1_ x1 x_3}
theorem NC {z} (H:Im n p0_ p1_=some z):Aq Tryz.prog 11 [.d (.sl (p0_.map AD)),.agg (Ba p1_)] (.tup [.own 10 (z.1.map AD),.d (.int .i64 z.2)]):=by
 refine fO 86 (Jha p0_ p1_) Tryz.func11 (sr (ck 3 (en (sq (sr (ck 5 (gc 1 (!(decide (p1_.Block<0))) (ck 1 (sE (g:=(!(decide (p1_.Block<0)))) (λ hg=>Au AD p0_) (gc 1 (!(decide (p1_.Block<0))) (pO (en (cn H (λ H=>?_) (λ H=>?_))))))))))))))
 ·exact sr (ck 2 (en (re (qr (by cases H;exact pr (rT (vs:=[.d (.nil),.d (.int .i64 320)]) [] (t1 (ad vz) (t1 (ad vd) (t0)))))))))
 ·refine sk (qz (sr (ck 3 (bx H λ x1 h10 H=>sp (Aj AD h10) (ck 3 (en (sq (sr (ck 2 (en (bk 0 (sj (λ (x:Bool)=>Jhb p0_ p1_ x1 x) (λ (x:Bool)=>Di n p0_ p1_ x1 x) z ?_ (λ hFCa_Apply_J1=>?_)))))))))))))
  ·intro x_3 H
   refine cn H (λ H=>?_) (λ H=>?_)
   ·refine sk (qN (qz (sr (ck 4 (en (sq (sr (ck 5 (gc 2 (!(decide (p1_.At<0))) (pO (ck 2 (gc 1 (!((decide (p1_.At<0))||(decide (p1_.Cut<0)))) (ck 1 (gc 1 (!((decide (p1_.At<0))||(decide (p1_.Cut<0)))) (pO (ck 2 (gc 1 (!(((decide (p1_.At<0))||(decide (p1_.Cut<0)))||(decide (p1_.At>((x1.Text.length:Nat):Int))))) (ck 2 (gc 3 (!(((decide (p1_.At<0))||(decide (p1_.Cut<0)))||(decide (p1_.At>((x1.Text.length:Nat):Int))))) (pO (en (cn H (λ H=>?_) (λ H=>?_)))))))))))))))))))))))
    ·exact sr (ck 2 (en (re (qr (by cases H;exact pr (rT (vs:=[.d (.nil),.d (.int .i64 320)]) [] (t1 (ad vz) (t1 (ad vd) (t0)))))))))
    ·refine sk (qz (sr (ck 4 (bx H λ s1 h11 H=>sp (Ny h11) (ck 2 (bx H λ s2 h12 H=>sp (Us h12) (ck 7 (bx H λ s3 h13 H=>sp (Ny h13) (bx H λ s4 h14 H=>sp (Us h14) (ck 2 (en (sq (sr (ck 2 (bx H λ r4 h15 H=>ca false (UA h15) (ck 1 (en (cn H (λ H=>?_) (λ H=>?_)))))))))))))))))))
     ·exact sr (ck 2 (en (re (qr (by cases H;exact pr (rT (vs:=[.d (.nil),.d (.int .i64 320)]) [] (t1 (ad vz) (t1 (ad vd) (t0)))))))))
     ·exact sk (qz (sr (ck 1 (bx H λ r5 h16 H=>cl [List.length r5] (SY h16) (ck 1 (en (sr (ck 4 (bx H λ x2 h17 H=>sp (Bm 2 10 h17) (bx H λ l2 h18 H=>stA AD 2 0 (ty 67) h17 h18 (en (sq (rg (tr (tr (sn 79 2 10 (DD h18)) (sn 8 2 10 (DD h18))) (sn 80 2 10 (DD h18))) (ck 3 (en (re (by cases H;exact pr (rT (vs:=[.osl 2 10 0 (l2.length),.d (.int .i64 0)]) [2] (t1 (ao vo) (t1 (ad vd) (t0)))))))))))))))))))))
   ·exact sr (ck 2 (en (re (qR (qr (by cases H;exact pr (rT (vs:=[.d (.nil),.d (.int .i64 320)]) [] (t1 (ad vz) (t1 (ad vd) (t0))))))))))
  refine sr (ck 2 (en (cn H (λ H=>?_) (λ H=>?_))))
  ·exact sk (qs (sg [0,3,6,26]) (hFCa_Apply_J1 (x1.Kind==1) H))
  ·refine sr (ck 2 (en (cn H (λ H=>?_) (λ H=>?_))))
   ·exact sk (qs (sg [0,3,6,26]) (hFCa_Apply_J1 (x1.Kind==2) H))
   ·exact rz (ck 2 (ae (qs (sg [0,3,6,26]) (hFCa_Apply_J1 (x1.Kind==4) H))))
end
section
variable (p0_:Ab) (p1_:Ab)
def Jhc:St:=⟨(0,.agg [.d (.int .i64 p0_.Block),.d (.int .i64 p0_.At),.d (.int .i64 p0_.Cut),.d (.str p0_.Put)])::(1,.agg [.d (.int .i64 p1_.Block),.d (.int .i64 p1_.At),.d (.int .i64 p1_.Cut),.d (.str p1_.Put)])::[],[]⟩
variable {p0_ p1_}
theorem H7 {z} (H:E4 n p0_ p1_=some z):Aq Tryz.prog 37 [.agg (Ba p0_),.agg (Ba p1_)] (.d (.bool z)):=by
 exact fO 20 (Jhc p0_ p1_) Tryz.func37 (sr (ck 3 (en (sr (ck 7 (gc 1 (p0_.Block==p1_.Block) (ck 1 (gc 1 (p0_.Block==p1_.Block) (ck 1 (gc 3 (p0_.Block==p1_.Block) (pA (ck 1 (en (re (by cases H;exact pr rd)))))))))))))))
end
section
variable (p0_:Ab) (p1_:Ab)
def Jhd:St:=⟨(0,.agg [.d (.int .i64 p0_.Block),.d (.int .i64 p0_.At),.d (.int .i64 p0_.Cut),.d (.str p0_.Put)])::(1,.agg [.d (.int .i64 p1_.Block),.d (.int .i64 p1_.At),.d (.int .i64 p1_.Cut),.d (.str p1_.Put)])::[],[]⟩
variable {p0_ p1_}
theorem PU {z} (H:Kk n p0_ p1_=some z):Aq Tryz.prog 36 [.agg (Ba p0_),.agg (Ba p1_)] (.d (.bool z)):=by
 exact fO 19 (Jhd p0_ p1_) Tryz.func36 (sr (ck 3 (en (sr (ck 8 (bx H λ r6 h19 H=>cG false (leZ) rfl (λ hg=>H7 (A5 h19 hg)) (Or.inl rfl) (BU (λ hh=>hh) (BU (λ hh=>hh) (CY))) rfl (ck 2 (bx H λ r7 h20 H=>cG false (leZ) rfl (λ hg=>H7 (A5 h20 hg)) (Or.inl rfl) (BU (λ hh=>hh) (BU (λ hh=>hh) (CY))) rfl (gc 1 (!(p0_.Block != p1_.Block)) (pO (ck 1 (en (re (by cases H;exact pr rd))))))))))))))
end
section
variable (p0_:Ab) (p1_:Ab) (c_1:Ab)
def Jhe:St:=⟨(0,.agg [.d (.int .i64 p0_.Block),.d (.int .i64 p0_.At),.d (.int .i64 p0_.Cut),.d (.str p0_.Put)])::(1,.agg [.d (.int .i64 p1_.Block),.d (.int .i64 p1_.At),.d (.int .i64 p1_.Cut),.d (.str p1_.Put)])::[],[]⟩
def Jhf:St:=⟨(2,.ptr 0 0)::(4,.ptr 1 0)::[],[some (.box (Ba c_1)),some (.box [.d (.int .i64 0),.d (.int .i64 0),.d (.int .i64 0),.d (.str [])])]⟩
variable {p0_ p1_ c_1}
theorem D3 {z} (H:Dx n p0_ p1_=some z):Aq Tryz.prog 15 [.agg (Ba p0_),.agg (Ba p1_)] (.tup [.agg [.d (.int .i64 z.1.Block),.d (.int .i64 z.1.At),.d (.int .i64 z.1.Cut),.d (.str z.1.Put)],.d (.bool z.2)]):=by
 refine fO 25 (Jhe p0_ p1_) Tryz.func15 (sr (ck 4 (en (sq (sr (ck 2 (bx H λ r8 h21 H=>ca false (PU h21) (ck 1 (en (cn H (λ H=>?_) (λ H=>?_)))))))))))
 ·exact sr (ck 3 (en (re (qr (by cases H;exact pr rdT)))))
 ·refine sk (qz (sj (λ (x:Ab)=>Jhf x) (λ (x:Ab)=>Kl n x) z ?_ (λ hFCa_Over_J1=>?_)))
  ·intro c_1 H
   exact sr (ck 3 (en (re (by cases H;exact pr rdT))))
  refine sr (ck 2 (bx H λ r9 h22 H=>ca false (H7 h22) (en (cn H (λ H=>?_) (λ H=>?_)))))
  ·exact rz (ck 11 (ae (qs (sg [2,4]) (hFCa_Over_J1 ({ Block:=p0_.Block,At:=Ak .i64 p0_.At (AW .i64 ((p1_.Put.length:Nat):Int) p1_.Cut),Cut:=p0_.Cut,Put:=p0_.Put }:Ab) H))))
  ·exact sk (qs (sg [2,4]) (hFCa_Over_J1 p0_ H))
end
section
variable (p0_:Int)
def Jhg:St:=⟨(0,.d (.int .i64 p0_))::[],[]⟩
variable {p0_}
theorem HG {z} (H:Eg n p0_=some z):Aq Tryz.prog 79 [.d (.int .i64 p0_)] (.d (.bool z)):=by
 exact fO 6 (Jhg p0_) Tryz.func79 (sr (ck 1 (en (sr (ck 4 (en (re (by cases H;exact pr rd))))))))
end
section
variable (p0_:Int) (p1_:Int)
def Jhh:St:=⟨(0,.d (.int .i64 p0_))::(1,.d (.int .i64 p1_))::[],[]⟩
variable {p0_ p1_}
theorem Dt {z} (H:B7 n p0_ p1_=some z):Aq Tryz.prog 56 [.d (.int .i64 p0_),.d (.int .i64 p1_)] (.d (.int .i64 z)):=by
 refine fO 20 (Jhh p0_ p1_) Tryz.func56 (sr (ck 1 (en (sr (ck 1 (bx H λ r10 h23 H=>ca false (HG h23) (ck 1 (en (sr (ck 1 (bx H λ r11 h24 H=>ca false (HG h24) (ck 1 (en (sq (sr (ck 1 (en (cn H (λ H=>?_) (λ H=>?_)))))))))))))))))))
 ·refine sq (sr (ck 1 (en (cn H (λ H=>?_) (λ H=>?_)))))
  ·exact sr (ck 1 (en (re (qr (qr (by cases H;exact pr rd))))))
  ·exact sk (qz (sr (ck 1 (en (re (qr (by cases H;exact pr rd)))))))
 ·refine sk (qz (sq (sr (ck 1 (en (cn H (λ H=>?_) (λ H=>?_)))))))
  ·exact sr (ck 1 (en (re (qr (by cases H;exact pr rd)))))
  ·refine sk (qz (sq (sr (ck 3 (en (cn H (λ H=>?_) (λ H=>?_)))))))
   ·exact sr (ck 1 (en (re (qr (by cases H;exact pr rd)))))
   ·refine sk (qz (sq (sr (ck 3 (en (cn H (λ H=>?_) (λ H=>?_)))))))
    ·exact sr (ck 1 (en (re (qr (by cases H;exact pr rd)))))
    ·exact sk (qz (sr (ck 1 (en (re (by cases H;exact pr rd))))))
end
section
variable (p0_:(List UInt8))
def Jhi:St:=⟨(0,.d (.str p0_))::[],[]⟩
variable {p0_}
theorem FH {z} (H:C2 n p0_=some z):Aq Tryz.prog 80 [.d (.str p0_)] (.d (.bool z)):=by
 exact fO 6 (Jhi p0_) Tryz.func80 (sr (ck 1 (en (sr (ck 4 (en (re (by cases H;exact pr rd))))))))
end
section
variable (p0_:(List UInt8)) (p1_:(List UInt8))
def Jhj:St:=⟨(0,.d (.str p0_))::(1,.d (.str p1_))::[],[]⟩
variable {p0_ p1_}
theorem Js {z} (H:Cs n p0_ p1_=some z):Aq Tryz.prog 57 [.d (.str p0_),.d (.str p1_)] (.d (.int .i64 z)):=by
 refine fO 20 (Jhj p0_ p1_) Tryz.func57 (sr (ck 1 (en (sr (ck 1 (bx H λ r12 h25 H=>ca false (FH h25) (ck 1 (en (sr (ck 1 (bx H λ r13 h26 H=>ca false (FH h26) (ck 1 (en (sq (sr (ck 1 (en (cn H (λ H=>?_) (λ H=>?_)))))))))))))))))))
 ·refine sq (sr (ck 1 (en (cn H (λ H=>?_) (λ H=>?_)))))
  ·exact sr (ck 1 (en (re (qr (qr (by cases H;exact pr rd))))))
  ·exact sk (qz (sr (ck 1 (en (re (qr (by cases H;exact pr rd)))))))
 ·refine sk (qz (sq (sr (ck 1 (en (cn H (λ H=>?_) (λ H=>?_)))))))
  ·exact sr (ck 1 (en (re (qr (by cases H;exact pr rd)))))
  ·refine sk (qz (sq (sr (ck 3 (en (cn H (λ H=>?_) (λ H=>?_)))))))
   ·exact sr (ck 1 (en (re (qr (by cases H;exact pr rd)))))
   ·refine sk (qz (sq (sr (ck 3 (en (cn H (λ H=>?_) (λ H=>?_)))))))
    ·exact sr (ck 1 (en (re (qr (by cases H;exact pr rd)))))
    ·exact sk (qz (sr (ck 1 (en (re (by cases H;exact pr rd))))))
end
section
variable (p0_:(List Int)) (x_4:Int)
def Jhk:St:=⟨(0,.d (.sl (p0_.map A1)))::[],[]⟩
def Jhl:St:=⟨(5,.d (.sl (p0_.map A1)))::(6,.d (.int .i64 ((p0_.length:Nat):Int)))::(7,.d (.int .i64 x_4))::[],[]⟩
def Jhm:St:=⟨[],[]⟩
def OP:(Unit⊕Int)->Ex->St->Prop:=xS (xX 0 0 (λ (y:Unit)=>Jhm)) (xR ty Tryz.f55 (λ (y:Int)=>.d (.int .i64 y)))
def Iv:Int->St:=(λ (x:Int)=>Jhl p0_ x)
variable {p0_ x_4}
theorem HH (x:Int) (z:(Int⊕(Unit⊕Int))) (H:GO n p0_ x=some z):WP (cxk 15 0) (Av Tryz.f55) [1,0,1,0,0] (As 0 (Iv p0_) (OP) z) (Iv p0_ x):=by
 revert H
 generalize x=x_4
 intro H
 refine sr (ck 1 (en (sq (cn H (λ H=>?_) (λ H=>?_)))))
 ·refine sk (qz (sq (bk 1 (sr (bx H λ x3 h27 H=>sp (Aj A1 h27) (ck 2 (en (sr (ck 2 (en (cn H (λ H=>?_) (λ H=>?_))))))))))))
  ·exact sr (ck 2 (en (re (qR (qr (by cases H;exact ro rfl rd))))))
  ·exact sk (qN (qz (rz (ck 2 (ae (by cases H;exact og (sg [5,6,7])))))))
 ·exact ex 0 (qx (by cases H;exact xo rfl (sg [])))
theorem RR {z} (H:Hu n p0_=some z):Aq Tryz.prog 55 [.d (.sl (p0_.map A1))] (.d (.int .i64 z)):=by
 refine fO 15 (Jhk p0_) Tryz.func55 (sr (ck 1 (en (sq (sr (ck 1 (sp (Au A1 p0_) (ck 1 (en (bk 0 (bx H λ y7 h28 H=>?_)))))))))))
 rcases y7 with y8|y9
 ·exact lX HH h28 (sg [5,6,7]) rfl λ s hE5=>qH (qs (hE5) (sr (ck 1 (en (re (by cases H;exact pr rd))))))
 ·exact lR HH h28 (sg [5,6,7]) rfl λ s hE6=>qR (qr (by cases H;exact pr hE6))
end
section
variable (p0_:Ab) (p1_:Ab)
def Jhn:St:=⟨(0,.agg [.d (.int .i64 p0_.Block),.d (.int .i64 p0_.At),.d (.int .i64 p0_.Cut),.d (.str p0_.Put)])::(1,.agg [.d (.int .i64 p1_.Block),.d (.int .i64 p1_.At),.d (.int .i64 p1_.Cut),.d (.str p1_.Put)])::[],[]⟩
variable {p0_ p1_}
theorem UB {z} (H:GD n p0_ p1_=some z):Aq Tryz.prog 39 [.agg (Ba p0_),.agg (Ba p1_)] (.d (.int .i64 z)):=by
 exact fO 27 (Jhn p0_ p1_) Tryz.func39 (sr (ck 3 (en (sr (ck 4 (bx H λ r14 h29 H=>ca false (Dt h29) (ck 4 (bx H λ r15 h30 H=>ca false (Dt h30) (ck 4 (bx H λ r16 h31 H=>ca false (Dt h31) (ck 4 (bx H λ r17 h32 H=>ca false (Js h32) (ck 1 (bx H λ r18 h33 H=>cb (ks:=[2]) (obl:=[(0+List.length [r14,r15,r16,r17],List.length (List.map A1 [r14,r15,r16,r17]))]) true (leK leM (leZ)) (Cy F4 rfl) (RR h33) (Or.inr trivial) rfl (ck 1 (en (re (by cases H;exact pr rd))))))))))))))))))
end
section
variable (p0_:Ab) (p1_:(List Ab)) (c_2:Ab) (x_5:Int) (c_3:Ab)
def Jho:St:=⟨(0,.agg [.d (.int .i64 p0_.Block),.d (.int .i64 p0_.At),.d (.int .i64 p0_.Cut),.d (.str p0_.Put)])::(1,.d (.sl (p1_.map Ad)))::[],[]⟩
def Jhp:St:=⟨(1,.d (.sl (p1_.map Ad)))::(2,.ptr 0 0)::(4,.ptr 1 0)::(11,.d (.sl (p1_.map Ad)))::(12,.d (.int .i64 ((p1_.length:Nat):Int)))::(13,.d (.int .i64 x_5))::[],[some (.box (Ba c_2)),some (.box [.d (.int .i64 0),.d (.int .i64 0),.d (.int .i64 0),.d (.str [])])]⟩
def Jhq:St:=⟨(1,.d (.sl (p1_.map Ad)))::(2,.ptr 0 0)::(4,.ptr 1 0)::[],[some (.box (Ba c_3)),some (.box [.d (.int .i64 0),.d (.int .i64 0),.d (.int .i64 0),.d (.str [])])]⟩
def RT:(Ab⊕(Ab×Int×Bool))->Ex->St->Prop:=xS (xX 0 0 (λ (y:Ab)=>Jhq p1_ y)) (xR ty Tryz.f28 (λ (y:(Ab×Int×Bool))=>.tup [.agg [.d (.int .i64 y.1.Block),.d (.int .i64 y.1.At),.d (.int .i64 y.1.Cut),.d (.str y.1.Put)],.d (.int .i64 y.2.1),.d (.bool y.2.2)]))
def Kz:(Ab×Int)->St:=(λ (x:(Ab×Int))=>Jhp p1_ x.1 x.2)
variable {p0_ p1_ c_2 x_5 c_3}
theorem JF (x:(Ab×Int)) (z:((Ab×Int)⊕(Ab⊕(Ab×Int×Bool)))) (H:Gh n p1_ x.1 x.2=some z):WP (cxk 33 0) (Av Tryz.f28) [1,0,1,0,0] (As 0 (Kz p1_) (RT p1_) z) (Kz p1_ x):=by
 obtain ⟨c_2,x_5⟩:=x
 refine sr (ck 1 (en (sq (cn H (λ H=>?_) (λ H=>?_)))))
 ·refine sk (qz (sq (bk 1 (sr (ck 1 (bx H λ x4 h34 H=>sp (Aj Ad h34) (ck 4 (en (sr (ck 2 (bx H λ r19 h35 H=>ca false (D3 h35) (ck 6 (en (sq (sr (ck 2 (en (cn H (λ H=>?_) (λ H=>?_)))))))))))))))))))
  ·exact sr (ck 5 (en (re (qr (qR (qr (by cases H;exact ro rfl rdT)))))))
  ·exact sk (qz (rz (ck 2 (ae (qN (qz (rz (ck 2 (ae (by cases H;exact og (sg [1,2,4,11,12,13])))))))))))
 ·exact ex 0 (qx (by cases H;exact xo rfl (sg [1,2,4])))
theorem NE {z} (H:Io n p0_ p1_=some z):Aq Tryz.prog 28 [.agg (Ba p0_),.d (.sl (p1_.map Ad))] (.tup [.agg [.d (.int .i64 z.1.Block),.d (.int .i64 z.1.At),.d (.int .i64 z.1.Cut),.d (.str z.1.Put)],.d (.int .i64 z.2.1),.d (.bool z.2.2)]):=by
 refine fO 33 (Jho p0_ p1_) Tryz.func28 (sr (ck 4 (en (sq (sr (ck 1 (sp (Au Ad p1_) (ck 1 (en (bk 0 (bx H λ y10 h36 H=>?_)))))))))))
 rcases y10 with y11|y12
 ·exact lX JF h36 (sg [1,2,4,11,12,13]) rfl λ s hE7=>qH (qs (hE7) (sr (ck 2 (sp (Au Ad p1_) (ck 3 (en (re (by cases H;exact pr rdT))))))))
 ·exact lR JF h36 (sg [1,2,4,11,12,13]) rfl λ s hE8=>qR (qr (by cases H;exact pr hE8))
end
theorem Wh {n:Nat} {o0_:(List Ab)} {z:(List Ab)} (H:RP n o0_=some z):BL Tryz.prog 38 [.osl 0 4 0 (o0_.length),.clo 39 []] [some (.arr 4 (o0_.map Ad))] 1 (.tup []) [some (.arr 4 (z.map Ad))]:=XO Tryz.laysSortF (by decide) Tryz.isAgg33 Tryz.sizeOf33 (enc:=Ad) (λ _=>rfl) (λ x d hd=>by simp only [Ad,List.mem_cons,List.not_mem_nil,or_false] at hd;rcases hd with rfl|rfl|rfl|rfl<;>rfl) (Uv Tryz.func39) (λ h=>UB h) ⟨_,_,Tryz.func38,rfl,rfl⟩ H
section
variable (o0_:(List Ab)) (x_6:(List Ab)) (x_7:(Nat×Nat)) (k_1:Int) (s_1:(List Ab)) (k_2:Int) (k2_1:Int) (s_2:(List Ab)) (k_3:Int) (s_3:(List Ab)) (k_4:Int)
def JbR:St:=⟨(0,.osl 0 4 0 (o0_.length))::[],[some (.arr 4 (o0_.map Ad))]⟩
def RU:St:=⟨(2,.osl 0 4 x_7.1 x_7.2)::[],[some (.arr 4 (x_6.map Ad))]⟩
def JbS:St:=⟨(0,.osl 0 4 0 (o0_.length))::(3,.d (.int .i64 k_1))::[],[some (.arr 4 (o0_.map Ad))]⟩
def JbT:St:=⟨(0,.osl 0 4 0 (o0_.length))::[],[some (.arr 4 (o0_.map Ad))]⟩
def JbU:St:=⟨(0,.osl 0 4 0 (s_1.length))::(3,.d (.int .i64 k_2))::(4,.osl 0 4 ((0+Int.toNat k_1,Int.toNat ((o0_.length:Nat):Int)-Int.toNat k_1):Nat×Nat).1 ((0+Int.toNat k_1,Int.toNat ((o0_.length:Nat):Int)-Int.toNat k_1):Nat×Nat).2)::(5,.d (.int .i64 k2_1))::[],[some (.arr 4 (s_1.map Ad))]⟩
def JbV:St:=⟨(0,.osl 0 4 0 (s_2.length))::(3,.d (.int .i64 k_3))::[],[some (.arr 4 (s_2.map Ad))]⟩
def JbW:St:=⟨(0,.osl 0 4 0 (s_3.length))::(3,.d (.int .i64 k_4))::(4,.osl 0 4 ((0+Int.toNat k_1,Int.toNat ((o0_.length:Nat):Int)-Int.toNat k_1):Nat×Nat).1 ((0+Int.toNat k_1,Int.toNat ((o0_.length:Nat):Int)-Int.toNat k_1):Nat×Nat).2)::(5,.d (.int .i64 k2_1))::[],[some (.arr 4 (s_3.map Ad))]⟩
def OQ:((List Ab)×Int)->Ex->St->Prop:=xX 1 2 (λ (y:((List Ab)×Int))=>JbV y.1 y.2)
def Iw:((List Ab)×Int×Int)->St:=(λ (x:((List Ab)×Int×Int))=>JbU o0_ k_1 x.1 x.2.1 x.2.2)
def OR:(Unit⊕((List Ab)×(Nat×Nat)))->Ex->St->Prop:=xS (xX 1 0 (λ (y:Unit)=>JbT o0_)) (xL 1 ty Tryz.f40 (λ (y:((List Ab)×(Nat×Nat)))=>.osl 0 4 y.2.1 y.2.2) (λ (y:((List Ab)×(Nat×Nat)))=>[some (.arr 4 (y.1.map Ad))]))
def Ix:Int->St:=(λ (x:Int)=>JbS o0_ x)
variable {o0_ x_6 x_7 k_1 s_1 k_2 k2_1 s_2 k_3 s_3 k_4}
theorem NF (x:((List Ab)×Int×Int)) (z:(((List Ab)×Int×Int)⊕((List Ab)×Int))) (H:GQ n o0_ k_1 x.1 x.2.1 x.2.2=some z):WP (cxk 61 1) (Av Tryz.f40) [1,1,0,1,0,0,1,0,0,1,0,1,0,1,0,0] (As 1 (Iw o0_ k_1) (OQ) z) (Iw o0_ k_1 x):=by
 obtain ⟨s_1,k_2,k2_1⟩:=x
 refine sq (sr (ck 4 (en (cn H (λ H=>?_) (λ H=>?_)))))
 ·refine sk (qz (sj (λ (x:((List Ab)×Int))=>JbW o0_ k_1 k2_1 x.1 x.2) (λ (x:((List Ab)×Int))=>GP n k2_1 x.1 x.2) z ?_ (λ hFApi_Change_J1=>?_)))
  ·rintro ⟨s_3,k_4⟩ H
   exact rz (ck 3 (ae (by cases H;exact og (sg [0,3,4,5]))))
  refine bk 3 (sr (ck 2 (bx H λ x7 h40 H=>sp (QH 0 4 ((0+Int.toNat k_1,Int.toNat ((o0_.length:Nat):Int)-Int.toNat k_1):Nat×Nat).1 ((0+Int.toNat k_1,Int.toNat ((o0_.length:Nat):Int)-Int.toNat k_1):Nat×Nat).2 (RJ h40)) (sp (Ut Ad 0 0 (ty 33) (QI h40)) (ck 3 (bx H λ x8 h41 H=>sp (QH 0 4 ((0+Int.toNat k_1,Int.toNat ((o0_.length:Nat):Int)-Int.toNat k_1):Nat×Nat).1 ((0+Int.toNat k_1,Int.toNat ((o0_.length:Nat):Int)-Int.toNat k_1):Nat×Nat).2 (RJ h41)) (sp (Ut Ad 0 0 (ty 33) (QI h41)) (ck 1 (en (cn H (λ H=>?_) (λ H=>?_)))))))))))
  ·exact sr (ck 4 (bx H λ x9 h42 H=>sp (QH 0 4 ((0+Int.toNat k_1,Int.toNat ((o0_.length:Nat):Int)-Int.toNat k_1):Nat×Nat).1 ((0+Int.toNat k_1,Int.toNat ((o0_.length:Nat):Int)-Int.toNat k_1):Nat×Nat).2 (RJ h42)) (sp (Ut Ad 0 0 (ty 33) (QI h42)) (bx H λ x10 h43 H=>sp (Bm 0 4 h43) (bx H λ l4 h44 H=>stA Ad 0 0 (ty 33) h43 h44 (en (rg (tr (sn 0 0 4 (DD h44)) (sn 45 0 4 (DD h44))) (ck 3 (ae (qN (qs (sg [0,3,4,5]) (hFApi_Change_J1 (l4,(Ak .i64 k_2 1)) H))))))))))))
  ·exact sk (qN (qs (sg [0,3,4,5]) (hFApi_Change_J1 (s_1,k_2) H)))
 ·exact ex 2 (qx (by cases H;exact xo rfl (sg [0,3])))
theorem HI (x:Int) (z:(Int⊕(Unit⊕((List Ab)×(Nat×Nat))))) (H:GS n o0_ x=some z):WP (cxk 61 1) (Av Tryz.f40) [1,1,0,1,0,0] (As 1 (Ix o0_) (OR o0_) z) (Ix o0_ x):=by
 revert H
 generalize x=k_1
 intro H
 refine sq (sr (ck 4 (en (cn H (λ H=>?_) (λ H=>?_)))))
 ·refine sk (qz (sq (bk 1 (sr (ck 2 (bx H λ x5 h37 H=>sp (Bm 0 4 h37) (sp (B4 Ad 0 0 (ty 33) h37) (ck 3 (bx H λ x6 h38 H=>sp (Bm 0 4 h38) (sp (B4 Ad 0 0 (ty 33) h38) (ck 1 (en (cn H (λ H=>?_) (λ H=>?_))))))))))))))
  ·exact sr (ck 2 (bx H λ l3 h39 H=>sp (Mx 0 4 h39) (ck 1 (en (sq (sr (ck 1 (en (bk 2 (bx H λ y13 h45 H=>lX NF h45 (sg [0,3,4,5]) rfl λ s hE9=>qH (qs (hE9) (sr (ck 2 (bx H λ l5 h46 H=>sp (Mx 0 4 h46) (bx H λ l6 h47 H=>xzP (xok _ _) Ad 0 4 ((0+Int.toNat y13.2,Int.toNat ((y13.1.length:Nat):Int)-Int.toNat y13.2):Nat×Nat).1 ((0+Int.toNat y13.2,Int.toNat ((y13.1.length:Nat):Int)-Int.toNat y13.2):Nat×Nat).2 h47 (en (sq (rg (tr (sn 0 0 4 (Wc h47)) (sn 54 0 4 (Wc h47))) (ck 2 (bx H λ l7 h48 H=>sp (Mx 0 4 h48) (ck 1 (en (re (qR (qr (by cases H;exact lo rfl (rl (s':=RU l6 ((0+Int.toNat 0,Int.toNat y13.2-Int.toNat 0):Nat×Nat)) (sg [2]))))))))))))))))))))))))))))
  ·exact sk (qN (qz (rz (ck 3 (ae (by cases H;exact og (sg [0,3])))))))
 ·exact ex 0 (qx (by cases H;exact xo rfl (sg [0])))
theorem RV {z} (H:Km n o0_=some z):BL Tryz.prog 40 [.osl 0 4 0 (o0_.length)] [some (.arr 4 (o0_.map Ad))] 1 (.osl 0 4 z.2.1 z.2.2) [some (.arr 4 (z.1.map Ad))]:=by
 refine fL 61 1 (JbR o0_) Tryz.func40 (sr (ck 1 (en (sq (sr (ck 3 (en (cn H (λ H=>?_) (λ H=>?_)))))))))
 ·exact sr (ck 2 (en (re (qr (by cases H;exact pL (rl (s':=RU o0_ ((0,List.length o0_):Nat×Nat)) (sg [2])))))))
 ·refine sk (qz (sq (sr (ck 1 (en (bk 0 (bx H λ y14 h49 H=>?_)))))))
  rcases y14 with y15|y16
  ·exact lX HI h49 (sg [0,3]) rfl λ s hE10=>qH (qs (hE10) (sr (ck 2 (en (re (by cases H;exact pL (rl (s':=RU o0_ ((0,List.length o0_):Nat×Nat)) (sg [2]))))))))
  ·exact lL HI h49 (sg [0,3]) rfl λ s hE11=>qR (qr (by cases H;exact pL hE11))
end
section
variable (p0_:(List AH)) (v_1:Af) (loud_1:(List Bool)) (x_8:Int) (v_2:Af) (loud_2:(List Bool)) (v_3:Af) (loud_3:(List Bool)) (j_1:Int) (v_4:Af) (loud_4:(List Bool)) (v_5:Af) (loud_5:(List Bool)) (y18:(Af×(List Bool))) (agreed_1:(List Ab)) (x_9:Int) (agreed_2:(List Ab)) (agreed_3:(List Ab)) (r22:((List Ab)×(Nat×Nat))) (v_6:Af) (x_10:Int) (v_7:Af) (v_8:Af)
def Jhr:St:=⟨(0,.d (.sl (p0_.map AU)))::[],[]⟩
def Jhs:St:=⟨(0,.d (.sl (p0_.map AU)))::(2,.ptr 0 0)::(3,.ptr 1 0)::(4,.osl 2 1 0 (loud_1.length))::(19,.d (.int .i64 ((p0_.length:Nat):Int)))::(20,.d (.int .i64 x_8))::[],[some (.box [.osl 3 4 0 (List.length ([]:List Ab)),.osl 4 2 0 (List.length ([]:List (BF Int)))]),some (.box [.osl 5 4 0 (v_1.Agreed.length),.osl 6 2 0 (v_1.Quarrels.length)]),some (.arr 1 (loud_1.map eB)),some (.arr 4 (List.map Ad ([]:List Ab))),some (.arr 2 (List.map (AY A1) ([]:List (BF Int)))),some (.arr 4 (v_1.Agreed.map Ad)),some (.arr 2 (v_1.Quarrels.map (AY A1)))]⟩
def Jht:St:=⟨(0,.d (.sl (p0_.map AU)))::(2,.ptr 0 0)::(3,.ptr 1 0)::(4,.osl 2 1 0 (loud_2.length))::[],[some (.box [.osl 3 4 0 (List.length ([]:List Ab)),.osl 4 2 0 (List.length ([]:List (BF Int)))]),some (.box [.osl 5 4 0 (v_2.Agreed.length),.osl 6 2 0 (v_2.Quarrels.length)]),some (.arr 1 (loud_2.map eB)),some (.arr 4 (List.map Ad ([]:List Ab))),some (.arr 2 (List.map (AY A1) ([]:List (BF Int)))),some (.arr 4 (v_2.Agreed.map Ad)),some (.arr 2 (v_2.Quarrels.map (AY A1)))]⟩
def Jhu:St:=⟨(0,.d (.sl (p0_.map AU)))::(2,.ptr 0 0)::(3,.ptr 1 0)::(4,.osl 2 1 0 (loud_3.length))::(5,.d (.int .i64 x_8))::(6,.d (.int .i64 j_1))::(19,.d (.int .i64 ((p0_.length:Nat):Int)))::(20,.d (.int .i64 x_8))::[],[some (.box [.osl 3 4 0 (List.length ([]:List Ab)),.osl 4 2 0 (List.length ([]:List (BF Int)))]),some (.box [.osl 5 4 0 (v_3.Agreed.length),.osl 6 2 0 (v_3.Quarrels.length)]),some (.arr 1 (loud_3.map eB)),some (.arr 4 (List.map Ad ([]:List Ab))),some (.arr 2 (List.map (AY A1) ([]:List (BF Int)))),some (.arr 4 (v_3.Agreed.map Ad)),some (.arr 2 (v_3.Quarrels.map (AY A1)))]⟩
def Jhv:St:=⟨(0,.d (.sl (p0_.map AU)))::(2,.ptr 0 0)::(3,.ptr 1 0)::(4,.osl 2 1 0 (loud_4.length))::(19,.d (.int .i64 ((p0_.length:Nat):Int)))::(20,.d (.int .i64 x_8))::[],[some (.box [.osl 3 4 0 (List.length ([]:List Ab)),.osl 4 2 0 (List.length ([]:List (BF Int)))]),some (.box [.osl 5 4 0 (v_4.Agreed.length),.osl 6 2 0 (v_4.Quarrels.length)]),some (.arr 1 (loud_4.map eB)),some (.arr 4 (List.map Ad ([]:List Ab))),some (.arr 2 (List.map (AY A1) ([]:List (BF Int)))),some (.arr 4 (v_4.Agreed.map Ad)),some (.arr 2 (v_4.Quarrels.map (AY A1)))]⟩
def Jhw:St:=⟨(0,.d (.sl (p0_.map AU)))::(2,.ptr 0 0)::(3,.ptr 1 0)::(4,.osl 2 1 0 (loud_5.length))::(5,.d (.int .i64 x_8))::(6,.d (.int .i64 j_1))::(19,.d (.int .i64 ((p0_.length:Nat):Int)))::(20,.d (.int .i64 x_8))::[],[some (.box [.osl 3 4 0 (List.length ([]:List Ab)),.osl 4 2 0 (List.length ([]:List (BF Int)))]),some (.box [.osl 5 4 0 (v_5.Agreed.length),.osl 6 2 0 (v_5.Quarrels.length)]),some (.arr 1 (loud_5.map eB)),some (.arr 4 (List.map Ad ([]:List Ab))),some (.arr 2 (List.map (AY A1) ([]:List (BF Int)))),some (.arr 4 (v_5.Agreed.map Ad)),some (.arr 2 (v_5.Quarrels.map (AY A1)))]⟩
def SZ:(Af×(List Bool))->Ex->St->Prop:=xX 0 2 (λ (y:(Af×(List Bool)))=>Jhv p0_ x_8 y.1 y.2)
def L9:(Af×(List Bool)×Int)->St:=(λ (x:(Af×(List Bool)×Int))=>Jhu p0_ x_8 x.1 x.2.1 x.2.2)
def S0:(Af×(List Bool))->Ex->St->Prop:=xX 0 0 (λ (y:(Af×(List Bool)))=>Jht p0_ y.1 y.2)
def Ma:(Af×(List Bool)×Int)->St:=(λ (x:(Af×(List Bool)×Int))=>Jhs p0_ x.1 x.2.1 x.2.2)
def Jhx:St:=⟨(2,.ptr 0 0)::(3,.ptr 1 0)::(4,.osl 2 1 0 (y18.2.length))::(7,.osl 3 4 0 (agreed_1.length))::(71,.d (.sl (p0_.map AU)))::(72,.d (.int .i64 ((p0_.length:Nat):Int)))::(73,.d (.int .i64 x_9))::[],[some (.box [.osl 4 4 0 (List.length ([]:List Ab)),.osl 5 2 0 (List.length ([]:List (BF Int)))]),some (.box [.osl 6 4 0 (y18.1.Agreed.length),.osl 7 2 0 (y18.1.Quarrels.length)]),some (.arr 1 (y18.2.map eB)),some (.arr 4 (agreed_1.map Ad)),some (.arr 4 (List.map Ad ([]:List Ab))),some (.arr 2 (List.map (AY A1) ([]:List (BF Int)))),some (.arr 4 (y18.1.Agreed.map Ad)),some (.arr 2 (y18.1.Quarrels.map (AY A1)))]⟩
def Jhy:St:=⟨(2,.ptr 0 0)::(3,.ptr 1 0)::(7,.osl 2 4 0 (agreed_2.length))::[],[some (.box [.osl 3 4 0 (List.length ([]:List Ab)),.osl 4 2 0 (List.length ([]:List (BF Int)))]),some (.box [.osl 5 4 0 (y18.1.Agreed.length),.osl 6 2 0 (y18.1.Quarrels.length)]),some (.arr 4 (agreed_2.map Ad)),some (.arr 4 (List.map Ad ([]:List Ab))),some (.arr 2 (List.map (AY A1) ([]:List (BF Int)))),some (.arr 4 (y18.1.Agreed.map Ad)),some (.arr 2 (y18.1.Quarrels.map (AY A1)))]⟩
def Jhz:St:=⟨(2,.ptr 0 0)::(3,.ptr 1 0)::(4,.osl 2 1 0 (y18.2.length))::(7,.osl 3 4 0 (agreed_3.length))::(71,.d (.sl (p0_.map AU)))::(72,.d (.int .i64 ((p0_.length:Nat):Int)))::(73,.d (.int .i64 x_9))::[],[some (.box [.osl 4 4 0 (List.length ([]:List Ab)),.osl 5 2 0 (List.length ([]:List (BF Int)))]),some (.box [.osl 6 4 0 (y18.1.Agreed.length),.osl 7 2 0 (y18.1.Quarrels.length)]),some (.arr 1 (y18.2.map eB)),some (.arr 4 (agreed_3.map Ad)),some (.arr 4 (List.map Ad ([]:List Ab))),some (.arr 2 (List.map (AY A1) ([]:List (BF Int)))),some (.arr 4 (y18.1.Agreed.map Ad)),some (.arr 2 (y18.1.Quarrels.map (AY A1)))]⟩
def S1:(List Ab)->Ex->St->Prop:=xX 0 4 (λ (y:(List Ab))=>Jhy y18 y)
def Mb:((List Ab)×Int)->St:=(λ (x:((List Ab)×Int))=>Jhx p0_ y18 x.1 x.2)
def JdR:St:=⟨(2,.ptr 0 0)::(3,.ptr 1 0)::(92,.osl 2 4 r22.2.1 r22.2.2)::(93,.d (.int .i64 ((r22.2.2:Nat):Int)))::(94,.d (.int .i64 x_10))::[],[some (.box [.osl 3 4 0 (List.length ([]:List Ab)),.osl 4 2 0 (List.length ([]:List (BF Int)))]),some (.box [.osl 5 4 0 (v_6.Agreed.length),.osl 6 2 0 (v_6.Quarrels.length)]),some (.arr 4 (r22.1.map Ad)),some (.arr 4 (List.map Ad ([]:List Ab))),some (.arr 2 (List.map (AY A1) ([]:List (BF Int)))),some (.arr 4 (v_6.Agreed.map Ad)),some (.arr 2 (v_6.Quarrels.map (AY A1)))]⟩
def JdS:St:=⟨(2,.ptr 0 0)::(3,.ptr 1 0)::[],[some (.box [.osl 2 4 0 (List.length ([]:List Ab)),.osl 3 2 0 (List.length ([]:List (BF Int)))]),some (.box [.osl 4 4 0 (v_7.Agreed.length),.osl 5 2 0 (v_7.Quarrels.length)]),some (.arr 4 (List.map Ad ([]:List Ab))),some (.arr 2 (List.map (AY A1) ([]:List (BF Int)))),some (.arr 4 (v_7.Agreed.map Ad)),some (.arr 2 (v_7.Quarrels.map (AY A1)))]⟩
def JdT:St:=⟨(2,.ptr 0 0)::(3,.ptr 1 0)::(92,.osl 2 4 r22.2.1 r22.2.2)::(93,.d (.int .i64 ((r22.2.2:Nat):Int)))::(94,.d (.int .i64 x_10))::[],[some (.box [.osl 3 4 0 (List.length ([]:List Ab)),.osl 4 2 0 (List.length ([]:List (BF Int)))]),some (.box [.osl 5 4 0 (v_8.Agreed.length),.osl 6 2 0 (v_8.Quarrels.length)]),some (.arr 4 (r22.1.map Ad)),some (.arr 4 (List.map Ad ([]:List Ab))),some (.arr 2 (List.map (AY A1) ([]:List (BF Int)))),some (.arr 4 (v_8.Agreed.map Ad)),some (.arr 2 (v_8.Quarrels.map (AY A1)))]⟩
def S2:Af->Ex->St->Prop:=xX 0 6 (λ (y:Af)=>JdS y)
def Mc:(Af×Int)->St:=(λ (x:(Af×Int))=>JdR r22 x.1 x.2)
variable {p0_ v_1 loud_1 x_8 v_2 loud_2 v_3 loud_3 j_1 v_4 loud_4 v_5 loud_5 y18 agreed_1 x_9 agreed_2 agreed_3 r22 v_6 x_10 v_7 v_8}
theorem RW (x:(Af×(List Bool)×Int)) (z:((Af×(List Bool)×Int)⊕(Af×(List Bool)))) (H:Ko n p0_ x_8 x.1 x.2.1 x.2.2=some z):WP (cxk 115 0) (Av Tryz.f17) [1,1,1,0,1,0,0,1,1,0,0,1,1,0,0] (As 0 (L9 p0_ x_8) (SZ p0_ x_8) z) (L9 p0_ x_8 x):=by
 obtain ⟨v_3,loud_3,j_1⟩:=x
 refine sq (sr (ck 2 (sp (Au AU p0_) (ck 1 (en (cn H (λ H=>?_) (λ H=>?_)))))))
 ·refine sk (qz (sj (λ (x:(Af×(List Bool)))=>Jhw p0_ x_8 j_1 x.1 x.2) (λ (x:(Af×(List Bool)))=>Kn n j_1 x.1 x.2) z ?_ (λ hFCa_Join_J1=>?_)))
  ·rintro ⟨v_5,loud_5⟩ H
   exact rz (ck 3 (ae (by cases H;exact og (sg [0,2,3,4,5,6,19,20]))))
  refine bk 3 (sr (ck 2 (bx H λ x11 h51 H=>sp (Aj AU h51) (ck 4 (bx H λ x12 h52 H=>sp (Aj AU h52) (ck 6 (bx H λ x13 h53 H=>sE (λ hg=>Aj AU (A5 h53 hg)) (gc 2 (!((x11.C.Block==x12.C.Block)&&((x11.C.At==x12.C.At)&&((x11.C.Cut==x12.C.Cut)&&((x11.C.Put==x12.C.Put)&&true))))) (ck 2 (bx H λ x14 h54 H=>sE (λ hg=>Aj AU (A5 h54 hg)) (gc 2 (!((x11.C.Block==x12.C.Block)&&((x11.C.At==x12.C.At)&&((x11.C.Cut==x12.C.Cut)&&((x11.C.Put==x12.C.Put)&&true))))) (bx H λ r20 h55 H=>cG false (leZ) rfl (λ hg=>PU (A5 h55 hg)) (Or.inl rfl) (BU (λ hh=>hh) (BU (λ hh=>hh) (CY))) rfl (gc 1 (!((x11.C.Block==x12.C.Block)&&((x11.C.At==x12.C.At)&&((x11.C.Cut==x12.C.Cut)&&((x11.C.Put==x12.C.Put)&&true))))) (pA (en (cn H (λ H=>?_) (λ H=>?_)))))))))))))))))
  ·exact sr (ck 6 (bx H λ l9 h56 H=>sp (A6 (AY A1) 6 2 h56) (ck 2 (en (rz (ck 4 (bx H λ x15 h57 H=>sp (Bm 2 1 h57) (bx H λ l10 h58 H=>stA eB 2 0 (ty 4) h57 h58 (bx H λ x16 h59 H=>sp (JdD 2 1 ((DD h58)) h59) (bx H λ l11 h60 H=>stA eB 2 0 (ty 4) h59 h60 (ae (qN (qs (tr (tr (tr (sn 4 2 1 (Eq.trans (DD h58) (DD h60))) (sn 64 2 1 (Eq.trans (DD h58) (DD h60)))) (sn 66 2 1 (Eq.trans (DD h58) (DD h60)))) (sg [0,2,3,4,5,6,19,20])) (hFCa_Join_J1 (({ Agreed:=v_3.Agreed,Quarrels:=l9 }:Af),l11) H))))))))))))))
  ·exact sk (qN (qs (sg [0,2,3,4,5,6,19,20]) (hFCa_Join_J1 (v_3,loud_3) H)))
 ·exact ex 2 (qx (by cases H;exact xo rfl (sg [0,2,3,4,19,20])))
theorem RX (x:(Af×(List Bool)×Int)) (z:((Af×(List Bool)×Int)⊕(Af×(List Bool)))) (H:Hv n p0_ x.1 x.2.1 x.2.2=some z):WP (cxk 115 0) (Av Tryz.f17) [1,1,1,0,1,0,0] (As 0 (Ma p0_) (S0 p0_) z) (Ma p0_ x):=by
 obtain ⟨v_1,loud_1,x_8⟩:=x
 refine sr (ck 1 (en (sq (cn H (λ H=>?_) (λ H=>?_)))))
 ·exact sk (qz (sq (bk 1 (sr (ck 2 (en (sr (ck 3 (en (bk 2 (bx H λ y17 h61 H=>lX RW h61 (sg [0,2,3,4,5,6,19,20]) rfl λ s hE12=>qH (qN (qs (hE12) (rz (ck 2 (ae (by cases H;exact og (sg [0,2,3,4,19,20]))))))))))))))))))
 ·exact ex 0 (qx (by cases H;exact xo rfl (sg [0,2,3,4])))
theorem RY (x:((List Ab)×Int)) (z:(((List Ab)×Int)⊕(List Ab))) (H:FF n p0_ y18 x.1 x.2=some z):WP (cxk 115 0) (Av Tryz.f17) [1,1,1,1,1,0,1,0,0] (As 0 (Mb p0_ y18) (S1 y18) z) (Mb p0_ y18 x):=by
 obtain ⟨agreed_1,x_9⟩:=x
 refine sr (ck 1 (en (sq (cn H (λ H=>?_) (λ H=>?_)))))
 ·refine sk (qz (sj (λ (x:(List Ab))=>Jhz p0_ y18 x_9 x) (λ (x:(List Ab))=>Kp n x_9 x) z ?_ (λ hFCa_Join_J2=>?_)))
  ·intro agreed_3 H
   exact rz (ck 2 (ae (by cases H;exact og (sg [2,3,4,7,71,72,73]))))
  refine bk 5 (sr (ck 1 (bx H λ x17 h63 H=>sp (Aj AU h63) (ck 4 (en (sr (ck 2 (bx H λ x18 h64 H=>sp (Bm 2 1 h64) (sp (B4 eB 2 0 (ty 4) h64) (ck 1 (en (cn H (λ H=>?_) (λ H=>?_)))))))))))))
  ·exact rz (ck 4 (bx H λ l12 h65 H=>sp (A6 Ad 3 4 h65) (ck 1 (ae (qN (qs (sg [2,3,4,7,71,72,73]) (hFCa_Join_J2 l12 H)))))))
  ·exact sk (qN (qs (sg [2,3,4,7,71,72,73]) (hFCa_Join_J2 agreed_1 H)))
 ·exact ex 4 (qx (by cases H;exact xo rfl (sg [2,3,7])))
theorem RZ (x:(Af×Int)) (z:((Af×Int)⊕Af)) (H:Hw n r22 x.1 x.2=some z):WP (cxk 115 0) (Av Tryz.f17) [1,1,1,1,1,1,1,0,1,0,0] (As 0 (Mc r22) (S2) z) (Mc r22 x):=by
 obtain ⟨v_6,x_10⟩:=x
 refine sr (ck 1 (en (sq (cn H (λ H=>?_) (λ H=>?_)))))
 ·refine sk (qz (sj (λ (x:Af)=>JdT r22 x_10 x) (λ (x:Af)=>Kq n x_10 x) z ?_ (λ hFCa_Join_J3=>?_)))
  ·intro v_8 H
   exact rz (ck 2 (ae (by cases H;exact og (sg [2,3,92,93,94]))))
  refine bk 7 (sr (bx H λ x19 h70 H=>sp (QH 2 4 r22.2.1 r22.2.2 (RJ h70)) (sp (Ut Ad 2 0 (ty 33) (QI h70)) (ck 2 (en (sr (ck 3 (bx H λ r23 h71 H=>cb (ks:=[5]) (obl:=[(0+List.length v_6.Agreed,List.length (v_6.Agreed.map Ad))]) false (leK leM (leZ)) (Cy rfl (Cy F4 rfl)) (NE h71) (Or.inr ⟨⟨trivial,⟨trivial,⟨trivial,⟨trivial,trivial⟩⟩⟩⟩,⟨trivial,⟨trivial,trivial⟩⟩⟩) rfl (ck 8 (en (sr (ck 1 (en (cn H (λ H=>?_) (λ H=>?_)))))))))))))))
  ·exact rz (ck 4 (bx H λ l13 h72 H=>sp (A6 Ad 5 4 h72) (ck 2 (ae (qN (qs (sg [2,3,92,93,94]) (hFCa_Join_J3 ({ Agreed:=l13,Quarrels:=v_6.Quarrels }:Af) H)))))))
  ·exact sk (qN (qs (sg [2,3,92,93,94]) (hFCa_Join_J3 v_6 H)))
 ·exact ex 6 (qx (by cases H;exact xo rfl (sg [2,3])))
theorem PV {z} (H:Kr n p0_=some z):Aq Tryz.prog 17 [.d (.sl (p0_.map AU))] (.agg [.own 4 (z.Agreed.map Ad),.own 2 (z.Quarrels.map (AY A1))]):=by
 exact fO 115 (Jhr p0_) Tryz.func17 (sr (ck 1 (en (sr (ck 1 (en (sr (ck 1 (sp (Au AU p0_) (bx H λ l8 h50 H=>sp (JkJ eB 1 h50) (ck 1 (en (sq (sr (ck 1 (sp (Au AU p0_) (ck 1 (en (bk 0 (bx H λ y18 h62 H=>lX RX h62 (tr (tr (tr (tr (Bj 0 0 4 (by kernel_rfl)) (Bj 0 1 2 (by kernel_rfl))) (Bj 1 0 4 (by kernel_rfl))) (Bj 1 1 2 (by kernel_rfl))) (sg [0,2,3,4,19,20])) rfl λ s hE13=>qH (qs (hE13) (sr (ck 1 (en (sq (sr (ck 1 (sp (Au AU p0_) (ck 1 (en (bk 4 (bx H λ y19 h66 H=>lX RY h66 (tr (AR.nilo 7 4 (by kernel_rfl)) (sg [2,3,4,7,71,72,73])) rfl λ s hE14=>qH (qs (hE14) (sr (ck 1 (bx H λ r21 h67 H=>lt [2] (Wh h67) (bx H λ _ h68 H=>en (sq (sq (rg (tr (sn 7 2 4 (TH h68)) (sn 89 2 4 (TH h68))) (ck 1 (bx H λ r22 h69 H=>lt [2] (RV h69) (ck 2 (en (bk 6 (bx H λ y20 h73 H=>lX RZ h73 (sg [2,3,92,93,94]) rfl λ s hE15=>qH (qs (hE15) (sr (ck 2 (en (re (by cases H;exact pr (rO (v:=.agg [.osl 4 4 0 (z.Agreed.length),.osl 5 2 0 (z.Quarrels.length)]) [4,5] (a1 (c1 vo (c1 vo (c0)))))))))))))))))))))))))))))))))))))))))))))))))))))))))
end
section
variable (p0_:(List Ao)) (p1_:(List Ao)) (i_1:Int)
def JhA:St:=⟨(0,.d (.sl (p0_.map AC)))::(1,.d (.sl (p1_.map AC)))::[],[]⟩
def JhB:St:=⟨(0,.d (.sl (p0_.map AC)))::(1,.d (.sl (p1_.map AC)))::(5,.d (.int .i64 i_1))::[],[]⟩
def JhC:St:=⟨[],[]⟩
def R0:(Unit⊕Bool)->Ex->St->Prop:=xS (xX 0 0 (λ (y:Unit)=>JhC)) (xR ty Tryz.f50 (λ (y:Bool)=>.d (.bool y)))
def KA:Int->St:=(λ (x:Int)=>JhB p0_ p1_ x)
variable {p0_ p1_ i_1}
theorem JG (x:Int) (z:(Int⊕(Unit⊕Bool))) (H:Gi n p0_ p1_ x=some z):WP (cxk 26 0) (Av Tryz.f50) [1,1,0,1,0,0] (As 0 (KA p0_ p1_) (R0) z) (KA p0_ p1_ x):=by
 revert H
 generalize x=i_1
 intro H
 refine sq (sr (ck 2 (sp (Au AC p0_) (ck 1 (en (cn H (λ H=>?_) (λ H=>?_)))))))
 ·refine sk (qz (sq (bk 1 (sr (ck 2 (bx H λ x20 h74 H=>sp (Aj AC h74) (ck 3 (bx H λ x21 h75 H=>sp (Aj AC h75) (ck 2 (en (cn H (λ H=>?_) (λ H=>?_))))))))))))
  ·exact sr (ck 1 (en (re (qR (qr (by cases H;exact ro rfl rd))))))
  ·exact sk (qN (qz (rz (ck 3 (ae (by cases H;exact og (sg [0,1,5])))))))
 ·exact ex 0 (qx (by cases H;exact xo rfl (sg [])))
theorem UC {z} (H:OE n p0_ p1_=some z):Aq Tryz.prog 50 [.d (.sl (p0_.map AC)),.d (.sl (p1_.map AC))] (.d (.bool z)):=by
 refine fO 26 (JhA p0_ p1_) Tryz.func50 (sr (ck 1 (en (sq (sr (ck 1 (sp (Au AC p0_) (ck 1 (sp (Au AC p1_) (ck 1 (en (cn H (λ H=>?_) (λ H=>?_)))))))))))))
 ·exact sr (ck 1 (en (re (qr (by cases H;exact pr rd)))))
 ·refine sk (qz (sq (sr (ck 1 (en (bk 0 (bx H λ y21 h76 H=>?_)))))))
  rcases y21 with y22|y23
  ·exact lX JG h76 (sg [0,1,5]) rfl λ s hE16=>qH (qs (hE16) (sr (ck 1 (en (re (by cases H;exact pr rd))))))
  ·exact lR JG h76 (sg [0,1,5]) rfl λ s hE17=>qR (qr (by cases H;exact pr hE17))
end
section
variable (p0_:(List (List (List UInt8)))) (p1_:(List (List (List UInt8)))) (i_2:Int) (k_5:Int)
def JhD:St:=⟨(0,.d (.sl (p0_.map (eL eS))))::(1,.d (.sl (p1_.map (eL eS))))::[],[]⟩
def JhE:St:=⟨(0,.d (.sl (p0_.map (eL eS))))::(1,.d (.sl (p1_.map (eL eS))))::(5,.d (.int .i64 i_2))::[],[]⟩
def JhF:St:=⟨[],[]⟩
def JhG:St:=⟨(0,.d (.sl (p0_.map (eL eS))))::(1,.d (.sl (p1_.map (eL eS))))::(5,.d (.int .i64 i_2))::(6,.d (.int .i64 k_5))::[],[]⟩
def JhH:St:=⟨(0,.d (.sl (p0_.map (eL eS))))::(1,.d (.sl (p1_.map (eL eS))))::(5,.d (.int .i64 i_2))::[],[]⟩
def MI:(Unit⊕Bool)->Ex->St->Prop:=xS (xX 0 2 (λ (y:Unit)=>JhH p0_ p1_ i_2)) (xR ty Tryz.f51 (λ (y:Bool)=>.d (.bool y)))
def G2:Int->St:=(λ (x:Int)=>JhG p0_ p1_ i_2 x)
def MJ:(Unit⊕Bool)->Ex->St->Prop:=xS (xX 0 0 (λ (y:Unit)=>JhF)) (xR ty Tryz.f51 (λ (y:Bool)=>.d (.bool y)))
def G3:Int->St:=(λ (x:Int)=>JhE p0_ p1_ x)
variable {p0_ p1_ i_2 k_5}
theorem F5 (x:Int) (z:(Int⊕(Unit⊕Bool))) (H:Dj n p0_ p1_ i_2 x=some z):WP (cxk 53 0) (Av Tryz.f51) [1,1,0,1,0,0,1,0,0,1,1,0,0] (As 0 (G2 p0_ p1_ i_2) (MI p0_ p1_ i_2) z) (G2 p0_ p1_ i_2 x):=by
 revert H
 generalize x=k_5
 intro H
 refine sq (sr (ck 3 (bx H λ x24 h79 H=>sp (Aj (eL eS) h79) (ck 1 (sp (Au eS x24) (ck 1 (en (cn H (λ H=>?_) (λ H=>?_)))))))))
 ·refine sk (qz (sq (bk 3 (sr (ck 2 (bx H λ x25 h80 H=>sp (Aj (eL eS) h80) (ck 2 (bx H λ x26 h81 H=>sp (Aj eS h81) (ck 3 (bx H λ x27 h82 H=>sp (Aj (eL eS) h82) (ck 2 (bx H λ x28 h83 H=>sp (Aj eS h83) (ck 2 (en (cn H (λ H=>?_) (λ H=>?_))))))))))))))))
  ·exact sr (ck 1 (en (re (qR (qr (by cases H;exact ro rfl rd))))))
  ·exact sk (qN (qz (rz (ck 3 (ae (by cases H;exact og (sg [0,1,5,6])))))))
 ·exact ex 2 (qx (by cases H;exact xo rfl (sg [0,1,5])))
theorem F6 (x:Int) (z:(Int⊕(Unit⊕Bool))) (H:Dk n p0_ p1_ x=some z):WP (cxk 53 0) (Av Tryz.f51) [1,1,0,1,0,0] (As 0 (G3 p0_ p1_) (MJ) z) (G3 p0_ p1_ x):=by
 revert H
 generalize x=i_2
 intro H
 refine sq (sr (ck 2 (sp (Au (eL eS) p0_) (ck 1 (en (cn H (λ H=>?_) (λ H=>?_)))))))
 ·refine sk (qz (sq (bk 1 (sq (sr (ck 2 (bx H λ x22 h77 H=>sp (Aj (eL eS) h77) (ck 1 (sp (Au eS x22) (ck 2 (bx H λ x23 h78 H=>sp (Aj (eL eS) h78) (ck 1 (sp (Au eS x23) (ck 1 (en (cn H (λ H=>?_) (λ H=>?_)))))))))))))))))
  ·exact sr (ck 1 (en (re (qr (qR (qr (by cases H;exact ro rfl rd)))))))
  ·refine sk (qz (sr (ck 1 (en (bk 2 (bx H λ y24 h84 H=>?_))))))
   rcases y24 with y25|y26
   ·exact lX F5 h84 (sg [0,1,5,6]) rfl λ s hE18=>qH (qN (qs (hE18) (rz (ck 3 (ae (by cases H;exact og (sg [0,1,5])))))))
   ·exact lR F5 h84 (sg [0,1,5,6]) rfl λ s hE19=>qR (qR (qr (by cases H;exact ro rfl hE19)))
 ·exact ex 0 (qx (by cases H;exact xo rfl (sg [])))
theorem OS {z} (H:H2 n p0_ p1_=some z):Aq Tryz.prog 51 [.d (.sl (p0_.map (eL eS))),.d (.sl (p1_.map (eL eS)))] (.d (.bool z)):=by
 refine fO 53 (JhD p0_ p1_) Tryz.func51 (sr (ck 1 (en (sq (sr (ck 1 (sp (Au (eL eS) p0_) (ck 1 (sp (Au (eL eS) p1_) (ck 1 (en (cn H (λ H=>?_) (λ H=>?_)))))))))))))
 ·exact sr (ck 1 (en (re (qr (by cases H;exact pr rd)))))
 ·refine sk (qz (sq (sr (ck 1 (en (bk 0 (bx H λ y27 h85 H=>?_)))))))
  rcases y27 with y28|y29
  ·exact lX F6 h85 (sg [0,1,5]) rfl λ s hE20=>qH (qs (hE20) (sr (ck 1 (en (re (by cases H;exact pr rd))))))
  ·exact lR F6 h85 (sg [0,1,5]) rfl λ s hE21=>qR (qr (by cases H;exact pr hE21))
end
section
variable (p0_:Ag) (p1_:Ag) (i_3:Int) (x29:Ax) (x30:Ax) (k_6:Int)
def JhI:St:=⟨(0,.agg [.d (.int .i64 p0_.W),.d (.int .i64 p0_.H),.d (.int .i64 p0_.Gap),.d (.sl (p0_.F.map Aw))])::(1,.agg [.d (.int .i64 p1_.W),.d (.int .i64 p1_.H),.d (.int .i64 p1_.Gap),.d (.sl (p1_.F.map Aw))])::[],[]⟩
def JhJ:St:=⟨(2,.ptr 0 0)::(3,.ptr 1 0)::(5,.d (.int .i64 i_3))::[],[some (.box (AG p0_)),some (.box (AG p1_))]⟩
def JhK:St:=⟨[],[]⟩
def JhL:St:=⟨(2,.ptr 0 0)::(3,.ptr 1 0)::(5,.d (.int .i64 i_3))::(6,.ptr 2 0)::(7,.ptr 3 0)::(8,.d (.int .i64 k_6))::[],[some (.box (AG p0_)),some (.box (AG p1_)),some (.box (DA x29)),some (.box (DA x30))]⟩
def JhM:St:=⟨(2,.ptr 0 0)::(3,.ptr 1 0)::(5,.d (.int .i64 i_3))::[],[some (.box (AG p0_)),some (.box (AG p1_))]⟩
def J0:(Unit⊕Bool)->Ex->St->Prop:=xS (xX 0 2 (λ (y:Unit)=>JhM p0_ p1_ i_3)) (xR ty Tryz.f52 (λ (y:Bool)=>.d (.bool y)))
def EQ:Int->St:=(λ (x:Int)=>JhL p0_ p1_ i_3 x29 x30 x)
def J1:(Unit⊕Bool)->Ex->St->Prop:=xS (xX 0 0 (λ (y:Unit)=>JhK)) (xR ty Tryz.f52 (λ (y:Bool)=>.d (.bool y)))
def ES:Int->St:=(λ (x:Int)=>JhJ p0_ p1_ x)
variable {p0_ p1_ i_3 x29 x30 k_6}
theorem EG (x:Int) (z:(Int⊕(Unit⊕Bool))) (H:Ct n p0_ p1_ i_3 x29 x30 x=some z):WP (cxk 93 0) (Av Tryz.f52) [1,1,0,1,0,0,1,0,0,1,1,1,0,0] (As 0 (EQ p0_ p1_ i_3 x29 x30) (J0 p0_ p1_ i_3) z) (EQ p0_ p1_ i_3 x29 x30 x):=by
 revert H
 generalize x=k_6
 intro H
 refine sq (sr (ck 3 (sp (Au Ac x29.P) (ck 1 (en (cn H (λ H=>?_) (λ H=>?_)))))))
 ·refine sk (qz (sq (bk 3 (sr (ck 3 (bx H λ x31 h88 H=>sp (Aj Ac h88) (ck 4 (bx H λ x32 h89 H=>sp (Aj Ac h89) (ck 2 (en (cn H (λ H=>?_) (λ H=>?_))))))))))))
  ·exact sr (ck 1 (en (re (qR (qr (by cases H;exact ro rfl rd))))))
  ·exact sk (qN (qz (rz (ck 3 (ae (by cases H;exact og (sg [2,3,5,6,7,8])))))))
 ·exact ex 2 (qx (by cases H;exact xo rfl (sg [2,3,5])))
theorem EH (x:Int) (z:(Int⊕(Unit⊕Bool))) (H:Cu n p0_ p1_ x=some z):WP (cxk 93 0) (Av Tryz.f52) [1,1,0,1,0,0] (As 0 (ES p0_ p1_) (J1) z) (ES p0_ p1_ x):=by
 revert H
 generalize x=i_3
 intro H
 refine sq (sr (ck 3 (sp (Au Aw p0_.F) (ck 1 (en (cn H (λ H=>?_) (λ H=>?_)))))))
 ·refine sk (qz (sq (bk 1 (sr (ck 3 (bx H λ x29 h86 H=>sp (Aj Aw h86) (ck 4 (bx H λ x30 h87 H=>sp (Aj Aw h87) (ck 5 (en (sq (sr (ck 7 (gc 1 (!(x29.Kind != x30.Kind)) (ck 1 (gc 2 (!(x29.Kind != x30.Kind)) (pO (ck 2 (gc 1 (!((x29.Kind != x30.Kind)||(x29.Texture != x30.Texture))) (sE (g:=(!((x29.Kind != x30.Kind)||(x29.Texture != x30.Texture)))) (λ hg=>Au Ac x29.P) (ck 1 (gc 1 (!((x29.Kind != x30.Kind)||(x29.Texture != x30.Texture))) (sE (g:=(!((x29.Kind != x30.Kind)||(x29.Texture != x30.Texture)))) (λ hg=>Au Ac x30.P) (gc 1 (!((x29.Kind != x30.Kind)||(x29.Texture != x30.Texture))) (pO (en (cn H (λ H=>?_) (λ H=>?_))))))))))))))))))))))))))))
  ·exact sr (ck 1 (en (re (qr (qR (qr (by cases H;exact ro rfl rd)))))))
  ·refine sk (qz (sr (ck 1 (en (bk 2 (bx H λ y30 h90 H=>?_))))))
   rcases y30 with y31|y32
   ·exact lX EG h90 (sg [2,3,5,6,7,8]) rfl λ s hE22=>qH (qN (qs (hE22) (rz (ck 3 (ae (by cases H;exact og (sg [2,3,5])))))))
   ·exact lR EG h90 (sg [2,3,5,6,7,8]) rfl λ s hE23=>qR (qR (qr (by cases H;exact ro rfl hE23)))
 ·exact ex 0 (qx (by cases H;exact xo rfl (sg [])))
theorem LF {z} (H:E5 n p0_ p1_=some z):Aq Tryz.prog 52 [.agg (AG p0_),.agg (AG p1_)] (.d (.bool z)):=by
 refine fO 93 (JhI p0_ p1_) Tryz.func52 (sr (ck 3 (en (sq (sr (ck 7 (gc 1 (!(p0_.W != p1_.W)) (ck 1 (gc 2 (!(p0_.W != p1_.W)) (pO (ck 2 (gc 1 (!((p0_.W != p1_.W)||(p0_.H != p1_.H))) (ck 1 (gc 2 (!((p0_.W != p1_.W)||(p0_.H != p1_.H))) (pO (ck 2 (gc 1 (!(((p0_.W != p1_.W)||(p0_.H != p1_.H))||(p0_.Gap != p1_.Gap))) (sE (g:=(!(((p0_.W != p1_.W)||(p0_.H != p1_.H))||(p0_.Gap != p1_.Gap)))) (λ hg=>Au Aw p0_.F) (ck 1 (gc 1 (!(((p0_.W != p1_.W)||(p0_.H != p1_.H))||(p0_.Gap != p1_.Gap))) (sE (g:=(!(((p0_.W != p1_.W)||(p0_.H != p1_.H))||(p0_.Gap != p1_.Gap)))) (λ hg=>Au Aw p1_.F) (gc 1 (!(((p0_.W != p1_.W)||(p0_.H != p1_.H))||(p0_.Gap != p1_.Gap))) (pO (en (cn H (λ H=>?_) (λ H=>?_))))))))))))))))))))))))))
 ·exact sr (ck 1 (en (re (qr (by cases H;exact pr rd)))))
 ·refine sk (qz (sq (sr (ck 1 (en (bk 0 (bx H λ y33 h91 H=>?_)))))))
  rcases y33 with y34|y35
  ·exact lX EH h91 (sg [2,3,5]) rfl λ s hE24=>qH (qs (hE24) (sr (ck 1 (en (re (by cases H;exact pr rd))))))
  ·exact lR EH h91 (sg [2,3,5]) rfl λ s hE25=>qR (qr (by cases H;exact pr hE25))
end
section
variable (p0_:Ai) (p1_:Ai)
def JhN:St:=⟨(0,.agg [.d (.int .i64 p0_.Kind),.d (.int .i64 p0_.Level),.d (.str p0_.Text),.d (.sl (p0_.Rows.map (eL eS))),.d (.sl (p0_.F.map AC)),.d (.int .i64 p0_.Pic.W),.d (.int .i64 p0_.Pic.H),.d (.int .i64 p0_.Pic.Gap),.d (.sl (p0_.Pic.F.map Aw)),.d (.int .i64 p0_.Page)])::(1,.agg [.d (.int .i64 p1_.Kind),.d (.int .i64 p1_.Level),.d (.str p1_.Text),.d (.sl (p1_.Rows.map (eL eS))),.d (.sl (p1_.F.map AC)),.d (.int .i64 p1_.Pic.W),.d (.int .i64 p1_.Pic.H),.d (.int .i64 p1_.Pic.Gap),.d (.sl (p1_.Pic.F.map Aw)),.d (.int .i64 p1_.Page)])::[],[]⟩
variable {p0_ p1_}
theorem NG {z} (H:GT n p0_ p1_=some z):Aq Tryz.prog 34 [.agg (Uy p0_),.agg (Uy p1_)] (.d (.bool z)):=by
 refine fO 51 (JhN p0_ p1_) Tryz.func34 (sr (ck 3 (en (sq (sr (ck 7 (gc 1 (!(p0_.Kind != p1_.Kind)) (ck 1 (gc 2 (!(p0_.Kind != p1_.Kind)) (pO (ck 2 (gc 1 (!((p0_.Kind != p1_.Kind)||(p0_.Level != p1_.Level))) (ck 1 (gc 2 (!((p0_.Kind != p1_.Kind)||(p0_.Level != p1_.Level))) (pO (ck 2 (gc 1 (!(((p0_.Kind != p1_.Kind)||(p0_.Level != p1_.Level))||(!(p0_.Text==p1_.Text)))) (ck 1 (gc 2 (!(((p0_.Kind != p1_.Kind)||(p0_.Level != p1_.Level))||(!(p0_.Text==p1_.Text)))) (pO (ck 2 (gc 1 (!((((p0_.Kind != p1_.Kind)||(p0_.Level != p1_.Level))||(!(p0_.Text==p1_.Text)))||(p0_.Page != p1_.Page))) (ck 1 (gc 1 (!((((p0_.Kind != p1_.Kind)||(p0_.Level != p1_.Level))||(!(p0_.Text==p1_.Text)))||(p0_.Page != p1_.Page))) (bx H λ r24 h92 H=>cG false (leZ) rfl (λ hg=>UC (A5 h92 hg)) (Or.inl rfl) (BU (λ hh=>hh) (BU (λ hh=>hh) (CY))) rfl (gc 1 (!((((p0_.Kind != p1_.Kind)||(p0_.Level != p1_.Level))||(!(p0_.Text==p1_.Text)))||(p0_.Page != p1_.Page))) (pO (en (cn H (λ H=>?_) (λ H=>?_))))))))))))))))))))))))))))))
 ·exact sr (ck 1 (en (re (qr (by cases H;exact pr rd)))))
 ·exact sk (qz (sr (ck 4 (bx H λ r25 h93 H=>ca false (OS h93) (ck 2 (gc 1 r25 (ck 1 (gc 1 r25 (bx H λ r26 h94 H=>cG false (leZ) rfl (λ hg=>LF (A5 h94 hg)) (Or.inl rfl) (BU (λ hh=>hh) (BU (λ hh=>hh) (CY))) rfl (pA (ck 1 (en (re (by cases H;exact pr rd))))))))))))))
end
section
variable (p0_:(List Ai)) (p1_:(List Ai)) (i_4:Int)
def JhO:St:=⟨(0,.d (.sl (p0_.map AD)))::(1,.d (.sl (p1_.map AD)))::[],[]⟩
def JhP:St:=⟨(0,.d (.sl (p0_.map AD)))::(1,.d (.sl (p1_.map AD)))::(5,.d (.int .i64 i_4))::[],[]⟩
def JhQ:St:=⟨[],[]⟩
def R1:(Unit⊕Bool)->Ex->St->Prop:=xS (xX 0 0 (λ (y:Unit)=>JhQ)) (xR ty Tryz.f13 (λ (y:Bool)=>.d (.bool y)))
def KB:Int->St:=(λ (x:Int)=>JhP p0_ p1_ x)
variable {p0_ p1_ i_4}
theorem JH (x:Int) (z:(Int⊕(Unit⊕Bool))) (H:Gj n p0_ p1_ x=some z):WP (cxk 27 0) (Av Tryz.f13) [1,1,0,1,0,0] (As 0 (KB p0_ p1_) (R1) z) (KB p0_ p1_ x):=by
 revert H
 generalize x=i_4
 intro H
 refine sq (sr (ck 2 (sp (Au AD p0_) (ck 1 (en (cn H (λ H=>?_) (λ H=>?_)))))))
 ·refine sk (qz (sq (bk 1 (sr (ck 2 (bx H λ x33 h95 H=>sp (Aj AD h95) (ck 3 (bx H λ x34 h96 H=>sp (Aj AD h96) (ck 1 (bx H λ r27 h97 H=>ca false (NG h97) (ck 1 (en (cn H (λ H=>?_) (λ H=>?_))))))))))))))
  ·exact sr (ck 1 (en (re (qR (qr (by cases H;exact ro rfl rd))))))
  ·exact sk (qN (qz (rz (ck 3 (ae (by cases H;exact og (sg [0,1,5])))))))
 ·exact ex 0 (qx (by cases H;exact xo rfl (sg [])))
theorem UD {z} (H:Ip n p0_ p1_=some z):Aq Tryz.prog 13 [.d (.sl (p0_.map AD)),.d (.sl (p1_.map AD))] (.d (.bool z)):=by
 refine fO 27 (JhO p0_ p1_) Tryz.func13 (sr (ck 1 (en (sq (sr (ck 1 (sp (Au AD p0_) (ck 1 (sp (Au AD p1_) (ck 1 (en (cn H (λ H=>?_) (λ H=>?_)))))))))))))
 ·exact sr (ck 1 (en (re (qr (by cases H;exact pr rd)))))
 ·refine sk (qz (sq (sr (ck 1 (en (bk 0 (bx H λ y36 h98 H=>?_)))))))
  rcases y36 with y37|y38
  ·exact lX JH h98 (sg [0,1,5]) rfl λ s hE26=>qH (qs (hE26) (sr (ck 1 (en (re (by cases H;exact pr rd))))))
  ·exact lR JH h98 (sg [0,1,5]) rfl λ s hE27=>qR (qr (by cases H;exact pr hE27))
end
section
variable (p0_:(List Ab)) (p1_:(List Ab)) (i_5:Int)
def JhR:St:=⟨(0,.d (.sl (p0_.map Ad)))::(1,.d (.sl (p1_.map Ad)))::[],[]⟩
def JhS:St:=⟨(0,.d (.sl (p0_.map Ad)))::(1,.d (.sl (p1_.map Ad)))::(5,.d (.int .i64 i_5))::[],[]⟩
def JhT:St:=⟨[],[]⟩
def J2:(Unit⊕Bool)->Ex->St->Prop:=xS (xX 0 0 (λ (y:Unit)=>JhT)) (xR ty Tryz.f21 (λ (y:Bool)=>.d (.bool y)))
def ET:Int->St:=(λ (x:Int)=>JhS p0_ p1_ x)
variable {p0_ p1_ i_5}
theorem EI (x:Int) (z:(Int⊕(Unit⊕Bool))) (H:Cv n p0_ p1_ x=some z):WP (cxk 26 0) (Av Tryz.f21) [1,1,0,1,0,0] (As 0 (ET p0_ p1_) (J2) z) (ET p0_ p1_ x):=by
 revert H
 generalize x=i_5
 intro H
 refine sq (sr (ck 2 (sp (Au Ad p0_) (ck 1 (en (cn H (λ H=>?_) (λ H=>?_)))))))
 ·refine sk (qz (sq (bk 1 (sr (ck 2 (bx H λ x35 h99 H=>sp (Aj Ad h99) (ck 3 (bx H λ x36 h100 H=>sp (Aj Ad h100) (ck 2 (en (cn H (λ H=>?_) (λ H=>?_))))))))))))
  ·exact sr (ck 1 (en (re (qR (qr (by cases H;exact ro rfl rd))))))
  ·exact sk (qN (qz (rz (ck 3 (ae (by cases H;exact og (sg [0,1,5])))))))
 ·exact ex 0 (qx (by cases H;exact xo rfl (sg [])))
theorem LG {z} (H:E6 n p0_ p1_=some z):Aq Tryz.prog 21 [.d (.sl (p0_.map Ad)),.d (.sl (p1_.map Ad))] (.d (.bool z)):=by
 refine fO 26 (JhR p0_ p1_) Tryz.func21 (sr (ck 1 (en (sq (sr (ck 1 (sp (Au Ad p0_) (ck 1 (sp (Au Ad p1_) (ck 1 (en (cn H (λ H=>?_) (λ H=>?_)))))))))))))
 ·exact sr (ck 1 (en (re (qr (by cases H;exact pr rd)))))
 ·refine sk (qz (sq (sr (ck 1 (en (bk 0 (bx H λ y39 h101 H=>?_)))))))
  rcases y39 with y40|y41
  ·exact lX EI h101 (sg [0,1,5]) rfl λ s hE28=>qH (qs (hE28) (sr (ck 1 (en (re (by cases H;exact pr rd))))))
  ·exact lR EI h101 (sg [0,1,5]) rfl λ s hE29=>qR (qr (by cases H;exact pr hE29))
end
section
variable (p0_:Af) (p1_:Af) (i_6:Int)
def JhU:St:=⟨(0,.agg [.d (.sl (p0_.Agreed.map Ad)),.d (.sl (p0_.Quarrels.map (AY A1)))])::(1,.agg [.d (.sl (p1_.Agreed.map Ad)),.d (.sl (p1_.Quarrels.map (AY A1)))])::[],[]⟩
def JhV:St:=⟨(2,.ptr 0 0)::(3,.ptr 1 0)::(5,.d (.int .i64 i_6))::[],[some (.box [.d (.sl (p0_.Agreed.map Ad)),.d (.sl (p0_.Quarrels.map (AY A1)))]),some (.box [.d (.sl (p1_.Agreed.map Ad)),.d (.sl (p1_.Quarrels.map (AY A1)))])]⟩
def JhW:St:=⟨[],[]⟩
def R2:(Unit⊕Bool)->Ex->St->Prop:=xS (xX 0 0 (λ (y:Unit)=>JhW)) (xR ty Tryz.f18 (λ (y:Bool)=>.d (.bool y)))
def KC:Int->St:=(λ (x:Int)=>JhV p0_ p1_ x)
variable {p0_ p1_ i_6}
theorem JI (x:Int) (z:(Int⊕(Unit⊕Bool))) (H:Gk n p0_ p1_ x=some z):WP (cxk 39 0) (Av Tryz.f18) [1,1,0,1,0,0] (As 0 (KC p0_ p1_) (R2) z) (KC p0_ p1_ x):=by
 revert H
 generalize x=i_6
 intro H
 refine sq (sr (ck 3 (sp (Au (AY A1) p0_.Quarrels) (ck 1 (en (cn H (λ H=>?_) (λ H=>?_)))))))
 ·refine sk (qz (sq (bk 1 (sr (ck 3 (bx H λ x37 h103 H=>sp (Aj (AY A1) h103) (ck 4 (bx H λ x38 h104 H=>sp (Aj (AY A1) h104) (ck 2 (en (cn H (λ H=>?_) (λ H=>?_))))))))))))
  ·exact sr (ck 1 (en (re (qR (qr (by cases H;exact ro rfl rd))))))
  ·exact sk (qN (qz (rz (ck 3 (ae (by cases H;exact og (sg [2,3,5])))))))
 ·exact ex 0 (qx (by cases H;exact xo rfl (sg [])))
theorem NH {z} (H:Lm n p0_ p1_=some z):Aq Tryz.prog 18 [.agg [.d (.sl (p0_.Agreed.map Ad)),.d (.sl (p0_.Quarrels.map (AY A1)))],.agg [.d (.sl (p1_.Agreed.map Ad)),.d (.sl (p1_.Quarrels.map (AY A1)))]] (.d (.bool z)):=by
 refine fO 39 (JhU p0_ p1_) Tryz.func18 (sr (ck 3 (en (sq (sr (ck 4 (bx H λ r28 h102 H=>ca false (LG h102) (ck 3 (gc 1 (!(!r28)) (sE (g:=(!(!r28))) (λ hg=>Au (AY A1) p0_.Quarrels) (ck 1 (gc 1 (!(!r28)) (sE (g:=(!(!r28))) (λ hg=>Au (AY A1) p1_.Quarrels) (gc 1 (!(!r28)) (pO (en (cn H (λ H=>?_) (λ H=>?_))))))))))))))))))
 ·exact sr (ck 1 (en (re (qr (by cases H;exact pr rd)))))
 ·refine sk (qz (sq (sr (ck 1 (en (bk 0 (bx H λ y42 h105 H=>?_)))))))
  rcases y42 with y43|y44
  ·exact lX JI h105 (sg [2,3,5]) rfl λ s hE30=>qH (qs (hE30) (sr (ck 1 (en (re (by cases H;exact pr rd))))))
  ·exact lR JI h105 (sg [2,3,5]) rfl λ s hE31=>qR (qr (by cases H;exact pr hE31))
end
section
variable (r30:((List Ai)×Int)) (r31:Ab) (r32:Ab) (r33:Ab) (r34:Ab) (i_7:Int)
def Jlj:St:=⟨[],[]⟩
def Jlk:St:=⟨(1,.d (.sl (List.map AD ([({ Kind:=1,Level:=0,Text:=[97,98,99],Rows:=[],F:=[],Pic:=({ W:=0,H:=0,Gap:=0,F:=[] }:Ag),Page:=0 }:Ai)]))))::(2,.d (.sl (r30.1.map AD)))::(3,.d (.int .i64 r30.2))::(4,.osl 0 4 0 (List.length ([r31,r32,({ Block:=1,At:=0,Cut:=0,Put:=[97] }:Ab),r33,r34])))::(5,.d (.int .i64 i_7))::[],[some (.arr 4 (List.map Ad ([r31,r32,({ Block:=1,At:=0,Cut:=0,Put:=[97] }:Ab),r33,r34])))]⟩
def Jll:St:=⟨(2,.d (.sl (r30.1.map AD)))::(3,.d (.int .i64 r30.2))::[],[]⟩
def OU:(Unit⊕Bool)->Ex->St->Prop:=xS (xX 0 0 (λ (y:Unit)=>Jll r30)) (xR ty Tryz.f8 (λ (y:Bool)=>.d (.bool y)))
def Iy:Int->St:=(λ (x:Int)=>Jlk r30 r31 r32 r33 r34 x)
variable {r30 r31 r32 r33 r34 i_7}
theorem HJ (x:Int) (z:(Int⊕(Unit⊕Bool))) (H:Eh n r30 r31 r32 r33 r34 x=some z):WP (cxk 165 0) (Av Tryz.f8) [1,1,1,1,0,1,0,0] (As 0 (Iy r30 r31 r32 r33 r34) (OU r30) z) (Iy r30 r31 r32 r33 r34 x):=by
 revert H
 generalize x=i_7
 intro H
 refine sq (sr (ck 4 (en (cn H (λ H=>?_) (λ H=>?_)))))
 ·refine sk (qz (sq (bk 1 (sr (ck 3 (bx H λ x39 h112 H=>sp (Bm 0 4 h112) (sp (B4 Ad 0 0 (ty 33) h112) (bx H λ r35 h113 H=>ca false (NC h113) (ck 5 (en (sr (ck 2 (en (cn H (λ H=>?_) (λ H=>?_)))))))))))))))
  ·exact sr (ck 1 (en (re (qR (qr (by cases H;exact ro rfl rd))))))
  ·exact sk (qN (qz (rz (ck 3 (ae (by cases H;exact og (sg [1,2,3,4,5])))))))
 ·exact ex 0 (qx (by cases H;exact xo rfl (sg [2,3])))
theorem R3 {z} (H:Hx n=some z):Aq Tryz.prog 8 [] (.d (.bool z)):=by
 refine fO 165 Jlj Tryz.func8 (sr (ck 1 (en (sr (ck 3 (en (sq (rg (fz (enc:=AD) (xs:=([({ Kind:=1,Level:=0,Text:=[97,98,99],Rows:=[],F:=[],Pic:=({ W:=0,H:=0,Gap:=0,F:=[] }:Ag),Page:=0 }:Ai)])) 1 0 10) (ck 1 (bx H λ r29 h106 H=>ca false (Az h106) (bx H λ r30 h107 H=>ca false (NC h107) (ck 5 (en (sr (bx H λ r31 h108 H=>ca false (Az h108) (bx H λ r32 h109 H=>ca false (Az h109) (ck 1 (bx H λ r33 h110 H=>ca false (Az h110) (bx H λ r34 h111 H=>ca false (Az h111) (ck 2 (en (sq (sr (ck 1 (en (bk 0 (bx H λ y45 h114 H=>?_)))))))))))))))))))))))))))
 rcases y45 with y46|y47
 ·exact lX HJ h114 (sg [1,2,3,4,5]) rfl λ s hE32=>qH (qs (hE32) (sr (bx H λ r36 h115 H=>ca false (Az h115) (bx H λ r37 h116 H=>ca false (Az h116) (bx H λ r38 h117 H=>ca false (D3 h117) (ck 6 (en (sr (bx H λ r39 h118 H=>ca false (Az h118) (bx H λ r40 h119 H=>ca false (Az h119) (bx H λ r41 h120 H=>ca false (D3 h120) (ck 6 (en (sr (bx H λ r42 h121 H=>ca false (Az h121) (bx H λ r43 h122 H=>ca false (Az h122) (bx H λ r44 h123 H=>ca false (D3 h123) (ck 6 (en (sr (bx H λ r45 h124 H=>ca false (Az h124) (bx H λ r46 h125 H=>ca false (Az h125) (bx H λ r47 h126 H=>ca false (D3 h126) (ck 6 (en (sr (bx H λ r48 h127 H=>ca false (Az h127) (bx H λ r49 h128 H=>ca false (Az h128) (bx H λ r50 h129 H=>ca false (D3 h129) (ck 6 (en (sr (bx H λ r51 h130 H=>ca false (Az h130) (ck 3 (en (sr (ck 2 (bx H λ r52 h131 H=>ca false (Az h131) (ck 1 (bx H λ r53 h132 H=>ca false (Az h132) (ck 1 (bx H λ r54 h133 H=>ca false (Az h133) (ck 2 (bx H λ r55 h134 H=>cb (ks:=[6]) (obl:=[(0+List.length [({ Reader:=0,C:=r51 }:AH),({ Reader:=0,C:=r51 }:AH),({ Reader:=0,C:=r52 }:AH),({ Reader:=0,C:=r53 }:AH),({ Reader:=0,C:=r54 }:AH)],List.length (List.map AU [({ Reader:=0,C:=r51 }:AH),({ Reader:=0,C:=r51 }:AH),({ Reader:=0,C:=r52 }:AH),({ Reader:=0,C:=r53 }:AH),({ Reader:=0,C:=r54 }:AH)]))]) false (leK leM (leZ)) (Cy F4 rfl) (PV h134) (Or.inr ⟨(JdF λ _=>rfl),⟨(JdF λ _=>rfl),trivial⟩⟩) rfl (ck 2 (en (sr (bx H λ r56 h135 H=>ca false (Az h135) (bx H λ r57 h136 H=>ca false (Az h136) (bx H λ r58 h137 H=>ca false (Az h137) (ck 1 (bx H λ r59 h138 H=>cb (ks:=[8]) (obl:=[(0+List.length [r57,r58],List.length (List.map Ad [r57,r58]))]) false (leK leM (leZ)) (Cy rfl (Cy F4 rfl)) (NE h138) (Or.inr ⟨⟨trivial,⟨trivial,⟨trivial,⟨trivial,trivial⟩⟩⟩⟩,⟨trivial,⟨trivial,trivial⟩⟩⟩) rfl (ck 8 (en (sr (ck 5 (gc 1 (r30.2==0) (bx H λ r60 h139 H=>cG (ks:=[10]) (obl:=[(0+List.length ([({ Kind:=1,Level:=0,Text:=[97,120,121,99],Rows:=[],F:=[],Pic:=({ W:=0,H:=0,Gap:=0,F:=[] }:Ag),Page:=0 }:Ai)]),List.length (List.map AD ([({ Kind:=1,Level:=0,Text:=[97,120,121,99],Rows:=[],F:=[],Pic:=({ W:=0,H:=0,Gap:=0,F:=[] }:Ag),Page:=0 }:Ai)])))]) false (leK leM (leZ)) (Cy rfl (Cy F4 rfl)) (λ hg=>UD (A5 h139 hg)) (Or.inr trivial) (BU (λ hh=>hh) (BU (λ hh=>hh) (CY))) rfl (pA (ck 2 (pA (ck 2 (bx H λ r61 h140 H=>cG false (leZ) rfl (λ hg=>Az (A5 h140 hg)) (Or.inl rfl) (CY) rfl (gc 1 (((r30.2==0)&&r60)&&r38.2) (pA (ck 2 (gc 1 ((((r30.2==0)&&r60)&&r38.2)&&((r38.1.Block==r61.Block)&&((r38.1.At==r61.At)&&((r38.1.Cut==r61.Cut)&&((r38.1.Put==r61.Put)&&true))))) (pA (ck 2 (gc 1 (((((r30.2==0)&&r60)&&r38.2)&&((r38.1.Block==r61.Block)&&((r38.1.At==r61.At)&&((r38.1.Cut==r61.Cut)&&((r38.1.Put==r61.Put)&&true)))))&&(!r41.2)) (pA (ck 2 (pA (ck 2 (bx H λ r62 h141 H=>cG false (leZ) rfl (λ hg=>Az (A5 h141 hg)) (Or.inl rfl) (CY) rfl (gc 1 (((((((r30.2==0)&&r60)&&r38.2)&&((r38.1.Block==r61.Block)&&((r38.1.At==r61.At)&&((r38.1.Cut==r61.Cut)&&((r38.1.Put==r61.Put)&&true)))))&&(!r41.2))&&(!r44.2))&&r47.2) (pA (ck 2 (pA (ck 2 (bx H λ r63 h142 H=>cG false (leZ) rfl (λ hg=>Az (A5 h142 hg)) (Or.inl rfl) (CY) rfl (gc 1 (((((((((r30.2==0)&&r60)&&r38.2)&&((r38.1.Block==r61.Block)&&((r38.1.At==r61.At)&&((r38.1.Cut==r61.Cut)&&((r38.1.Put==r61.Put)&&true)))))&&(!r41.2))&&(!r44.2))&&r47.2)&&((r47.1.Block==r62.Block)&&((r47.1.At==r62.At)&&((r47.1.Cut==r62.Cut)&&((r47.1.Put==r62.Put)&&true)))))&&r50.2) (pA (ck 1 (en (sr (ck 3 (bx H λ r64 h143 H=>cG false (leZ) rfl (λ hg=>Az (A5 h143 hg)) (Or.inl rfl) (CY) rfl (bx H λ r65 h144 H=>cG false (leZ) rfl (λ hg=>Az (A5 h144 hg)) (Or.inl rfl) (CY) rfl (gc 1 ((((((((((r30.2==0)&&r60)&&r38.2)&&((r38.1.Block==r61.Block)&&((r38.1.At==r61.At)&&((r38.1.Cut==r61.Cut)&&((r38.1.Put==r61.Put)&&true)))))&&(!r41.2))&&(!r44.2))&&r47.2)&&((r47.1.Block==r62.Block)&&((r47.1.At==r62.At)&&((r47.1.Cut==r62.Cut)&&((r47.1.Put==r62.Put)&&true)))))&&r50.2)&&((r50.1.Block==r63.Block)&&((r50.1.At==r63.At)&&((r50.1.Cut==r63.Cut)&&((r50.1.Put==r63.Put)&&true))))) (ck 1 (gc 2 ((((((((((r30.2==0)&&r60)&&r38.2)&&((r38.1.Block==r61.Block)&&((r38.1.At==r61.At)&&((r38.1.Cut==r61.Cut)&&((r38.1.Put==r61.Put)&&true)))))&&(!r41.2))&&(!r44.2))&&r47.2)&&((r47.1.Block==r62.Block)&&((r47.1.At==r62.At)&&((r47.1.Cut==r62.Cut)&&((r47.1.Put==r62.Put)&&true)))))&&r50.2)&&((r50.1.Block==r63.Block)&&((r50.1.At==r63.At)&&((r50.1.Cut==r63.Cut)&&((r50.1.Put==r63.Put)&&true))))) (bx H λ r66 h145 H=>cG (ks:=[11,12]) (obl:=[(0+List.length [r64,r65],List.length (List.map Ad [r64,r65])),(0+List.length [({ a0:=3,a1:=4 }:(BF Int))],List.length (List.map (AY A1) [({ a0:=3,a1:=4 }:(BF Int))]))]) false (leK leM (leK leM (leZ))) (Cy rfl (Cy (JlP (Cy F4 (Cy F4 rfl))) rfl)) (λ hg=>NH (A5 h145 hg)) (Or.inr trivial) (BU (λ hh=>hh) (BU (λ hh=>hh) (CY))) rfl (pA (ck 2 (gc 1 (((((((((((r30.2==0)&&r60)&&r38.2)&&((r38.1.Block==r61.Block)&&((r38.1.At==r61.At)&&((r38.1.Cut==r61.Cut)&&((r38.1.Put==r61.Put)&&true)))))&&(!r41.2))&&(!r44.2))&&r47.2)&&((r47.1.Block==r62.Block)&&((r47.1.At==r62.At)&&((r47.1.Cut==r62.Cut)&&((r47.1.Put==r62.Put)&&true)))))&&r50.2)&&((r50.1.Block==r63.Block)&&((r50.1.At==r63.At)&&((r50.1.Cut==r63.Cut)&&((r50.1.Put==r63.Put)&&true)))))&&r66) (pA (ck 2 (gc 1 ((((((((((((r30.2==0)&&r60)&&r38.2)&&((r38.1.Block==r61.Block)&&((r38.1.At==r61.At)&&((r38.1.Cut==r61.Cut)&&((r38.1.Put==r61.Put)&&true)))))&&(!r41.2))&&(!r44.2))&&r47.2)&&((r47.1.Block==r62.Block)&&((r47.1.At==r62.At)&&((r47.1.Cut==r62.Cut)&&((r47.1.Put==r62.Put)&&true)))))&&r50.2)&&((r50.1.Block==r63.Block)&&((r50.1.At==r63.At)&&((r50.1.Cut==r63.Cut)&&((r50.1.Put==r63.Put)&&true)))))&&r66)&&(r59.2.1==1)) (pA (ck 1 (en (re (by cases H;exact pr rd))))))))))))))))))))))))))))))))))))))))))))))))))))))))))))))))))))))))))))))))))))))))))))))))))))))))
 ·exact lR HJ h114 (sg [1,2,3,4,5]) rfl λ s hE33=>qR (qr (by cases H;exact pr hE33))
end
section
variable (p0_:(List Int)) (p1_:Int) (p2_:(List UInt8)) (out_1:(List UInt8)) (i_8:Int) (out_2:(List UInt8)) (out_3:(List UInt8)) (out_4:(List UInt8))
def JhX:St:=⟨(0,.d (.sl (p0_.map eU8)))::(1,.d (.int .i64 p1_))::(2,.d (.str p2_))::[],[]⟩
def JhY:St:=⟨(0,.d (.sl (p0_.map eU8)))::(1,.d (.int .i64 p1_))::(2,.d (.str p2_))::(7,.d (.str out_1))::(8,.d (.int .i64 i_8))::[],[]⟩
def JhZ:St:=⟨(2,.d (.str p2_))::(7,.d (.str out_2))::[],[]⟩
def Jh0:St:=⟨(0,.d (.sl (p0_.map eU8)))::(1,.d (.int .i64 p1_))::(2,.d (.str p2_))::(7,.d (.str out_3))::(8,.d (.int .i64 i_8))::[],[]⟩
def R4:(List UInt8)->Ex->St->Prop:=xX 0 0 (λ (y:(List UInt8))=>JhZ p2_ y)
def KD:((List UInt8)×Int)->St:=(λ (x:((List UInt8)×Int))=>JhY p0_ p1_ p2_ x.1 x.2)
def Jh1:St:=⟨(2,.d (.str p2_))::(7,.d (.str out_4))::[],[]⟩
variable {p0_ p1_ p2_ out_1 i_8 out_2 out_3 out_4}
theorem P7 (x:((List UInt8)×Int)) (z:(((List UInt8)×Int)⊕(List UInt8))) (H:Gm n p0_ p1_ p2_ x.1 x.2=some z):WP (cxk 81 0) (Av Tryz.f30) [1,1,0,1,0,0] (As 0 (KD p0_ p1_ p2_) (R4 p2_) z) (KD p0_ p1_ p2_ x):=by
 obtain ⟨out_1,i_8⟩:=x
 refine sq (sr (ck 2 (sp (Au eU8 p0_) (ck 3 (gc 1 (decide (i_8<((p0_.length:Nat):Int))) (ck 1 (gc 1 (decide (i_8<((p0_.length:Nat):Int))) (pA (en (cn H (λ H=>?_) (λ H=>?_)))))))))))
 ·refine sk (qz (sj (λ (x:(List UInt8))=>Jh0 p0_ p1_ p2_ i_8 x) (λ (x:(List UInt8))=>Gl n i_8 x) z ?_ (λ hFR17_Text_J1=>?_)))
  ·intro out_3 H
   exact rz (ck 3 (ae (by cases H;exact og (sg [0,1,2,7,8]))))
  refine bk 1 (sr (ck 2 (bx H λ x40 h146 H=>sp (Aj eU8 h146) (ck 5 (bx H λ gd1 h147 H=>so (Ef h147) (ck 1 (en (sr (ck 2 (en (cn H (λ H=>?_) (λ H=>?_))))))))))))
  ·exact rz (ck 5 (bx H λ s5 h148 H=>sp (Ny h148) (bx H λ s6 h149 H=>sp (Us h149) (ck 1 (ae (qN (qs (sg [0,1,2,7,8]) (hFR17_Text_J1 s6 H))))))))
  ·refine sr (ck 5 (gc 1 (decide (((out_1.length:Nat):Int)>0)) (ck 1 (gc 2 (decide (((out_1.length:Nat):Int)>0)) (pA (ck 3 (gc 2 ((decide (((out_1.length:Nat):Int)>0))&&(decide (((out_1.length:Nat):Int)<AW .i64 p1_ 1))) (bx H λ b4 h150 H=>sE (λ hg=>Gf (A5 h150 hg)) (gc 1 ((decide (((out_1.length:Nat):Int)>0))&&(decide (((out_1.length:Nat):Int)<AW .i64 p1_ 1))) (pA (en (cn H (λ H=>?_) (λ H=>?_)))))))))))))
   ·exact rz (ck 1 (bx H λ s7 h151 H=>sp (Us h151) (ck 1 (ae (qN (qs (sg [0,1,2,7,8]) (hFR17_Text_J1 s7 H)))))))
   ·exact sk (qN (qs (sg [0,1,2,7,8]) (hFR17_Text_J1 out_1 H)))
 ·exact ex 0 (qx (by cases H;exact xo rfl (sg [2,7])))
theorem Jt {z} (H:Iq n p0_ p1_ p2_=some z):Aq Tryz.prog 30 [.d (.sl (p0_.map eU8)),.d (.int .i64 p1_),.d (.str p2_)] (.d (.str z)):=by
 refine fO 81 (JhX p0_ p1_ p2_) Tryz.func30 (sr (ck 1 (en (sr (ck 1 (en (sq (sr (ck 1 (en (bk 0 (bx H λ y48 h152 H=>lX P7 h152 (sg [0,1,2,7,8]) rfl λ s hE34=>qH (qs (hE34) (sj (λ (x:(List UInt8))=>Jh1 p2_ x) (λ (x:(List UInt8))=>Ei n p2_ x) z ?_ (λ hFR17_Text_J2=>?_)))))))))))))))
 ·intro out_4 H
  refine sq (sr (ck 2 (en (cn H (λ H=>?_) (λ H=>?_)))))
  ·exact sr (ck 1 (bx H λ s8 h153 H=>sp (Ny h153) (ck 1 (en (re (qr (by cases H;exact pr rd)))))))
  ·exact sk (qz (sr (ck 2 (en (re (by cases H;exact pr rd))))))
 refine sr (ck 6 (gc 2 (decide (((y48.length:Nat):Int)>0)) (bx H λ b5 h154 H=>sE (λ hg=>Gf (A5 h154 hg)) (gc 1 (decide (((y48.length:Nat):Int)>0)) (pA (en (cn H (λ H=>?_) (λ H=>?_))))))))
 ·exact rz (ck 4 (bx H λ s9 h155 H=>sp (Ny h155) (ck 1 (ae (qs (sg [2,7]) (hFR17_Text_J2 s9 H))))))
 ·exact sk (qs (sg [2,7]) (hFR17_Text_J2 y48 H))
end
section
variable (p0_:Int) (p1_:Int)
def Jh2:St:=⟨(0,.d (.int .u8 p0_))::(1,.d (.int .u8 p1_))::[],[]⟩
variable {p0_ p1_}
theorem H8 {z} (H:E7 n p0_ p1_=some z):Aq Tryz.prog 81 [.d (.int .u8 p0_),.d (.int .u8 p1_)] (.own 2 (z.map AC)):=by
 refine fO 60 (Jh2 p0_ p1_) Tryz.func81 (sr (ck 1 (en (sr (ck 11 (en (sq (sr (ck 2 (en (bk 0 (sr (ck 2 (en (cn H (λ H=>?_) (λ H=>?_))))))))))))))))
 ·exact sr (ck 3 (en (re (qR (qr (by cases H;exact pr (rO (v:=.osl 2 2 0 (List.length [({ Op:=1,N:=IntKind.i64.wrap (Am p1_ 26) }:Ao)])) [2] (ao vo))))))))
 ·refine sr (ck 2 (en (cn H (λ H=>?_) (λ H=>?_))))
  ·exact sr (ck 5 (en (re (qR (qr (by cases H;exact pr (rO (v:=.osl 2 2 0 (List.length [({ Op:=2,N:=0 }:Ao),({ Op:=1,N:=IntKind.i64.wrap (Am p1_ 26) }:Ao),({ Op:=0,N:=IntKind.i64.wrap p1_ }:Ao)])) [2] (ao vo))))))))
  ·refine sr (ck 2 (en (cn H (λ H=>?_) (λ H=>?_))))
   ·exact sr (ck 5 (en (re (qR (qr (by cases H;exact pr (rO (v:=.osl 2 2 0 (List.length [({ Op:=3,N:=0 }:Ao),({ Op:=0,N:=IntKind.i64.wrap p1_ }:Ao),({ Op:=1,N:=IntKind.i64.wrap (Am p1_ 26) }:Ao)])) [2] (ao vo))))))))
   ·refine sr (ck 2 (en (cn H (λ H=>?_) (λ H=>?_))))
    ·exact sr (ck 5 (en (re (qR (qr (by cases H;exact pr (rO (v:=.osl 2 2 0 (List.length [({ Op:=4,N:=0 }:Ao),({ Op:=0,N:=IntKind.i64.wrap p1_ }:Ao),({ Op:=1,N:=IntKind.i64.wrap (Am p1_ 26) }:Ao)])) [2] (ao vo))))))))
    ·refine sr (ck 2 (en (cn H (λ H=>?_) (λ H=>?_))))
     ·exact sr (ck 5 (en (re (qR (qr (by cases H;exact pr (rO (v:=.osl 2 2 0 (List.length [({ Op:=7,N:=0 }:Ao),({ Op:=1,N:=IntKind.i64.wrap (Am p1_ 26) }:Ao),({ Op:=0,N:=IntKind.i64.wrap p1_ }:Ao)])) [2] (ao vo))))))))
     ·refine sr (ck 2 (en (cn H (λ H=>?_) (λ H=>?_))))
      ·exact sr (ck 7 (en (re (qR (qr (by cases H;exact pr (rO (v:=.osl 2 2 0 (List.length [({ Op:=9,N:=0 }:Ao),({ Op:=10,N:=0 }:Ao),({ Op:=2,N:=0 }:Ao),({ Op:=1,N:=IntKind.i64.wrap (Am p1_ 26) }:Ao),({ Op:=0,N:=IntKind.i64.wrap p1_ }:Ao)])) [2] (ao vo))))))))
      ·refine sr (ck 2 (en (cn H (λ H=>?_) (λ H=>?_))))
       ·exact sr (ck 5 (en (re (qR (qr (by cases H;exact pr (rO (v:=.osl 2 2 0 (List.length [({ Op:=6,N:=0 }:Ao),({ Op:=0,N:=IntKind.i64.wrap p1_ }:Ao),({ Op:=1,N:=IntKind.i64.wrap (Am p1_ 26) }:Ao)])) [2] (ao vo))))))))
       ·exact sk (qN (qz (sr (ck 3 (en (re (by cases H;exact pr (rO (v:=.osl 2 2 0 (List.length [({ Op:=0,N:=IntKind.i64.wrap p1_ }:Ao)])) [2] (ao vo)))))))))
end
section
variable (p0_:Ao) (x_11:Bool) (x_12:Bool)
def JdU:St:=⟨(0,.agg [.d (.int .i64 p0_.Op),.d (.int .i64 p0_.N)])::[],[]⟩
def JdV:St:=⟨[],[]⟩
def JdW:St:=⟨(1,.ptr 0 0)::(6,.d (.int .i64 p0_.Op))::(27,.d (.bool x_11))::[],[some (.box [.d (.int .i64 p0_.Op),.d (.int .i64 p0_.N)])]⟩
def JdX:St:=⟨(1,.ptr 0 0)::(6,.d (.int .i64 p0_.Op))::(38,.d (.bool x_12))::[],[some (.box [.d (.int .i64 p0_.Op),.d (.int .i64 p0_.N)])]⟩
variable {p0_ x_11 x_12}
theorem Ju {z} (H:Ch n p0_=some z):Aq Tryz.prog 111 [.agg [.d (.int .i64 p0_.Op),.d (.int .i64 p0_.N)]] (.d (.int .i64 z)):=by
 refine fO 88 (JdU p0_) Tryz.func111 (sr (ck 2 (en (sj (λ (x:Unit)=>JdV) (λ (x:Unit)=>Bn n) z ?_ (λ hFR9_Arity_J1=>?_)))))
 ·intro _ H
  exact sr (ck 1 (en (re (by cases H;exact pr rd))))
 refine sr (ck 2 (en (bk 0 (sr (ck 2 (en (cn H (λ H=>?_) (λ H=>?_))))))))
 ·refine sr (ck 5 (gc 2 (decide (p0_.N>=0)) (pA (en (cn H (λ H=>?_) (λ H=>?_))))))
  ·exact sr (ck 1 (en (re (qR (qr (by cases H;exact pr rd))))))
  ·exact sk (qN (qs (sg []) (hFR9_Arity_J1 () H)))
 ·refine sr (ck 2 (en (cn H (λ H=>?_) (λ H=>?_))))
  ·refine sr (ck 5 (gc 2 (decide (p0_.N>=0)) (pA (en (cn H (λ H=>?_) (λ H=>?_))))))
   ·exact sr (ck 1 (en (re (qR (qr (by cases H;exact pr rd))))))
   ·exact sk (qN (qs (sg []) (hFR9_Arity_J1 () H)))
  ·refine sj (λ (x:Bool)=>JdW p0_ x) (λ (x:Bool)=>Bo n p0_ x) z ?_ (λ hFR9_Arity_J2=>?_)
   ·intro x_11 H
    refine cn H (λ H=>?_) (λ H=>?_)
    ·refine sr (ck 3 (en (cn H (λ H=>?_) (λ H=>?_))))
     ·exact sr (ck 1 (en (re (qR (qr (by cases H;exact pr rd))))))
     ·exact sk (qN (qs (sg []) (hFR9_Arity_J1 () H)))
    ·refine sj (λ (x:Bool)=>JdX p0_ x) (λ (x:Bool)=>Co n p0_ x) z ?_ (λ hFR9_Arity_J3=>?_)
     ·intro x_12 H
      refine cn H (λ H=>?_) (λ H=>?_)
      ·refine sr (ck 3 (en (cn H (λ H=>?_) (λ H=>?_))))
       ·exact sr (ck 1 (en (re (qR (qr (by cases H;exact pr rd))))))
       ·exact sk (qN (qs (sg []) (hFR9_Arity_J1 () H)))
      ·refine sr (ck 2 (en (cn H (λ H=>?_) (λ H=>?_))))
       ·refine sr (ck 5 (gc 2 (decide (p0_.N>=2)) (pA (en (cn H (λ H=>?_) (λ H=>?_))))))
        ·exact sr (ck 4 (en (re (qR (qr (by cases H;exact pr rd))))))
        ·exact sk (qN (qs (sg []) (hFR9_Arity_J1 () H)))
       ·refine sr (ck 2 (en (cn H (λ H=>?_) (λ H=>?_))))
        ·refine sr (ck 8 (en (sr (ck 5 (gc 1 (decide (p0_.N>0)) (pA (ck 2 (gc 1 ((decide (p0_.N>0))&&(decide (Ds .i64 p0_.N 8>=1))) (pA (ck 2 (gc 1 (((decide (p0_.N>0))&&(decide (Ds .i64 p0_.N 8>=1)))&&(decide (Ds .i64 p0_.N 8<=4))) (pA (ck 2 (gc 1 ((((decide (p0_.N>0))&&(decide (Ds .i64 p0_.N 8>=1)))&&(decide (Ds .i64 p0_.N 8<=4)))&&(decide (Am p0_.N 8>=1))) (pA (en (cn H (λ H=>?_) (λ H=>?_))))))))))))))))))
         ·exact sr (ck 4 (en (re (qR (qr (by cases H;exact pr rd))))))
         ·exact sk (qN (qs (sg []) (hFR9_Arity_J1 () H)))
        ·exact sk (qN (qs (sg []) (hFR9_Arity_J1 () H)))
     refine sr (ck 2 (en (cn H (λ H=>?_) (λ H=>?_))))
     ·exact sk (qs (sg [1,6,38]) (hFR9_Arity_J3 (p0_.Op==9) H))
     ·refine sr (ck 2 (en (cn H (λ H=>?_) (λ H=>?_))))
      ·exact sk (qs (sg [1,6,38]) (hFR9_Arity_J3 (p0_.Op==10) H))
      ·exact rz (ck 2 (ae (qs (sg [1,6,38]) (hFR9_Arity_J3 (p0_.Op==11) H))))
   refine sr (ck 2 (en (cn H (λ H=>?_) (λ H=>?_))))
   ·exact sk (qs (sg [1,6,27]) (hFR9_Arity_J2 (p0_.Op==2) H))
   ·refine sr (ck 2 (en (cn H (λ H=>?_) (λ H=>?_))))
    ·exact sk (qs (sg [1,6,27]) (hFR9_Arity_J2 (p0_.Op==3) H))
    ·refine sr (ck 2 (en (cn H (λ H=>?_) (λ H=>?_))))
     ·exact sk (qs (sg [1,6,27]) (hFR9_Arity_J2 (p0_.Op==4) H))
     ·refine sr (ck 2 (en (cn H (λ H=>?_) (λ H=>?_))))
      ·exact sk (qs (sg [1,6,27]) (hFR9_Arity_J2 (p0_.Op==5) H))
      ·refine sr (ck 2 (en (cn H (λ H=>?_) (λ H=>?_))))
       ·exact sk (qs (sg [1,6,27]) (hFR9_Arity_J2 (p0_.Op==6) H))
       ·refine sr (ck 2 (en (cn H (λ H=>?_) (λ H=>?_))))
        ·exact sk (qs (sg [1,6,27]) (hFR9_Arity_J2 (p0_.Op==7) H))
        ·exact rz (ck 2 (ae (qs (sg [1,6,27]) (hFR9_Arity_J2 (p0_.Op==8) H))))
end
end Go.AI
end
