/- Part 4 of 6 of the proof: lemmas about the model and the program's functions, with no condition beyond those that each states. -/
import Derived.Test.YtjbjbkidckbalaaLC
import Derived.RecoverIn
import Derived.TacticsInMore
import Derived.Test.YtjbjbkidckbalaaProg
import Derived.KernelRfl
section
namespace Go.AI
variable {P:Program} {Γ:Cx} {C:Code} {p:List Nat} {Q:Ex->St->Prop} {s s':St} {K:St->Prop} {i nk:Nat}
variable {α β ζ:Type}
def lpd (C:Code) (p:List Nat) (n:Nat) (ps:List Nat) (js:List Code):Ll:=⟨n,ps,nav (p++[0]) C,nav (p++[1]) C,js⟩
structure JQ (Q:Ex->St->Prop) (js:List Code) (j:Nat) (s:St):Prop where
 out:YV Q js j s
theorem jz {js:List Code} (h:PQ Q .normal s):JQ Q js 0 s:=⟨h.out⟩
theorem jn {js:List Code} {j:Nat} {x y:Option ζ} {r:ζ} (H:(if Nat.beq j 0=true then x else y)=some r) (h1:x=some r->PQ Q .normal s) (h2:y=some r->JQ Q js j s):JQ Q js j s:=by
 split at H
 ·rename_i h;have:=JkD h;subst this;exact jz (h1 H)
 ·exact h2 H
theorem jr {js:List Code} {j:Nat} (k:Nat) {x y:Option ζ} {r:ζ} (H:(if Nat.beq j (k+2)=true then x else y)=some r) (h1:x=some r->PQ Q .ret s) (h2:y=some r->JQ Q js j s) (h:js[k]? = some .ret:=by kernel_rfl):JQ Q js j s:=by
 split at H
 ·rename_i hj
  have:=JkD hj
  subst this
  refine ⟨?_⟩
  simp only [YV,h]
  exact (h1 H).out
 ·exact h2 H
theorem jx {js:List Code} {j:Nat} (k e:Nat) {x y:Option ζ} {r:ζ} (H:(if Nat.beq j (k+2)=true then x else y)=some r) (h1:x=some r->PQ Q (.exit e) s) (h2:y=some r->JQ Q js j s) (h:js[k]? = some (.exit e):=by kernel_rfl):JQ Q js j s:=by
 split at H
 ·rename_i hj
  have:=JkD hj
  subst this
  refine ⟨?_⟩
  simp only [YV,h]
  exact (h1 H).out
 ·exact h2 H
def rgV (Γ:Cx) (c:Code) (js:List Code) (ts:List Nat) (s:St):Option (FuncId×List AV×List (Option Ob)×List Nat):=
 match c with
 | .rangeFunc g ps asg body=>match Aj s.env g with
  | .clo f caps=>some (f,.yld s.objs.length::caps,rgO Γ ps asg body js ts s,AM (rgO Γ ps asg body js ts s) (.yld s.objs.length::caps))
  | _=>none
 | _=>none
def rgB (Γ:Cx) (ord:List Nat) (nb:Nat) (O O1:List (Option Ob)):Bool:=!Γ.rd&&Nat.ble nb ord.length&&Nat.ble nb O1.length&&ord.all (λ k=>Nat.blt k O.length)
theorem rf (js:List Code) (ts ord:List Nat) (j:Nat) {f:FuncId} {ys:List AV} {O0 O1 raw0:List (Option Ob)} {nb:Nat} {r:AV} (hr:Γ.lent f ys O0 nb r O1) (hp0:raw0=O0) (hk:JQ Q js j ⟨s.env,(D7 ((rgV Γ (nav p C) js ts s).getD (0,[],[],[])).2.2.1 ord nb O1).set s.objs.length none⟩)
  (hc:rgV Γ (nav p C) js ts s=some (f,((rgV Γ (nav p C) js ts s).getD (0,[],[],[])).2.1,((rgV Γ (nav p C) js ts s).getD (0,[],[],[])).2.2.1,ord):=by kernel_rfl)
  (hxs:((rgV Γ (nav p C) js ts s).getD (0,[],[],[])).2.1.map (K5 ord)=ys:=by kernel_rfl) (hO:FW ((rgV Γ (nav p C) js ts s).getD (0,[],[],[])).2.2.1 ord=raw0:=by kernel_rfl)
  (hb:rgB Γ ord nb ((rgV Γ (nav p C) js ts s).getD (0,[],[],[])).2.2.1 O1=true:=by kernel_rfl) (hj:lpJ (D7 ((rgV Γ (nav p C) js ts s).getD (0,[],[],[])).2.2.1 ord nb O1) s.objs.length=some (js,j):=by kernel_rfl):WP Γ C p Q s:=by
 generalize ((rgV Γ (nav p C) js ts s).getD (0,[],[],[])).2.1=xs at hc hxs
 generalize ((rgV Γ (nav p C) js ts s).getD (0,[],[],[])).2.2.1=Ot at *
 subst hp0
 refine ⟨?_⟩
 have hk:=hk.out
 unfold rgV at hc
 split at hc
 ·rename_i g ps asg body he
  split at hc
  ·rename_i f' caps hg
   simp only [JkF,Prod.mk.injEq] at hc
   obtain ⟨rfl,rfl,rfl,rfl⟩:=hc
   unfold rgB at hb
   simp only [Jkx,Bool.not_eq_true'] at hb
   obtain ⟨⟨⟨b1,b2⟩,b3⟩,b4⟩:=hb
   rw [he]
   refine ⟨s,.refl s,?_⟩
   unfold Q0
   rw [hg]
   refine ⟨js,ts,nb,r,O1,j,b1,?_,JkK b2,JkK b3,λ k hk=>?_,hj,hk⟩
   ·rw [hxs,hO];exact hr
   ·have:=JkK (List.all_eq_true.1 b4 k hk)
    omega
  ·cases hc
 ·cases hc
theorem wsh (hs:Aw Γ.nt.nk s s') (hk:WP Γ C p Q s') (h:(match nav p C with | .rangeFunc _ _ _ _=>true|_=>false)=true:=by kernel_rfl):WP Γ C p Q s:=by
 refine ⟨?_⟩
 have hk:=hk.out
 split at h
 ·rename_i g ps a b he
  rw [he] at hk ⊢
  obtain ⟨s2,h1,h2⟩:=hk
  exact ⟨s2,.trans hs h1,h2⟩
 ·cases h
def Jbr (c:Code) (i:Nat) (s:St):Option (Nat×List AV×List Nat):=
 match (Bb c)[i]? with
 | some o=>match o.op with
  | .call ⟨.value x,args,_⟩=>match unG (Aj s.env x) with
   | .yld k=>some (k,args.toList.map (λ y=>unG (Aj s.env y)),AM s.objs (.yld k::args.toList.map (λ y=>unG (Aj s.env y))))
   | _=>none
  | _=>none
 | none=>none
def JeM (Γ:Cx) (c:Code) (o:Oper):Bool:=!P6 c&&B6 Γ.nt o.dst&&ndB o.op
def nxY (Γ:Cx) (c:Code) (i:Nat) (g:Bool) (ord:List Nat) (nb j:Nat) (O1:List (Option Ob)) (s:St):Option St:=
 match (Bb c)[i]? with
 | some o=>bif JeM Γ c o&&Nat.ble nb ord.length&&Nat.ble nb O1.length&&ord.all (λ k=>Nat.blt k s.objs.length) then
   some ⟨putA o.dst o.guard.isSome g (.d (.bool (Nat.beq j 0))) s.env,D7 s.objs ord nb O1⟩ else none
 | none=>none
def gY (c:Code) (i:Nat) (s:St):Option Bool:=match (Bb c)[i]? with
 | some o=>Bx (Bb c) s.env o.guard
 | none=>none
theorem TQ (hX:XOK P Γ) {o:Oper} {g:Bool} (ho:(Bb (nav p C))[i]? = some o) (h0:JeM Γ (nav p C) o=true) (hg:gY (nav p C) i s=some g) (hgt:g=true) (hx:NS P Γ.nt o g s s') (hk:RF Γ C p (i+1) Q s'):RF Γ C p i Q s:=by
 refine ⟨?_⟩
 have hk:=hk.out
 unfold A0 at hk ⊢
 simp only [JeM,Jkx,Bool.not_eq_true'] at h0
 obtain ⟨⟨h1,h3⟩,h4⟩:=h0
 rw [CP ho]
 show AT _ _ _ _ _ _
 unfold AT
 have hga:Bx (Bb (nav p C)) s.env o.guard=some g:=by
  unfold gY at hg
  rw [ho] at hg
  exact hg
 rw [hga]
 simp only [h3,Bool.not_true,cond_false]
 exact ⟨λ _=>.inr (.inr ⟨h1,.inl ⟨s',by rw [hX.ext];exact hx,hk⟩⟩),λ h=>by rw [hgt] at h;cases h⟩
theorem XO {nt:Slt} {o:Oper} {st:St} {v:AV} {O1:List (Option Ob)} {g:Bool} (h:NS P nt o true st ⟨putA o.dst false true v st.env,O1⟩):NS P nt o g st ⟨putA o.dst o.guard.isSome g v st.env,O1⟩:=by
 intro N H0 F0 w0 a w hg hI hdst rd n K Qw hqr hK
 subst hg
 refine h N H0 F0 w0 a w rfl hI hdst rd n K Qw hqr λ a' w' hI'=>hK a' w' ?_
 obtain ⟨F,ρ,hS,hSl,hrest⟩:=hI'
 refine ⟨F,ρ,hS,?_,hrest⟩
 cases hgs:o.guard.isSome with
 | false=>exact hSl
 | true=>
  cases hd:o.dst with
  | none=>rw [hd] at hSl;exact hSl
  | some d=>
   rw [hd] at hSl
   intro t
   have:=hSl t
   simp only [putA,cond_true,cond_false,Bv] at this ⊢
   split
   ·rename_i e;rw [if_pos e] at this;exact .gvT _ _ this
   ·rename_i e;rw [if_neg e] at this;exact this
theorem xy (hX:XOK P Γ) {g:Bool} (hgt:g=true) {gs:List Bool} (hi:Fw g gs) (ord:List Nat) {ys:List AV} {O0 O1 raw0:List (Option Ob)} {nb j:Nat} (hr:PR P ys O0 nb j O1) (hp0:raw0=O0) (hk:RF Γ C p (i+1) Q ((nxY Γ (nav p C) i g ord nb j O1 s).getD s)) (hg:gY (nav p C) i s=some g:=by kernel_rfl) (hgs:Gh (nav p C) i s=gs:=by kernel_rfl)
  (hc:Jbr (nav p C) i s=some (ord.headD 0,((Jbr (nav p C) i s).getD (0,[],[])).2.1,ord):=by kernel_rfl) (hxs:((Jbr (nav p C) i s).getD (0,[],[])).2.1.map (K5 ord)=ys:=by kernel_rfl) (hO:FW s.objs ord=raw0:=by kernel_rfl)
  (hn:(nxY Γ (nav p C) i g ord nb j O1 s).isSome=true:=by kernel_rfl) (hl:Nat.ble 1 ord.length=true:=by kernel_rfl):RF Γ C p i Q s:=by
 generalize ((Jbr (nav p C) i s).getD (0,[],[])).2.1=xs at hc hxs
 have hn:=BP (d:=s) hn
 generalize (nxY Γ (nav p C) i g ord nb j O1 s).getD s=s' at hn hk
 subst hp0
 unfold Jbr at hc
 unfold nxY at hn
 split at hn
 ·rename_i o ho
  rw [ho] at hc
  simp only at hc
  obtain ⟨h0,hn⟩:=AK hn
  simp only [Jkx] at h0
  obtain ⟨⟨⟨h1,h2⟩,h3⟩,h4⟩:=h0
  cases hn
  split at hc
  ·rename_i x args ts hop
   split at hc
   ·rename_i k hx
    simp only [JkF,Prod.mk.injEq] at hc
    obtain ⟨hk0,rfl,hord⟩:=hc
    subst hxs
    subst hO
    have hgob:Gf true (o.op.operands.toList.map (Aj s.env)):=by
     subst hgs
     unfold Gh at hi
     rw [ho] at hi
     rw [← hgt]
     exact Lw hi
    have h00:(AM s.objs (.yld k::args.toList.map (λ y=>unG (Aj s.env y))))[0]? = some k:=by
     rw [hord,hk0]
     have:=JkK hl
     cases ord with
     | nil=>simp at this
     | cons y l=>rfl
    refine TQ hX ho h1 hg hgt (hord▸XO (JeL hop hgob hx (by rw [hord];exact hr) h00 (by rw [hord];exact JkK h2) (JkK h3) λ k hk=>?_)) hk
    rw [hord] at hk
    have:=JkK (List.all_eq_true.1 h4 k hk)
    omega
   ·cases hc
  ·cases hc
 ·cases hn
theorem gsp (g:Bool) {x y:Option ζ} {r:ζ} (H:(if g=true then x else y)=some r) (h1:g=true->x=some r->RF Γ C p i Q s) (h2:g=false->y=some r->RF Γ C p i Q s):RF Γ C p i Q s:=by
 split at H
 ·rename_i h;exact h1 h H
 ·rename_i h;exact h2 (by simpa using h) H
def nxK (Γ:Cx) (c:Code) (i:Nat) (g:Bool) (v:AV) (s:St):Option St:=
 match (Bb c)[i]? with
 | some o=>bif B6 Γ.nt o.dst&&o.guard.isSome then some ⟨putA o.dst true g v s.env,s.objs⟩ else none
 | none=>none
theorem gsk {g:Bool} (hgf:g=false) (v:AV) (hk:RF Γ C p (i+1) Q ((nxK Γ (nav p C) i g v s).getD s)) (hg:gY (nav p C) i s=some g:=by kernel_rfl) (hn:(nxK Γ (nav p C) i g v s).isSome=true:=by kernel_rfl):RF Γ C p i Q s:=by
 have hn:=BP (d:=s) hn
 generalize (nxK Γ (nav p C) i g v s).getD s=s' at hn hk
 subst hgf
 refine ⟨?_⟩
 have hk:=hk.out
 unfold A0 at hk ⊢
 unfold nxK at hn
 split at hn
 ·rename_i o ho
  obtain ⟨h0,hn⟩:=AK hn
  simp only [Jkx] at h0
  cases hn
  rw [CP ho]
  show AT _ _ _ _ _ _
  unfold AT
  have hga:Bx (Bb (nav p C)) s.env o.guard=some false:=by
   unfold gY at hg
   rw [ho] at hg
   exact hg
  rw [hga]
  simp only [h0.1,Bool.not_true,cond_false]
  exact ⟨(by intro h;cases h),λ _=>⟨v,[],λ _=>rfl,by rw [h0.2];simpa using hk⟩⟩
 ·cases hn
theorem cnh {c:Bool} {x y:Option ζ} {r:ζ} (H:(if c=true then x else y)=some r) (h1:c=true->x=some r->WP Γ C (p++[0]) Q s) (h2:c=false->y=some r->WP Γ C (p++[1]) Q s) (h:XH (nav p C)=true:=by kernel_rfl) (hc:Aj s.env (RB (nav p C))=.d (.bool c):=by kernel_rfl):WP Γ C p Q s:=by
 refine ⟨?_⟩
 rw [Wg h]
 show Vm _ _ _
 rw [hc]
 refine ⟨λ e=>?_,λ e=>?_⟩
 ·subst e;exact (h1 rfl (by simpa using H)).out
 ·subst e;exact (h2 rfl (by simpa using H)).out
def jAt (objs:List (Option Ob)) (k:Nat):Option Nat:=match obA objs k with
 | some (.lp _ _ _ j)=>some j
 | _=>none
def Jga (objs:List (Option Ob)) (k j:Nat):List (Option Ob):=match obA objs k with
 | some (.lp d ts vs _)=>objs.set k (some (.lp d ts vs j))
 | _=>objs
theorem Wh (k:Nat) {j:Nat} (hj:Nat.beq j 0=true) (h:jAt s.objs k=some j:=by kernel_rfl):Aw nk s ⟨s.env,Jga s.objs k 0⟩:=by
 have:=JkD hj
 subst this
 have e:Jga s.objs k 0=s.objs:=by
  unfold jAt at h
  unfold Jga
  split at h
  ·rename_i d ts vs j ho
   cases h
   apply List.ext_getElem?
   intro i
   rw [List.getElem?_set]
   split
   ·rename_i e
    subst e
    split
    ·unfold obA at ho
     split at ho
     ·rename_i he;rw [he,ho]
     ·cases ho
    ·rename_i hl;rw [List.getElem?_eq_none (by omega)]
   ·rfl
  ·cases h
 rw [e]
 exact .refl s
theorem jb1 {g b:Bool} (hg:g=true) (h:(g&&!b)=false):b=true:=by subst hg;simpa using h
def Ik (m:Nat):Code->Code
 | .region id ops _=>.region id (ops.toList.take m).toArray false
 | c=>c
def XP (Γ:Cx) (c:Code) (m:Nat) (Q:Ex->St->Prop):Ex->St->Prop:=λ _ s=>phX Γ (DA c) (Q .normal) ((DA c).size-(m+1)) (m+1) s
def Jgb (Γ:Cx) (c:Code) (b x m:Nat) (s0:St) (Q:Ex->St->Prop):Ex->St->Prop:=λ e s=>Jfv Γ.ty (DA c) b x m s0.env s.env s0.objs s.objs/\∃ F,(DA c)[m]? = some F/\AT Γ false (DA c).toList F (XP Γ c m Q e) s
theorem rx (x m:Nat) (hs:Aw Γ.nt.nk s s') (hk:RF (cxX Γ (DA (nav p C)) x) (Ik m (nav p C)) [] 0 (Jgb Γ (nav p C) 0 x m s' Q) s') (h:(N3 (nav p C)&&P6 (nav p C))=true:=by kernel_rfl) (hb:OQ (DA (nav p C)) 0 x m=true:=by kernel_rfl):WP Γ C p Q s:=by
 refine ⟨?_⟩
 have hk:=hk.out
 generalize nav p C=c at *
 cases c with
 | region id ops d=>
  simp only [N3,P6,Bool.true_and] at h
  subst h
  exact ⟨s',hs,.inr ⟨rfl,ops.size-(m+1)+1,.inr ⟨x,m,Nat.zero_le _,hb,hk⟩⟩⟩
 | _=>cases h
theorem XQ {ops:List Oper} {m:Nat} {env:List (Nat×AV)} {g:Option (Nat×Bool)} {v:Bool} (h:Bx (ops.take m) env g=some v):Bx ops env g=some v:=by
 unfold Bx at h ⊢
 split at h
 ·exact h
 ·rename_i j want
  rcases Nat.lt_or_ge j m with hj|hj
  ·rw [JkP hj] at h;exact h
  ·rw [List.getElem?_eq_none (by rw [List.length_take];omega)] at h;cases h
theorem XR {ops:List Oper} {m:Nat} {o:Oper} {Q:St->Prop} (h:AT Γ false (ops.take m) o Q s):AT Γ false ops o Q s:=by
 unfold AT at h ⊢
 split at h
 ·exact h.elim
 ·rename_i g hg
  rw [XQ hg];exact h
theorem mx {c:Code} {b x m:Nat} {s0:St} (hk:RF Γ (Ik (m+1) c) [] m (XP Γ c m Q) s) (hi:Nat.ble (Bb (Ik m c)).length i=true:=by kernel_rfl) (h:N3 c=true:=by kernel_rfl) (hm:Nat.blt m (DA c).size=true:=by kernel_rfl)
  (h1:ldL Γ.ty (DA c) b x m s0.env s.env s0.objs=ldL Γ.ty (DA c) b x m s0.env s.env s.objs:=by kernel_rfl) (h2:(ldL Γ.ty (DA c) b x m s0.env s.env s0.objs).all Option.isSome=true:=by kernel_rfl):RF (cxX Γ (DA c) x) (Ik m c) [] i (Jgb Γ c b x m s0 Q) s:=by
 refine ⟨RC i hi ⟨⟨h1,h2⟩,?_⟩⟩
 have hk:=hk.out
 have hm:=JkK hm
 cases c with
 | region id ops d=>
  simp only [DA] at hm ⊢
  have hg:=JkB (show m<ops.size by omega)
  refine ⟨ops[m],hg,?_⟩
  have hk:NJ Γ false (ops.toList.take (m+1)) ((ops.toList.take (m+1)).drop m) (XP Γ (.region id ops d) m Q .normal) s:=hk
  rw [show (ops.toList.take (m+1)).drop m=[ops[m]] by
   rw [List.drop_take,List.drop_eq_getElem_cons (by simp;omega)]
   simp] at hk
  exact XR hk
 | _=>cases h
theorem nz {c:Code} {m:Nat} (hk:PQ Q .normal s) (hi:Nat.ble (Bb (Ik (m+1) c)).length i=true:=by kernel_rfl) (hm:Nat.beq (DA c).size (m+1)=true:=by kernel_rfl):RF Γ (Ik (m+1) c) [] i (XP Γ c m Q) s:=by
 refine ⟨RC i hi ?_⟩
 unfold XP
 have hm:=JkD hm
 rw [hm,Nat.sub_self]
 exact ⟨hm.symm,hk.out⟩
theorem nx {c:Code} {m:Nat} (x m2:Nat) (hk:RF (cxX Γ (DA c) x) (Ik m2 c) [] (m+1) (Jgb Γ c (m+1) x m2 s Q) s) (hi:Nat.ble (Bb (Ik (m+1) c)).length i=true:=by kernel_rfl) (h:N3 c=true:=by kernel_rfl) (hb:OQ (DA c) (m+1) x m2=true:=by kernel_rfl):RF Γ (Ik (m+1) c) [] i (XP Γ c m Q) s:=by
 refine ⟨RC i hi ?_⟩
 have hk:=hk.out
 cases c with
 | region id ops d=>
  have hbb:=(TH hb).1
  simp only [DA] at hbb
  unfold XP
  simp only [DA]
  refine JfF (f:=ops.size-(m2+1)+1) (by omega) (.inr ⟨x,m2,hbb.2.2,hb,?_⟩)
  exact hk
 | _=>cases h
def IA (ev:Operand->AV):Op->Option FuncId×List AV
 | .call ⟨.value (.func f),args,_⟩=>(some f,args.toList.map ev)
 | .call ⟨.value x,args,_⟩=>match ev x with
  | .clo f l=>(some f,args.toList.map ev++l)
  | _=>(none,[])
 | _=>(none,[])
theorem SU {ev ev':Operand->AV} {op:Op} (h:∀ y∈op.operands.toList,ev y=ev' y):IA ev op=IA ev' op:=by
 cases op with
 | call c=>
  obtain ⟨callee,args,ts⟩:=c
  cases callee with
  | value x=>
   have ha:args.toList.map ev=args.toList.map ev':=List.map_congr_left λ y hy=>h y (by simp [Op.operands,Call.operands];exact .inr (by simpa using hy))
   have hx:=h x (by simp [Op.operands,Call.operands])
   cases x<;>simp only [IA,ha,hx]
  | _=>rfl
 | _=>rfl
theorem ZC {nt:Slt} {o:Oper} {st:St} {f:FuncId} {xs:List AV} {nb:Nat} {r:AV} {O1:List (Option Ob)} (hgob:Gf true (o.op.operands.toList.map (Aj st.env))) (hc:IA (λ y=>unG (Aj st.env y)) o.op=(some f,xs))
  (hcall:Bk P f (xs.map (K5 (AM st.objs xs))) (FW st.objs (AM st.objs xs)) nb r O1) (hnb:nb<=(AM st.objs xs).length) (hnb1:nb<=O1.length) (hord:∀ k∈AM st.objs xs,k<st.objs.length) :
  VR P nt o true st ⟨putA o.dst false true (P4 (Ef (AM st.objs xs) st.objs.length nb) r) st.env,D7 st.objs (AM st.objs xs) nb O1⟩:=by
 intro N H0 F0 w0 a w _ hI hdst K Qw hK
 obtain ⟨F,ρ,hS,hSl,hn,hdf⟩:=hI
 have hk:∀ v w' F' ρ'',FLe F F'->RLe ρ ρ''->Sim N H0 F0 F' ρ'' (D7 st.objs (AM st.objs xs) nb O1) w'.heap->Af F' ρ'' (P4 (Ef (AM st.objs xs) st.objs.length nb) r) v->Mu w w'->K (a.put o.dst v) w':=
  λ v w' F' ρ'' hF hρ hS' hv hmu=>hK _ _ ⟨F',ρ'',hS',(hSl.mono hF hρ).putA hn hdst hv,hn.put hdst,by rw [BL];exact ⟨hdf.1.mono hF,hdf.2.1.trans hmu,hdf.2.2.mono hρ⟩⟩
 have hev:∀ y∈o.op.operands.toList,Af F ρ (unG (Aj st.env y)) (a.eval y):=λ y hy=>B7 rfl _ hgob _ (List.mem_map_of_mem hy) _ (A2 hSl y)
 unfold IA at hc
 split at hc
 ·rename_i f' args ts hop
  cases hc
  exact VQ (ev:=λ y=>unG (Aj st.env y)) hop hS (λ y hy=>hev y (by rw [hop];simp [Op.operands,Call.operands];exact .inr (by simpa using hy))) hcall hnb hnb1 hord hk
 ·rename_i x args ts _ hop
  split at hc
  ·rename_i f' l hx
   have hx:unG (Aj st.env x)=.clo f' l:=hx
   cases hc
   have hxr:=hev x (by rw [hop];simp [Op.operands,Call.operands])
   rw [hx] at hxr
   generalize hxv:a.eval x=xv at hxr
   cases hxr with
   | clo _ _ vs hl hr=>
    have hcr0:=Jh (args:=args) (a:=a) (ev:=λ y=>unG (Aj st.env y)) (λ y hy=>hev y (by rw [hop];simp [Op.operands,Call.operands];exact .inr (by simpa using hy)))
    refine J7 (vs:=args.map a.eval++vs) (λ fn c hf hb hnm=>?_) hS ⟨by simp [hl],λ i y v hy hv=>?_⟩ hcall hnb hnb1 hord hk
    ·simp only [execOp,hop,resolve,hxv,Deferred.ofValue,Sem.run_bind,Sem.run_pure,Result.andThen_ok,invoke,callFunc,run_program,hf,hnm,hb,JkH,if_false,Option.isNone_some,Array.empty_append]
    ·rw [Array.toList_append] at hv
     have hl0:=hcr0.1
     by_cases hi:i<(args.toList.map (λ y=>unG (Aj st.env y))).length
     ·rw [JkE hi] at hy
      rw [JkE (by omega)] at hv
      exact hcr0.2 i y v hy hv
     ·rw [JkN (by omega)] at hy
      rw [JkN (by omega)] at hv
      rw [← hl0] at hv
      exact hr _ y v hy (by simpa using hv)
  ·cases hc
 ·cases hc
def Jbs (c:Code) (i:Nat) (s:St):Option ((Option FuncId×List AV)×List Nat):=
 match (Bb c)[i]? with
 | some o=>some (IA (λ y=>unG (Aj s.env y)) o.op,AM s.objs (IA (λ y=>unG (Aj s.env y)) o.op).2)
 | none=>none
def nxS (Γ:Cx) (ops:Array Oper) (x:Nat) (c:Code) (i:Nat) (g:Bool) (ord:List Nat) (nb:Nat) (r:AV) (O1:List (Option Ob)) (s:St):Option St:=
 match (Bb c)[i]? with
 | some o=>bif !P6 c&&Nat.beq i x&&Nat.blt x ops.size.pred&&B6 Γ.nt o.dst&&Nat.ble nb ord.length&&Nat.ble nb O1.length&&ord.all (λ k=>Nat.blt k s.objs.length) then
   some ⟨putA o.dst o.guard.isSome g (P4 (Ef ord s.objs.length nb) r) s.env,D7 s.objs ord nb O1⟩ else none
 | none=>none
theorem xs {c:Code} {x m:Nat} (hX:XOK P Γ) {g:Bool} (hgt:g=true) {gs:List Bool} (hi:Fw g gs) (ord:List Nat) {f:FuncId} {ys:List AV} {O0 O1 raw0:List (Option Ob)} {nb:Nat} {r:AV} (hr:Bk P f ys O0 nb r O1) (hp0:raw0=O0)
  (hk:RF (cxX Γ (DA c) x) (Ik m c) [] (i+1) Q ((nxS Γ (DA c) x (Ik m c) i g ord nb r O1 s).getD s)) (hreg:N3 c=true:=by kernel_rfl) (hg:gY (Ik m c) i s=some g:=by kernel_rfl) (hgs:Gh (Ik m c) i s=gs:=by kernel_rfl)
  (hc:Jbs (Ik m c) i s=some ((some f,((Jbs (Ik m c) i s).getD ((none,[]),[])).1.2),ord):=by kernel_rfl) (hxs:((Jbs (Ik m c) i s).getD ((none,[]),[])).1.2.map (K5 ord)=ys:=by kernel_rfl) (hO:FW s.objs ord=raw0:=by kernel_rfl)
  (hn:(nxS Γ (DA c) x (Ik m c) i g ord nb r O1 s).isSome=true:=by kernel_rfl):RF (cxX Γ (DA c) x) (Ik m c) [] i Q s:=by
 generalize ((Jbs (Ik m c) i s).getD ((none,[]),[])).1.2=zs at hc hxs
 have hn:=BP (d:=s) hn
 generalize (nxS Γ (DA c) x (Ik m c) i g ord nb r O1 s).getD s=s' at hn hk
 subst hp0
 unfold Jbs at hc
 unfold nxS at hn
 split at hn
 ·rename_i o ho
  rw [ho] at hc
  simp only [JkF,Prod.mk.injEq] at hc
  obtain ⟨hc,hord⟩:=hc
  rw [hc] at hord
  simp only at hord
  obtain ⟨h0,hn⟩:=AK hn
  simp only [Jkx] at h0
  obtain ⟨⟨⟨⟨⟨⟨h1,h2⟩,h3⟩,h4⟩,h5⟩,h6⟩,h7⟩:=h0
  cases hn
  subst hord
  subst hxs
  subst hO
  have hix:=JkD h2
  subst hix
  have hox:(DA c)[i]? = some o:=by
   cases c with
   | region id ops d=>
    simp only [Ik,Bb,List.getElem?_take] at ho
    split at ho
    ·show ops[i]? = some o
     simpa using ho
    ·cases ho
   | _=>cases hreg
  have hgob:Gf true (o.op.operands.toList.map (Aj s.env)):=by
   subst hgs
   unfold Gh at hi
   rw [ho] at hi
   rw [← hgt]
   exact Lw hi
  refine ⟨?_⟩
  have hk:=hk.out
  unfold A0 at hk ⊢
  simp only [nav] at hk ⊢
  rw [CP ho]
  show AT _ _ _ _ _ _
  unfold AT
  have hga:Bx (Bb (Ik m c)) s.env o.guard=some g:=by
   unfold gY at hg
   rw [ho] at hg
   exact hg
  rw [hga]
  have h4:B6 (cxX Γ (DA c) i).nt o.dst=true:=h4
  simp only [h4,Bool.not_true,cond_false]
  refine ⟨λ _=>.inr (.inr ⟨by simpa using h1,.inl ⟨_,⟨hox,_,_,rfl,λ env he=>?_⟩,hk⟩⟩),λ h=>by rw [hgt] at h;cases h⟩
  rw [hX.ext]
  have hgob':Gf true (o.op.operands.toList.map (Aj env)):=by
   rw [List.map_congr_left he];exact hgob
  have hc':IA (λ y=>unG (Aj env y)) o.op=(some f,zs):=by
   rw [SU (ev':=λ y=>unG (Aj s.env y)) λ y hy=>by rw [he y hy]]
   exact hc
  have hnd:ndB o.op=true:=by
   cases hop:o.op with
   | defer d=>rw [hop] at hc;cases hc
   | _=>rfl
  exact XO (st:=⟨env,s.objs⟩) ((ZC (st:=⟨env,s.objs⟩) hgob' hc' hr (JkK h5) (JkK h6) λ k hk=>by
   exact JkK (List.all_eq_true.1 h7 k hk)).ok hnd)
 ·cases hn
theorem aq {js:List Code} (hk:WP Γ C (p++[1]) Q ⟨s.env,(XM s.objs 1).getD []⟩) (h1:lpJ s.objs 0=some (js,0):=by kernel_rfl) (h2:(XM s.objs 1).isSome=true:=by kernel_rfl):PQ (Jf7 Γ (nav (p++[1]) C) nk Q) .normal s:=⟨⟨s,_,js,.refl s,h1,BP (d:=[]) h2,hk.out⟩⟩
theorem rq {js:List Code} {j:Nat} {O1:List (Option Ob)} {e:Ex} (sh:Aw nk s s') (h:exJ js e j:=by first|exact trivial|exact rfl) (h1:lpJ s'.objs 0=some (js,1):=by kernel_rfl) (h2:XM s'.objs j=some O1:=by kernel_rfl):PQ (Jf8 nk js j O1) e s:=⟨⟨h,s',sh,h1,h2⟩⟩
def Jjk (objs:List (Option Ob)):Option (Ll×List Nat×List AV×Nat):=match obA objs 0 with
 | some (.lp d ts vs j)=>some (d,ts,vs,j)
 | _=>none
theorem fk (n:Nat) (ps:List Nat) (js:List Code) {ts:List Nat} {vs args:List AV} {nb j:Nat} {O0 O1:List (Option Ob)} (s:St) (hfol:P.follows .mixedOrders=true) (hΓ:Hj P Γ) (h:WP Γ C (p++[0]) (Jf7 Γ (nav (p++[1]) C) nb (Jf8 nb js j O1)) s)
  (h0:Jjk O0=some (lpd C p n ps js,ts,vs,0):=by kernel_rfl) (hlen:Nat.beq args.length ps.length=true:=by kernel_rfl) (hps:(ps.all λ q=>Nat.blt q n)=true:=by kernel_rfl) (hnb:Nat.ble 1 nb=true:=by kernel_rfl) (hnt:Γ.nt=⟨n,[],nb,Γ.nt.qf⟩:=by kernel_rfl) (hrd:Γ.rd=true:=by kernel_rfl)
  (hs:(⟨Jf9 ps args (ts.zip vs),O0⟩:St)=s:=by kernel_rfl):PR P args O0 nb j O1:=by
 have ho:obA O0 0=some (.lp (lpd C p n ps js) ts vs 0):=by
  unfold Jjk at h0
  split at h0
  ·rename_i he;cases h0;exact he
  ·cases h0
 exact Jbq (d:=lpd C p n ps js) hfol hΓ hrd ho (JkD hlen) hps hnb hnt (by
  show wpA Γ (nav (p++[0]) C) _ _
  rw [← hs] at h
  exact h.out)
end Go.AI
end
section
namespace Go.AI
section
variable {N:Nat->Prop} {H0 F0 F:Nat->Option Obj} {ρ:Nat->Option Loc} {O:List (Option Ob)}
open Classical in
theorem ZD {h:Array Obj} (hS:Sim N H0 F0 F ρ O h) {k sz n j m isz:Nat} {es:List (List AV)} {row:List AV} {zs:List (List D)} (hk:obA O k=some (.narr sz es)) (hn:es[n]? = some row) (hj:row[j]? = some (.osl m isz 0 zs.length)) (hm:obA O m=some (.arr isz zs)) :
  ∃ F',FLe F F'/\Sim N H0 F0 F' ρ ((O.set m none).set k (some (.narr sz (es.set n (row.set j (.d (.sl zs))))))) h/\∀ v,Af F ρ (.osl m isz 0 zs.length) v->Bw F' (.sl zs) v:=by
 obtain ⟨F',h1,h2,h3⟩:=Nk hS (lo:=0) (n:=zs.length) hm (by omega)
 rw [List.drop_zero,List.take_length] at h3
 have hne:k≠m:=λ e=>by subst e;rw [hk] at hm;cases hm
 have hk':obA (O.set m none) k=some (.narr sz es):=by rw [AR hne];exact hk
 refine ⟨F',h1,h2.retable (by simp) (λ q L ob hq hob=>?_) ?_,h3⟩
 ·by_cases e1:q=k
  ·subst e1
   rw [AX hk'] at hob
   cases hob
   refine ⟨_,hk',.inr (NU (RLe.refl _) (h2.obj q L _ hq hk').1 hn (Ad hj) λ v cs t fr hb hv _=>?_)⟩
   obtain ⟨p1,p2,cs',t',fr',p3,p4,p5,p6⟩:=(hS.obj q L _ hq hk).1
   rw [p3] at hb;cases hb
   obtain ⟨v',hv',hd⟩:=p6 n row hn j _ hj
   rw [hv] at hv';cases hv'
   exact .d _ _ (h3 v (hd rfl))
  ·rw [AR e1] at hob;exact ⟨ob,hob,.inl rfl⟩
 ·obtain ⟨σ,hσ⟩:=h2.inn
  refine ⟨σ,hσ.new,λ k' c M q L ob hM hq hob=>?_,hσ.sep,λ q L sz' es2 hq hob i e j' isz' xs hi hj' cs t fr v hb hv=>?_⟩
  ·by_cases e1:q=k
   ·subst e1;exact hσ.obj k' c M q L _ hM hq hk'
   ·rw [AR e1] at hob;exact hσ.obj k' c M q L ob hM hq hob
  ·by_cases e1:q=k
   ·subst e1
    rw [AX hk'] at hob
    cases hob
    have hgoal:∃ e0,es[i]? = some e0/\e0[j']? = some (.own isz' xs):=by
     by_cases e2:i=n
     ·subst e2
      rw [JkG (Ad hn)] at hi
      cases hi
      refine ⟨row,hn,?_⟩
      by_cases e3:j'=j
      ·subst e3
       rw [JkG (Ad hj)] at hj'
       cases hj'
      ·rwa [JkL (Ne.symm e3)] at hj'
     ·rw [JkL (Ne.symm e2)] at hi;exact ⟨e,hi,hj'⟩
    obtain ⟨e0,g1,g2⟩:=hgoal
    exact hσ.rep q L sz es hq hk' i e0 j' isz' xs g1 g2 cs t fr v hb hv
   ·rw [AR e1] at hob;exact hσ.rep q L sz' es2 hq hob i e j' isz' xs hi hj' cs t fr v hb hv
end
variable {s:St} {nk:Nat} {α β:Type} {enc:β->List D}
def eTg (sz:Nat) (enc:β->List D) (x:Bool×List β):List AV:=[bif x.1 then .d (.sl (x.2.map enc)) else .own sz (x.2.map enc)]
theorem Jn {xs:List (Bool×List β)} {i:Int} {y:List β} (h:XB xs i=some y):idx xs i=some (false,y):=by
 unfold XB at h
 obtain ⟨⟨b,z⟩,h1,h2⟩:=Option.bind_eq_some_iff.1 h
 cases b with
 | true=>cases h2
 | false=>cases h2;exact h1
theorem YD (k:Nat) {sz isz:Nat} {xss:List (Bool×List β)} {n:Int} {x:Bool×List β} (h:Fx s k=some (sz,xss.map (eTg isz enc))) (hx:idx xss n=some x):Aw nk s ⟨s.env,s.objs.set k (some (.narr sz ((xss.map (eTg isz enc)).set n.toNat [.d (.sl (x.2.map enc))])))++[none]⟩:=by
 obtain ⟨b,ys⟩:=x
 have h1:=Jfb (nk:=nk) (encN:=eTg isz enc) k h hx
 have hl:=ltN (encN:=eTg isz enc) hx
 have ho:=FD h
 have hkl:=AZ ho
 have e0:obA (s.objs.set k (some (.narr sz ((xss.map (eTg isz enc)).set n.toNat (eTg isz enc (b,ys)))))) k=some (.narr sz ((xss.map (eTg isz enc)).set n.toNat (eTg isz enc (b,ys)))):=AX ho
 refine .trans h1 ?_
 cases b with
 | true=>
  refine Aw.sem λ N H0 F0 w0 nt a w _=>?_
  rintro ⟨F,ρ,hS,hSl,hrest⟩
  exact ⟨F,ρ,hS.grow [none],hSl,hrest⟩
 | false=>
  have h2:=Yy (nk:=nk) (s:=⟨s.env,s.objs.set k (some (.narr sz ((xss.map (eTg isz enc)).set n.toNat (eTg isz enc (false,ys)))))⟩) (enc:=enc) (ys:=ys) (es:=xss.map (eTg isz enc)) (n:=n.toNat) (row:=eTg isz enc (false,ys)) (sz:=sz) k 0 isz [.osl (s.objs.set k (some (.narr sz ((xss.map (eTg isz enc)).set n.toNat (eTg isz enc (false,ys)))))).length isz 0 ys.length] hl (by unfold Fx;rw [e0]) rfl rfl
  refine .trans h2 ?_
  simp only [JkM,List.set_set]
  refine Aw.sem λ N H0 F0 w0 nt a w _=>?_
  rintro ⟨F,ρ,hS,hSl,hn',hd⟩
  have hlen:ys.length=(ys.map enc).length:=by simp
  have ha:obA (s.objs.set k (some (.narr sz ((xss.map (eTg isz enc)).set n.toNat [.osl s.objs.length isz 0 ys.length])))++[some (.arr isz (ys.map enc))]) s.objs.length=some (.arr isz (ys.map enc)):=by
   rw [AE,JkM,if_neg (by omega),Nat.sub_self];rfl
  have hk:obA (s.objs.set k (some (.narr sz ((xss.map (eTg isz enc)).set n.toNat [.osl s.objs.length isz 0 ys.length])))++[some (.arr isz (ys.map enc))]) k=some (.narr sz ((xss.map (eTg isz enc)).set n.toNat [.osl s.objs.length isz 0 ys.length])):=by
   rw [AE,JkM,if_pos hkl];exact AX ho
  obtain ⟨F',g1,g2,_⟩:=ZD hS hk (JkG hl) (j:=0) (by rw [List.getElem?_cons_zero,hlen]) ha
  refine ⟨F',ρ,?_,hSl.mono g1 (RLe.refl _),hn',hd.1.mono g1,hd.2⟩
  have e1:∀ (o1 o2 o3:Ob),((s.objs.set k (some o1)++[some o2]).set s.objs.length none).set k (some o3)=s.objs.set k (some o3)++[none]:=λ o1 o2 o3=>by
   rw [List.set_append_right _ _ (by simp),JkM,Nat.sub_self,List.set_append_left _ _ (by simpa using hkl),List.set_set]
   rfl
  rw [List.set_set] at g2
  rw [e1] at g2
  exact g2
theorem JeN (k esz:Nat) {xs zs:List β} {l:Int} (hz:sub xs l ((xs.length:Nat):Int)=some zs):HY s (Be (.osl k esz (0+l.toNat) (((xs.length:Nat):Int).toNat-l.toNat)) (0<=l/\l<=((xs.length:Nat):Int)/\((xs.length:Nat):Int)<=((xs.length:Nat):Int)/\((xs.length:Nat):Int)<=((xs.length:Nat):Int)/\esz=esz)) (.osl k esz (0+l.toNat) (((xs.length:Nat):Int).toNat-l.toNat)) [] [] none:=by
 have h:=IU (s:=s) k esz hz
 refine Jbb ?_
 unfold sub at hz
 split at hz
 ·rename_i h0;exact ⟨h0.1,h0.2.1,Int.le_refl _,Int.le_refl _,rfl⟩
 ·cases hz
theorem MA (e:β->List D) (esz:Nat) {xs zs:List β} {l:Int} (hz:sub xs l ((xs.length:Nat):Int)=some zs) (hl:∀ y,(e y).length=esz:=by intro _;rfl):HY s (Be (.d (.sl (((xs.map e).take (((xs.map e).length:Nat):Int).toNat).drop l.toNat))) (0<=l/\l<=(((xs.map e).length:Nat):Int)/\(((xs.map e).length:Nat):Int)<=(xs.map e).length/\∀ y∈xs.map e,y.length=esz)) (.d (.sl (zs.map e))) [] [] none:=by
 have h0:(((xs.map e).length:Nat):Int)=((xs.length:Nat):Int):=by rw [List.length_map]
 rw [h0]
 have:=XJ (s:=s) e esz hz hl
 rw [h0] at this
 exact this
theorem Jbt {P:Program} {Γ:Nat->Ty} {nt:Slt} {o:Oper} {st:St} (hΓ:K6 P Γ) {s t:TypeId} {x:Operand} {eb:Nat} {es:List (List D)} {ob:Prop} (hop:o.op=.convert s t x) (hs:(Γ s).ok=true) (ht:(Γ t).ok=true) (hks:(Γ s).kind=.slice 1 eb [.int .u8 0]) (hkt:(Γ t).kind=.string)
  (hgob:Gf true (o.op.operands.toList.map (Aj st.env))) (hel:Hh st.objs (unG (Aj st.env x))=some (es,ob)) (hob:ob) (hby:∀ e∈es,QU e):VR P nt o true st ⟨putA o.dst false true (.d (.str (es.map Nh))) st.env,st.objs⟩:=by
 intro N H0 F0 w0 a w _ hI hdst K Qw hK
 obtain ⟨F,ρ,hS,hSl,hn,hdf⟩:=hI
 obtain ⟨d,hd,_,hk⟩:=(hΓ s hs).desc
 obtain ⟨d',hd',_,hk'⟩:=(hΓ t ht).desc
 rw [hks] at hk;rw [hkt] at hk'
 obtain ⟨elem,i,z,rfl,_,_,_,_,_,_,_,hu⟩:=hk
 cases hk'
 have hxr:Af F ρ (unG (Aj st.env x)) (a.eval x):=B7 rfl _ hgob _ (List.mem_map_of_mem (by rw [hop];simp [Op.operands])) _ (A2 hSl x)
 obtain ⟨v,hr,hv⟩:=Je6 (P:=P) (objs:=st.objs) hS (λ _ _ h=>h) hd (hu rfl) hd' hel hob hby hxr
 have hr:(execOp a.eval o).run P w=.ok (.value v) w:=by
  simp only [execOp,hop,Sem.run_bind,hr,Result.andThen_ok,Sem.run_pure]
 unfold Oper.wp
 rw [hr,Oper.upon_value]
 exact hK _ _ ⟨F,ρ,hS,hSl.putA hn hdst hv,hn.put hdst,by rw [BL];exact hdf⟩
def nxV (Γ:Cx) (c:Code) (i:Nat) (g:Bool) (z:List UInt8) (s:St):Option St:=
 match (Bb c)[i]? with
 | some o=>bif JeM Γ c o then some ⟨putA o.dst o.guard.isSome g (.d (.str z)) s.env,s.objs⟩ else none
 | none=>none
def cvA (Γ:Cx) (c:Code) (i:Nat) (s:St):Option (AV×Nat):=
 match (Bb c)[i]? with
 | some o=>match o.op with
  | .convert a b x=>match (Γ.ty a).kind,(Γ.ty b).kind with
   | .slice 1 eb [.int .u8 0],.string=>bif (Γ.ty a).ok&&(Γ.ty b).ok then some (unG (Aj s.env x),eb) else none
   | _,_=>none
  | _=>none
 | none=>none
theorem xv {Γ:Cx} {P:Program} {C:Code} {p:List Nat} {Q:Ex->St->Prop} {i:Nat} (hX:XOK P Γ) {g:Bool} (hgt:g=true) {gs:List Bool} (hi:Fw g gs) (k:Nat) {bs:List Int} {z:List UInt8} (hz:Zu bs=some z) (hk:RF Γ C p (i+1) Q ((nxV Γ (nav p C) i g z s).getD s)) (hg:gY (nav p C) i s=some g:=by kernel_rfl) (hgs:Gh (nav p C) i s=gs:=by kernel_rfl)
  (hc:(cvA Γ (nav p C) i s).map Prod.fst=some (.osl k 1 0 bs.length):=by kernel_rfl) (ho:PP s k=some (1,bs.map λ n=>[D.int .u8 n]):=by kernel_rfl) (hn:(nxV Γ (nav p C) i g z s).isSome=true:=by kernel_rfl):RF Γ C p i Q s:=by
 have hn:=BP (d:=s) hn
 generalize (nxV Γ (nav p C) i g z s).getD s=s' at hn hk
 obtain ⟨⟨u,eb⟩,hc,hu⟩:=Jkz.1 hc
 cases hu
 unfold cvA at hc
 unfold nxV at hn
 split at hn
 ·rename_i o hoo
  rw [hoo] at hc
  simp only at hc
  obtain ⟨h0,hn⟩:=AK hn
  cases hn
  split at hc
  ·rename_i a b x hop
   split at hc
   ·rename_i eb' hka hkb
    obtain ⟨h1,hc⟩:=AK hc
    simp only [Jkx] at h1
    simp only [JkF,Prod.mk.injEq] at hc
    obtain ⟨hcx,rfl⟩:=hc
    have hgob:Gf true (o.op.operands.toList.map (Aj s.env)):=by
     subst hgs
     unfold Gh at hi
     rw [hoo] at hi
     rw [← hgt]
     exact Lw hi
    unfold Zu at hz
    split at hz
    ·rename_i hall
     cases hz
     simp only [List.all_eq_true,Jkx,decide_eq_true_eq] at hall
     have hby:∀ e∈bs.map λ n=>[D.int .u8 n],QU e:=λ e he=>by
      simp only [List.mem_map] at he
      obtain ⟨n,hn,rfl⟩:=he
      obtain ⟨q1,q2⟩:=hall n hn
      refine ⟨UInt8.ofNat n.toNat,?_⟩
      have:(UInt8.ofNat n.toNat).toNat=n.toNat:=by simp;omega
      rw [this]
      congr 2
      omega
     have hmap:(bs.map λ n=>[D.int .u8 n]).map Nh=bs.map λ n=>UInt8.ofNat n.toNat:=by
      rw [List.map_map];rfl
     have hel:Hh s.objs (unG (Aj s.env x))=some (bs.map λ n=>[D.int .u8 n],0+bs.length<=(bs.map λ n=>[D.int .u8 n]).length):=by
      rw [hcx]
      simp only [Hh,N9 ho,Nat.beq_refl,cond_true]
      rw [Bf]
     have:=Jbt (P:=P) (Γ:=Γ.ty) (nt:=Γ.nt) (o:=o) (st:=s) hX.ty hop h1.1 h1.2 hka hkb hgob hel (by simp) hby
     rw [hmap] at this
     exact TQ hX hoo h0 hg hgt (XO (this.ok (by rw [hop];rfl))) hk
    ·cases hz
   ·cases hc
  ·cases hc
 ·cases hn
end Go.AI
end
section
namespace Go.AI
variable {Γ:Cx} {C:Code} {p:List Nat} {Q:Ex->St->Prop} {s s':St} {K:St->Prop} {i:Nat} {nk:Nat}
variable {α β ζ:Type}
def xX {σ:Type} (nk k:Nat) (st:σ->St):σ->Ex->St->Prop:=λ y e s=>e=Ex.exit k/\Aw nk s (st y)
def xR {σ:Type} (ty:Nat->Ty) (fn:Func) (r:σ->AV):σ->Ex->St->Prop:=λ y e s=>e=Ex.ret/\RA ty fn.results.toList (r y) s
def xL {σ:Type} (nk:Nat) (ty:Nat->Ty) (fn:Func) (r:σ->AV) (O:σ->List (Option Ob)):σ->Ex->St->Prop:=λ y e s=>e=Ex.ret/\RL nk ty fn.results.toList (r y) (O y) s
def xS {σ τ:Type} (a:σ->Ex->St->Prop) (b:τ->Ex->St->Prop):σ⊕τ->Ex->St->Prop
 | .inl y=>a y
 | .inr y=>b y
variable {σ ρ τ:Type} {st:σ->St} {E:ρ->Ex->St->Prop}
theorem xo {r:ρ} {k nk':Nat} {st':τ->St} {y:τ} (hE:E r=xX nk' k st' y) (h:Aw nk' s (st' y)):PQ (AJ nk st E (.inr r)) (.exit k) s:=oe (by rw [hE];exact ⟨rfl,h⟩)
theorem ro {r:ρ} {ty:Nat->Ty} {fn:Func} {f:τ->AV} {y:τ} (hE:E r=xR ty fn f y) (h:RA ty fn.results.toList (f y) s):PQ (AJ nk st E (.inr r)) .ret s:=or (by rw [hE];exact ⟨rfl,h⟩)
theorem lo {r:ρ} {nk':Nat} {ty:Nat->Ty} {fn:Func} {f:τ->AV} {O:τ->List (Option Ob)} {y:τ} (hE:E r=xL nk' ty fn f O y) (h:RL nk' ty fn.results.toList (f y) (O y) s):PQ (AJ nk st E (.inr r)) .ret s:=or (by rw [hE];exact ⟨rfl,h⟩)
theorem lX {body:σ->Option (σ⊕ρ)} {n:Nat} {x:σ} {r:ρ} {k nk':Nat} {st':τ->St} {y:τ} (hb:∀ x z,body x=some z->WP Γ C (p++[0]) (AJ nk' st E z) (st x)) (hr:whl body n x=some r) (hs:Aw nk' s (st x)) (hE:E r=xX nk' k st' y)
  (hk:∀ s,Aw nk' s (st' y)->PQ Q (.exit k) s) (hn:Γ.nt.nk=nk':=by rfl) (h:RQ (nav p C)=true:=by kernel_rfl):WP Γ C p Q s:=by
 subst hn
 exact lp st E hr hs hb (λ e s he=>by rw [hE] at he;obtain ⟨rfl,he⟩:=he;exact hk s he) h
theorem lR {body:σ->Option (σ⊕ρ)} {n:Nat} {x:σ} {r:ρ} {nk':Nat} {ty:Nat->Ty} {fn:Func} {f:τ->AV} {y:τ} (hb:∀ x z,body x=some z->WP Γ C (p++[0]) (AJ nk' st E z) (st x)) (hr:whl body n x=some r) (hs:Aw nk' s (st x)) (hE:E r=xR ty fn f y)
  (hk:∀ s,RA ty fn.results.toList (f y) s->PQ Q .ret s) (hn:Γ.nt.nk=nk':=by rfl) (h:RQ (nav p C)=true:=by kernel_rfl):WP Γ C p Q s:=by
 subst hn
 exact lp st E hr hs hb (λ e s he=>by rw [hE] at he;obtain ⟨rfl,he⟩:=he;exact hk s he) h
theorem lL {body:σ->Option (σ⊕ρ)} {n:Nat} {x:σ} {r:ρ} {nk' nk2:Nat} {ty:Nat->Ty} {fn:Func} {f:τ->AV} {O:τ->List (Option Ob)} {y:τ} (hb:∀ x z,body x=some z->WP Γ C (p++[0]) (AJ nk' st E z) (st x)) (hr:whl body n x=some r) (hs:Aw nk' s (st x)) (hE:E r=xL nk2 ty fn f O y)
  (hk:∀ s,RL nk2 ty fn.results.toList (f y) (O y) s->PQ Q .ret s) (hn:Γ.nt.nk=nk':=by rfl) (h:RQ (nav p C)=true:=by kernel_rfl):WP Γ C p Q s:=by
 subst hn
 exact lp st E hr hs hb (λ e s he=>by rw [hE] at he;obtain ⟨rfl,he⟩:=he;exact hk s he) h
def g0 (c:Code) (i:Nat) (s:St):Bool:=(gAt c i s).getD false
theorem sE {g:Bool} {v:AV} {obs:List Ob} {x:Option Eff} (ho:g=true->HY s x v obs [] none) (hk:RF Γ C p (i+1) Q ((Lx Γ (nav p C) i g v obs s).getD s)) (hg:gAt (nav p C) i s=some g:=by kernel_rfl) (hx:O2 Γ (nav p C) i s=x:=by kernel_rfl) (hgs:Gh (nav p C) i s=List.replicate (Gh (nav p C) i s).length g:=by kernel_rfl) (hn:(Lx Γ (nav p C) i g v obs s).isSome=true:=by kernel_rfl):RF Γ C p i Q s:=
 sG (gs:=Gh (nav p C) i s) ho (TP λ b hb=>by rw [hgs] at hb;exact List.eq_of_mem_replicate hb) hk hg hx rfl hn
theorem oi {a z:ζ} (h:some a=some z):a=z:=Option.some.inj h
theorem lsS (xs:List α) (n:Nat) (y:α):xs.length=(xs.set n y).length:=List.length_set.symm
theorem tr {s1 s2 s3:St} (h:Aw nk s1 s2) (h':Aw nk s2 s3):Aw nk s1 s3:=Aw.trans h h'
theorem sg (ts:List Nat) (h:gcA nk ts s=s':=by kernel_rfl):Aw nk s s':=Je9 ts h
theorem gP (ts ord:List Nat) {raw:List (Option Ob)} (hp:Pl (OO ord) raw s'.objs) (h:gcA nk ts s=⟨s'.env,raw⟩:=by kernel_rfl):Aw nk s s':=JfZ ts ord hp h
theorem sn (t k sz:Nat) {n m:Nat} (e:n=m) (h:lkA s.env t=.osl k sz 0 n:=by kernel_rfl):Aw nk s ⟨(t,.osl k sz 0 m)::s.env,s.objs⟩:=JfM t k sz 0 n m h e
theorem snc (b i k sz:Nat) {n m:Nat} (e:n=m) (h:(N6 s b,(G1 s b)[i]?)=(true,some (.osl k sz 0 n)):=by kernel_rfl):Aw nk s ⟨s.env,s.objs.set b (some (.box ((G1 s b).set i (.osl k sz 0 m))))⟩:=JeF b i k sz n m h e
theorem so1 {encN:α->List AV} (k sz:Nat) {xss:List α} {x:α} {n:Int} (hx:idx xss n=some x) (h:Fx s k=some (sz,xss.map encN):=by kernel_rfl):Aw nk s ⟨s.env,s.objs.set k (some (.narr sz ((xss.map encN).set n.toNat (encN x))))⟩:=Jfb k h hx
theorem fz {enc:α->List D} {xs:List α} (t k sz:Nat) (h:PO s (lkA s.env t)=some (k,sz,0,xs.length,xs.map enc):=by kernel_rfl):Aw nk s ⟨(t,.d (.sl (xs.map enc)))::s.env,s.objs.set k none⟩:=JfL t _ h Bf (by simp)
theorem fzc {enc:α->List D} {xs:List α} (kb i k sz:Nat) (h:(N6 s kb,((G1 s kb)[i]?).bind (PO s))=(true,some (k,sz,0,xs.length,xs.map enc)):=by kernel_rfl):Aw nk s ⟨s.env,(s.objs.set k none).set kb (some (.box ((G1 s kb).set i (.d (.sl (xs.map enc))))))⟩:=Jet kb i _ h Bf (by simp)
theorem sni {encN:α->List AV} {xs:List α} {n:Int} {enc:β->List D} (row:List AV) (zs:List β) (sz k j m isz:Nat) (h:(Fx s k,PP s m)=(some (sz,(xs.map encN).set n.toNat row),some (isz,zs.map enc)):=by kernel_rfl) (hj:row[j]? = some (.osl m isz 0 zs.length):=by kernel_rfl) :
  Aw nk s ⟨s.env,(s.objs.set m none).set k (some (.narr sz ((xs.map encN).set n.toNat (row.set j (.own isz (zs.map enc))))))⟩:=JeE k j m isz _ h hj rfl
theorem sno {encN:α->List AV} {xss:List α} {x:α} {n:Int} {enc:β->List D} (hx:idx xss n=some x) (row:List AV) (ys:List β) (sz k j isz:Nat) (h:Fx s k=some (sz,(xss.map encN).set n.toNat row):=by kernel_rfl) (hj:row[j]? = some (.own isz (ys.map enc)):=by kernel_rfl) :
  Aw nk s ⟨s.env,s.objs.set k (some (.narr sz ((xss.map encN).set n.toNat (row.set j (.osl s.objs.length isz 0 ys.length)))))++[some (.arr isz (ys.map enc))]⟩:=Yy k j isz _ (ltN hx) h hj rfl
theorem scl {encN:α->List AV} {xss:List α} (n:Int) (row:List AV) (sz k:Nat) (y:α) (h:Fx s k=some (sz,(xss.map encN).set n.toNat row):=by kernel_rfl) (hy:row=encN y:=by kernel_rfl):Aw nk s ⟨s.env,s.objs.set k (some (.narr sz ((xss.set n.toNat y).map encN)))⟩:=Jf0 k y h hy
theorem po1 {f:AV->AV} {o:Option Ob} {l m:List (Option Ob)} (h:Pl f l m):Pl f (o::l) (o::m):=Pl.o o h
theorem pn1 {f:AV->AV} (encN:α->List AV) (xss:List α) {sz:Nat} {l m:List (Option Ob)} (h:Pl f l m) (hc:∀ x,(encN x).map f=encN x:=by first|(intro _;rfl)|(rintro ⟨_|_,_⟩<;>rfl)):Pl f (some (.narr sz ((xss.map encN).map λ e=>e.map f))::l) (some (.narr sz (xss.map encN))::m):=Pl.n sz (nrM hc) h
attribute [irreducible] xL
end Go.AI
end
section
namespace Go.AI
variable {P:Program} {F:Nat->Option Obj} {ρ:Nat->Option Loc} {w:World}
theorem RV:∀ (a r:List TK) (l l':List AV) (b:Bool),Az (a++r) l l'=some b->∃ b1 b2,Az a (l.take a.length) (l'.take a.length)=some b1/\Az r (l.drop a.length) (l'.drop a.length)=some b2/\b=(b1&&b2):=by
 intro a
 induction a with
 | nil=>intro r l l' b h;exact ⟨true,b,by simp [Az],by simpa using h,by simp⟩
 | cons k a ih=>
  intro r l l' b h
  rw [List.cons_append] at h
  unfold Az at h
  split at h
  ·rename_i heq;cases heq
  all_goals (first|(cases h;done)|skip)
  ·rename_i k0 ks0 k1 x xs0 k2 y ys0 e0
   cases e0
   split at h
   ·rename_i r' hr'
    obtain ⟨b1,b2,h1,h2,h3⟩:=ih r _ _ _ hr'
    cases hk:(k1==k2) with
    | false=>rw [hk] at h;cases h
    | true=>
     rw [hk,cond_true] at h;cases h
     exact ⟨(x==y)&&b1,b2,by simp [Az,h1,hk],by simpa using h2,by rw [h3,Bool.and_assoc]⟩
   ·cases h
  ·rename_i ks0 x xs0 y ys0 e0
   cases e0
   split at h
   ·rename_i r' hr'
    obtain ⟨b1,b2,h1,h2,h3⟩:=ih r _ _ _ hr'
    cases h
    exact ⟨(x==y)&&b1,b2,by simp [Az,h1],by simpa using h2,by rw [h3,Bool.and_assoc]⟩
   ·cases h
  ·rename_i ks0 x xs0 y ys0 e0
   cases e0
   split at h
   ·rename_i r' hr'
    obtain ⟨b1,b2,h1,h2,h3⟩:=ih r _ _ _ hr'
    cases h
    exact ⟨(x==y)&&b1,b2,by simp [Az,h1],by simpa using h2,by rw [h3,Bool.and_assoc]⟩
   ·cases h
def Jfg (P:Program) (t:TypeId) (a:List TK):Prop:=∃ fields i,P.underlying t=some (.struct fields)/\P.stoodInHeld t=false/\P.info? t=some i/\i.size=a.length/\fields.size=a.length/\∀ (j:Nat) f k,fields[j]? = some f->a[j]? = some k->f.name ≠ "_"/\f.offset=j/\Zt P f.type k
inductive Jbu (P:Program) (t:TypeId):List TK->Prop
 | one {k:TK} (h:Zt P t k):Jbu P t [k]
 | nest {a:List TK} (h:Jfg P t a):Jbu P t a
inductive XS (P:Program):List Field->Nat->List TK->Prop
 | nil {i:Nat}:XS P [] i []
 | cons {f:Field} {fs:List Field} {i:Nat} {a r:List TK} (h0:f.name ≠ "_"/\f.offset=i) (h:Jbu P f.type a) (hr:XS P fs (i+a.length) r):XS P (f::fs) i (a++r)
def At (F:Nat->Option Obj) (ρ:Nat->Option Loc) (xs:Array Value) (o:Nat) (l:List AV):Prop:=∀ (j:Nat) a,l[j]? = some a->∃ v,xs[o+j]? = some v/\Af F ρ a v
theorem At.take {xs:Array Value} {o:Nat} {l:List AV} (h:At F ρ xs o l) (n:Nat):At F ρ xs o (l.take n):=λ j a ha=>by
 rw [List.getElem?_take] at ha
 split at ha
 ·exact h j a ha
 ·cases ha
theorem At.drop {xs:Array Value} {o:Nat} {l:List AV} (h:At F ρ xs o l) (n:Nat):At F ρ xs (o+n) (l.drop n):=λ j a ha=>by
 rw [List.getElem?_drop] at ha
 rw [Nat.add_assoc];exact h _ a ha
theorem IV {t:TypeId} {a:List TK} (h:Jfg P t a) (cs:Array Value) (o:Nat):(part t cs o).run P w=.ok (.agg (cs.extract o (o+a.length))) w:=by
 obtain ⟨fields,i,h1,_,h3,h4,_⟩:=h
 simp only [part,Sem.run_bind,Mv w h1,Result.andThen_ok,Iv,if_true,AS w h3,h4,Sem.run_pure]
theorem ZE {t:TypeId} {a:List TK} (h:Jbu P t a) (d:Nat) {xs ys:Array Value} {o:Nat} {l l':List AV} {b:Bool} (he:Az a l l'=some b) (hx:At F ρ xs o l) (hy:At F ρ ys o l') :
  ∃ u v,(part t xs o).run P w=.ok u w/\(part t ys o).run P w=.ok v w/\(Op.equalIn (d+1+1) t u v).run P w=.ok b w:=by
 obtain ⟨e1,e2⟩:=Ej _ _ _ _ he
 cases h with
 | @one k hk=>
  match l,e1 with
  | [x],_=>
   match l',e2 with
   | [y],_=>
    obtain ⟨u,hu,hux⟩:=hx 0 x rfl
    obtain ⟨v,hv,hvy⟩:=hy 0 y rfl
    refine ⟨u,v,DC (Fu hk) (by simpa using hu),DC (Fu hk) (by simpa using hv),?_⟩
    unfold Az at he
    split at he
    ·rename_i heq;cases heq
    ·rename_i k0 ks0 k1 p xs0 k2 q ys0 e0 e3 e4
     cases e0
     simp only [List.cons.injEq] at e3 e4
     obtain ⟨rfl,rfl⟩:=e3
     obtain ⟨rfl,rfl⟩:=e4
     simp only [Az] at he
     cases hkk:(k1==k2) with
     | false=>rw [hkk] at he;cases he
     | true=>
      rw [hkk,cond_true] at he
      have:k1=k2:=by simpa using hkk
      subst this
      cases he
      rw [hux.int,hvy.int,Bool.and_true]
      obtain ⟨k3,hk3⟩:=hk
      exact run_equalIn_int w (d+1) t k1 k3 p q hk3
    ·rename_i e0 e3 e4
     cases e0
     simp only [List.cons.injEq] at e3 e4
     obtain ⟨rfl,rfl⟩:=e3
     obtain ⟨rfl,rfl⟩:=e4
     simp only [Az,JkF] at he
     subst he
     rw [hux.bool,hvy.bool,Bool.and_true]
     exact run_equalIn_bool' w (d+1) t _ _ hk
    ·rename_i e0 e3 e4
     cases e0
     simp only [List.cons.injEq] at e3 e4
     obtain ⟨rfl,rfl⟩:=e3
     obtain ⟨rfl,rfl⟩:=e4
     simp only [Az,JkF] at he
     subst he
     rw [hux.str,hvy.str,run_equalIn_string w (d+1) t _ _ hk,Cs,Cs,Bool.and_true]
    ·cases he
 | nest hn=>
  refine ⟨_,_,IV hn xs o,IV hn ys o,?_⟩
  obtain ⟨fields,i,h1,h2,h3,h4,h5,h6⟩:=hn
  have hfo:P.fieldsOf t=fields:=by simp [Program.fieldsOf,h1]
  rw [run_equalIn_struct w (d+1) t _ _ (by rw [hfo];exact h1) h2,hfo]
  have hex:∀ (zs:Array Value) (m:List AV),m.length=a.length->At F ρ zs o m->∀ (j:Nat) c,m[j]? = some c->∃ v,(zs.extract o (o+a.length))[0+j]? = some v/\Af F ρ c v:=λ zs m hm hz j c hc=>by
   obtain ⟨v,hv,hr⟩:=hz j c hc
   have hj:=Ad hc
   refine ⟨v,?_,hr⟩
   rw [JkJ,Array.getElem?_extract,if_pos (by have:=Ar hv;omega)]
   exact hv
  refine Kd (F:=F) (ρ:=ρ) d _ _ fields.toList a 0 l l' b (by simpa using h5) (λ j f k q1 q2=>?_) he (hex xs l e1 hx) (hex ys l' e2 hy)
  obtain ⟨a1,a2,a3⟩:=h6 j f k (by simpa using q1) q2
  exact ⟨a1,by omega,a3⟩
theorem Oc (d:Nat) {xs ys:Array Value} {fs:List Field} {i:Nat} {ks:List TK} (hs:XS P fs i ks):∀ {l l':List AV} {r:Bool},Az ks l l'=some r->At F ρ xs i l->At F ρ ys i l'->(Op.eqFields (d+1+1) xs ys fs).run P w=.ok r w:=by
 induction hs with
 | nil=>
  intro l l' r h _ _
  cases l with
  | cons=>simp [Az] at h
  | nil=>cases l' with
   | cons=>simp [Az] at h
   | nil=>simp [Az] at h;subst h;rfl
 | @cons f fs i a rs h0 hl _ ih=>
  intro l l' r h hx hy
  obtain ⟨b1,b2,h1,h2,rfl⟩:=RV _ _ _ _ _ h
  obtain ⟨u,v,q1,q2,q3⟩:=ZE (F:=F) (ρ:=ρ) (w:=w) hl d h1 (hx.take _) (hy.take _)
  obtain ⟨hnm,hoff⟩:=h0
  simp only [Op.eqFields]
  rw [if_pos hnm,hoff]
  simp only [Sem.run_bind,q1,q2,Result.andThen_ok,q3]
  cases b1 with
  | false=>simp
  | true=>simp only [Bool.not_true,JkH,if_false,Bool.true_and];exact ih h2 (hx.drop _) (hy.drop _)
theorem ZF {t:TypeId} {a:List TK} (h:Jbu P t a) (e:Bool) (n:Nat) {cs:Array Value} {o:Nat} (hb:o+a.length<=cs.size):∃ u,(part t cs o).run P w=.ok u w/\(Instr.checkKey e (n+1+1) t u).run P w=.ok () w:=by
 cases h with
 | one hk=>
  have hlt:o<cs.size:=by
   have:o+1<=cs.size:=by simpa using hb
   omega
  exact ⟨_,DC (Fu hk) (JkB hlt),Hp (Fu hk) e (n+1) _⟩
 | nest hn=>
  refine ⟨_,IV hn cs o,?_⟩
  obtain ⟨fields,i,h1,h2,h3,h4,h5,h6⟩:=hn
  rw [Instr.checkKey]
  simp only [Sem.run_bind,run_underlying h1,Result.andThen_ok]
  have:=KI (P:=P) (w:=w) e n (cs.extract o (o+a.length)) fields.toList (λ f hfm=>by
   obtain ⟨j,hj⟩:=List.mem_iff_getElem?.1 hfm
   have hj':fields[j]? = some f:=by simpa using hj
   have hjl:j<a.length:=by rw [← h5];exact Ar hj'
   obtain ⟨_,g2,g3⟩:=h6 j f _ hj' (Jkw hjl)
   refine ⟨Fu g3,?_⟩
   rw [g2]
   exact ⟨_,JkB (by rw [Array.size_extract];omega)⟩)
  simp at this ⊢
  rw [this];rfl
theorem ZG (e:Bool) (n:Nat) {cs:Array Value} {fs:List Field} {i:Nat} {ks:List TK} (hs:XS P fs i ks):i+ks.length<=cs.size ->
  (forIn fs PUnit.unit λ (f:Field) (_:PUnit)=>(do
   if f.name ≠ "_" then Instr.checkKey e (n+1+1) f.type (← part f.type cs f.offset)
   pure (ForInStep.yield PUnit.unit):Sem (ForInStep PUnit))).run P w=.ok PUnit.unit w:=by
 induction hs with
 | nil=>intro _;rfl
 | @cons f fs i a rs h0 hl _ ih=>
  intro hb
  rw [List.length_append] at hb
  obtain ⟨hnm,hoff⟩:=h0
  obtain ⟨u,h1,h2⟩:=ZF (w:=w) hl e n (cs:=cs) (o:=i) (by omega)
  have ih':=ih (by omega)
  rw [List.forIn_cons]
  simp only [hnm,ne_eq,not_false_eq_true,if_true,hoff,Sem.run_bind,h1,Result.andThen_ok,h2,Sem.run_pure]
  simpa using ih'
theorem UE {l:List AV} {xs:Array Value} (h:Af F ρ (.agg l) (.agg xs)):At F ρ xs 0 l:=by
 cases h with
 | agg _ _ hl hr=>
  intro j a ha
  have hj:=Ad ha
  refine ⟨xs[j],?_,hr j a _ ha (JkB (by omega))⟩
  rw [JkJ];exact JkB (by omega)
theorem JeO {t:TypeId} {fields:Array Field} {ks:List TK} (hd:P.underlying t=some (.struct fields)) (hst:P.stoodInHeld t=false) (hg:P.eqGuardType P.depth t=false) (hs:XS P fields.toList 0 ks):QF P t ks:=by
 intro l l' r xs ys F ρ w x y h hx hy
 have hfo:P.fieldsOf t=fields:=by simp [Program.fieldsOf,hd]
 have hrun:(Op.equalIn 10000 t (.agg xs) (.agg ys)).run P w=.ok r w:=by
  rw [run_equalIn_struct w 9999 t xs ys (by rw [hfo];exact hd) hst,hfo]
  exact Oc 9997 hs h (UE hx) (UE hy)
 constructor
 ·simp only [Sem.run_bind,run_eqGuard_agg w .eql t x y xs ys hg,Result.andThen_ok]
  rw [run_eql_struct,hrun];rfl
 ·simp only [Sem.run_bind,run_eqGuard_agg w .neq t x y xs ys hg,Result.andThen_ok]
  rw [run_neq_struct,hrun];rfl
theorem SV {t:TypeId} {fields:Array Field} {ks:List TK} (hd:P.underlying t=some (.struct fields)) (hst:P.stoodInHeld t=false) (hs:XS P fields.toList 0 ks):HW P t true ks:=by
 have hfo:P.fieldsOf t=fields:=by simp [Program.fieldsOf,hd]
 refine ⟨λ F a x w b hx hsm=>?_,⟨_,hd,λ F a b x y r hx hy h=>?_⟩,λ F a b x y r w hx hy h=>?_,λ F a b x y hx hy h=>?_⟩
 ·obtain ⟨vs,rfl,_,hl,hv⟩:=Hl (ρ:=λ _=>none) hx
  obtain ⟨r,hr⟩:=Option.isSome_iff_exists.1 hsm
  have hlen:=(Ej _ _ _ _ hr).1
  show (Instr.checkKey b (9999+1) t (.agg vs)).run P w=_
  rw [Instr.checkKey]
  simp only [Sem.run_bind,run_underlying hd,Result.andThen_ok]
  have:=ZG (w:=w) b 9997 (cs:=vs) hs (by simp at hlen;omega)
  simp at this ⊢
  rw [this];rfl
 ·obtain ⟨vs,rfl,_⟩:=Hl (ρ:=λ _=>none) hx
  rfl
 ·obtain ⟨xs,rfl,hxr,hxl,_⟩:=Hl (ρ:=λ _=>none) hx
  obtain ⟨ys,rfl,hyr,hyl,_⟩:=Hl (ρ:=λ _=>none) hy
  show (Op.equalIn 10000 t (.agg xs) (.agg ys)).run P w=.ok r w
  rw [run_equalIn_struct w 9999 t xs ys (by rw [hfo];exact hd) hst,hfo]
  exact Oc 9997 hs h (UE hxr) (UE hyr)
 ·obtain ⟨xs,rfl,_,hxl,hxv⟩:=Hl (ρ:=λ _=>none) hx
  obtain ⟨ys,rfl,_,hyl,hyv⟩:=Hl (ρ:=λ _=>none) hy
  have hlen:=Ej _ _ _ _ h
  simp only [List.length_map] at hlen
  show Instr.sameBits (9999+1) (.agg ys) (.agg xs)=true
  rw [Instr.sameBits]
  simp only [Jkx,beq_iff_eq]
  refine ⟨by omega,?_⟩
  exact N0 9999 ks a b xs.toList ys.toList h (by simpa using hxl) (by simpa using hyl) (λ i x u hx hu=>hxv i x u hx (by simpa using hu)) (λ i x u hx hu=>hyv i x u hx (by simpa using hu))
end Go.AI
end
section
namespace Go.AI
open Go.Proofs
set_option maxRecDepth 100000
theorem Nr:Inf Try.prog 3 1 8 (.int .i64 0):=AW (by kernel_rfl)
theorem Jbv:Inf Try.prog 4 1 1 (.bool false):=AW (by kernel_rfl)
theorem RW:Inf Try.prog 5 1 1 (.int .u8 0):=AW (by kernel_rfl)
theorem ZH:Inf Try.prog 9 1 16 (.string ⟨#[]⟩):=AW (by kernel_rfl)
theorem Jfh:Inf Try.prog 22 1 24 (.slice none 0 0):=AW (by kernel_rfl)
theorem Jjl:Inf Try.prog 24 3 32 (.agg #[.int .u8 0,.int .u8 0,.slice none 0 0]):=AW (by kernel_rfl)
theorem Jbw:Inf Try.prog 26 3 24 (.agg #[.int .i64 0,.int .i64 0,.int .u8 0]):=AW (by kernel_rfl)
theorem Jjm:Inf Try.prog 27 1 24 (.slice none 0 0):=AW (by kernel_rfl)
theorem Jfi:Inf Try.prog 29 1 24 (.slice none 0 0):=AW (by kernel_rfl)
theorem Jfj:Inf Try.prog 31 3 40 (.agg #[.int .i64 0,.int .u8 0,.slice none 0 0]):=AW (by kernel_rfl)
theorem Jbx:Inf Try.prog 33 1 24 (.slice none 0 0):=AW (by kernel_rfl)
theorem Jfk:Inf Try.prog 34 1 1 (.int .i8 0):=AW (by kernel_rfl)
theorem Wi:Inf Try.prog 39 1 24 (.slice none 0 0):=AW (by kernel_rfl)
theorem Jjn:Inf Try.prog 41 7 80 (.agg #[.string ⟨#[]⟩,.slice none 0 0,.int .i64 0,.int .i64 0,.int .i64 0,.int .u8 0,.bool false]):=AW (by kernel_rfl)
theorem Jjo:Inf Try.prog 44 1 24 (.slice none 0 0):=AW (by kernel_rfl)
theorem Jby:Inf Try.prog 47 1 24 (.slice none 0 0):=AW (by kernel_rfl)
theorem Jbz:Inf Try.prog 50 1 24 (.slice none 0 0):=AW (by kernel_rfl)
theorem Jfl:Inf Try.prog 55 6 64 (.agg #[.string ⟨#[]⟩,.slice none 0 0,.int .u8 0,.int .u8 0,.int .i64 0,.int .i64 0]):=AW (by kernel_rfl)
theorem Jjp:Inf Try.prog 57 2 48 (.agg #[.slice none 0 0,.slice none 0 0]):=AW (by kernel_rfl)
theorem Jfm:Inf Try.prog 64 1 1 (.int .u8 0):=AW (by kernel_rfl)
theorem Jfn:Inf Try.prog 67 2 2 (.agg #[.int .u8 0,.int .u8 0]):=AW (by kernel_rfl)
theorem Jfo:Inf Try.prog 69 6 56 (.agg #[.slice none 0 0,.slice none 0 0,.int .u8 0,.int .u8 0,.int .u8 0,.int .u8 0]):=AW (by kernel_rfl)
theorem Jjq:Inf Try.prog 74 1 8 (.int .i64 0):=AW (by kernel_rfl)
theorem Jfp:Inf Try.prog 77 1 24 (.slice none 0 0):=AW (by kernel_rfl)
theorem Jjr:Inf Try.prog 84 3 24 (.agg #[.int .i64 0,.int .i64 0,.int .i64 0]):=AW (by kernel_rfl)
theorem Jjs:Inf Try.prog 87 1 24 (.slice none 0 0):=AW (by kernel_rfl)
theorem Jjt:Inf Try.prog 95 1 8 (.pointer none):=AW (by kernel_rfl)
theorem JbA:Inf Try.prog 102 1 8 (.pointer none):=AW (by kernel_rfl)
theorem Jgc:Inf Try.prog 107 2 16 (.agg #[.int .i64 0,.int .i64 0]):=AW (by kernel_rfl)
theorem Jgd:Inf Try.prog 110 1 8 (.map none):=AW (by kernel_rfl)
theorem JbB:Inf Try.prog 114 1 8 (.map none):=AW (by kernel_rfl)
theorem Jge:Inf Try.prog 116 3 40 (.agg #[.pointer none,.slice none 0 0,.map none]):=AW (by kernel_rfl)
theorem UF:Inf Try.prog 118 2 16 (.agg #[.int .i64 0,.int .i64 0]):=AW (by kernel_rfl)
theorem JbC:Inf Try.prog 119 1 24 (.slice none 0 0):=AW (by kernel_rfl)
theorem Jgf:Inf Try.prog 121 3 72 (.agg #[.slice none 0 0,.slice none 0 0,.slice none 0 0]):=AW (by kernel_rfl)
theorem JbD:Inf Try.prog 124 1 24 (.slice none 0 0):=AW (by kernel_rfl)
theorem JbE:Inf Try.prog 128 3 32 (.agg #[.int .i64 0,.int .i64 0,.string ⟨#[]⟩]):=AW (by kernel_rfl)
theorem JbF:Inf Try.prog 130 2 32 (.agg #[.slice none 0 0,.int .i64 0]):=AW (by kernel_rfl)
theorem Jgg:Inf Try.prog 131 1 24 (.slice none 0 0):=AW (by kernel_rfl)
theorem Jgh:Inf Try.prog 132 1 8 (.pointer none):=AW (by kernel_rfl)
theorem Jgi:Inf Try.prog 135 1 8 (.pointer none):=AW (by kernel_rfl)
theorem Jgj:Inf Try.prog 137 4 64 (.agg #[.int .i64 0,.int .u8 0,.slice none 0 0,.slice none 0 0]):=AW (by kernel_rfl)
theorem JbG:Inf Try.prog 139 1 24 (.slice none 0 0):=AW (by kernel_rfl)
theorem JbH:Inf Try.prog 141 3 48 (.agg #[.string ⟨#[]⟩,.slice none 0 0,.int .i64 0]):=AW (by kernel_rfl)
theorem Jgk:Inf Try.prog 146 1 8 (.map none):=AW (by kernel_rfl)
theorem Jgl:Inf Try.prog 147 1 8 (.nilFunc):=AW (by kernel_rfl)
def ty:Nat->Ty
 | 3=>⟨true,[],1,false,[.int .i64 0],.int .i64⟩
 | 4=>⟨true,[],1,false,[.bool false],.bool⟩
 | 5=>⟨true,[],1,false,[.int .u8 0],.int .u8⟩
 | 9=>⟨true,[],1,false,[.str []],.string⟩
 | 22=>⟨true,[],1,false,[.nil],.slice 6 56 [.nil,.nil,.int .u8 0,.int .u8 0,.int .u8 0,.int .u8 0]⟩
 | 24=>⟨true,[],3,true,[.int .u8 0,.int .u8 0,.nil],.struct [(0,1),(1,1),(2,1)]⟩
 | 26=>⟨true,[.int .i64,.int .i64,.int .u8],3,true,[.int .i64 0,.int .i64 0,.int .u8 0],.struct [(0,1),(1,1),(2,1)]⟩
 | 27=>⟨true,[],1,false,[.nil],.slice 1 1 [.int .i8 0]⟩
 | 29=>⟨true,[],1,false,[.nil],.slice 6 64 [.str [],.nil,.int .u8 0,.int .u8 0,.int .i64 0,.int .i64 0]⟩
 | 31=>⟨true,[],3,true,[.int .i64 0,.int .u8 0,.nil],.struct [(0,1),(1,1),(2,1)]⟩
 | 33=>⟨true,[],1,false,[.nil],.slice 1 8 [.int .i64 0]⟩
 | 34=>⟨true,[],1,false,[.int .i8 0],.int .i8⟩
 | 39=>⟨true,[],1,false,[.nil],.slice 1 1 [.int .u8 0]⟩
 | 41=>⟨true,[],7,true,[.str [],.nil,.int .i64 0,.int .i64 0,.int .i64 0,.int .u8 0,.bool false],.struct [(0,1),(1,1),(2,1),(3,3),(6,1)]⟩
 | 44=>⟨true,[],1,false,[.nil],.slice 3 24 [.int .i64 0,.int .i64 0,.int .u8 0]⟩
 | 47=>⟨true,[],1,false,[.nil],.slice 1 1 [.bool false]⟩
 | 50=>⟨true,[],1,false,[.nil],.slice 1 1 [.int .u8 0]⟩
 | 55=>⟨true,[],6,true,[.str [],.nil,.int .u8 0,.int .u8 0,.int .i64 0,.int .i64 0],.struct [(0,1),(1,1),(2,1),(3,1),(4,1),(5,1)]⟩
 | 57=>⟨true,[],2,true,[.nil,.nil],.array 2 1⟩
 | 64=>⟨true,[],1,false,[.int .u8 0],.int .u8⟩
 | 67=>⟨true,[],2,true,[.int .u8 0,.int .u8 0],.array 2 1⟩
 | 69=>⟨true,[],6,true,[.nil,.nil,.int .u8 0,.int .u8 0,.int .u8 0,.int .u8 0],.struct [(0,1),(1,1),(2,1),(3,1),(4,2)]⟩
 | 74=>⟨true,[],1,false,[.int .i64 0],.int .i64⟩
 | 77=>⟨true,[],1,false,[.nil],.slice 1 16 [.str []]⟩
 | 84=>⟨true,[],3,true,[.int .i64 0,.int .i64 0,.int .i64 0],.array 3 1⟩
 | 87=>⟨true,[],1,false,[.nil],.slice 1 24 [.nil]⟩
 | 95=>⟨true,[],1,false,[.nilp],.other⟩
 | 102=>⟨true,[],1,false,[.nilp],.other⟩
 | 107=>⟨true,[],2,true,[.int .i64 0,.int .i64 0],.array 2 1⟩
 | 110=>⟨true,[],1,false,[.nilm],.map [.int .i64,.int .i64,.int .u8] true false [.int .i64 0]⟩
 | 114=>⟨true,[],1,false,[.nilm],.map [.int .i64,.int .i64] true false [.bool false]⟩
 | 116=>⟨true,[],3,true,[.nilp,.nil,.nilm],.struct [(0,1),(1,1),(2,1)]⟩
 | 118=>⟨true,[.int .i64,.int .i64],2,true,[.int .i64 0,.int .i64 0],.struct [(0,1),(1,1)]⟩
 | 119=>⟨true,[],1,false,[.nil],.slice 1 24 [.nil]⟩
 | 121=>⟨true,[],3,true,[.nil,.nil,.nil],.struct [(0,1),(1,1),(2,1)]⟩
 | 124=>⟨true,[],1,false,[.nil],.slice 3 32 [.int .i64 0,.int .i64 0,.str []]⟩
 | 128=>⟨true,[.int .i64,.int .i64,.string],3,true,[.int .i64 0,.int .i64 0,.str []],.struct [(0,2),(2,1)]⟩
 | 130=>⟨true,[],2,true,[.nil,.int .i64 0],.struct [(0,1),(1,1)]⟩
 | 131=>⟨true,[],1,false,[.nil],.slice 2 32 [.nil,.int .i64 0]⟩
 | 132=>⟨true,[],1,false,[.nilp],.other⟩
 | 135=>⟨true,[],1,false,[.nilp],.other⟩
 | 137=>⟨true,[],4,true,[.int .i64 0,.int .u8 0,.nil,.nil],.struct [(0,3),(3,1)]⟩
 | 139=>⟨true,[],1,false,[.nil],.slice 3 48 [.str [],.nil,.int .i64 0]⟩
 | 141=>⟨true,[],3,true,[.str [],.nil,.int .i64 0],.struct [(0,1),(1,1),(2,1)]⟩
 | 146=>⟨true,[],1,false,[.nilm],.map [.int .i64,.int .i64,.string] true false [.bool false]⟩
 | 147=>⟨true,[],1,false,[.nilf],.other⟩
 | _=>⟨false,[],0,false,[],.other⟩
theorem tf3:AB Try.prog 3 (ty 3):=tfM Nr Try.underlying3 rfl
theorem tf4:AB Try.prog 4 (ty 4):=tfM Jbv Try.underlying4 rfl
theorem tf5:AB Try.prog 5 (ty 5):=tfM RW Try.underlying5 rfl
theorem tf9:AB Try.prog 9 (ty 9):=tfM ZH Try.underlying9 rfl
theorem JjZ:AB Try.prog 22 (ty 22):=tfM Jfh Try.underlying22 (slK Jfo)
theorem Jj0:AB Try.prog 24 (ty 24):=tfM Jjl Try.underlying24 (stF (Ba (DB RW Try.underlying5) (Ba (DB RW Try.underlying5) (Ba (DB Jfh Try.underlying22) Jk))))
theorem Jj1:AB Try.prog 26 (ty 26):=tfM Jbw Try.underlying26 (stF (Ba (DB Nr Try.underlying3) (Ba (DB Nr Try.underlying3) (Ba (DB RW Try.underlying5) Jk)))) (λ _=>Ys Try.underlying26 (by kernel_rfl) (by kernel_rfl) rfl λ j f k h1 h2=>match j,h1,h2 with|0,h1,h2=>(by cases h1;cases h2;exact ⟨by decide,rfl,⟨_,Try.underlying3⟩⟩)|1,h1,h2=>(by cases h1;cases h2;exact ⟨by decide,rfl,⟨_,Try.underlying3⟩⟩)|2,h1,h2=>(by cases h1;cases h2;exact ⟨by decide,rfl,⟨_,Try.underlying5⟩⟩)|n+3,h1,_=>by simp at h1)
theorem Jj2:AB Try.prog 27 (ty 27):=tfM Jjm Try.underlying27 (slK Jfk)
theorem Jj3:AB Try.prog 29 (ty 29):=tfM Jfi Try.underlying29 (slK Jfl)
theorem Jj4:AB Try.prog 31 (ty 31):=tfM Jfj Try.underlying31 (stF (Ba (DB Nr Try.underlying3) (Ba (DB RW Try.underlying5) (Ba (DB Jfi Try.underlying29) Jk))))
theorem Jj5:AB Try.prog 33 (ty 33):=tfM Jbx Try.underlying33 (slK Nr)
theorem Jj6:AB Try.prog 34 (ty 34):=tfM Jfk Try.underlying34 rfl
theorem Jj7:AB Try.prog 39 (ty 39):=tfM Wi Try.underlying39 (slK Jfm (λ _=>Try.underlying64))
theorem Jj8:AB Try.prog 41 (ty 41):=tfM Jjn Try.underlying41 (stF (Ba (DB ZH Try.underlying9) (Ba (DB Wi Try.underlying39) (Ba (DB Nr Try.underlying3) (Ba (DB Jbw Try.underlying26) (Ba (DB Jbv Try.underlying4) Jk))))))
theorem Jj9:AB Try.prog 44 (ty 44):=tfM Jjo Try.underlying44 (slK Jbw)
theorem Jka:AB Try.prog 47 (ty 47):=tfM Jby Try.underlying47 (slK Jbv)
theorem Jkb:AB Try.prog 50 (ty 50):=tfM Jbz Try.underlying50 (slK RW (λ _=>Try.underlying5))
theorem Jkc:AB Try.prog 55 (ty 55):=tfM Jfl Try.underlying55 (stF (Ba (DB ZH Try.underlying9) (Ba (DB Wi Try.underlying39) (Ba (DB RW Try.underlying5) (Ba (DB RW Try.underlying5) (Ba (DB Nr Try.underlying3) (Ba (DB Nr Try.underlying3) Jk)))))))
theorem Jkd:AB Try.prog 57 (ty 57):=tfM Jjp Try.underlying57 (arK Jbx)
theorem Jke:AB Try.prog 64 (ty 64):=tfM Jfm Try.underlying64 rfl
theorem Jkf:AB Try.prog 67 (ty 67):=tfM Jfn Try.underlying67 (arK RW)
theorem Jkg:AB Try.prog 69 (ty 69):=tfM Jfo Try.underlying69 (stF (Ba (DB Jbz Try.underlying50) (Ba (DB Jbz Try.underlying50) (Ba (DB RW Try.underlying5) (Ba (DB RW Try.underlying5) (Ba (DB Jfn Try.underlying67) Jk))))))
theorem Jkh:AB Try.prog 74 (ty 74):=tfM Jjq Try.underlying74 rfl
theorem Jki:AB Try.prog 77 (ty 77):=tfM Jfp Try.underlying77 (slK ZH)
theorem Jkj:AB Try.prog 84 (ty 84):=tfM Jjr Try.underlying84 (arK Nr)
theorem Jkk:AB Try.prog 87 (ty 87):=tfM Jjs Try.underlying87 (slK Jbx)
theorem Jkl:AB Try.prog 95 (ty 95):=tfM Jjt Try.underlying95 trivial
theorem Jju:AB Try.prog 102 (ty 102):=tfM JbA Try.underlying102 trivial
theorem Jjv:AB Try.prog 107 (ty 107):=tfM Jgc Try.underlying107 (arK Nr)
theorem Jjw:AB Try.prog 110 (ty 110):=tfM Jgd Try.underlying110 (by obtain ⟨j,h1,h2,h3,h4⟩:=Nr;exact ⟨_,_,j,_,rfl,(MV Try.underlying26 (by kernel_rfl) rfl λ j f k h1 h2=>match j,h1,h2 with|0,h1,h2=>(by cases h1;cases h2;exact ⟨by decide,rfl,⟨_,Try.underlying3⟩⟩)|1,h1,h2=>(by cases h1;cases h2;exact ⟨by decide,rfl,⟨_,Try.underlying3⟩⟩)|2,h1,h2=>(by cases h1;cases h2;exact ⟨by decide,rfl,⟨_,Try.underlying5⟩⟩)|n+3,h1,_=>by simp at h1),h1,h4,rfl,(λ h=>by cases h),(λ _=>⟨_,rfl,rfl⟩)⟩)
theorem Jjx:AB Try.prog 114 (ty 114):=tfM JbB Try.underlying114 (by obtain ⟨j,h1,h2,h3,h4⟩:=Jbv;exact ⟨_,_,j,_,rfl,(MV Try.underlying118 (by kernel_rfl) rfl λ j f k h1 h2=>match j,h1,h2 with|0,h1,h2=>(by cases h1;cases h2;exact ⟨by decide,rfl,⟨_,Try.underlying3⟩⟩)|1,h1,h2=>(by cases h1;cases h2;exact ⟨by decide,rfl,⟨_,Try.underlying3⟩⟩)|n+2,h1,_=>by simp at h1),h1,h4,rfl,(λ h=>by cases h),(λ _=>⟨_,rfl,rfl⟩)⟩)
theorem Jjy:AB Try.prog 116 (ty 116):=tfM Jge Try.underlying116 (stF (Ba (DB JbA Try.underlying102) (Ba (DB Wi Try.underlying39) (Ba (DB JbB Try.underlying114) Jk))))
theorem Jjz:AB Try.prog 118 (ty 118):=tfM UF Try.underlying118 (stF (Ba (DB Nr Try.underlying3) (Ba (DB Nr Try.underlying3) Jk))) (λ _=>Ys Try.underlying118 (by kernel_rfl) (by kernel_rfl) rfl λ j f k h1 h2=>match j,h1,h2 with|0,h1,h2=>(by cases h1;cases h2;exact ⟨by decide,rfl,⟨_,Try.underlying3⟩⟩)|1,h1,h2=>(by cases h1;cases h2;exact ⟨by decide,rfl,⟨_,Try.underlying3⟩⟩)|n+2,h1,_=>by simp at h1)
theorem JjA:AB Try.prog 119 (ty 119):=tfM JbC Try.underlying119 (slK JbG)
theorem JjB:AB Try.prog 121 (ty 121):=tfM Jgf Try.underlying121 (stF (Ba (DB JbC Try.underlying119) (Ba (DB Jby Try.underlying47) (Ba (DB Jby Try.underlying47) Jk))))
theorem JjC:AB Try.prog 124 (ty 124):=tfM JbD Try.underlying124 (slK JbE)
theorem JjD:AB Try.prog 128 (ty 128):=tfM JbE Try.underlying128 (stF (Ba (DB UF Try.underlying118) (Ba (DB ZH Try.underlying9) Jk))) (λ _=>JeO Try.underlying128 (by kernel_rfl) (by kernel_rfl) (.cons (a:=[.int .i64,.int .i64]) ⟨by decide,rfl⟩ (.nest (by obtain ⟨j,h1,h2,_⟩:=UF;exact ⟨_,j,Try.underlying118,(by kernel_rfl),h1,h2,rfl,λ j f k h1 h2=>match j,h1,h2 with|0,h1,h2=>(by cases h1;cases h2;exact ⟨by decide,rfl,⟨_,Try.underlying3⟩⟩)|1,h1,h2=>(by cases h1;cases h2;exact ⟨by decide,rfl,⟨_,Try.underlying3⟩⟩)|n+2,h1,_=>by simp at h1⟩)) (.cons (a:=[.string]) ⟨by decide,rfl⟩ (.one Try.underlying9) .nil)))
theorem JjE:AB Try.prog 130 (ty 130):=tfM JbF Try.underlying130 (stF (Ba (DB JbD Try.underlying124) (Ba (DB Nr Try.underlying3) Jk)))
theorem JjF:AB Try.prog 131 (ty 131):=tfM Jgg Try.underlying131 (slK JbF)
theorem JjG:AB Try.prog 132 (ty 132):=tfM Jgh Try.underlying132 trivial
theorem JjH:AB Try.prog 135 (ty 135):=tfM Jgi Try.underlying135 trivial
theorem JjI:AB Try.prog 137 (ty 137):=tfM Jgj Try.underlying137 (stF (Ba (DB Jfj Try.underlying31) (Ba (DB Jfp Try.underlying77) Jk)))
theorem JjJ:AB Try.prog 139 (ty 139):=tfM JbG Try.underlying139 (slK JbH)
theorem JjK:AB Try.prog 141 (ty 141):=tfM JbH Try.underlying141 (stF (Ba (DB ZH Try.underlying9) (Ba (DB Wi Try.underlying39) (Ba (DB Nr Try.underlying3) Jk))))
theorem JjL:AB Try.prog 146 (ty 146):=tfM Jgk Try.underlying146 (by obtain ⟨j,h1,h2,h3,h4⟩:=Jbv;exact ⟨_,_,j,_,rfl,(SV Try.underlying128 (by kernel_rfl) (.cons (a:=[.int .i64,.int .i64]) ⟨by decide,rfl⟩ (.nest (by obtain ⟨j,h1,h2,_⟩:=UF;exact ⟨_,j,Try.underlying118,(by kernel_rfl),h1,h2,rfl,λ j f k h1 h2=>match j,h1,h2 with|0,h1,h2=>(by cases h1;cases h2;exact ⟨by decide,rfl,⟨_,Try.underlying3⟩⟩)|1,h1,h2=>(by cases h1;cases h2;exact ⟨by decide,rfl,⟨_,Try.underlying3⟩⟩)|n+2,h1,_=>by simp at h1⟩)) (.cons (a:=[.string]) ⟨by decide,rfl⟩ (.one Try.underlying9) .nil))),h1,h4,rfl,(λ h=>by cases h),(λ _=>⟨_,rfl,rfl⟩)⟩)
theorem JjM:AB Try.prog 147 (ty 147):=tfM Jgl Try.underlying147 trivial
theorem tyOK:K6 Try.prog ty:=by
 intro t h
 unfold ty at h
 split at h
 ·exact tf3
 ·exact tf4
 ·exact tf5
 ·exact tf9
 ·exact JjZ
 ·exact Jj0
 ·exact Jj1
 ·exact Jj2
 ·exact Jj3
 ·exact Jj4
 ·exact Jj5
 ·exact Jj6
 ·exact Jj7
 ·exact Jj8
 ·exact Jj9
 ·exact Jka
 ·exact Jkb
 ·exact Jkc
 ·exact Jkd
 ·exact Jke
 ·exact Jkf
 ·exact Jkg
 ·exact Jkh
 ·exact Jki
 ·exact Jkj
 ·exact Jkk
 ·exact Jkl
 ·exact Jju
 ·exact Jjv
 ·exact Jjw
 ·exact Jjx
 ·exact Jjy
 ·exact Jjz
 ·exact JjA
 ·exact JjB
 ·exact JjC
 ·exact JjD
 ·exact JjE
 ·exact JjF
 ·exact JjG
 ·exact JjH
 ·exact JjI
 ·exact JjJ
 ·exact JjK
 ·exact JjL
 ·exact JjM
 ·cases h
theorem follows:Try.prog.follows .mixedOrders=true:=by kernel_rfl
def qfT:List (Nat×Nat):=[]
theorem Jkm:∀ f k,(f,k)∈qfT->∀ vs:Array Value,vs.size=k->QD Try.prog (QZ f vs):=λ _ _ h=>by cases h
def cxk (n nk:Nat):Cx:=⟨ty,⟨n,[],nk,qfT⟩,AF Try.prog,Bk Try.prog,NS Try.prog,false⟩
def cxr (n nk:Nat):Cx:=⟨ty,⟨n,[],nk,[]⟩,AF Try.prog,Bk Try.prog,NS Try.prog,true⟩
def cx (n:Nat):Cx:=cxk n 0
theorem Jfq (n nk:Nat):Hj Try.prog (cxk n nk):=⟨tyOK,λ _ _ _ h=>h,λ _ _ _ _ _ _ h=>h,λ _ _ _ _ _ h=>h,Jkm,λ h=>by cases h⟩
theorem YE (n nk:Nat):Hj Try.prog (cxr n nk):=⟨tyOK,λ _ _ _ h=>h,λ _ _ _ _ _ _ h=>h,λ _ _ _ _ _ h=>h,λ _ _ h=>(by cases h),λ _=>rfl⟩
end Go.AI
end
section
namespace Go.AI
structure Au where
 Print:(List UInt8)
 Cells:(List Int)
 Left:Int
 Right:Int
 From:Int
 To:Int
 deriving DecidableEq,Inhabited
structure Ab where
 Modes:Int
 Accept:Int
 Rules:(List Au)
 deriving DecidableEq,Inhabited
structure Aa where
 Mode:Int
 Last:Int
 Need:Int
 deriving DecidableEq,Inhabited
structure K7 where
 Print:(List UInt8)
 Cells:(List Int)
 To:Int
 deriving DecidableEq,Inhabited
structure An where
 Arcs:(List (List K7))
 Accepts:(List Bool)
 Alive:(List Bool)
 deriving DecidableEq,Inhabited
structure Ae where
 At:Int
 State:Int
 deriving DecidableEq,Inhabited
structure Ac where
 Spot:Ae
 Rest:(List UInt8)
 deriving DecidableEq,Inhabited
structure AY where
 Heads:(List Ac)
 Next:Int
 deriving DecidableEq,Inhabited
structure FT (α:Type) where
 a0:α
 a1:α
 deriving DecidableEq,Inhabited
structure DE where
 P:(List Int)
 C:(List Int)
 L:Int
 R:Int
 W:(FT Int)
 deriving DecidableEq,Inhabited
structure MM where
 Base:Int
 Drop:Int
 More:(List DE)
 deriving DecidableEq,Inhabited
structure Ao where
 T:Ab
 L:(List (List UInt8))
 deriving DecidableEq,Inhabited
structure Jgm where
 Text:(List UInt8)
 Cells:(List Int)
 At:Int
 End:Aa
 Ok:Bool
 deriving DecidableEq,Inhabited
def GQ (_:Nat) (t_1:Ab) (i_1:Int):Option ((Ab×Int)⊕Ab):=
 if decide (i_1<4)=true then
  (idx ([[97],[98],[97,98],[98,97]]) i_1).bind λ x1=>
  (idx [1,3,7,1] i_1).bind λ x2=>
  (app 64 t_1.Rules ([({ Print:=x1,Cells:=[x2],Left:=63,Right:=63,From:=0,To:=0 }:Au)])).bind λ l1=>
  some (.inl (({ Modes:=t_1.Modes,Accept:=t_1.Accept,Rules:=l1 }:Ab),(Bl .i64 i_1 1)))
 else
  some (.inr t_1)
def Kf (n:Nat) :Option Ab:=
 (whl (λ (x:(Ab×Int))=>GQ n x.1 x.2) n (({ Modes:=1,Accept:=1,Rules:=([]:List Au) }:Ab),0)).bind λ y1=>
 some y1
def DW (_:Nat) (p0_:Int):Option Bool:=
 some ((decide (32<=CB .u8 p0_ 127))&&(decide (CB .u8 p0_ 127<=126)))
def FE (n:Nat) (p0_:(List UInt8)) (x_1:Int):Option (Int⊕(Unit⊕(Int×Int))):=
 if decide (x_1<((p0_.length:Nat):Int))=true then
  (ML p0_ x_1).bind λ b1=>
  (DW n b1).bind λ r1=>
  if (!r1)=true then
   some (.inr (.inr (x_1,60)))
  else
   some (.inl (Bl .i64 x_1 1))
 else
  some (.inr (.inl ()))
def Jo (n:Nat) (p0_:(List UInt8)):Option (Int×Int):=
 (whl (λ (x:Int)=>FE n p0_ x) n 0).bind λ y2=>
 match y2 with
 | Sum.inl _=>
  some (((p0_.length:Nat):Int),0)
 | Sum.inr y4=>
  some y4
def FF (_:Nat) (p0_:Int):Option Int:=
 if ((decide (97<=CB .u8 p0_ 127))&&(decide (CB .u8 p0_ 127<=122)))=true then
  some 1
 else
  if ((decide (65<=CB .u8 p0_ 127))&&(decide (CB .u8 p0_ 127<=90)))=true then
   some 2
  else
   if ((decide (48<=CB .u8 p0_ 127))&&(decide (CB .u8 p0_ 127<=57)))=true then
    some 3
   else
    if ((CB .u8 p0_ 127)==32)=true then
     some 4
    else
     some 5
def C8 (n:Nat) (p0_:(List UInt8)) (x_2:Int):Option (Int⊕(Unit⊕Bool)):=
 if decide (x_2<((p0_.length:Nat):Int))=true then
  (ML p0_ x_2).bind λ b2=>
  (FF n b2).bind λ r2=>
  if (r2==4)=true then
   some (.inr (.inr true))
  else
   some (.inl (Bl .i64 x_2 1))
 else
  some (.inr (.inl ()))
def EJ (n:Nat) (p0_:(List UInt8)):Option Bool:=
 (whl (λ (x:Int)=>C8 n p0_ x) n 0).bind λ y5=>
 match y5 with
 | Sum.inl _=>
  some false
 | Sum.inr y7=>
  some y7
def Jp (_:Nat) (p0_:Int):Option Bool:=
 some (decide (p0_<64))
def EK (n:Nat) (p0_:Au) (x_3:Int):Option (Int⊕(Unit⊕Bool)):=
 if decide (x_3<((p0_.Cells.length:Nat):Int))=true then
  (idx p0_.Cells x_3).bind λ x4=>
  (Jp n x4).bind λ r5=>
  if (((!r5)||(x4==63))||(x4==0))=true then
   some (.inr (.inr false))
  else
   some (.inl (Bl .i64 x_3 1))
 else
  some (.inr (.inl ()))
def HJ (n:Nat) (p0_:Au) (p1_:Int):Option Bool:=
 if (((decide (((p0_.Print.length:Nat):Int)>4))||(decide (((p0_.Cells.length:Nat):Int)<1)))||(decide (((p0_.Cells.length:Nat):Int)>4)))=true then
  some false
 else
  (Jo n p0_.Print).bind λ r3=>
  if (r3.2 != 0)=true then
   some false
  else
   if ((((decide (p0_.Left<1))||(decide (p0_.Left>63)))||(decide (p0_.Right<1)))||(decide (p0_.Right>63)))=true then
    some false
   else
    if ((((decide (p0_.From<0))||(decide (p0_.From>=p1_)))||(decide (p0_.To<0)))||(decide (p0_.To>=p1_)))=true then
     some false
    else
     (EJ n p0_.Print).bind λ r4=>
     if r4=true then
      (if ((((p0_.Print.length:Nat):Int)==1)&&(((p0_.Cells.length:Nat):Int)==1))=true then idx p0_.Cells 0 else some default).bind λ x3=>
      some (((((p0_.Print.length:Nat):Int)==1)&&(((p0_.Cells.length:Nat):Int)==1))&&(x3==0))
     else
      (whl (λ (x:Int)=>EK n p0_ x) n 0).bind λ y8=>
      match y8 with
      | Sum.inl _=>
       some true
      | Sum.inr y10=>
       some y10
def EL (_:Nat) (p0_:(List Int)) (p1_:(List Int)) (x_4:Int):Option (Int⊕(Unit⊕Bool)):=
 if decide (x_4<((p0_.length:Nat):Int))=true then
  (idx p0_ x_4).bind λ x5=>
  (idx p1_ x_4).bind λ x6=>
  if (x5 != x6)=true then
   some (.inr (.inr false))
  else
   some (.inl (Bl .i64 x_4 1))
 else
  some (.inr (.inl ()))
def HK (n:Nat) (p0_:(List Int)) (p1_:(List Int)):Option Bool:=
 if (((p0_.length:Nat):Int) != ((p1_.length:Nat):Int))=true then
  some false
 else
  (whl (λ (x:Int)=>EL n p0_ p1_ x) n 0).bind λ y11=>
  match y11 with
  | Sum.inl _=>
   some true
  | Sum.inr y13=>
   some y13
def HL (n:Nat) (p0_:Au) (p1_:Au):Option Bool:=
 (if (((((p0_.From==p1_.From)&&(p0_.To==p1_.To))&&(p0_.Left==p1_.Left))&&(p0_.Right==p1_.Right))&&(p0_.Print==p1_.Print))=true then HK n p0_.Cells p1_.Cells else some default).bind λ r6=>
 some ((((((p0_.From==p1_.From)&&(p0_.To==p1_.To))&&(p0_.Left==p1_.Left))&&(p0_.Right==p1_.Right))&&(p0_.Print==p1_.Print))&&r6)
def DN (n:Nat) (_:Ab) (x_5:Int) (x7:Au) (l2:(List Au)) (x_6:Int):Option (Int⊕(Unit⊕(Int×Int))):=
 if decide (x_6<((l2.length:Nat):Int))=true then
  (idx l2 x_6).bind λ x8=>
  (HL n x8 x7).bind λ r8=>
  if r8=true then
   some (.inr (.inr (x_5,20)))
  else
   some (.inl (Bl .i64 x_6 1))
 else
  some (.inr (.inl ()))
def DO (n:Nat) (p0_:Ab) (x_5:Int):Option (Int⊕(Unit⊕(Int×Int))):=
 if decide (x_5<((p0_.Rules.length:Nat):Int))=true then
  (idx p0_.Rules x_5).bind λ x7=>
  (HJ n x7 p0_.Modes).bind λ r7=>
  if (!r7)=true then
   some (.inr (.inr (x_5,20)))
  else
   (sub p0_.Rules 0 x_5).bind λ l2=>
   (whl (λ (x:Int)=>DN n p0_ x_5 x7 l2 x) n 0).bind λ y14=>
   match y14 with
   | Sum.inl _=>
    some (.inl (Bl .i64 x_5 1))
   | Sum.inr y16=>
    some (.inr (.inr y16))
 else
  some (.inr (.inl ()))
def HM (n:Nat) (p0_:Ab):Option (Int×Int):=
 if ((decide (p0_.Modes<1))||(decide (p0_.Modes>8)))=true then
  some ((-1),1)
 else
  (if (!(p0_.Accept==0))=true then Ek (decide (0<=p0_.Modes)) else some default).bind λ _=>
  if ((p0_.Accept==0)||(decide (IntKind.i64.wrap p0_.Accept>=Ry .i64 1 p0_.Modes)))=true then
   some ((-1),1)
  else
   if ((decide (((p0_.Rules.length:Nat):Int)<1))||(decide (((p0_.Rules.length:Nat):Int)>64)))=true then
    some ((-1),1)
   else
    (whl (λ (x:Int)=>DO n p0_ x) n 0).bind λ y17=>
    match y17 with
    | Sum.inl _=>
     some (0,0)
    | Sum.inr y19=>
     some y19
def Gy (n:Nat) (p0_:Ab):Option Bool:=
 (HM n p0_).bind λ r9=>
 some (r9.2==0)
def Jq (_:Nat) :Option Aa:=
 some ({ Mode:=0,Last:=0,Need:=63 }:Aa)
def Hz (_:Nat) (p0_:Int) (p1_:Int):Option Bool:=
 (if ((decide (0<=p1_))&&(decide (p1_<8)))=true then Ek (decide (0<=p1_)) else some default).bind λ _=>
 some (((decide (0<=p1_))&&(decide (p1_<8)))&&((CB .u8 (Jeh .u8 p0_ p1_) 1)==1))
def HZ (n:Nat) (p0_:Ab) (p1_:Aa) (p2_:Int):Option (Aa×Bool):=
 if ((decide (p2_<0))||(decide (p2_>=((p0_.Rules.length:Nat):Int))))=true then
  some (({ Mode:=0,Last:=0,Need:=0 }:Aa),false)
 else
  (idx p0_.Rules p2_).bind λ x9=>
  (if (!(x9.From != p1_.Mode))=true then Hz n x9.Left p1_.Last else some default).bind λ r10=>
  if ((x9.From != p1_.Mode)||(!r10))=true then
   some (({ Mode:=0,Last:=0,Need:=0 }:Aa),false)
  else
   if (x9.Print==[])=true then
    if ((CB .u8 p1_.Need x9.Right)==0)=true then
     some (({ Mode:=0,Last:=0,Need:=0 }:Aa),false)
    else
     some (({ Mode:=x9.To,Last:=p1_.Last,Need:=CB .u8 p1_.Need x9.Right }:Aa),true)
   else
    (ML x9.Print 0).bind λ b3=>
    (FF n b3).bind λ r11=>
    (Hz n p1_.Need r11).bind λ r12=>
    if (!r12)=true then
     some (({ Mode:=0,Last:=0,Need:=0 }:Aa),false)
    else
     (ML x9.Print (Ec .i64 ((x9.Print.length:Nat):Int) 1)).bind λ b4=>
     (FF n b4).bind λ r13=>
     some (({ Mode:=x9.To,Last:=r13,Need:=x9.Right }:Aa),true)
def Cy (_:Nat) (x_7:Int) (states_5:(List Aa)) (from_5:(List (List Int))) (number_4:(List (Aa×Int))):Option (((List Aa)×(List (List Int))×(List (Aa×Int))×Int)⊕((List Aa)×(List (List Int))×(List (Aa×Int)))):=
 some (.inl (states_5,from_5,number_4,(Bl .i64 x_7 1)))
def CW (n:Nat) (k_1:Int) (x_7:Int) (states_6:(List Aa)) (from_6:(List (List Int))) (number_5:(List (Aa×Int))) (n_1:Int):Option (((List Aa)×(List (List Int))×(List (Aa×Int))×Int)⊕((List Aa)×(List (List Int))×(List (Aa×Int)))):=
 (idx from_6 n_1).bind λ x11=>
 (app 8 x11 [k_1]).bind λ l3=>
 Cy n x_7 states_6 (List.set from_6 n_1.toNat l3) number_5
def By (n:Nat) (p0_:Ab) (k_1:Int) (states_3:(List Aa)) (from_3:(List (List Int))) (number_2:(List (Aa×Int))) (x_7:Int):Option (((List Aa)×(List (List Int))×(List (Aa×Int))×Int)⊕((List Aa)×(List (List Int))×(List (Aa×Int)))):=
 if decide (x_7<((p0_.Rules.length:Nat):Int))=true then
  (idx states_3 k_1).bind λ x10=>
  (HZ n p0_ x10 x_7).bind λ r15=>
  if (!r15.2)=true then
   Cy n x_7 states_3 from_3 number_2
  else
   if (!(Option.isSome (Dg r15.1 number_2)))=true then
    (app 24 states_3 [r15.1]).bind λ l4=>
    (app 24 from_3 [([]:(List Int))]).bind λ l5=>
    CW n k_1 x_7 l4 l5 (El r15.1 ((states_3.length:Nat):Int) number_2) ((states_3.length:Nat):Int)
   else
    CW n k_1 x_7 states_3 from_3 number_2 (Option.getD (Dg r15.1 number_2) 0)
 else
  some (.inr (states_3,from_3,number_2))
def Cz (n:Nat) (p0_:Ab) (states_1:(List Aa)) (from_1:(List (List Int))) (number_1:(List (Aa×Int))) (k_1:Int):Option (((List Aa)×(List (List Int))×(List (Aa×Int))×Int)⊕((List Aa)×(List (List Int)))):=
 if decide (k_1<((states_1.length:Nat):Int))=true then
  (whl (λ (x:((List Aa)×(List (List Int))×(List (Aa×Int))×Int))=>By n p0_ k_1 x.1 x.2.1 x.2.2.1 x.2.2.2) n (states_1,from_1,number_1,0)).bind λ y20=>
  some (.inl (y20.1,y20.2.1,y20.2.2,(Bl .i64 k_1 1)))
 else
  some (.inr (states_1,from_1))
def Eo (n:Nat) (p0_:Ab):Option ((List Aa)×(List (List Int))):=
 (Jq n).bind λ r14=>
 (whl (λ (x:((List Aa)×(List (List Int))×(List (Aa×Int))×Int))=>Cz n p0_ x.1 x.2.1 x.2.2.1 x.2.2.2) n ([r14],([[]]:List (List Int)),(El r14 0 []),0)).bind λ y21=>
 some (y21.1,y21.2)
def H1 (n:Nat) (p0_:Ab):Option (List Aa):=
 (Eo n p0_).bind λ r16=>
 some r16.1
def Ep (n:Nat) (p0_:Ab) (p1_:Aa):Option Bool:=
 (if decide (p1_.Mode<p0_.Modes)=true then Hz n p0_.Accept p1_.Mode else some default).bind λ r17=>
 (if ((decide (p1_.Mode<p0_.Modes))&&r17)=true then Hz n p1_.Need 0 else some default).bind λ r18=>
 some (((decide (p1_.Mode<p0_.Modes))&&r17)&&r18)
def DP (_:Nat) (x_8:Int) (alive_3:(List Bool)) (open_3:(List Int)):Option (((List Bool)×(List Int)×Int)⊕((List Bool)×(List Int))):=
 some (.inl (alive_3,open_3,(Bl .i64 x_8 1)))
def Dj (n:Nat) (p0_:Ab) (r19:((List Aa)×(List (List Int)))) (alive_1:(List Bool)) (open_1:(List Int)) (x_8:Int):Option (((List Bool)×(List Int)×Int)⊕((List Bool)×(List Int))):=
 if decide (x_8<((r19.1.length:Nat):Int))=true then
  (idx r19.1 x_8).bind λ x12=>
  (Ep n p0_ x12).bind λ r20=>
  if r20=true then
   (idx alive_1 x_8).bind λ _=>
   (put alive_1 x_8 true).bind λ l7=>
   (app 8 open_1 [x_8]).bind λ l8=>
   DP n x_8 l7 l8
  else
   DP n x_8 alive_1 open_1
 else
  some (.inr (alive_1,open_1))
def DQ (_:Nat) (x_9:Int) (alive_8:(List Bool)) (open_7:(List Int)):Option (((List Bool)×(List Int)×Int)⊕((List Bool)×(List Int))):=
 some (.inl (alive_8,open_7,(Bl .i64 x_9 1)))
def Dk (n:Nat) (_:((List Aa)×(List (List Int)))) (x15:(List Int)) (alive_6:(List Bool)) (open_5:(List Int)) (x_9:Int):Option (((List Bool)×(List Int)×Int)⊕((List Bool)×(List Int))):=
 if decide (x_9<((x15.length:Nat):Int))=true then
  (idx x15 x_9).bind λ x16=>
  (idx alive_6 x16).bind λ x17=>
  if (!x17)=true then
   (idx alive_6 x16).bind λ _=>
   (put alive_6 x16 true).bind λ l10=>
   (app 8 open_5 [x16]).bind λ l11=>
   DQ n x_9 l10 l11
  else
   DQ n x_9 alive_6 open_5
 else
  some (.inr (alive_6,open_5))
def EM (n:Nat) (r19:((List Aa)×(List (List Int)))) (alive_4:(List Bool)) (open_4:(List Int)):Option (((List Bool)×(List Int))⊕(List Bool)):=
 if decide (((open_4.length:Nat):Int)>0)=true then
  (idx open_4 (Ec .i64 ((open_4.length:Nat):Int) 1)).bind λ x14=>
  (sub open_4 0 (Ec .i64 ((open_4.length:Nat):Int) 1)).bind λ l9=>
  (idx r19.2 x14).bind λ x15=>
  (whl (λ (x:((List Bool)×(List Int)×Int))=>Dk n r19 x15 x.1 x.2.1 x.2.2) n (alive_4,l9,0)).bind λ y23=>
  some (.inl (y23.1,y23.2))
 else
  some (.inr alive_4)
def HN (n:Nat) (p0_:Ab):Option (List Bool):=
 (Eo n p0_).bind λ r19=>
 (mkl 1 ((r19.1.length:Nat):Int) (false:Bool)).bind λ l6=>
 (whl (λ (x:((List Bool)×(List Int)×Int))=>Dj n p0_ r19 x.1 x.2.1 x.2.2) n (l6,([]:List Int),0)).bind λ y22=>
 (whl (λ (x:((List Bool)×(List Int)))=>EM n r19 x.1 x.2) n (y22.1,y22.2)).bind λ y24=>
 some y24
def D0 (_:Nat) (p0_:(List Int)) (p1_:(List Int)) (n_2:Int):Option (Int⊕Int):=
 (if ((decide (n_2<((p0_.length:Nat):Int)))&&(decide (n_2<((p1_.length:Nat):Int))))=true then idx p0_ n_2 else some default).bind λ x19=>
 (if ((decide (n_2<((p0_.length:Nat):Int)))&&(decide (n_2<((p1_.length:Nat):Int))))=true then idx p1_ n_2 else some default).bind λ x20=>
 if (((decide (n_2<((p0_.length:Nat):Int)))&&(decide (n_2<((p1_.length:Nat):Int))))&&(x19==x20))=true then
  some (.inl (Bl .i64 n_2 1))
 else
  some (.inr n_2)
def Er (n:Nat) (p0_:(List Int)) (p1_:(List Int)):Option Int:=
 (whl (λ (x:Int)=>D0 n p0_ p1_ x) n 0).bind λ y25=>
 some y25
def Bs (_:Nat) (p0_:Ae) (o2_:(List (Ae×Bool))) (o3_:(List (Bool×(List Int)))):Option ((List (Ae×Bool))×(List (Bool×(List Int)))):=
 if (!(Option.getD (Dg p0_ o2_) false))=true then
  (XB o3_ p0_.At).bind λ x21=>
  (app 8 x21 [p0_.State]).bind λ l12=>
  some ((El p0_ true o2_),(List.set o3_ p0_.At.toNat (false,l12)))
 else
  some (o2_,o3_)
def CH (_:Nat) (_:Ab) (r24:(List Aa)) (number_6:(List (Aa×Int))) (x_16:Int):Option (((List (Aa×Int))×Int)⊕(List (Aa×Int))):=
 if decide (x_16<((r24.length:Nat):Int))=true then
  (idx r24 x_16).bind λ x27=>
  some (.inl ((El x27 x_16 number_6),(Bl .i64 x_16 1)))
 else
  some (.inr number_6)
def C9 (_:Nat) (x_18:Int) (g_5:An):Option ((An×Int)⊕An):=
 some (.inl (g_5,(Bl .i64 x_18 1)))
def Cg (n:Nat) (p0_:Ab) (_:(List Aa)) (y29:(List (Aa×Int))) (x_17:Int) (x28:Aa) (g_3:An) (x_18:Int):Option ((An×Int)⊕An):=
 if decide (x_18<((p0_.Rules.length:Nat):Int))=true then
  (idx p0_.Rules x_18).bind λ x30=>
  (HZ n p0_ x28 x_18).bind λ r27=>
  (if r27.2=true then idx g_3.Alive (Option.getD (Dg r27.1 y29) 0) else some default).bind λ x31=>
  if (r27.2&&x31)=true then
   (idx g_3.Arcs x_17).bind λ x32=>
   (app 48 x32 [({ Print:=x30.Print,Cells:=x30.Cells,To:=(Option.getD (Dg r27.1 y29) 0) }:K7)]).bind λ l18=>
   C9 n x_18 ({ Arcs:=List.set g_3.Arcs x_17.toNat l18,Accepts:=g_3.Accepts,Alive:=g_3.Alive }:An)
  else
   C9 n x_18 g_3
 else
  some (.inr g_3)
def CI (n:Nat) (p0_:Ab) (r24:(List Aa)) (y29:(List (Aa×Int))) (g_1:An) (x_17:Int):Option ((An×Int)⊕An):=
 if decide (x_17<((r24.length:Nat):Int))=true then
  (idx r24 x_17).bind λ x28=>
  (Ep n p0_ x28).bind λ r26=>
  (idx g_1.Accepts x_17).bind λ _=>
  (put g_1.Accepts x_17 r26).bind λ l17=>
  (whl (λ (x:(An×Int))=>Cg n p0_ r24 y29 x_17 x28 x.1 x.2) n (({ Arcs:=g_1.Arcs,Accepts:=l17,Alive:=g_1.Alive }:An),0)).bind λ y30=>
  some (.inl (y30,(Bl .i64 x_17 1)))
 else
  some (.inr g_1)
def DR (n:Nat) (p0_:Ab):Option An:=
 (H1 n p0_).bind λ r24=>
 (whl (λ (x:((List (Aa×Int))×Int))=>CH n p0_ r24 x.1 x.2) n ([],0)).bind λ y29=>
 (mkl 24 ((r24.length:Nat):Int) ([]:(List K7))).bind λ l15=>
 (mkl 1 ((r24.length:Nat):Int) (false:Bool)).bind λ l16=>
 (HN n p0_).bind λ r25=>
 (whl (λ (x:(An×Int))=>CI n p0_ r24 y29 x.1 x.2) n (({ Arcs:=l15,Accepts:=l16,Alive:=r25 }:An),0)).bind λ y31=>
 some y31
def CX (_:Nat) (x_23:Int) (reached_14:(List (Bool×(List Int)))) (add_12:(List (Ae×Bool))) (most_14:Int):Option (((List (Bool×(List Int)))×(List (Ae×Bool))×Int×Int)⊕((List (Bool×(List Int)))×(List (Ae×Bool))×Int)):=
 some (.inl (reached_14,add_12,most_14,(Bl .i64 x_23 1)))
def Bz (n:Nat) (p1_:(List Int)) (_:An) (_:((List (Ae×Bool))×(List (Bool×(List Int))))) (x_21:Int) (_:(Bool×(List Int))) (_:Int) (x36:(List K7)) (reached_12:(List (Bool×(List Int)))) (add_10:(List (Ae×Bool))) (most_12:Int) (x_23:Int):Option (((List (Bool×(List Int)))×(List (Ae×Bool))×Int×Int)⊕((List (Bool×(List Int)))×(List (Ae×Bool))×Int)):=
 if decide (x_23<((x36.length:Nat):Int))=true then
  (idx x36 x_23).bind λ x37=>
  (sub p1_ x_21 ((p1_.length:Nat):Int)).bind λ l20=>
  (Er n x37.Cells l20).bind λ r29=>
  if (r29==((x37.Cells.length:Nat):Int))=true then
   (Bs n ({ At:=Bl .i64 x_21 r29,State:=x37.To }:Ae) add_10 reached_12).bind λ (r30:((List (Ae×Bool))×(List (Bool×(List Int)))))=>
   CX n x_23 r30.2 r30.1 (if Bl .i64 x_21 r29>most_12 then Bl .i64 x_21 r29 else most_12)
  else
   CX n x_23 reached_12 add_10 (if Bl .i64 x_21 r29>most_12 then Bl .i64 x_21 r29 else most_12)
 else
  some (.inr (reached_12,add_10,most_12))
def BA (n:Nat) (p1_:(List Int)) (b0_:An) (r28:((List (Ae×Bool))×(List (Bool×(List Int))))) (x_21:Int) (x34:(Bool×(List Int))) (reached_10:(List (Bool×(List Int)))) (add_8:(List (Ae×Bool))) (most_10:Int) (x_22:Int):Option (((List (Bool×(List Int)))×(List (Ae×Bool))×Int×Int)⊕((List (Bool×(List Int)))×(List (Ae×Bool))×Int)):=
 if decide (x_22<((x34.2.length:Nat):Int))=true then
  (idx x34.2 x_22).bind λ x35=>
  (idx b0_.Arcs x35).bind λ x36=>
  (whl (λ (x:((List (Bool×(List Int)))×(List (Ae×Bool))×Int×Int))=>Bz n p1_ b0_ r28 x_21 x34 x_22 x36 x.1 x.2.1 x.2.2.1 x.2.2.2) n (reached_10,add_8,most_10,0)).bind λ (y32:((List (Bool×(List Int)))×(List (Ae×Bool))×Int))=>
  some (.inl (y32.1,y32.2.1,y32.2.2,(Bl .i64 x_22 1)))
 else
  some (.inr (reached_10,add_8,most_10))
def BX (n:Nat) (p1_:(List Int)) (b0_:An) (r28:((List (Ae×Bool))×(List (Bool×(List Int))))) (reached_8:(List (Bool×(List Int)))) (add_7:(List (Ae×Bool))) (most_8:Int) (x_21:Int):Option (((List (Bool×(List Int)))×(List (Ae×Bool))×Int×Int)⊕((List (Bool×(List Int)))×Int)):=
 if decide (x_21<((r28.2.length:Nat):Int))=true then
  (idx reached_8 x_21).bind λ x34=>
  (whl (λ (x:((List (Bool×(List Int)))×(List (Ae×Bool))×Int×Int))=>BA n p1_ b0_ r28 x_21 x34 x.1 x.2.1 x.2.2.1 x.2.2.2) n ((List.set reached_8 x_21.toNat (true,x34.2)),add_7,most_8,0)).bind λ (y33:((List (Bool×(List Int)))×(List (Ae×Bool))×Int))=>
  some (.inl (y33.1,y33.2.1,y33.2.2,(Bl .i64 x_21 1)))
 else
  some (.inr (reached_8,most_8))
def CJ (n:Nat) (p1_:(List Int)) (b0_:An):Option ((List (Bool×(List Int)))×Int):=
 (mkl 24 (Bl .i64 ((p1_.length:Nat):Int) 1) ((false,[]):(Bool×(List Int)))).bind λ l19=>
 (idx b0_.Alive 0).bind λ x33=>
 if (!x33)=true then
  some (l19,(-1))
 else
  (Bs n ({ At:=0,State:=0 }:Ae) [] l19).bind λ (r28:((List (Ae×Bool))×(List (Bool×(List Int)))))=>
  (whl (λ (x:((List (Bool×(List Int)))×(List (Ae×Bool))×Int×Int))=>BX n p1_ b0_ r28 x.1 x.2.1 x.2.2.1 x.2.2.2) n (r28.2,r28.1,0,0)).bind λ (y34:((List (Bool×(List Int)))×Int))=>
  some (y34.1,y34.2)
def CQ (_:Nat) (_:Ae) (_:(List Int)) (_:An) (_:(List (Ae×Bool))):Option Unit:=
 some ()
def CT (_:Nat) (_:(List UInt8)) (p2_:Ae) (b2_:Ae) (_:(List Int)) (_:An) (o5_:(List (Ae×Bool))):Option (Nat×(List (Ae×Bool))):=
 if (Option.getD (Dg p2_ o5_) false)=true then
  some (2,(El b2_ true o5_))
 else
  some (0,o5_)
def BS (_:Nat) (x_27:Int) (x_29:(List (Ae×Bool))):Option (((List (Ae×Bool))×Int)⊕((List (Ae×Bool))⊕(Nat×(List (Ae×Bool))))):=
 some (.inl (x_29,(Bl .i64 x_27 1)))
def Bt (n:Nat) (b2_:Ae) (b4_:Ae) (b5_1_:(List Int)) (b6_:An) (x38:(List K7)) (x_26:(List (Ae×Bool))) (x_27:Int):Option (((List (Ae×Bool))×Int)⊕((List (Ae×Bool))⊕(Nat×(List (Ae×Bool))))):=
 if decide (x_27<((x38.length:Nat):Int))=true then
  (idx x38 x_27).bind λ x39=>
  (sub b5_1_ b2_.At ((b5_1_.length:Nat):Int)).bind λ l21=>
  (Er n x39.Cells l21).bind λ r31=>
  if (r31==((x39.Cells.length:Nat):Int))=true then
   (CT n x39.Print ({ At:=Bl .i64 b2_.At ((x39.Cells.length:Nat):Int),State:=x39.To }:Ae) b4_ b5_1_ b6_ x_26).bind λ r32=>
   if ((r31==((x39.Cells.length:Nat):Int))&&(!(Nat.beq r32.1 0)))=true then
    some (.inr (.inr (r32.1,r32.2)))
   else
    BS n x_27 r32.2
  else
   if ((r31==((x39.Cells.length:Nat):Int))&&(!false))=true then
    some (.inr (.inr (0,x_26)))
   else
    BS n x_27 x_26
 else
  some (.inr (.inl x_26))
def Cp (n:Nat) (b2_:Ae) (b4_:Ae) (b5_1_:(List Int)) (b6_:An) (o7_:(List (Ae×Bool))):Option (Nat×(List (Ae×Bool))):=
 (idx b6_.Arcs b2_.State).bind λ x38=>
 (whl (λ (x:((List (Ae×Bool))×Int))=>Bt n b2_ b4_ b5_1_ b6_ x38 x.1 x.2) n (o7_,0)).bind λ (y35:((List (Ae×Bool))⊕(Nat×(List (Ae×Bool)))))=>
 match y35 with
 | Sum.inl y36=>
  some (0,y36)
 | Sum.inr y37=>
  some y37
def Cb (_:Nat) (x_30:Int) (least_3:Int):Option ((Int×Int)⊕Int):=
 some (.inl (least_3,(Bl .i64 x_30 1)))
def BM (n:Nat) (p0_:AY) (least_1:Int) (x_30:Int):Option ((Int×Int)⊕Int):=
 if decide (x_30<((p0_.Heads.length:Nat):Int))=true then
  (idx p0_.Heads x_30).bind λ x40=>
  (ML x40.Rest 0).bind λ b5=>
  if ((decide (IntKind.i64.wrap b5>=p0_.Next))&&((decide (least_1<0))||(decide (IntKind.i64.wrap b5<least_1))))=true then
   Cb n x_30 (IntKind.i64.wrap b5)
  else
   Cb n x_30 least_1
 else
  some (.inr least_1)
def Cq (n:Nat) (p0_:AY):Option Int:=
 (whl (λ (x:(Int×Int))=>BM n p0_ x.1 x.2) n ((-1),0)).bind λ y38=>
 some y38
def Dl (_:Nat) (x_35:Int) (r_5:(List (Ae×Bool))):Option (((List (Ae×Bool))×Int)⊕(List (Ae×Bool))):=
 some (.inl (r_5,(Bl .i64 x_35 1)))
def B9 (n:Nat) (p1_:(List Int)) (r33:An) (i_2:Int) (x_35:Int) (x43:Int) (r_6:(List (Ae×Bool))):Option (((List (Ae×Bool))×Int)⊕(List (Ae×Bool))):=
 (CQ n ({ At:=i_2,State:=x43 }:Ae) p1_ r33 r_6).bind λ _=>
 (Cp n ({ At:=i_2,State:=x43 }:Ae) ({ At:=i_2,State:=x43 }:Ae) p1_ r33 r_6).bind λ r36=>
 if Nat.beq r36.1 0=true then
  Dl n x_35 r36.2
 else
  if Nat.beq r36.1 2=true then
   Dl n x_35 r36.2
  else
   none
def BQ (n:Nat) (p1_:(List Int)) (r33:An) (_:((List (Bool×(List Int)))×Int)) (_:(List (Bool×(List Int)))) (i_2:Int) (x42:(Bool×(List Int))) (r_3:(List (Ae×Bool))) (x_35:Int):Option (((List (Ae×Bool))×Int)⊕(List (Ae×Bool))):=
 if decide (x_35<((x42.2.length:Nat):Int))=true then
  (idx x42.2 x_35).bind λ x43=>
  (if (i_2==((p1_.length:Nat):Int))=true then idx r33.Accepts x43 else some default).bind λ x44=>
  if ((i_2==((p1_.length:Nat):Int))&&x44)=true then
   B9 n p1_ r33 i_2 x_35 x43 (El ({ At:=i_2,State:=x43 }:Ae) true r_3)
  else
   B9 n p1_ r33 i_2 x_35 x43 r_3
 else
  some (.inr r_3)
def Ca (n:Nat) (p1_:(List Int)) (r33:An) (r34:((List (Bool×(List Int)))×Int)) (reached_15:(List (Bool×(List Int)))) (r_1:(List (Ae×Bool))) (i_2:Int):Option (((List (Bool×(List Int)))×(List (Ae×Bool))×Int)⊕(List (Ae×Bool))):=
 if decide (i_2>=0)=true then
  (idx reached_15 i_2).bind λ x42=>
  (whl (λ (x:((List (Ae×Bool))×Int))=>BQ n p1_ r33 r34 reached_15 i_2 x42 x.1 x.2) n (r_1,0)).bind λ y40=>
  some (.inl ((List.set reached_15 i_2.toNat (true,x42.2)),y40,(Ec .i64 i_2 1)))
 else
  some (.inr r_1)
def CY (n:Nat) (p0_:Ab) (p1_:(List Int)):Option (An×(List (Ae×Bool))×Int):=
 (DR n p0_).bind λ r33=>
 (CJ n p1_ r33).bind λ (r34:((List (Bool×(List Int)))×Int))=>
 (whl (λ (x:((List (Bool×(List Int)))×(List (Ae×Bool))×Int))=>Ca n p1_ r33 r34 x.1 x.2.1 x.2.2) n (r34.1,[],((p1_.length:Nat):Int))).bind λ y41=>
 some (r33,y41,r34.2)
def Dm (_:Nat) (_:(List Int)) (_:An) (_:(List (Ae×Bool))):Option Unit:=
 some ()
def A3 (_:Nat) (p0_:Ac) (o3_:(List (Ac×Bool))) (o4_:(List Ac)) (o5_:(List Ac)):Option ((List (Ac×Bool))×(List Ac)×(List Ac)):=
 if (Option.getD (Dg p0_ o3_) false)=true then
  some (o3_,o4_,o5_)
 else
  if (p0_.Rest==[])=true then
   (app 32 o4_ [p0_]).bind λ l23=>
   some ((El p0_ true o3_),l23,o5_)
  else
   (app 32 o5_ [p0_]).bind λ l24=>
   some ((El p0_ true o3_),o4_,l24)
def B0 (n:Nat) (p1_:(List UInt8)) (p2_:Ae) (_:(List Int)) (_:An) (o8_:(List (Ae×Bool))) (o9_:(List (Ac×Bool))) (o10_:(List Ac)) (o11_:(List Ac)):Option ((List (Ac×Bool))×(List Ac)×(List Ac)):=
 if (Option.getD (Dg p2_ o8_) false)=true then
  (A3 n ({ Spot:=p2_,Rest:=p1_ }:Ac) o9_ o10_ o11_).bind λ r37=>
  some (r37.1,r37.2.1,r37.2.2)
 else
  some (o9_,o10_,o11_)
def BF (_:Nat) (x_48:Int) (x_52:(List (Ac×Bool))) (x_53:(List Ac)) (x_54:(List Ac)):Option (((List (Ac×Bool))×(List Ac)×(List Ac)×Int)⊕(((List (Ac×Bool))×(List Ac)×(List Ac))⊕((List (Ac×Bool))×(List Ac)×(List Ac)))):=
 some (.inl (x_52,x_53,x_54,(Bl .i64 x_48 1)))
def Bn (n:Nat) (b2_:Ae) (b5_1_:(List Int)) (b9_:An) (o10_:(List (Ae×Bool))) (x45:(List K7)) (x_45:(List (Ac×Bool))) (x_46:(List Ac)) (x_47:(List Ac)) (x_48:Int):Option (((List (Ac×Bool))×(List Ac)×(List Ac)×Int)⊕(((List (Ac×Bool))×(List Ac)×(List Ac))⊕((List (Ac×Bool))×(List Ac)×(List Ac)))):=
 if decide (x_48<((x45.length:Nat):Int))=true then
  (idx x45 x_48).bind λ x46=>
  (sub b5_1_ b2_.At ((b5_1_.length:Nat):Int)).bind λ l25=>
  (Er n x46.Cells l25).bind λ r38=>
  if (r38==((x46.Cells.length:Nat):Int))=true then
   (B0 n x46.Print ({ At:=Bl .i64 b2_.At ((x46.Cells.length:Nat):Int),State:=x46.To }:Ae) b5_1_ b9_ o10_ x_45 x_46 x_47).bind λ r39=>
   if ((r38==((x46.Cells.length:Nat):Int))&&(!(Nat.beq 0 0)))=true then
    some (.inr (.inr (r39.1,r39.2.1,r39.2.2)))
   else
    BF n x_48 r39.1 r39.2.1 r39.2.2
  else
   if ((r38==((x46.Cells.length:Nat):Int))&&(!false))=true then
    some (.inr (.inr (x_45,x_46,x_47)))
   else
    BF n x_48 x_45 x_46 x_47
 else
  some (.inr (.inl (x_45,x_46,x_47)))
def BN (n:Nat) (b2_:Ae) (b5_1_:(List Int)) (b9_:An) (o10_:(List (Ae×Bool))) (o11_:(List (Ac×Bool))) (o12_:(List Ac)) (o13_:(List Ac)):Option ((List (Ac×Bool))×(List Ac)×(List Ac)):=
 (idx b9_.Arcs b2_.State).bind λ x45=>
 (whl (λ (x:((List (Ac×Bool))×(List Ac)×(List Ac)×Int))=>Bn n b2_ b5_1_ b9_ o10_ x45 x.1 x.2.1 x.2.2.1 x.2.2.2) n (o11_,o12_,o13_,0)).bind λ (y42:(((List (Ac×Bool))×(List Ac)×(List Ac))⊕((List (Ac×Bool))×(List Ac)×(List Ac))))=>
 match y42 with
 | Sum.inl y43=>
  some (y43.1,y43.2.1,y43.2.2)
 | Sum.inr y44=>
  some y44
def Jr (_:Nat) (o0_:(List Ac)):Option (List Ac):=
 (sub o0_ 0 ((o0_.length:Nat):Int)).bind λ l26=>
 some l26
def Cl (_:Nat) (x_58:Int) (open_10:(List Ac)) (found_3:(List Ac)) (add_15:(List (Ac×Bool))):Option (((List Ac)×(List Ac)×(List (Ac×Bool))×Int)⊕((List Ac)×(List Ac)×(List (Ac×Bool)))):=
 some (.inl (open_10,found_3,add_15,(Bl .i64 x_58 1)))
def C2 (n:Nat) (p1_:(List Ac)) (_:(List Int)) (_:An) (o2_:(List (Ae×Bool))) (open_8:(List Ac)) (found_1:(List Ac)) (add_13:(List (Ac×Bool))) (x_58:Int):Option (((List Ac)×(List Ac)×(List (Ac×Bool))×Int)⊕((List Ac)×(List Ac)×(List (Ac×Bool)))):=
 if decide (x_58<((p1_.length:Nat):Int))=true then
  (idx p1_ x_58).bind λ x47=>
  if (Option.getD (Dg x47.Spot o2_) false)=true then
   (A3 n x47 add_13 open_8 found_1).bind λ r40=>
   Cl n x_58 r40.2.1 r40.2.2 r40.1
  else
   Cl n x_58 open_8 found_1 add_13
 else
  some (.inr (open_8,found_1,add_13))
def Cm (n:Nat) (b0_1_:(List Int)) (b1_:An) (o2_:(List (Ae×Bool))) (found_4:(List Ac)) (add_16:(List (Ac×Bool))) (x48:Ac) (l27:(List Ac)) (ends_3:Bool):Option (((List Ac)×(List Ac)×(List (Ac×Bool))×Bool)⊕((List Ac)×Bool)):=
 (CQ n x48.Spot b0_1_ b1_ o2_).bind λ _=>
 (BN n x48.Spot b0_1_ b1_ o2_ add_16 l27 found_4).bind λ r42=>
 if Nat.beq 0 0=true then
  some (.inl (r42.2.1,r42.2.2,r42.1,ends_3))
 else
  none
def C3 (n:Nat) (b0_1_:(List Int)) (b1_:An) (o2_:(List (Ae×Bool))) (open_11:(List Ac)) (found_4:(List Ac)) (add_16:(List (Ac×Bool))) (ends_1:Bool):Option (((List Ac)×(List Ac)×(List (Ac×Bool))×Bool)⊕((List Ac)×Bool)):=
 if decide (((open_11.length:Nat):Int)>0)=true then
  (idx open_11 (Ec .i64 ((open_11.length:Nat):Int) 1)).bind λ x48=>
  (sub open_11 0 (Ec .i64 ((open_11.length:Nat):Int) 1)).bind λ l27=>
  (if (x48.Spot.At==((b0_1_.length:Nat):Int))=true then idx b1_.Accepts x48.Spot.State else some default).bind λ x49=>
  if ((x48.Spot.At==((b0_1_.length:Nat):Int))&&x49)=true then
   Cm n b0_1_ b1_ o2_ found_4 add_16 x48 l27 true
  else
   Cm n b0_1_ b1_ o2_ found_4 add_16 x48 l27 ends_1
 else
  some (.inr (found_4,ends_1))
def BY (n:Nat) (p1_:(List Ac)) (b0_1_:(List Int)) (b1_:An) (o2_:(List (Ae×Bool))):Option ((List Ac)×Bool):=
 (whl (λ (x:((List Ac)×(List Ac)×(List (Ac×Bool))×Int))=>C2 n p1_ b0_1_ b1_ o2_ x.1 x.2.1 x.2.2.1 x.2.2.2) n (([]:List Ac),([]:List Ac),[],0)).bind λ y45=>
 (whl (λ (x:((List Ac)×(List Ac)×(List (Ac×Bool))×Bool))=>C3 n b0_1_ b1_ o2_ x.1 x.2.1 x.2.2.1 x.2.2.2) n (y45.1,y45.2.1,y45.2.2,false)).bind λ y46=>
 (Jr n y46.1).bind λ r43=>
 some (r43,y46.2)
def H2 (_:Nat) (_:(List UInt8)) (_:(List Int)) (_:(List UInt8)) (_:Int) (_:Int):Option Unit:=
 some ()
def Co (_:Nat) (x_60:Int) (l_6:(List Ac)):Option (((List Ac)×Int)⊕(List Ac)):=
 some (.inl (l_6,(Bl .i64 x_60 1)))
def Bu (n:Nat) (p1_:Int) (_:(List AY)) (x50:AY) (l_4:(List Ac)) (x_60:Int):Option (((List Ac)×Int)⊕(List Ac)):=
 if decide (x_60<((x50.Heads.length:Nat):Int))=true then
  (idx x50.Heads x_60).bind λ x51=>
  (ML x51.Rest 0).bind λ b7=>
  if (b7==p1_)=true then
   (sub x51.Rest 1 ((x51.Rest.length:Nat):Int)).bind λ s2=>
   (app 32 l_4 [({ Spot:=x51.Spot,Rest:=s2 }:Ac)]).bind λ l28=>
   Co n x_60 l28
  else
   Co n x_60 l_4
 else
  some (.inr l_4)
def BZ (n:Nat) (p0_:Int) (p1_:Int) (o0_:(List AY)):Option (List Ac):=
 (idx o0_ p0_).bind λ x50=>
 (whl (λ (x:((List Ac)×Int))=>Bu n p1_ o0_ x50 x.1 x.2) n (([]:List Ac),0)).bind λ y47=>
 some y47
def BG (_:Nat) (x_63:Int) (open_14:(List Ac)) (found_8:(List Ac)) (add_19:(List (Ac×Bool))):Option (((List Ac)×(List Ac)×(List (Ac×Bool))×Int)⊕((List Ac)×(List Ac)×(List (Ac×Bool)))):=
 some (.inl (open_14,found_8,add_19,(Bl .i64 x_63 1)))
def Bo (n:Nat) (_:(List Int)) (_:An) (o1_:(List Ac)) (o3_:(List (Ae×Bool))) (open_12:(List Ac)) (found_6:(List Ac)) (add_17:(List (Ac×Bool))) (x_63:Int):Option (((List Ac)×(List Ac)×(List (Ac×Bool))×Int)⊕((List Ac)×(List Ac)×(List (Ac×Bool)))):=
 if decide (x_63<((o1_.length:Nat):Int))=true then
  (idx o1_ x_63).bind λ x52=>
  if (Option.getD (Dg x52.Spot o3_) false)=true then
   (A3 n x52 add_17 open_12 found_6).bind λ r44=>
   BG n x_63 r44.2.1 r44.2.2 r44.1
  else
   BG n x_63 open_12 found_6 add_17
 else
  some (.inr (open_12,found_6,add_17))
def Bp (n:Nat) (b0_1_:(List Int)) (b2_:An) (o3_:(List (Ae×Bool))) (found_9:(List Ac)) (add_20:(List (Ac×Bool))) (x53:Ac) (l29:(List Ac)) (ends_6:Bool):Option (((List Ac)×(List Ac)×(List (Ac×Bool))×Bool)⊕((List Ac)×Bool)):=
 (CQ n x53.Spot b0_1_ b2_ o3_).bind λ _=>
 (BN n x53.Spot b0_1_ b2_ o3_ add_20 l29 found_9).bind λ r46=>
 if Nat.beq 0 0=true then
  some (.inl (r46.2.1,r46.2.2,r46.1,ends_6))
 else
  none
def BH (n:Nat) (b0_1_:(List Int)) (b2_:An) (_:(List Ac)) (o3_:(List (Ae×Bool))) (open_15:(List Ac)) (found_9:(List Ac)) (add_20:(List (Ac×Bool))) (ends_4:Bool):Option (((List Ac)×(List Ac)×(List (Ac×Bool))×Bool)⊕((List Ac)×Bool)):=
 if decide (((open_15.length:Nat):Int)>0)=true then
  (idx open_15 (Ec .i64 ((open_15.length:Nat):Int) 1)).bind λ x53=>
  (sub open_15 0 (Ec .i64 ((open_15.length:Nat):Int) 1)).bind λ l29=>
  (if (x53.Spot.At==((b0_1_.length:Nat):Int))=true then idx b2_.Accepts x53.Spot.State else some default).bind λ x54=>
  if ((x53.Spot.At==((b0_1_.length:Nat):Int))&&x54)=true then
   Bp n b0_1_ b2_ o3_ found_9 add_20 x53 l29 true
  else
   Bp n b0_1_ b2_ o3_ found_9 add_20 x53 l29 ends_4
 else
  some (.inr (found_9,ends_4))
def Bd (n:Nat) (b0_1_:(List Int)) (b2_:An) (o1_:(List Ac)) (o3_:(List (Ae×Bool))):Option ((List Ac)×Bool):=
 (whl (λ (x:((List Ac)×(List Ac)×(List (Ac×Bool))×Int))=>Bo n b0_1_ b2_ o1_ o3_ x.1 x.2.1 x.2.2.1 x.2.2.2) n (([]:List Ac),([]:List Ac),[],0)).bind λ y48=>
 (whl (λ (x:((List Ac)×(List Ac)×(List (Ac×Bool))×Bool))=>BH n b0_1_ b2_ o1_ o3_ x.1 x.2.1 x.2.2.1 x.2.2.2) n (y48.1,y48.2.1,y48.2.2,false)).bind λ y49=>
 (Jr n y49.1).bind λ r47=>
 some (r47,y49.2)
def BI (_:Nat) (l32:(List AY)) (l33:(List Int)) (r51:((List Ac)×Bool)) (x_76:(List UInt8)) (x_77:Int) (x_78:Int):Option (((List UInt8)×Int×Int×(List Int)×(List AY))⊕(((List UInt8)×Int×Int)⊕(Nat×(List UInt8)×Int×Int))):=
 (app 32 l32 [({ Heads:=r51.1,Next:=0 }:AY)]).bind λ l34=>
 some (.inl (x_76,x_77,x_78,l33,l34))
def A7 (n:Nat) (b2_0_:(List Int)) (b6_1_:(List Int)) (b7_:An) (o8_:(List (Ae×Bool))) (x_70:(List UInt8)) (x_71:Int) (x_72:Int) (text_1:(List Int)) (stack_1:(List AY)):Option (((List UInt8)×Int×Int×(List Int)×(List AY))⊕(((List UInt8)×Int×Int)⊕(Nat×(List UInt8)×Int×Int))):=
 if decide (((stack_1.length:Nat):Int)>0)=true then
  (idx stack_1 (Ec .i64 ((stack_1.length:Nat):Int) 1)).bind λ x55=>
  (Cq n x55).bind λ r49=>
  if decide (r49<0)=true then
   (sub stack_1 0 (Ec .i64 ((stack_1.length:Nat):Int) 1)).bind λ l30=>
   (sub text_1 0 (if 0>Ec .i64 ((text_1.length:Nat):Int) 1 then 0 else Ec .i64 ((text_1.length:Nat):Int) 1)).bind λ l31=>
   some (.inl (x_70,x_71,x_72,l31,l30))
  else
   (put stack_1 (Ec .i64 ((stack_1.length:Nat):Int) 1) ({ Heads:=x55.Heads,Next:=Bl .i64 r49 1 }:AY)).bind λ l32=>
   (app 1 text_1 [IntKind.u8.wrap r49]).bind λ l33=>
   (BZ n (Ec .i64 ((stack_1.length:Nat):Int) 1) (IntKind.u8.wrap r49) l32).bind λ r50=>
   (Bd n b6_1_ b7_ r50 o8_).bind λ r51=>
   if r51.2=true then
    (Zu l33).bind λ s3=>
    (H2 n s3 b2_0_ x_70 x_71 x_72).bind λ _=>
    if (r51.2&&(!(Nat.beq 2 0)))=true then
     some (.inr (.inr (2,s3,((b2_0_.length:Nat):Int),0)))
    else
     BI n l32 l33 r51 s3 ((b2_0_.length:Nat):Int) 0
   else
    if (r51.2&&(!false))=true then
     some (.inr (.inr (0,x_70,x_71,x_72)))
    else
     BI n l32 l33 r51 x_70 x_71 x_72
 else
  some (.inr (.inl (x_70,x_71,x_72)))
def BJ (n:Nat) (b2_0_:(List Int)) (b6_1_:(List Int)) (b7_:An) (o8_:(List (Ae×Bool))) (r48:((List Ac)×Bool)) (x_67:(List UInt8)) (x_68:Int) (x_69:Int):Option (Nat×(List UInt8)×Int×Int):=
 (whl (λ (x:((List UInt8)×Int×Int×(List Int)×(List AY)))=>A7 n b2_0_ b6_1_ b7_ o8_ x.1 x.2.1 x.2.2.1 x.2.2.2.1 x.2.2.2.2) n (x_67,x_68,x_69,([]:List Int),[({ Heads:=r48.1,Next:=0 }:AY)])).bind λ y50=>
 match y50 with
 | Sum.inl y51=>
  some (0,y51.1,y51.2.1,y51.2.2)
 | Sum.inr y52=>
  some y52
def Cc (n:Nat) (b2_0_:(List Int)) (b3_0_:(List UInt8)) (b4_0_:Int) (b5_0_:Int) (b6_1_:(List Int)) (b7_:An) (o8_:(List (Ae×Bool))):Option (Nat×(List UInt8)×Int×Int):=
 (BY n ([({ Spot:=({ At:=0,State:=0 }:Ae),Rest:=[] }:Ac)]) b6_1_ b7_ o8_).bind λ r48=>
 if r48.2=true then
  (H2 n [] b2_0_ b3_0_ b4_0_ b5_0_).bind λ _=>
  if (r48.2&&(!(Nat.beq 2 0)))=true then
   some (2,[],((b2_0_.length:Nat):Int),0)
  else
   BJ n b2_0_ b6_1_ b7_ o8_ r48 [] ((b2_0_.length:Nat):Int) 0
 else
  if (r48.2&&(!false))=true then
   some (0,b3_0_,b4_0_,b5_0_)
  else
   BJ n b2_0_ b6_1_ b7_ o8_ r48 b3_0_ b4_0_ b5_0_
def FZ (n:Nat) (p0_:Ab) (p1_:(List Int)):Option ((List UInt8)×Int×Int):=
 (Gy n p0_).bind λ r54=>
 if (!r54)=true then
  some ([],0,40)
 else
  (CY n p0_ p1_).bind λ r55=>
  (Dm n p1_ r55.1 r55.2.1).bind λ _=>
  (Cc n p1_ [] 0 0 p1_ r55.1 r55.2.1).bind λ r57=>
  if Nat.beq r57.1 0=true then
   some ([],(if 0>r55.2.2 then 0 else r55.2.2),40)
  else
   if Nat.beq r57.1 2=true then
    some (r57.2.1,r57.2.2.1,r57.2.2.2)
   else
    none
def Es (_:Nat) (p1_:(List UInt8)) (b1_0_:Int) (b3_0_:Int) (o5_:(List (List UInt8))) (o6_:(List (List UInt8))):Option (Nat×Int×(List (List UInt8))×(List (List UInt8))):=
 if (((o6_.length:Nat):Int)==b1_0_)=true then
  some (2,2,([]:List (List UInt8)),o6_)
 else
  (app 16 o6_ [p1_]).bind λ l35=>
  some (0,b3_0_,o5_,l35)
def Bg (_:Nat) (l38:(List AY)) (l39:(List Int)) (r61:((List Ac)×Bool)) (x_94:Int) (x_95:(List (List UInt8))) (x_96:(List (List UInt8))):Option ((Int×(List Int)×(List AY)×(List (List UInt8))×(List (List UInt8)))⊕((Int×(List (List UInt8))×(List (List UInt8)))⊕(Nat×Int×(List (List UInt8))×(List (List UInt8))))):=
 (app 32 l38 [({ Heads:=r61.1,Next:=0 }:AY)]).bind λ l40=>
 some (.inl (x_94,l39,l40,x_95,x_96))
def A6 (n:Nat) (b2_0_:Int) (b6_1_:(List Int)) (b9_:An) (o10_:(List (Ae×Bool))) (x_88:Int) (text_2:(List Int)) (stack_2:(List AY)) (x_89:(List (List UInt8))) (x_90:(List (List UInt8))):Option ((Int×(List Int)×(List AY)×(List (List UInt8))×(List (List UInt8)))⊕((Int×(List (List UInt8))×(List (List UInt8)))⊕(Nat×Int×(List (List UInt8))×(List (List UInt8))))):=
 if decide (((stack_2.length:Nat):Int)>0)=true then
  (idx stack_2 (Ec .i64 ((stack_2.length:Nat):Int) 1)).bind λ x56=>
  (Cq n x56).bind λ r59=>
  if decide (r59<0)=true then
   (sub stack_2 0 (Ec .i64 ((stack_2.length:Nat):Int) 1)).bind λ l36=>
   (sub text_2 0 (if 0>Ec .i64 ((text_2.length:Nat):Int) 1 then 0 else Ec .i64 ((text_2.length:Nat):Int) 1)).bind λ l37=>
   some (.inl (x_88,l37,l36,x_89,x_90))
  else
   (put stack_2 (Ec .i64 ((stack_2.length:Nat):Int) 1) ({ Heads:=x56.Heads,Next:=Bl .i64 r59 1 }:AY)).bind λ l38=>
   (app 1 text_2 [IntKind.u8.wrap r59]).bind λ l39=>
   (BZ n (Ec .i64 ((stack_2.length:Nat):Int) 1) (IntKind.u8.wrap r59) l38).bind λ r60=>
   (Bd n b6_1_ b9_ r60 o10_).bind λ r61=>
   if r61.2=true then
    (Zu l39).bind λ s4=>
    (Es n s4 b2_0_ x_88 x_89 x_90).bind λ r62=>
    if (r61.2&&(!(Nat.beq r62.1 0)))=true then
     some (.inr (.inr (r62.1,r62.2.1,r62.2.2.1,r62.2.2.2)))
    else
     Bg n l38 l39 r61 r62.2.1 r62.2.2.1 r62.2.2.2
   else
    if (r61.2&&(!false))=true then
     some (.inr (.inr (0,x_88,x_89,x_90)))
    else
     Bg n l38 l39 r61 x_88 x_89 x_90
 else
  some (.inr (.inl (x_88,x_89,x_90)))
def Bh (n:Nat) (b2_0_:Int) (b6_1_:(List Int)) (b9_:An) (o10_:(List (Ae×Bool))) (r58:((List Ac)×Bool)) (x_85:Int) (x_86:(List (List UInt8))) (x_87:(List (List UInt8))):Option (Nat×Int×(List (List UInt8))×(List (List UInt8))):=
 (whl (λ (x:(Int×(List Int)×(List AY)×(List (List UInt8))×(List (List UInt8))))=>A6 n b2_0_ b6_1_ b9_ o10_ x.1 x.2.1 x.2.2.1 x.2.2.2.1 x.2.2.2.2) n (x_85,([]:List Int),[({ Heads:=r58.1,Next:=0 }:AY)],x_86,x_87)).bind λ (y53:((Int×(List (List UInt8))×(List (List UInt8)))⊕(Nat×Int×(List (List UInt8))×(List (List UInt8)))))=>
 match y53 with
 | Sum.inl y54=>
  some (0,y54.1,y54.2.1,y54.2.2)
 | Sum.inr y55=>
  some y55
def B1 (n:Nat) (b2_0_:Int) (b4_0_:Int) (b6_1_:(List Int)) (b9_:An) (o7_:(List (List UInt8))) (o8_:(List (List UInt8))) (o10_:(List (Ae×Bool))):Option (Nat×Int×(List (List UInt8))×(List (List UInt8))):=
 (BY n ([({ Spot:=({ At:=0,State:=0 }:Ae),Rest:=[] }:Ac)]) b6_1_ b9_ o10_).bind λ r58=>
 if r58.2=true then
  (Es n [] b2_0_ b4_0_ o7_ o8_).bind λ r63=>
  if (r58.2&&(!(Nat.beq r63.1 0)))=true then
   some (r63.1,r63.2.1,r63.2.2.1,r63.2.2.2)
  else
   Bh n b2_0_ b6_1_ b9_ o10_ r58 r63.2.1 r63.2.2.1 r63.2.2.2
 else
  if (r58.2&&(!false))=true then
   some (0,b4_0_,o7_,o8_)
  else
   Bh n b2_0_ b6_1_ b9_ o10_ r58 b4_0_ o7_ o8_
def EN (n:Nat) (p0_:Ab) (p1_:(List Int)) (p2_:Int):Option ((List (List UInt8))×Int):=
 if decide (p2_<0)=true then
  some ([],1)
 else
  (Gy n p0_).bind λ r64=>
  if (!r64)=true then
   some ([],0)
  else
   (CY n p0_ p1_).bind λ r65=>
   (Dm n p1_ r65.1 r65.2.1).bind λ _=>
   (B1 n p2_ 0 p1_ r65.1 ([]:List (List UInt8)) ([]:List (List UInt8)) r65.2.1).bind λ r67=>
   if Nat.beq r67.1 0=true then
    some (r67.2.2.2,0)
   else
    if Nat.beq r67.1 2=true then
     some (r67.2.2.1,r67.2.1)
    else
     none
def CZ (_:Nat) (p0_:(List (List UInt8))) (p1_:(List (List UInt8))) (i_3:Int):Option (Int⊕(Unit⊕Bool)):=
 if decide (i_3<((p0_.length:Nat):Int))=true then
  (idx p0_ i_3).bind λ x57=>
  (idx p1_ i_3).bind λ x58=>
  if (!(x57==x58))=true then
   some (.inr (.inr false))
  else
   some (.inl (Bl .i64 i_3 1))
 else
  some (.inr (.inl ()))
def Et (n:Nat) (p0_:(List (List UInt8))) (p1_:(List (List UInt8))):Option Bool:=
 if (((p0_.length:Nat):Int) != ((p1_.length:Nat):Int))=true then
  some false
 else
  (whl (λ (x:Int)=>CZ n p0_ p1_ x) n 0).bind λ y56=>
  match y56 with
  | Sum.inl _=>
   some true
  | Sum.inr y58=>
   some y58
def G2 (n:Nat) (p0_:Ab) (p1_:(List Int)):Option Bool:=
 (Gy n p0_).bind λ r68=>
 if (!r68)=true then
  some false
 else
  (DR n p0_).bind λ r69=>
  (CJ n p1_ r69).bind λ (r70:((List (Bool×(List Int)))×Int))=>
  some (r70.2==((p1_.length:Nat):Int))
def H3 (n:Nat) :Option Bool:=
 (Kf n).bind λ r71=>
 (FZ n r71 [1,3]).bind λ r72=>
 (FZ n r71 [1,5]).bind λ r73=>
 (FZ n r71 []).bind λ r74=>
 (EN n r71 [1,1] 4).bind λ r75=>
 (EN n r71 [1,1] 3).bind λ r76=>
 (EN n r71 [] (-1)).bind λ r77=>
 (if ((((((((((((r72.2.2==0)&&(r73.2.2==40))&&(r74.2.2==0))&&(r75.2==0))&&(r76.2==2))&&(r77.2==1))&&(r72.1==[97,98]))&&(r72.2.1==2))&&(r73.1==[]))&&(r73.2.1==1))&&(r74.1==[]))&&(r74.2.1==0))=true then Et n r75.1 ([[97,97],[97,98,97],[98,97,97],[98,97,98,97]]) else some default).bind λ r78=>
 (if (((((((((((((r72.2.2==0)&&(r73.2.2==40))&&(r74.2.2==0))&&(r75.2==0))&&(r76.2==2))&&(r77.2==1))&&(r72.1==[97,98]))&&(r72.2.1==2))&&(r73.1==[]))&&(r73.2.1==1))&&(r74.1==[]))&&(r74.2.1==0))&&r78)=true then G2 n r71 [7,7] else some default).bind λ r79=>
 (if ((((((((((((((r72.2.2==0)&&(r73.2.2==40))&&(r74.2.2==0))&&(r75.2==0))&&(r76.2==2))&&(r77.2==1))&&(r72.1==[97,98]))&&(r72.2.1==2))&&(r73.1==[]))&&(r73.2.1==1))&&(r74.1==[]))&&(r74.2.1==0))&&r78)&&r79)=true then G2 n r71 [2] else some default).bind λ r80=>
 some (((((((((((((((r72.2.2==0)&&(r73.2.2==40))&&(r74.2.2==0))&&(r75.2==0))&&(r76.2==2))&&(r77.2==1))&&(r72.1==[97,98]))&&(r72.2.1==2))&&(r73.1==[]))&&(r73.2.1==1))&&(r74.1==[]))&&(r74.2.1==0))&&r78)&&r79)&&(!r80))
def A5 (_:Nat) (p0_:(List UInt8)) (p1_:(List Int)) (p2_:(FT Int)):Option Au:=
 some ({ Print:=p0_,Cells:=p1_,Left:=63,Right:=63,From:=p2_.a0,To:=p2_.a1 }:Au)
def PS (n:Nat) :Option (List Au):=
 (A5 n [97] [1] ({ a0:=0,a1:=0 }:(FT Int))).bind λ r81=>
 (A5 n [98] [3] ({ a0:=0,a1:=0 }:(FT Int))).bind λ r82=>
 (A5 n [99] [9] ({ a0:=0,a1:=0 }:(FT Int))).bind λ r83=>
 (A5 n [32] [0] ({ a0:=0,a1:=0 }:(FT Int))).bind λ r84=>
 some [r81,r82,r83,r84]
def GS (n:Nat) (p0_:Int) (p1_:Int) (p2_:(FT Int)):Option Au:=
 (A5 n [] [p0_] p2_).bind λ r85=>
 (Ek (decide (0<=p1_))).bind λ _=>
 some ({ Print:=r85.Print,Cells:=r85.Cells,Left:=r85.Left,Right:=Ry .u8 1 p1_,From:=r85.From,To:=r85.To }:Au)
def FG (_:Nat) (l_7:(List Au)):Option Ab:=
 some ({ Modes:=1,Accept:=1,Rules:=l_7 }:Ab)
def Js (n:Nat) (p0_:Int):Option Ab:=
 (PS n).bind λ r86=>
 if ((C4 p0_ 8)==1)=true then
  (GS n 60 3 ({ a0:=0,a1:=1 }:(FT Int))).bind λ r87=>
  (A5 n [49] [1] ({ a0:=1,a1:=1 }:(FT Int))).bind λ r88=>
  (A5 n [50] [3] ({ a0:=1,a1:=1 }:(FT Int))).bind λ r89=>
  (A5 n [32] [0] ({ a0:=1,a1:=0 }:(FT Int))).bind λ r90=>
  (app 64 r86 [r87,r88,r89,r90]).bind λ l41=>
  some ({ Modes:=2,Accept:=3,Rules:=l41 }:Ab)
 else
  if ((C4 p0_ 8)==2)=true then
   (GS n 32 2 ({ a0:=0,a1:=1 }:(FT Int))).bind λ r91=>
   (A5 n [65] [1] ({ a0:=1,a1:=0 }:(FT Int))).bind λ r92=>
   (A5 n [66] [3] ({ a0:=1,a1:=0 }:(FT Int))).bind λ r93=>
   (app 64 r86 [r91,r92,r93]).bind λ l42=>
   some ({ Modes:=2,Accept:=1,Rules:=l42 }:Ab)
  else
   if ((C4 p0_ 8)==3)=true then
    (A5 n [97,98] [7] ({ a0:=0,a1:=0 }:(FT Int))).bind λ r94=>
    (A5 n [97,98,99] [15] ({ a0:=0,a1:=0 }:(FT Int))).bind λ r95=>
    (A5 n [99,97] [4,4] ({ a0:=0,a1:=0 }:(FT Int))).bind λ r96=>
    (app 64 r86 [r94,r95,r96]).bind λ l43=>
    FG n l43
   else
    if ((C4 p0_ 8)==4)=true then
     (A5 n [45] [1,3] ({ a0:=0,a1:=0 }:(FT Int))).bind λ r97=>
     (app 64 r86 [r97]).bind λ l44=>
     FG n l44
    else
     if ((C4 p0_ 8)==5)=true then
      (A5 n [98] [44] ({ a0:=0,a1:=0 }:(FT Int))).bind λ r98=>
      (A5 n [99,97,98] [44] ({ a0:=0,a1:=0 }:(FT Int))).bind λ r99=>
      (A5 n [45] [36] ({ a0:=0,a1:=0 }:(FT Int))).bind λ r100=>
      (app 64 r86 [({ Print:=r98.Print,Cells:=r98.Cells,Left:=17,Right:=r98.Right,From:=r98.From,To:=r98.To }:Au),({ Print:=r99.Print,Cells:=r99.Cells,Left:=2,Right:=r99.Right,From:=r99.From,To:=r99.To }:Au),r100]).bind λ l45=>
      FG n l45
     else
      if ((C4 p0_ 8)==6)=true then
       (GS n 40 1 ({ a0:=0,a1:=1 }:(FT Int))).bind λ r101=>
       (A5 n [225] [1] ({ a0:=1,a1:=0 }:(FT Int))).bind λ r102=>
       (A5 n [226] [3] ({ a0:=1,a1:=0 }:(FT Int))).bind λ r103=>
       (app 64 r86 [r101,r102,r103]).bind λ l46=>
       some ({ Modes:=2,Accept:=1,Rules:=l46 }:Ab)
      else
       if ((C4 p0_ 8)==7)=true then
        (A5 n [45] [1,5] ({ a0:=0,a1:=0 }:(FT Int))).bind λ r104=>
        (A5 n [49] [5,5] ({ a0:=0,a1:=0 }:(FT Int))).bind λ r105=>
        (A5 n [50] [5,9] ({ a0:=0,a1:=0 }:(FT Int))).bind λ r106=>
        (app 64 r86 [r104,r105,r106]).bind λ l47=>
        FG n l47
       else
        FG n r86
def FH (_:Nat) (p0_:DE) (out_1:Au) (i_4:Int):Option ((Au×Int)⊕Au):=
 if ((decide (i_4<((p0_.P.length:Nat):Int)))&&(decide (i_4<3)))=true then
  (idx p0_.P i_4).bind λ x61=>
  (sub [97,98,99,65,66,49,50,45,46] (IntKind.i64.wrap (C4 x61 9)) (Bl .i64 (IntKind.i64.wrap (C4 x61 9)) 1)).bind λ s5=>
  (cat out_1.Print s5).bind λ s6=>
  some (.inl (({ Print:=s6,Cells:=out_1.Cells,Left:=out_1.Left,Right:=out_1.Right,From:=out_1.From,To:=out_1.To }:Au),(Bl .i64 i_4 1)))
 else
  some (.inr out_1)
def FI (_:Nat) (p0_:DE) (out_3:Au) (i_5:Int):Option ((Au×Int)⊕Au):=
 if ((decide (i_5<((p0_.C.length:Nat):Int)))&&(decide (i_5<2)))=true then
  (idx p0_.C i_5).bind λ x63=>
  (idx [1,3,9,5,7,32,44,60] (C4 x63 8)).bind λ x64=>
  (app 1 out_3.Cells [x64]).bind λ l48=>
  some (.inl (({ Print:=out_3.Print,Cells:=l48,Left:=out_3.Left,Right:=out_3.Right,From:=out_3.From,To:=out_3.To }:Au),(Bl .i64 i_5 1)))
 else
  some (.inr out_3)
def Od (n:Nat) (p0_:DE) (p1_:Int):Option Au:=
 (idx [63,63,2,8,17,62,4,1] (C4 p0_.L 8)).bind λ x59=>
 (idx [63,63,2,8,17,62,4,1] (C4 p0_.R 8)).bind λ x60=>
 (Ek (!(p1_==0))).bind λ _=>
 (Ek (!(p1_==0))).bind λ _=>
 (whl (λ (x:(Au×Int))=>FH n p0_ x.1 x.2) n (({ Print:=[],Cells:=([]:List Int),Left:=x59,Right:=x60,From:=C4 (IntKind.i64.wrap p0_.W.a0) p1_,To:=C4 (IntKind.i64.wrap p0_.W.a1) p1_ }:Au),0)).bind λ y59=>
 (idx [1,3,9,5,7,32,44,60] (C4 (Jeg .u8 p0_.L 8) 8)).bind λ x62=>
 (whl (λ (x:(Au×Int))=>FI n p0_ x.1 x.2) n (({ Print:=y59.Print,Cells:=[x62],Left:=y59.Left,Right:=y59.Right,From:=y59.From,To:=y59.To }:Au),0)).bind λ y60=>
 some y60
def IW (_:Nat) (p0_:Int):Option Bool:=
 some ((decide (CB .u8 p0_ 127>=32))&&(decide (CB .u8 p0_ 127<=126)))
def IB (n:Nat) (p0_:(List UInt8)) (i_6:Int):Option (Int⊕(Unit⊕(Int×Int))):=
 if decide (i_6<((p0_.length:Nat):Int))=true then
  (ML p0_ i_6).bind λ b8=>
  (IW n b8).bind λ r107=>
  if (!r107)=true then
   some (.inr (.inr (i_6,60)))
  else
   some (.inl (Bl .i64 i_6 1))
 else
  some (.inr (.inl ()))
def Oe (n:Nat) (p0_:(List UInt8)):Option (Int×Int):=
 (whl (λ (x:Int)=>IB n p0_ x) n 0).bind λ y61=>
 match y61 with
 | Sum.inl _=>
  some (((p0_.length:Nat):Int),0)
 | Sum.inr y63=>
  some y63
def Kg (n:Nat) (p0_:(List UInt8)):Option Bool:=
 (Oe n p0_).bind λ r108=>
 some (r108.2==0)
def O4 (_:Nat) (p0_:Int):Option Bool:=
 some ((CB .u8 p0_ 127)==32)
def EO (n:Nat) (p0_:Au) (space_1:Bool) (i_7:Int):Option ((Bool×Int)⊕Bool):=
 if decide (i_7<((p0_.Print.length:Nat):Int))=true then
  (if (!space_1)=true then ML p0_.Print i_7 else some default).bind λ b9=>
  (if (!space_1)=true then O4 n b9 else some default).bind λ r110=>
  some (.inl ((space_1||r110),(Bl .i64 i_7 1)))
 else
  some (.inr space_1)
def DS (_:Nat) (p0_:Au) (_:Bool) (blank_1:Bool) (i_8:Int):Option ((Bool×Int)⊕(Bool⊕Bool)):=
 if decide (i_8<((p0_.Cells.length:Nat):Int))=true then
  (idx p0_.Cells i_8).bind λ x65=>
  if decide (x65>=63)=true then
   some (.inr (.inr false))
  else
   (if (!blank_1)=true then idx p0_.Cells i_8 else some default).bind λ x66=>
   some (.inl ((blank_1||(x66==0)),(Bl .i64 i_8 1)))
 else
  some (.inr (.inl blank_1))
def MB (n:Nat) (p0_:Au) (p1_:Int):Option Bool:=
 (Kg n p0_.Print).bind λ r109=>
 if ((((!r109)||(decide (((p0_.Print.length:Nat):Int)>4)))||(decide (((p0_.Cells.length:Nat):Int)<1)))||(decide (((p0_.Cells.length:Nat):Int)>4)))=true then
  some false
 else
  if ((((((((decide (p0_.Left<1))||(decide (p0_.Left>63)))||(decide (p0_.Right<1)))||(decide (p0_.Right>63)))||(decide (p0_.From<0)))||(decide (p0_.From>=p1_)))||(decide (p0_.To<0)))||(decide (p0_.To>=p1_)))=true then
   some false
  else
   (whl (λ (x:(Bool×Int))=>EO n p0_ x.1 x.2) n (false,0)).bind λ y64=>
   (whl (λ (x:(Bool×Int))=>DS n p0_ y64 x.1 x.2) n (false,0)).bind λ y65=>
   match y65 with
   | Sum.inl y66=>
    if (!y64)=true then
     some (!y66)
    else
     some (((((p0_.Print.length:Nat):Int)==1)&&(((p0_.Cells.length:Nat):Int)==1))&&y66)
   | Sum.inr y67=>
    some y67
def EP (_:Nat) (p0_:(List Int)) (p1_:(List Int)) (i_9:Int):Option (Int⊕(Unit⊕Bool)):=
 if decide (i_9<((p0_.length:Nat):Int))=true then
  (idx p0_ i_9).bind λ x67=>
  (idx p1_ i_9).bind λ x68=>
  if (x67 != x68)=true then
   some (.inr (.inr false))
  else
   some (.inl (Bl .i64 i_9 1))
 else
  some (.inr (.inl ()))
def GT (n:Nat) (p0_:(List Int)) (p1_:(List Int)):Option Bool:=
 if (((p0_.length:Nat):Int) != ((p1_.length:Nat):Int))=true then
  some false
 else
  (whl (λ (x:Int)=>EP n p0_ p1_ x) n 0).bind λ y68=>
  match y68 with
  | Sum.inl _=>
   some true
  | Sum.inr y70=>
   some y70
def HA (n:Nat) (p0_:Au) (p1_:Au):Option Bool:=
 (if (p0_.Print==p1_.Print)=true then GT n p0_.Cells p1_.Cells else some default).bind λ r111=>
 some ((((((p0_.Print==p1_.Print)&&r111)&&(p0_.Left==p1_.Left))&&(p0_.Right==p1_.Right))&&(p0_.From==p1_.From))&&(p0_.To==p1_.To))
def F4 (n:Nat) (p0_:Ab) (i_10:Int) (k_2:Int):Option (Int⊕(Unit⊕(Int×Int))):=
 if decide (k_2<i_10)=true then
  (idx p0_.Rules k_2).bind λ x70=>
  (idx p0_.Rules i_10).bind λ x71=>
  (HA n x70 x71).bind λ r113=>
  if r113=true then
   some (.inr (.inr (i_10,20)))
  else
   some (.inl (Bl .i64 k_2 1))
 else
  some (.inr (.inl ()))
def F5 (n:Nat) (p0_:Ab) (i_10:Int):Option (Int⊕(Unit⊕(Int×Int))):=
 if decide (i_10<((p0_.Rules.length:Nat):Int))=true then
  (idx p0_.Rules i_10).bind λ x69=>
  (MB n x69 p0_.Modes).bind λ r112=>
  if (!r112)=true then
   some (.inr (.inr (i_10,20)))
  else
   (whl (λ (x:Int)=>F4 n p0_ i_10 x) n 0).bind λ y71=>
   match y71 with
   | Sum.inl _=>
    some (.inl (Bl .i64 i_10 1))
   | Sum.inr y73=>
    some (.inr (.inr y73))
 else
  some (.inr (.inl ()))
def MC (n:Nat) (p0_:Ab):Option (Int×Int):=
 (if (!(((decide (p0_.Modes<1))||(decide (p0_.Modes>8)))||(p0_.Accept==0)))=true then Ek (decide (0<=p0_.Modes)) else some default).bind λ _=>
 if ((((((decide (p0_.Modes<1))||(decide (p0_.Modes>8)))||(p0_.Accept==0))||(decide (IntKind.i64.wrap p0_.Accept>=Ry .i64 1 p0_.Modes)))||(decide (((p0_.Rules.length:Nat):Int)<1)))||(decide (((p0_.Rules.length:Nat):Int)>64)))=true then
  some ((-1),1)
 else
  (whl (λ (x:Int)=>F5 n p0_ x) n 0).bind λ y74=>
  match y74 with
  | Sum.inl _=>
   some (0,0)
  | Sum.inr y76=>
   some y76
def O5 (n:Nat) (p0_:Ab):Option Bool:=
 (MC n p0_).bind λ r114=>
 some (r114.2==0)
def G3 (_:Nat) (i_11:Int) (t_5:Ab):Option ((Ab×Int)⊕Ab):=
 some (.inl (t_5,(Bl .i64 i_11 1)))
def FJ (n:Nat) (p0_:MM) (r115:Ab) (t_3:Ab) (i_11:Int):Option ((Ab×Int)⊕Ab):=
 if decide (i_11<((r115.Rules.length:Nat):Int))=true then
  (Ek (decide (0<=i_11))).bind λ _=>
  if ((CB .u8 (Jeh .u8 p0_.Drop i_11) 1)==0)=true then
   (idx r115.Rules i_11).bind λ x72=>
   (app 64 t_3.Rules [x72]).bind λ l49=>
   G3 n i_11 ({ Modes:=t_3.Modes,Accept:=t_3.Accept,Rules:=l49 }:Ab)
  else
   G3 n i_11 t_3
 else
  some (.inr t_3)
def G4 (_:Nat) (i_12:Int) (t_8:Ab):Option ((Ab×Int)⊕Ab):=
 some (.inl (t_8,(Bl .i64 i_12 1)))
def FK (n:Nat) (p0_:MM) (_:Ab) (t_6:Ab) (i_12:Int):Option ((Ab×Int)⊕Ab):=
 if ((decide (i_12<((p0_.More.length:Nat):Int)))&&(decide (i_12<2)))=true then
  (idx p0_.More i_12).bind λ x73=>
  (Od n x73 t_6.Modes).bind λ r116=>
  (app 64 t_6.Rules [r116]).bind λ l50=>
  (O5 n ({ Modes:=t_6.Modes,Accept:=t_6.Accept,Rules:=l50 }:Ab)).bind λ r117=>
  if (!r117)=true then
   (sub l50 0 (Ec .i64 ((l50.length:Nat):Int) 1)).bind λ l51=>
   G4 n i_12 ({ Modes:=t_6.Modes,Accept:=t_6.Accept,Rules:=l51 }:Ab)
  else
   G4 n i_12 ({ Modes:=t_6.Modes,Accept:=t_6.Accept,Rules:=l50 }:Ab)
 else
  some (.inr t_6)
def G5 (_:Nat) (t_9:Ab):Option Ab:=
 some t_9
def LA (n:Nat) (p0_:MM):Option Ab:=
 (Js n p0_.Base).bind λ r115=>
 (whl (λ (x:(Ab×Int))=>FJ n p0_ r115 x.1 x.2) n (({ Modes:=r115.Modes,Accept:=r115.Accept,Rules:=([]:List Au) }:Ab),0)).bind λ y77=>
 (whl (λ (x:(Ab×Int))=>FK n p0_ r115 x.1 x.2) n (y77,0)).bind λ y78=>
 if (((y78.Rules.length:Nat):Int)==0)=true then
  G5 n ({ Modes:=y78.Modes,Accept:=y78.Accept,Rules:=r115.Rules }:Ab)
 else
  G5 n y78
def HB (_:Nat) (i_13:Int) (out_7:(List Int)):Option (((List Int)×Int)⊕(List Int)):=
 some (.inl (out_7,(Bl .i64 i_13 1)))
def HC (n:Nat) (p0_:Ab) (p1_:(List Int)) (p2_:Int) (out_5:(List Int)) (i_13:Int):Option (((List Int)×Int)⊕(List Int)):=
 if (((decide (i_13<((p1_.length:Nat):Int)))&&(decide (((out_5.length:Nat):Int)<p2_)))&&(decide (((p0_.Rules.length:Nat):Int)>0)))=true then
  (idx p1_ i_13).bind λ x74=>
  (Ek (!(((p0_.Rules.length:Nat):Int)==0))).bind λ _=>
  (idx p0_.Rules (C4 (IntKind.i64.wrap x74) ((p0_.Rules.length:Nat):Int))).bind λ x75=>
  (idx p1_ i_13).bind λ x76=>
  if decide (x76>=224)=true then
   (idx p1_ i_13).bind λ x77=>
   (app 1 out_5 [C4 x77 64]).bind λ l52=>
   HB n i_13 l52
  else
   (app 1 out_5 x75.Cells).bind λ l53=>
   HB n i_13 l53
 else
  some (.inr out_5)
def MD (n:Nat) (p0_:Ab) (p1_:(List Int)) (p2_:Int):Option (List Int):=
 (whl (λ (x:((List Int)×Int))=>HC n p0_ p1_ p2_ x.1 x.2) n (([]:List Int),0)).bind λ y79=>
 (sub y79 0 (if p2_<((y79.length:Nat):Int) then p2_ else ((y79.length:Nat):Int))).bind λ l54=>
 some l54
def HO (_:Nat) :Option Aa:=
 some ({ Mode:=0,Last:=0,Need:=63 }:Aa)
def HE (_:Nat) (p0_:Int) (p1_:Int):Option Bool:=
 (if ((decide (p1_>=0))&&(decide (p1_<8)))=true then Ek (decide (0<=p1_)) else some default).bind λ _=>
 some (((decide (p1_>=0))&&(decide (p1_<8)))&&((CB .u8 (Jeh .u8 p0_ p1_) 1)==1))
def CN (n:Nat) (p0_:Ab) (p1_:Aa):Option Bool:=
 (if ((decide (p1_.Mode>=0))&&(decide (p1_.Mode<p0_.Modes)))=true then HE n p0_.Accept p1_.Mode else some default).bind λ r118=>
 (if (((decide (p1_.Mode>=0))&&(decide (p1_.Mode<p0_.Modes)))&&r118)=true then HE n p1_.Need 0 else some default).bind λ r119=>
 some ((((decide (p1_.Mode>=0))&&(decide (p1_.Mode<p0_.Modes)))&&r118)&&r119)
def Ds (_:Nat) (p0_:(List (List UInt8))) (i_14:Int) (out_10:(List (List UInt8))) (done_4:Bool):Option (((List (List UInt8))×Bool×Int)⊕((List (List UInt8))×Bool)):=
 (idx p0_ i_14).bind λ x78=>
 (app 16 out_10 [x78]).bind λ l55=>
 some (.inl (l55,done_4,(Bl .i64 i_14 1)))
def Dt (n:Nat) (p0_:(List (List UInt8))) (p1_:(List UInt8)) (out_8:(List (List UInt8))) (i_14:Int) (done_3:Bool):Option (((List (List UInt8))×Bool×Int)⊕((List (List UInt8))×Bool)):=
 (if (!done_3)=true then idx p0_ i_14 else some default).bind λ x79=>
 if ((!done_3)&&(!(Op.bytesLess x79 p1_||x79==p1_)))=true then
  (app 16 out_8 [p1_]).bind λ l56=>
  Ds n p0_ i_14 l56 true
 else
  Ds n p0_ i_14 out_8 done_3
def Du (n:Nat) (p0_:(List (List UInt8))) (p1_:(List UInt8)) (out_8:(List (List UInt8))) (done_1:Bool) (i_14:Int):Option (((List (List UInt8))×Bool×Int)⊕((List (List UInt8))×Bool)):=
 if decide (i_14<((p0_.length:Nat):Int))=true then
  (idx p0_ i_14).bind λ x80=>
  if (x80==p1_)=true then
   Dt n p0_ p1_ out_8 i_14 true
  else
   Dt n p0_ p1_ out_8 i_14 done_1
 else
  some (.inr (out_8,done_1))
def Fa (_:Nat) (out_11:(List (List UInt8))):Option (List (List UInt8)):=
 some out_11
def Fy (n:Nat) (p0_:(List (List UInt8))) (p1_:(List UInt8)):Option (List (List UInt8)):=
 (whl (λ (x:((List (List UInt8))×Bool×Int))=>Du n p0_ p1_ x.1 x.2.1 x.2.2) n (([]:List (List UInt8)),false,0)).bind λ y80=>
 if (!y80.2)=true then
  (app 16 y80.1 [p1_]).bind λ l57=>
  Fa n l57
 else
  Fa n y80.1
def Dv (_:Nat) (p0_:(List Int)) (p1_:(List Int)) (i_15:Int):Option (Int⊕(Unit⊕(Int×Bool))):=
 if decide (i_15<(if ((p1_.length:Nat):Int)<((p0_.length:Nat):Int) then ((p1_.length:Nat):Int) else ((p0_.length:Nat):Int)))=true then
  (idx p0_ i_15).bind λ x81=>
  (idx p1_ i_15).bind λ x82=>
  if (x81 != x82)=true then
   some (.inr (.inr ((if ((p1_.length:Nat):Int)<((p0_.length:Nat):Int) then ((p1_.length:Nat):Int) else ((p0_.length:Nat):Int)),false)))
  else
   some (.inl (Bl .i64 i_15 1))
 else
  some (.inr (.inl ()))
def Eu (n:Nat) (p0_:(List Int)) (p1_:(List Int)):Option (Int×Bool):=
 (whl (λ (x:Int)=>Dv n p0_ p1_ x) n 0).bind λ y81=>
 match y81 with
 | Sum.inl _=>
  some ((if ((p1_.length:Nat):Int)<((p0_.length:Nat):Int) then ((p1_.length:Nat):Int) else ((p0_.length:Nat):Int)),true)
 | Sum.inr y83=>
  some y83
def Gz (_:Nat) (p0_:Int):Option Int:=
 if ((decide (CB .u8 p0_ 127>=97))&&(decide (CB .u8 p0_ 127<=122)))=true then
  some 1
 else
  if ((decide (CB .u8 p0_ 127>=65))&&(decide (CB .u8 p0_ 127<=90)))=true then
   some 2
  else
   if ((decide (CB .u8 p0_ 127>=48))&&(decide (CB .u8 p0_ 127<=57)))=true then
    some 3
   else
    if ((CB .u8 p0_ 127)==32)=true then
     some 4
    else
     some 5
def Fb (n:Nat) (p0_:Ab) (p1_:Aa) (p2_:Int):Option (Aa×Bool):=
 if ((decide (p2_<0))||(decide (p2_>=((p0_.Rules.length:Nat):Int))))=true then
  some (({ Mode:=0,Last:=0,Need:=0 }:Aa),false)
 else
  (idx p0_.Rules p2_).bind λ x83=>
  (if (!(x83.From != p1_.Mode))=true then HE n x83.Left p1_.Last else some default).bind λ r120=>
  if ((x83.From != p1_.Mode)||(!r120))=true then
   some (({ Mode:=0,Last:=0,Need:=0 }:Aa),false)
  else
   if ((((x83.Print.length:Nat):Int)==0)&&((CB .u8 p1_.Need x83.Right)==0))=true then
    some (({ Mode:=0,Last:=0,Need:=0 }:Aa),false)
   else
    if (((x83.Print.length:Nat):Int)==0)=true then
     some (({ Mode:=x83.To,Last:=p1_.Last,Need:=CB .u8 p1_.Need x83.Right }:Aa),true)
    else
     (ML x83.Print 0).bind λ b10=>
     (Gz n b10).bind λ r121=>
     (HE n p1_.Need r121).bind λ r122=>
     if (!r122)=true then
      some (({ Mode:=0,Last:=0,Need:=0 }:Aa),false)
     else
      (ML x83.Print (Ec .i64 ((x83.Print.length:Nat):Int) 1)).bind λ b11=>
      (Gz n b11).bind λ r123=>
      some (({ Mode:=x83.To,Last:=r123,Need:=x83.Right }:Aa),true)
def CA (_:Nat) (r_7:Int) (m_3:Ao):Option ((Ao×Int)⊕Ao):=
 some (.inl (m_3,(Bl .i64 r_7 1)))
def BB (n:Nat) (rec78k0_:((List UInt8)->Aa->(List Int)->Ao->Option Ao)) (p1_:(List UInt8)) (p2_:Aa) (p3_:(List Int)) (m_2:Ao) (r_7:Int):Option ((Ao×Int)⊕Ao):=
 if decide (r_7<((m_2.T.Rules.length:Nat):Int))=true then
  (idx m_2.T.Rules r_7).bind λ x84=>
  (Eu n x84.Cells p3_).bind λ r128=>
  (Fb n m_2.T p2_ r_7).bind λ r129=>
  (if (r128.2&&r129.2)=true then idx m_2.T.Rules r_7 else some default).bind λ x85=>
  if ((r128.2&&r129.2)&&(r128.1==((x85.Cells.length:Nat):Int)))=true then
   (idx m_2.T.Rules r_7).bind λ x86=>
   (cat p1_ x86.Print).bind λ s7=>
   (sub p3_ r128.1 ((p3_.length:Nat):Int)).bind λ l58=>
   (rec78k0_ s7 r129.1 l58 m_2).bind λ r130=>
   CA n r_7 r130
  else
   CA n r_7 m_2
 else
  some (.inr m_2)
def BC (n:Nat) (rec78k0_:((List UInt8)->Aa->(List Int)->Ao->Option Ao)) (p1_:(List UInt8)) (p2_:Aa) (p3_:(List Int)) (m_1:Ao):Option Ao:=
 (whl (λ (x:(Ao×Int))=>BB n rec78k0_ p1_ p2_ p3_ x.1 x.2) n (m_1,0)).bind λ y84=>
 some y84
def A1 (n:Nat) (rec78k0_:((List UInt8)->Aa->(List Int)->Ao->Option Ao)) (p1_:(List UInt8)) (p2_:Aa) (p3_:(List Int)) (b0_:Ao):Option Ao:=
 (if (((p3_.length:Nat):Int)==0)=true then CN n b0_.T p2_ else some default).bind λ r131=>
 if ((((p3_.length:Nat):Int)==0)&&r131)=true then
  (Fy n b0_.L p1_).bind λ r132=>
  BC n rec78k0_ p1_ p2_ p3_ ({ T:=b0_.T,L:=r132 }:Ao)
 else
  BC n rec78k0_ p1_ p2_ p3_ b0_
def Ea (n:Nat) (p1_:(List UInt8)) (p2_:Aa) (p3_:(List Int)) (b0_:Ao):Option Ao:=
 Nm (λ _ _ _ _=>none) (A1 n) n p1_ p2_ p3_ b0_
def D3 (_:Nat) (r_8:Int) (m_6:Ao):Option ((Ao×Int)⊕Ao):=
 some (.inl (m_6,(Bl .i64 r_8 1)))
def Gi (n:Nat) (p1_:(List UInt8)) (p2_:Aa) (p3_:(List Int)) (m_5:Ao) (r_8:Int):Option ((Ao×Int)⊕Ao):=
 if decide (r_8<((m_5.T.Rules.length:Nat):Int))=true then
  (idx m_5.T.Rules r_8).bind λ x87=>
  (Eu n x87.Cells p3_).bind λ r137=>
  (Fb n m_5.T p2_ r_8).bind λ r138=>
  (if (r137.2&&r138.2)=true then idx m_5.T.Rules r_8 else some default).bind λ x88=>
  if ((r137.2&&r138.2)&&(r137.1==((x88.Cells.length:Nat):Int)))=true then
   (idx m_5.T.Rules r_8).bind λ x89=>
   (cat p1_ x89.Print).bind λ s8=>
   (sub p3_ r137.1 ((p3_.length:Nat):Int)).bind λ l59=>
   (Ea n s8 r138.1 l59 m_5).bind λ r139=>
   D3 n r_8 r139
  else
   D3 n r_8 m_5
 else
  some (.inr m_5)
def D4 (n:Nat) (p1_:(List UInt8)) (p2_:Aa) (p3_:(List Int)) (m_4:Ao):Option Ao:=
 (whl (λ (x:(Ao×Int))=>Gi n p1_ p2_ p3_ x.1 x.2) n (m_4,0)).bind λ y85=>
 some y85
def Ew (n:Nat) (_:((List UInt8)->Aa->(List Int)->Ao->Option Ao)) (p1_:(List UInt8)) (p2_:Aa) (p3_:(List Int)) (b0_:Ao):Option Ao:=
 (if (((p3_.length:Nat):Int)==0)=true then CN n b0_.T p2_ else some default).bind λ r140=>
 if ((((p3_.length:Nat):Int)==0)&&r140)=true then
  (Fy n b0_.L p1_).bind λ r141=>
  D4 n p1_ p2_ p3_ ({ T:=b0_.T,L:=r141 }:Ao)
 else
  D4 n p1_ p2_ p3_ b0_
def Fz (n:Nat) (p1_:(List UInt8)) (p2_:Aa) (p3_:(List Int)) (b0_:Ao):Option Ao:=
 Nm (λ _ _ _ _=>none) (Ew n) n p1_ p2_ p3_ b0_
def Of (n:Nat) (p0_:Ab) (p1_:(List Int)):Option (List (List UInt8)):=
 (HO n).bind λ r142=>
 (Fz n [] r142 p1_ ({ T:=p0_,L:=([]:List (List UInt8)) }:Ao)).bind λ r143=>
 some r143.L
def CM (_:Nat) (p0_:(List Aa)) (p1_:Aa) (i_16:Int):Option (Int⊕(Unit⊕Int)):=
 if decide (i_16<((p0_.length:Nat):Int))=true then
  (idx p0_ i_16).bind λ x90=>
  if ((x90.Mode==p1_.Mode)&&((x90.Last==p1_.Last)&&((x90.Need==p1_.Need)&&true)))=true then
   some (.inr (.inr i_16))
  else
   some (.inl (Bl .i64 i_16 1))
 else
  some (.inr (.inl ()))
def GB (n:Nat) (p0_:(List Aa)) (p1_:Aa):Option Int:=
 (whl (λ (x:Int)=>CM n p0_ p1_ x) n 0).bind λ y86=>
 match y86 with
 | Sum.inl _=>
  some (-1)
 | Sum.inr y88=>
  some y88
def Dw (_:Nat) (k_3:Int) (out_16:(List Aa)):Option (((List Aa)×Int)⊕(List Aa)):=
 some (.inl (out_16,(Bl .i64 k_3 1)))
def CO (n:Nat) (p0_:Ab) (i_17:Int) (out_14:(List Aa)) (k_3:Int):Option (((List Aa)×Int)⊕(List Aa)):=
 if decide (k_3<((p0_.Rules.length:Nat):Int))=true then
  (idx out_14 i_17).bind λ x91=>
  (Fb n p0_ x91 k_3).bind λ r145=>
  (if r145.2=true then GB n out_14 r145.1 else some default).bind λ r146=>
  if (r145.2&&(decide (r146<0)))=true then
   (app 24 out_14 [r145.1]).bind λ l60=>
   Dw n k_3 l60
  else
   Dw n k_3 out_14
 else
  some (.inr out_14)
def Dx (n:Nat) (p0_:Ab) (out_12:(List Aa)) (i_17:Int):Option (((List Aa)×Int)⊕(List Aa)):=
 if decide (i_17<((out_12.length:Nat):Int))=true then
  (whl (λ (x:((List Aa)×Int))=>CO n p0_ i_17 x.1 x.2) n (out_12,0)).bind λ y89=>
  some (.inl (y89,(Bl .i64 i_17 1)))
 else
  some (.inr out_12)
def FA (n:Nat) (p0_:Ab):Option (List Aa):=
 (HO n).bind λ r144=>
 (whl (λ (x:((List Aa)×Int))=>Dx n p0_ x.1 x.2) n ([r144],0)).bind λ y90=>
 some y90
def Do (n:Nat) (p0_:Ab) (r147:(List Aa)) (out_17:(List Bool)) (i_18:Int):Option (((List Bool)×Int)⊕(List Bool)):=
 if decide (i_18<((r147.length:Nat):Int))=true then
  (idx r147 i_18).bind λ x92=>
  (CN n p0_ x92).bind λ r148=>
  (app 1 out_17 [r148]).bind λ l61=>
  some (.inl (l61,(Bl .i64 i_18 1)))
 else
  some (.inr out_17)
def DT (_:Nat) (k_4:Int) (out_25:(List Bool)) (grown_6:Bool):Option (((List Bool)×Bool×Int)⊕((List Bool)×Bool)):=
 some (.inl (out_25,grown_6,(Bl .i64 k_4 1)))
def Cu (n:Nat) (p0_:Ab) (r147:(List Aa)) (i_19:Int) (out_23:(List Bool)) (grown_4:Bool) (k_4:Int):Option (((List Bool)×Bool×Int)⊕((List Bool)×Bool)):=
 (if decide (k_4<((p0_.Rules.length:Nat):Int))=true then idx out_23 i_19 else some default).bind λ x93=>
 if ((decide (k_4<((p0_.Rules.length:Nat):Int)))&&(!x93))=true then
  (idx r147 i_19).bind λ x94=>
  (Fb n p0_ x94 k_4).bind λ r149=>
  (if r149.2=true then GB n r147 r149.1 else some default).bind λ r150=>
  (if r149.2=true then idx out_23 r150 else some default).bind λ x95=>
  if (r149.2&&x95)=true then
   (idx out_23 i_19).bind λ _=>
   (put out_23 i_19 true).bind λ l62=>
   DT n k_4 l62 true
  else
   DT n k_4 out_23 grown_4
 else
  some (.inr (out_23,grown_4))
def Dp (n:Nat) (p0_:Ab) (r147:(List Aa)) (out_21:(List Bool)) (grown_2:Bool) (i_19:Int):Option (((List Bool)×Bool×Int)⊕((List Bool)×Bool)):=
 if decide (i_19<((r147.length:Nat):Int))=true then
  (whl (λ (x:((List Bool)×Bool×Int))=>Cu n p0_ r147 i_19 x.1 x.2.1 x.2.2) n (out_21,grown_2,0)).bind λ y92=>
  some (.inl (y92.1,y92.2,(Bl .i64 i_19 1)))
 else
  some (.inr (out_21,grown_2))
def EQ (n:Nat) (p0_:Ab) (r147:(List Aa)) (out_19:(List Bool)) (grown_1:Bool):Option (((List Bool)×Bool)⊕(List Bool)):=
 if grown_1=true then
  (whl (λ (x:((List Bool)×Bool×Int))=>Dp n p0_ r147 x.1 x.2.1 x.2.2) n (out_19,false,0)).bind λ y93=>
  some (.inl (y93.1,y93.2))
 else
  some (.inr out_19)
def HP (n:Nat) (p0_:Ab):Option (List Bool):=
 (FA n p0_).bind λ r147=>
 (whl (λ (x:((List Bool)×Int))=>Do n p0_ r147 x.1 x.2) n (([]:List Bool),0)).bind λ y91=>
 (whl (λ (x:((List Bool)×Bool))=>EQ n p0_ r147 x.1 x.2) n (y91,true)).bind λ y94=>
 some y94
def HQ (n:Nat) (p0_:Ab) (p1_:Aa):Option Bool:=
 (HP n p0_).bind λ r151=>
 (FA n p0_).bind λ r152=>
 (GB n r152 p1_).bind λ r153=>
 (if ((decide (r153>=0))&&(decide (r153<((r151.length:Nat):Int))))=true then idx r151 r153 else some default).bind λ x97=>
 some (((decide (r153>=0))&&(decide (r153<((r151.length:Nat):Int))))&&x97)
def Ey (n:Nat) (rec65_:(Ab->Aa->(List Int)->Option Bool)) (p0_:Ab) (p1_:Aa) (p2_:(List Int)) (r_9:Int):Option (Int⊕(Unit⊕Bool)):=
 if decide (r_9<((p0_.Rules.length:Nat):Int))=true then
  (idx p0_.Rules r_9).bind λ x98=>
  (Eu n x98.Cells p2_).bind λ r156=>
  (Fb n p0_ p1_ r_9).bind λ r157=>
  (if (r156.2&&r157.2)=true then sub p2_ r156.1 ((p2_.length:Nat):Int) else some default).bind λ l63=>
  (if (r156.2&&r157.2)=true then rec65_ p0_ r157.1 l63 else some default).bind λ r158=>
  if ((r156.2&&r157.2)&&r158)=true then
   some (.inr (.inr true))
  else
   some (.inl (Bl .i64 r_9 1))
 else
  some (.inr (.inl ()))
def C0 (n:Nat) (rec65_:(Ab->Aa->(List Int)->Option Bool)) (p0_:Ab) (p1_:Aa) (p2_:(List Int)):Option Bool:=
 if (((p2_.length:Nat):Int)==0)=true then
  (HQ n p0_ p1_).bind λ r155=>
  some r155
 else
  (whl (λ (x:Int)=>Ey n rec65_ p0_ p1_ p2_ x) n 0).bind λ y95=>
  match y95 with
  | Sum.inl _=>
   some false
  | Sum.inr y97=>
   some y97
def RX (n:Nat) (p0_:Ab) (p1_:Aa) (p2_:(List Int)):Option Bool:=
 Nm (λ _ _ _=>none) (C0 n) n p0_ p1_ p2_
def LB (n:Nat) (p0_:Ab) (p1_:(List Int)):Option Bool:=
 (HO n).bind λ r159=>
 (RX n p0_ r159 p1_).bind λ r160=>
 some r160
def LC (_:Nat) (n_4:Int) (at_3:Int):Option ((Int×Int)⊕Int):=
 some (.inl (at_3,(Bl .i64 n_4 1)))
def G6 (n:Nat) (p0_:Ab) (p1_:(List Int)) (at_1:Int) (n_4:Int):Option ((Int×Int)⊕Int):=
 if decide (n_4<=((p1_.length:Nat):Int))=true then
  (sub p1_ 0 n_4).bind λ l64=>
  (LB n p0_ l64).bind λ r162=>
  if r162=true then
   LC n n_4 n_4
  else
   LC n n_4 at_1
 else
  some (.inr at_1)
def Og (n:Nat) (p0_:Ab) (p1_:(List Int)):Option ((List UInt8)×Int×Int):=
 (Of n p0_ p1_).bind λ r161=>
 if decide (((r161.length:Nat):Int)>0)=true then
  (idx r161 0).bind λ x99=>
  some (x99,((p1_.length:Nat):Int),0)
 else
  (whl (λ (x:(Int×Int))=>G6 n p0_ p1_ x.1 x.2) n (0,1)).bind λ y98=>
  some ([],y98,40)
def ME (n:Nat) (p0_:Ab) (p1_:(List Int)) (p2_:Int):Option ((List (List UInt8))×Int):=
 if decide (p2_<0)=true then
  some ([],1)
 else
  (Of n p0_ p1_).bind λ r163=>
  if decide (((r163.length:Nat):Int)>p2_)=true then
   some ([],2)
  else
   some (r163,0)
end Go.AI
end
section
namespace Go.AI
def BV (n:Nat) (p0_:MM) (p1_:(List Int)) (p2_:Int):Option Bool:=
 (H3 n).bind λ r164=>
 (LA n p0_).bind λ r165=>
 (MD n r165 p1_ 6).bind λ r166=>
 (FZ n r165 r166).bind λ r167=>
 (Og n r165 r166).bind λ r168=>
 (EN n r165 r166 (IntKind.i64.wrap p2_)).bind λ r169=>
 (ME n r165 r166 (IntKind.i64.wrap p2_)).bind λ r170=>
 (if (((r164&&(r167.1==r168.1))&&(r167.2.1==r168.2.1))&&(r167.2.2==r168.2.2))=true then Et n r169.1 r170.1 else some default).bind λ r171=>
 (if (((((r164&&(r167.1==r168.1))&&(r167.2.1==r168.2.1))&&(r167.2.2==r168.2.2))&&r171)&&(r169.2==r170.2))=true then G2 n r165 r166 else some default).bind λ r172=>
 (if (((((r164&&(r167.1==r168.1))&&(r167.2.1==r168.2.1))&&(r167.2.2==r168.2.2))&&r171)&&(r169.2==r170.2))=true then LB n r165 r166 else some default).bind λ r173=>
 some ((((((r164&&(r167.1==r168.1))&&(r167.2.1==r168.2.1))&&(r167.2.2==r168.2.2))&&r171)&&(r169.2==r170.2))&&(r172==r173))
end Go.AI
end
section
namespace Go.AI
open Go.Proofs
set_option maxRecDepth 10000
theorem xok (n kl:Nat):XOK Try.prog (cxk n kl):=⟨tyOK,rfl⟩
noncomputable def Ah:Ll:=lpd (AC Try.f60) [1,1,1,0,1,0,0,1,0,0,1,0,0,1,1,0,0,1,1,1,1,0] 88 [72,73] [.exit 4]
noncomputable def A4:Ll:=lpd (AC Try.f41) [1,1,1,0,1,0] 27 [21] [.ret]
noncomputable def Al:Ll:=lpd (AC Try.f75) [1,1,1,1,1,1,0,0,0,1,0,1,1,1,1,0] 92 [76,77] []
noncomputable def AQ:Ll:=lpd (AC Try.f43) [1,1,1,1,1,0,1,0] 35 [25] [.ret]
theorem Jkn (n kl:Nat):XOK Try.prog (cxr n kl):=⟨tyOK,rfl⟩
theorem fO (k:Nat) (s:St) {fn:Func} {f:FuncId} {args:List AV} {r:AV} (hf:Try.prog.funcs[f]? = some fn) (h:WP (cxk k 0) (AC fn) [] (Wc (cxk k 0).ty fn.results.toList r) s) (hb:fn.body=some (AC fn):=by kernel_rfl) (hnm:(fn.name == "runtime.NumGoroutine")=false:=by kernel_rfl) (hnt:(cxk k 0).nt.n=fn.ntmps:=by kernel_rfl) (hlen:Nat.ble args.length fn.ntmps=true:=by kernel_rfl) (hs:(⟨(List.range args.length).zip args,[]⟩:St)=s:=by kernel_rfl):AF Try.prog f args r:=fo follows (Jfq k 0) hf h hb hnm hnt hlen hs
theorem fL (k nb:Nat) (s:St) {fn:Func} {f:FuncId} {args:List AV} {O0 O1:List (Option Ob)} {r:AV} (hf:Try.prog.funcs[f]? = some fn) (h:WP (cxk k nb) (AC fn) [] (TL nb (cxk k nb).ty fn.results.toList r O1) s) (hb:fn.body=some (AC fn):=by kernel_rfl) (hnm:(fn.name == "runtime.NumGoroutine")=false:=by kernel_rfl) (hnt:(cxk k nb).nt=⟨fn.ntmps,[],nb,qfT⟩:=by kernel_rfl) (hlen:Nat.ble args.length fn.ntmps=true:=by kernel_rfl) (hs:(⟨(List.range args.length).zip args,O0⟩:St)=s:=by kernel_rfl):Bk Try.prog f args O0 nb r O1:=fl follows (Jfq k nb) hf h hb hnm hnt hlen hs
variable {n:Nat}
def Ak (x:Au):List D:=[.str x.Print,.sl (x.Cells.map eU8),.int .u8 x.Left,.int .u8 x.Right,.int .i64 x.From,.int .i64 x.To]
def As (x:Aa):List D:=[.int .i64 x.Mode,.int .i64 x.Last,.int .u8 x.Need]
def BT (x:K7):List D:=[.str x.Print,.sl (x.Cells.map eU8),.int .i64 x.To]
def Ap (x:Ae):List D:=[.int .i64 x.At,.int .i64 x.State]
def Ag (x:Ac):List D:=[.int .i64 x.Spot.At,.int .i64 x.Spot.State,.str x.Rest]
def A8 (x:AY):List D:=[.sl (x.Heads.map Ag),.int .i64 x.Next]
@[reducible] def JjN {α:Type} (e:α->List D) (x:FT α):List D:=e x.a0++e x.a1
def FL (x:DE):List D:=[.sl (x.P.map eU8),.sl (x.C.map eU8),.int .u8 x.L,.int .u8 x.R,.int .u8 x.W.a0,.int .u8 x.W.a1]
def JjO (x:MM):List D:=[.int .u8 x.Base,.int .u8 x.Drop,.sl (x.More.map FL)]
def F6 (x:Ab) (v2:AV):List AV:=[.d (.int .i64 x.Modes),.d (.int .u8 x.Accept),v2]
def LD (x:Au):List AV:=[.d (.str x.Print),.d (.sl (x.Cells.map eU8)),.d (.int .u8 x.Left),.d (.int .u8 x.Right),.d (.int .i64 x.From),.d (.int .i64 x.To)]
def AL (x:Ab):List AV:=[.d (.int .i64 x.Modes),.d (.int .u8 x.Accept),.d (.sl (x.Rules.map Ak))]
def B4 (x:Aa):List AV:=[.d (.int .i64 x.Mode),.d (.int .i64 x.Last),.d (.int .u8 x.Need)]
def H4 (x:An) (v0:AV) (v1:AV):List AV:=[v0,v1,.d (.sl (x.Alive.map eB))]
def Jko (x:K7):List AV:=[.d (.str x.Print),.d (.sl (x.Cells.map eU8)),.d (.int .i64 x.To)]
def Ai (x:An) (v1:AV):List AV:=[.d (.sl (x.Arcs.map (eL BT))),v1,.d (.sl (x.Alive.map eB))]
def JbI (x:Ac):List AV:=[.d (.int .i64 x.Spot.At),.d (.int .i64 x.Spot.State),.d (.str x.Rest)]
def Oh (x:DE):List AV:=[.d (.sl (x.P.map eU8)),.d (.sl (x.C.map eU8)),.d (.int .u8 x.L),.d (.int .u8 x.R),.d (.int .u8 x.W.a0),.d (.int .u8 x.W.a1)]
def QM (x:Au) (v1:AV):List AV:=[.d (.str x.Print),v1,.d (.int .u8 x.Left),.d (.int .u8 x.Right),.d (.int .i64 x.From),.d (.int .i64 x.To)]
def XT (x:MM):List AV:=[.d (.int .u8 x.Base),.d (.int .u8 x.Drop),.d (.sl (x.More.map FL))]
def LE (x:Ao) (v3:AV):List AV:=[.d (.int .i64 x.T.Modes),.d (.int .u8 x.T.Accept),.d (.sl (x.T.Rules.map Ak)),v3]
def CK (x:Ao):List AV:=[.d (.int .i64 x.T.Modes),.d (.int .u8 x.T.Accept),.d (.sl (x.T.Rules.map Ak)),.d (.sl (x.L.map eS))]
theorem TR:∀ a b:Aa,Az [.int .i64,.int .i64,.int .u8] ((As a).map .d) ((As b).map .d)=some (decide (a=b)):=by
  intro a b
  cases a;cases b
  simp [Az,As,Bool.decide_and]
  all_goals (first|rfl|(rw [Bool.eq_iff_iff];simp))
theorem LF:∀ a b:Ae,Az [.int .i64,.int .i64] ((Ap a).map .d) ((Ap b).map .d)=some (decide (a=b)):=by
  intro a b
  cases a;cases b
  simp [Az,Ap,Bool.decide_and]
  all_goals (first|rfl|(rw [Bool.eq_iff_iff];simp))
theorem JbJ:∀ a b:Ac,Az [.int .i64,.int .i64,.string] ((Ag a).map .d) ((Ag b).map .d)=some (decide (a=b)):=by
  intro a b
  obtain ⟨⟨_,_⟩,_⟩:=a;obtain ⟨⟨_,_⟩,_⟩:=b
  simp [Az,Ag,Bool.decide_and,Bool.and_assoc]
  all_goals (first|rfl|(rw [Bool.eq_iff_iff];simp))
section
variable (t_1:Ab) (i_1:Int) (t_2:Ab)
def Jgn:St:=⟨[],[]⟩
def Jgo:St:=⟨(0,.ptr 0 0)::(1,.ptr 1 0)::(2,.osl 2 1 0 (List.length ([[97],[98],[97,98],[98,97]])))::(3,.osl 3 1 0 (List.length [1,3,7,1]))::(4,.d (.int .i64 i_1))::[],[some (.box [.d (.int .i64 0),.d (.int .u8 0),.osl 4 6 0 (List.length ([]:List Au))]),some (.box (F6 t_1 (.osl 5 6 0 (t_1.Rules.length)))),some (.arr 1 (List.map eS ([[97],[98],[97,98],[98,97]]))),some (.arr 1 (List.map eU8 [1,3,7,1])),some (.arr 6 (List.map Ak ([]:List Au))),some (.arr 6 (t_1.Rules.map Ak))]⟩
def Jgp:St:=⟨(0,.ptr 0 0)::(1,.ptr 1 0)::[],[some (.box [.d (.int .i64 0),.d (.int .u8 0),.osl 2 6 0 (List.length ([]:List Au))]),some (.box (F6 t_2 (.osl 3 6 0 (t_2.Rules.length)))),some (.arr 6 (List.map Ak ([]:List Au))),some (.arr 6 (t_2.Rules.map Ak))]⟩
def P7:Ab->Ex->St->Prop:=xX 0 0 (λ (y:Ab)=>Jgp y)
def KK:(Ab×Int)->St:=(λ (x:(Ab×Int))=>Jgo x.1 x.2)
variable {t_1 i_1 t_2}
theorem O6 (x:(Ab×Int)) (z:((Ab×Int)⊕Ab)) (H:GQ n x.1 x.2=some z):WP (cxk 28 0) (AC Try.f58) [1,1,1,1,0,1,0,0] (AJ 0 (KK) (P7) z) (KK x):=by
 obtain ⟨t_1,i_1⟩:=x
 refine sq (sr (ck 2 (en (cn H (λ H=>?_) (λ H=>?_)))))
 ·exact sk (qz (sq (bk 1 (rz (ck 4 (bx H λ x1 h1 H=>sp (Bc 2 1 h1) (sp (DD eS 2 0 (ty 9) h1) (ck 2 (bx H λ x2 h2 H=>sp (Bc 3 1 h2) (sp (DD eU8 3 0 (ty 64) h2) (sF (ck 2 (bx H λ l1 h3 H=>sp (Bm Ak 5 6 h3) (ck 2 (ae (qN (qz (rz (ck 3 (ae (by cases H;exact og (sg [0,1,2,3,4]))))))))))))))))))))))
 ·exact ex 0 (qx (by cases H;exact xo rfl (sg [0,1])))
theorem SW {z} (H:Kf n=some z):AF Try.prog 58 [] (.agg [.d (.int .i64 z.Modes),.d (.int .u8 z.Accept),.own 6 (z.Rules.map Ak)]):=by
 exact fO 28 Jgn Try.func58 (sr (ck 1 (en (sr (ck 3 (en (sr (ck 2 (en (sr (ck 2 (en (sq (sr (ck 1 (en (bk 0 (bx H λ y1 h4 H=>lX O6 h4 (tr (tr (Dh 0 2 6 (by kernel_rfl)) (Dh 1 2 6 (by kernel_rfl))) (sg [0,1,2,3,4])) rfl λ s hE1=>qH (qs (hE1) (sr (ck 2 (en (re (by cases H;exact pr (rO (v:=.agg [.d (.int .i64 z.Modes),.d (.int .u8 z.Accept),.osl 3 6 0 (z.Rules.length)]) [3] (a1 (c1 vd (c1 vd (c1 vo (c0))))))))))))))))))))))))))))))
end
section
variable (p0_:Int)
def Jgq:St:=⟨(0,.d (.int .u8 p0_))::[],[]⟩
variable {p0_}
theorem Ns {z} (H:DW n p0_=some z):AF Try.prog 93 [.d (.int .u8 p0_)] (.d (.bool z)):=by
 exact fO 12 (Jgq p0_) Try.func93 (sr (ck 1 (en (sr (ck 3 (en (sr (ck 4 (gc 1 (decide (32<=CB .u8 p0_ 127)) (pA (ck 1 (en (re (by cases H;exact pr rd))))))))))))))
end
section
variable (p0_:(List UInt8)) (x_1:Int)
def Jgr:St:=⟨(0,.d (.str p0_))::[],[]⟩
def Jgs:St:=⟨(0,.d (.str p0_))::(6,.d (.int .i64 ((p0_.length:Nat):Int)))::(7,.d (.int .i64 x_1))::[],[]⟩
def Jgt:St:=⟨(0,.d (.str p0_))::[],[]⟩
def SX:(Unit⊕(Int×Int))->Ex->St->Prop:=xS (xX 0 0 (λ (y:Unit)=>Jgt p0_)) (xR ty Try.f89 (λ (y:(Int×Int))=>.tup [.d (.int .i64 y.1),.d (.int .i64 y.2)]))
def MX:Int->St:=(λ (x:Int)=>Jgs p0_ x)
variable {p0_ x_1}
theorem LG (x:Int) (z:(Int⊕(Unit⊕(Int×Int)))) (H:FE n p0_ x=some z):WP (cxk 19 0) (AC Try.f89) [1,0,1,0,0] (AJ 0 (MX p0_) (SX p0_) z) (MX p0_ x):=by
 revert H
 generalize x=x_1
 intro H
 refine sr (ck 1 (en (sq (cn H (λ H=>?_) (λ H=>?_)))))
 ·refine sk (qz (sq (bk 1 (sr (ck 2 (en (sr (ck 2 (bx H λ b1 h5 H=>sp (GP h5) (bx H λ r1 h6 H=>ca false (Ns h6) (ck 1 (en (cn H (λ H=>?_) (λ H=>?_))))))))))))))
  ·exact sr (ck 3 (en (re (qR (qr (by cases H;exact ro rfl rdT))))))
  ·exact sk (qN (qz (rz (ck 2 (ae (by cases H;exact og (sg [0,6,7])))))))
 ·exact ex 0 (qx (by cases H;exact xo rfl (sg [0])))
theorem Wj {z} (H:Jo n p0_=some z):AF Try.prog 89 [.d (.str p0_)] (.tup [.d (.int .i64 z.1),.d (.int .i64 z.2)]):=by
 refine fO 19 (Jgr p0_) Try.func89 (sr (ck 2 (en (sq (sr (ck 3 (en (bk 0 (bx H λ y2 h7 H=>?_)))))))))
 rcases y2 with y3|y4
 ·exact lX LG h7 (sg [0,6,7]) rfl λ s hE2=>qH (qs (hE2) (sr (ck 4 (en (re (by cases H;exact pr rdT))))))
 ·exact lR LG h7 (sg [0,6,7]) rfl λ s hE3=>qR (qr (by cases H;exact pr hE3))
end
section
variable (p0_:Int)
def Jgu:St:=⟨(0,.d (.int .u8 p0_))::[],[]⟩
variable {p0_}
theorem Kh {z} (H:FF n p0_=some z):AF Try.prog 52 [.d (.int .u8 p0_)] (.d (.int .i64 z)):=by
 refine fO 30 (Jgu p0_) Try.func52 (sr (ck 1 (en (sr (ck 3 (en (sq (bk 0 (sr (ck 4 (gc 1 (decide (97<=CB .u8 p0_ 127)) (pA (ck 1 (en (cn H (λ H=>?_) (λ H=>?_))))))))))))))))
 ·exact sr (ck 1 (en (re (qR (qr (by cases H;exact pr rd))))))
 ·refine sr (ck 4 (gc 1 (decide (65<=CB .u8 p0_ 127)) (pA (ck 1 (en (cn H (λ H=>?_) (λ H=>?_)))))))
  ·exact sr (ck 1 (en (re (qR (qr (by cases H;exact pr rd))))))
  ·refine sr (ck 4 (gc 1 (decide (48<=CB .u8 p0_ 127)) (pA (ck 1 (en (cn H (λ H=>?_) (λ H=>?_)))))))
   ·exact sr (ck 1 (en (re (qR (qr (by cases H;exact pr rd))))))
   ·refine sr (ck 3 (en (cn H (λ H=>?_) (λ H=>?_))))
    ·exact sr (ck 1 (en (re (qR (qr (by cases H;exact pr rd))))))
    ·exact sk (qN (qz (sr (ck 1 (en (re (by cases H;exact pr rd)))))))
end
section
variable (p0_:(List UInt8)) (x_2:Int)
def Jgv:St:=⟨(0,.d (.str p0_))::[],[]⟩
def Jgw:St:=⟨(0,.d (.str p0_))::(5,.d (.int .i64 ((p0_.length:Nat):Int)))::(6,.d (.int .i64 x_2))::[],[]⟩
def Jgx:St:=⟨[],[]⟩
def Oi:(Unit⊕Bool)->Ex->St->Prop:=xS (xX 0 0 (λ (y:Unit)=>Jgx)) (xR ty Try.f90 (λ (y:Bool)=>.d (.bool y)))
def IC:Int->St:=(λ (x:Int)=>Jgw p0_ x)
variable {p0_ x_2}
theorem H5 (x:Int) (z:(Int⊕(Unit⊕Bool))) (H:C8 n p0_ x=some z):WP (cxk 15 0) (AC Try.f90) [1,0,1,0,0] (AJ 0 (IC p0_) (Oi) z) (IC p0_ x):=by
 revert H
 generalize x=x_2
 intro H
 refine sr (ck 1 (en (sq (cn H (λ H=>?_) (λ H=>?_)))))
 ·refine sk (qz (sq (bk 1 (sr (ck 2 (en (sr (ck 2 (bx H λ b2 h8 H=>sp (GP h8) (bx H λ r2 h9 H=>ca false (Kh h9) (ck 1 (en (cn H (λ H=>?_) (λ H=>?_))))))))))))))
  ·exact sr (ck 1 (en (re (qR (qr (by cases H;exact ro rfl rd))))))
  ·exact sk (qN (qz (rz (ck 2 (ae (by cases H;exact og (sg [0,5,6])))))))
 ·exact ex 0 (qx (by cases H;exact xo rfl (sg [])))
theorem P8 {z} (H:EJ n p0_=some z):AF Try.prog 90 [.d (.str p0_)] (.d (.bool z)):=by
 refine fO 15 (Jgv p0_) Try.func90 (sr (ck 1 (en (sq (sr (ck 3 (en (bk 0 (bx H λ y5 h10 H=>?_)))))))))
 rcases y5 with y6|y7
 ·exact lX H5 h10 (sg [0,5,6]) rfl λ s hE4=>qH (qs (hE4) (sr (ck 1 (en (re (by cases H;exact pr rd))))))
 ·exact lR H5 h10 (sg [0,5,6]) rfl λ s hE5=>qR (qr (by cases H;exact pr hE5))
end
section
variable (p0_:Int)
def Jgy:St:=⟨(0,.d (.int .u8 p0_))::[],[]⟩
variable {p0_}
theorem UG {z} (H:Jp n p0_=some z):AF Try.prog 91 [.d (.int .u8 p0_)] (.d (.bool z)):=by
 exact fO 5 (Jgy p0_) Try.func91 (sr (ck 1 (en (sr (ck 3 (en (re (by cases H;exact pr rd))))))))
end
section
variable (p0_:Au) (p1_:Int) (x_3:Int)
def Jgz:St:=⟨(0,.agg [.d (.str p0_.Print),.d (.sl (p0_.Cells.map eU8)),.d (.int .u8 p0_.Left),.d (.int .u8 p0_.Right),.d (.int .i64 p0_.From),.d (.int .i64 p0_.To)])::(1,.d (.int .i64 p1_))::[],[]⟩
def JgA:St:=⟨(92,.d (.sl (p0_.Cells.map eU8)))::(93,.d (.int .i64 ((p0_.Cells.length:Nat):Int)))::(94,.d (.int .i64 x_3))::[],[]⟩
def JgB:St:=⟨[],[]⟩
def RY:(Unit⊕Bool)->Ex->St->Prop:=xS (xX 0 0 (λ (y:Unit)=>JgB)) (xR ty Try.f83 (λ (y:Bool)=>.d (.bool y)))
def LH:Int->St:=(λ (x:Int)=>JgA p0_ x)
variable {p0_ p1_ x_3}
theorem KL (x:Int) (z:(Int⊕(Unit⊕Bool))) (H:EK n p0_ x=some z):WP (cxk 110 0) (AC Try.f83) [1,1,1,1,1,1,0,1,0,0] (AJ 0 (LH p0_) (RY) z) (LH p0_ x):=by
 revert H
 generalize x=x_3
 intro H
 refine sr (ck 1 (en (sq (cn H (λ H=>?_) (λ H=>?_)))))
 ·refine sk (qz (sq (bk 1 (sr (bx H λ x4 h14 H=>sp (AA eU8 h14) (ck 2 (en (sr (ck 1 (bx H λ r5 h15 H=>ca false (UG h15) (ck 3 (gc 1 (!(!r5)) (pO (ck 2 (gc 1 (!((!r5)||(x4==63))) (pO (en (cn H (λ H=>?_) (λ H=>?_)))))))))))))))))))
  ·exact sr (ck 1 (en (re (qR (qr (by cases H;exact ro rfl rd))))))
  ·exact sk (qN (qz (rz (ck 2 (ae (by cases H;exact og (sg [92,93,94])))))))
 ·exact ex 0 (qx (by cases H;exact xo rfl (sg [])))
theorem UI {z} (H:HJ n p0_ p1_=some z):AF Try.prog 83 [.agg (LD p0_),.d (.int .i64 p1_)] (.d (.bool z)):=by
 refine fO 110 (Jgz p0_ p1_) Try.func83 (sr (ck 2 (en (sq (sr (ck 6 (gc 1 (!(decide (((p0_.Print.length:Nat):Int)>4))) (sE (g:=(!(decide (((p0_.Print.length:Nat):Int)>4)))) (λ hg=>Av eU8 p0_.Cells) (gc 1 (!(decide (((p0_.Print.length:Nat):Int)>4))) (pO (ck 2 (gc 1 (!((decide (((p0_.Print.length:Nat):Int)>4))||(decide (((p0_.Cells.length:Nat):Int)<1)))) (sE (g:=(!((decide (((p0_.Print.length:Nat):Int)>4))||(decide (((p0_.Cells.length:Nat):Int)<1))))) (λ hg=>Av eU8 p0_.Cells) (gc 1 (!((decide (((p0_.Print.length:Nat):Int)>4))||(decide (((p0_.Cells.length:Nat):Int)<1)))) (pO (en (cn H (λ H=>?_) (λ H=>?_))))))))))))))))))
 ·exact sr (ck 1 (en (re (qr (by cases H;exact pr rd)))))
 ·refine sk (qz (sq (sr (ck 2 (bx H λ r3 h11 H=>ca false (Wj h11) (ck 5 (en (sr (ck 2 (en (cn H (λ H=>?_) (λ H=>?_))))))))))))
  ·exact sr (ck 1 (en (re (qr (by cases H;exact pr rd)))))
  ·refine sk (qz (sq (sr (ck 5 (gc 2 (!(decide (p0_.Left<1))) (pO (ck 2 (gc 2 (!((decide (p0_.Left<1))||(decide (p0_.Left>63)))) (pO (ck 2 (gc 2 (!(((decide (p0_.Left<1))||(decide (p0_.Left>63)))||(decide (p0_.Right<1)))) (pO (en (cn H (λ H=>?_) (λ H=>?_)))))))))))))))
   ·exact sr (ck 1 (en (re (qr (by cases H;exact pr rd)))))
   ·refine sk (qz (sq (sr (ck 5 (gc 1 (!(decide (p0_.From<0))) (ck 1 (gc 1 (!(decide (p0_.From<0))) (pO (ck 2 (gc 2 (!((decide (p0_.From<0))||(decide (p0_.From>=p1_)))) (pO (ck 2 (gc 1 (!(((decide (p0_.From<0))||(decide (p0_.From>=p1_)))||(decide (p0_.To<0)))) (ck 1 (gc 1 (!(((decide (p0_.From<0))||(decide (p0_.From>=p1_)))||(decide (p0_.To<0)))) (pO (en (cn H (λ H=>?_) (λ H=>?_)))))))))))))))))))
    ·exact sr (ck 1 (en (re (qr (by cases H;exact pr rd)))))
    ·refine sk (qz (sq (sr (ck 2 (bx H λ r4 h12 H=>ca false (P8 h12) (en (cn H (λ H=>?_) (λ H=>?_))))))))
     ·exact sr (ck 6 (gc 1 (((p0_.Print.length:Nat):Int)==1) (sE (g:=(((p0_.Print.length:Nat):Int)==1)) (λ hg=>Av eU8 p0_.Cells) (gc 1 (((p0_.Print.length:Nat):Int)==1) (pA (ck 2 (gc 1 ((((p0_.Print.length:Nat):Int)==1)&&(((p0_.Cells.length:Nat):Int)==1)) (bx H λ x3 h13 H=>sE (λ hg=>AA eU8 (C6 h13 hg)) (gc 2 ((((p0_.Print.length:Nat):Int)==1)&&(((p0_.Cells.length:Nat):Int)==1)) (pA (ck 1 (en (re (qr (by cases H;exact pr rd)))))))))))))))
     ·refine sk (qz (sq (sr (ck 2 (sp (Av eU8 p0_.Cells) (ck 1 (en (bk 0 (bx H λ y8 h16 H=>?_)))))))))
      rcases y8 with y9|y10
      ·exact lX KL h16 (sg [92,93,94]) rfl λ s hE6=>qH (qs (hE6) (sr (ck 1 (en (re (by cases H;exact pr rd))))))
      ·exact lR KL h16 (sg [92,93,94]) rfl λ s hE7=>qR (qr (by cases H;exact pr hE7))
end
section
variable (p0_:(List Int)) (p1_:(List Int)) (x_4:Int)
def JgC:St:=⟨(0,.d (.sl (p0_.map eU8)))::(1,.d (.sl (p1_.map eU8)))::[],[]⟩
def JgD:St:=⟨(0,.d (.sl (p0_.map eU8)))::(1,.d (.sl (p1_.map eU8)))::(12,.d (.int .i64 ((p0_.length:Nat):Int)))::(13,.d (.int .i64 x_4))::[],[]⟩
def JgE:St:=⟨[],[]⟩
def RZ:(Unit⊕Bool)->Ex->St->Prop:=xS (xX 0 0 (λ (y:Unit)=>JgE)) (xR ty Try.f92 (λ (y:Bool)=>.d (.bool y)))
def LI:Int->St:=(λ (x:Int)=>JgD p0_ p1_ x)
variable {p0_ p1_ x_4}
theorem KM (x:Int) (z:(Int⊕(Unit⊕Bool))) (H:EL n p0_ p1_ x=some z):WP (cxk 26 0) (AC Try.f92) [1,1,0,1,0,0] (AJ 0 (LI p0_ p1_) (RZ) z) (LI p0_ p1_ x):=by
 revert H
 generalize x=x_4
 intro H
 refine sr (ck 1 (en (sq (cn H (λ H=>?_) (λ H=>?_)))))
 ·refine sk (qz (sq (bk 1 (sr (ck 2 (en (sr (ck 2 (bx H λ x5 h17 H=>sp (AA eU8 h17) (ck 3 (bx H λ x6 h18 H=>sp (AA eU8 h18) (ck 2 (en (cn H (λ H=>?_) (λ H=>?_)))))))))))))))
  ·exact sr (ck 1 (en (re (qR (qr (by cases H;exact ro rfl rd))))))
  ·exact sk (qN (qz (rz (ck 2 (ae (by cases H;exact og (sg [0,1,12,13])))))))
 ·exact ex 0 (qx (by cases H;exact xo rfl (sg [])))
theorem UJ {z} (H:HK n p0_ p1_=some z):AF Try.prog 92 [.d (.sl (p0_.map eU8)),.d (.sl (p1_.map eU8))] (.d (.bool z)):=by
 refine fO 26 (JgC p0_ p1_) Try.func92 (sr (ck 1 (en (sq (sr (ck 1 (sp (Av eU8 p0_) (ck 1 (sp (Av eU8 p1_) (ck 1 (en (cn H (λ H=>?_) (λ H=>?_)))))))))))))
 ·exact sr (ck 1 (en (re (qr (by cases H;exact pr rd)))))
 ·refine sk (qz (sq (sr (ck 1 (sp (Av eU8 p0_) (ck 1 (en (bk 0 (bx H λ y11 h19 H=>?_)))))))))
  rcases y11 with y12|y13
  ·exact lX KM h19 (sg [0,1,12,13]) rfl λ s hE8=>qH (qs (hE8) (sr (ck 1 (en (re (by cases H;exact pr rd))))))
  ·exact lR KM h19 (sg [0,1,12,13]) rfl λ s hE9=>qR (qr (by cases H;exact pr hE9))
end
section
variable (p0_:Au) (p1_:Au)
def JgF:St:=⟨(0,.agg [.d (.str p0_.Print),.d (.sl (p0_.Cells.map eU8)),.d (.int .u8 p0_.Left),.d (.int .u8 p0_.Right),.d (.int .i64 p0_.From),.d (.int .i64 p0_.To)])::(1,.agg [.d (.str p1_.Print),.d (.sl (p1_.Cells.map eU8)),.d (.int .u8 p1_.Left),.d (.int .u8 p1_.Right),.d (.int .i64 p1_.From),.d (.int .i64 p1_.To)])::[],[]⟩
variable {p0_ p1_}
theorem UK {z} (H:HL n p0_ p1_=some z):AF Try.prog 84 [.agg (LD p0_),.agg (LD p1_)] (.d (.bool z)):=by
 exact fO 45 (JgF p0_ p1_) Try.func84 (sr (ck 3 (en (sr (ck 7 (gc 1 (p0_.From==p1_.From) (ck 1 (gc 2 (p0_.From==p1_.From) (pA (ck 2 (gc 1 ((p0_.From==p1_.From)&&(p0_.To==p1_.To)) (ck 1 (gc 2 ((p0_.From==p1_.From)&&(p0_.To==p1_.To)) (pA (ck 2 (gc 1 (((p0_.From==p1_.From)&&(p0_.To==p1_.To))&&(p0_.Left==p1_.Left)) (ck 1 (gc 2 (((p0_.From==p1_.From)&&(p0_.To==p1_.To))&&(p0_.Left==p1_.Left)) (pA (ck 2 (gc 1 ((((p0_.From==p1_.From)&&(p0_.To==p1_.To))&&(p0_.Left==p1_.Left))&&(p0_.Right==p1_.Right)) (ck 1 (gc 2 ((((p0_.From==p1_.From)&&(p0_.To==p1_.To))&&(p0_.Left==p1_.Left))&&(p0_.Right==p1_.Right)) (pA (ck 2 (gc 1 (((((p0_.From==p1_.From)&&(p0_.To==p1_.To))&&(p0_.Left==p1_.Left))&&(p0_.Right==p1_.Right))&&(p0_.Print==p1_.Print)) (ck 1 (gc 1 (((((p0_.From==p1_.From)&&(p0_.To==p1_.To))&&(p0_.Left==p1_.Left))&&(p0_.Right==p1_.Right))&&(p0_.Print==p1_.Print)) (bx H λ r6 h20 H=>cG false (leZ) rfl (λ hg=>UJ (C6 h20 hg)) (Or.inl rfl) (Cd (λ hh=>hh) (Cd (λ hh=>hh) (Ed))) rfl (pA (ck 1 (en (re (by cases H;exact pr rd))))))))))))))))))))))))))))))))))
end
section
variable (p0_:Ab) (x_5:Int) (x7:Au) (l2:(List Au)) (x_6:Int)
def JgG:St:=⟨(0,.agg [.d (.int .i64 p0_.Modes),.d (.int .u8 p0_.Accept),.d (.sl (p0_.Rules.map Ak))])::[],[]⟩
def JgH:St:=⟨(1,.ptr 0 0)::(39,.d (.sl (p0_.Rules.map Ak)))::(40,.d (.int .i64 ((p0_.Rules.length:Nat):Int)))::(41,.d (.int .i64 x_5))::[],[some (.box (AL p0_))]⟩
def JgI:St:=⟨[],[]⟩
def JgJ:St:=⟨(1,.ptr 0 0)::(4,.d (.int .i64 x_5))::(5,.ptr 1 0)::(39,.d (.sl (p0_.Rules.map Ak)))::(40,.d (.int .i64 ((p0_.Rules.length:Nat):Int)))::(41,.d (.int .i64 x_5))::(55,.d (.sl (l2.map Ak)))::(56,.d (.int .i64 ((l2.length:Nat):Int)))::(57,.d (.int .i64 x_6))::[],[some (.box (AL p0_)),some (.box (LD x7))]⟩
def JgK:St:=⟨(1,.ptr 0 0)::(39,.d (.sl (p0_.Rules.map Ak)))::(40,.d (.int .i64 ((p0_.Rules.length:Nat):Int)))::(41,.d (.int .i64 x_5))::[],[some (.box (AL p0_))]⟩
def R0:(Unit⊕(Int×Int))->Ex->St->Prop:=xS (xX 0 2 (λ (y:Unit)=>JgK p0_ x_5)) (xR ty Try.f72 (λ (y:(Int×Int))=>.tup [.d (.int .i64 y.1),.d (.int .i64 y.2)]))
def LJ:Int->St:=(λ (x:Int)=>JgJ p0_ x_5 x7 l2 x)
def R1:(Unit⊕(Int×Int))->Ex->St->Prop:=xS (xX 0 0 (λ (y:Unit)=>JgI)) (xR ty Try.f72 (λ (y:(Int×Int))=>.tup [.d (.int .i64 y.1),.d (.int .i64 y.2)]))
def LK:Int->St:=(λ (x:Int)=>JgH p0_ x)
variable {p0_ x_5 x7 l2 x_6}
theorem KN (x:Int) (z:(Int⊕(Unit⊕(Int×Int)))) (H:DN n p0_ x_5 x7 l2 x=some z):WP (cxk 67 0) (AC Try.f72) [1,1,1,1,0,1,0,0,1,1,0,0,1,1,1,0,0] (AJ 0 (LJ p0_ x_5 x7 l2) (R0 p0_ x_5) z) (LJ p0_ x_5 x7 l2 x):=by
 revert H
 generalize x=x_6
 intro H
 refine sr (ck 1 (en (sq (cn H (λ H=>?_) (λ H=>?_)))))
 ·refine sk (qz (sq (bk 3 (sr (bx H λ x8 h25 H=>sp (AA Ak h25) (ck 3 (en (sr (ck 2 (bx H λ r8 h26 H=>ca false (UK h26) (en (cn H (λ H=>?_) (λ H=>?_)))))))))))))
  ·exact sr (ck 3 (en (re (qR (qr (by cases H;exact ro rfl rdT))))))
  ·exact sk (qN (qz (rz (ck 2 (ae (by cases H;exact og (sg [1,4,5,39,40,41,55,56,57])))))))
 ·exact ex 2 (qx (by cases H;exact xo rfl (sg [1,39,40,41])))
theorem KO (x:Int) (z:(Int⊕(Unit⊕(Int×Int)))) (H:DO n p0_ x=some z):WP (cxk 67 0) (AC Try.f72) [1,1,1,1,0,1,0,0] (AJ 0 (LK p0_) (R1) z) (LK p0_ x):=by
 revert H
 generalize x=x_5
 intro H
 refine sr (ck 1 (en (sq (cn H (λ H=>?_) (λ H=>?_)))))
 ·refine sk (qz (sq (bk 1 (sr (ck 1 (bx H λ x7 h22 H=>sp (AA Ak h22) (ck 4 (en (sq (sr (ck 3 (bx H λ r7 h23 H=>ca false (UI h23) (ck 1 (en (cn H (λ H=>?_) (λ H=>?_))))))))))))))))
  ·exact sr (ck 3 (en (re (qr (qR (qr (by cases H;exact ro rfl rdT)))))))
  ·refine sk (qz (sr (ck 3 (bx H λ l2 h24 H=>sp (XJ Ak 6 h24) (sp (Av Ak l2) (ck 1 (en (bk 2 (bx H λ y14 h27 H=>?_)))))))))
   rcases y14 with y15|y16
   ·exact lX KN h27 (sg [1,4,5,39,40,41,55,56,57]) rfl λ s hE10=>qH (qN (qs (hE10) (rz (ck 2 (ae (by cases H;exact og (sg [1,39,40,41])))))))
   ·exact lR KN h27 (sg [1,4,5,39,40,41,55,56,57]) rfl λ s hE11=>qR (qR (qr (by cases H;exact ro rfl hE11)))
 ·exact ex 0 (qx (by cases H;exact xo rfl (sg [])))
theorem UL {z} (H:HM n p0_=some z):AF Try.prog 72 [.agg (AL p0_)] (.tup [.d (.int .i64 z.1),.d (.int .i64 z.2)]):=by
 refine fO 67 (JgG p0_) Try.func72 (sr (ck 3 (en (sq (sr (ck 5 (gc 2 (!(decide (p0_.Modes<1))) (pO (en (cn H (λ H=>?_) (λ H=>?_)))))))))))
 ·exact sr (ck 2 (en (re (qr (by cases H;exact pr rdT)))))
 ·refine sk (qz (sq (sr (ck 5 (gc 2 (!(p0_.Accept==0)) (ck 1 (gc 1 (!(p0_.Accept==0)) (bx H λ gd1 h21 H=>soG (λ hg=>Jl (C6 h21 hg)) (Cd (λ hh=>hh) (Ed)) (gc 1 (!(p0_.Accept==0)) (pO (en (cn H (λ H=>?_) (λ H=>?_)))))))))))))
  ·exact sr (ck 2 (en (re (qr (by cases H;exact pr rdT)))))
  ·refine sk (qz (sq (sr (ck 2 (sp (Av Ak p0_.Rules) (ck 3 (gc 1 (!(decide (((p0_.Rules.length:Nat):Int)<1))) (sE (g:=(!(decide (((p0_.Rules.length:Nat):Int)<1)))) (λ hg=>Av Ak p0_.Rules) (gc 1 (!(decide (((p0_.Rules.length:Nat):Int)<1))) (pO (en (cn H (λ H=>?_) (λ H=>?_)))))))))))))
   ·exact sr (ck 2 (en (re (qr (by cases H;exact pr rdT)))))
   ·refine sk (qz (sq (sr (ck 2 (sp (Av Ak p0_.Rules) (ck 1 (en (bk 0 (bx H λ y17 h28 H=>?_)))))))))
    rcases y17 with y18|y19
    ·exact lX KO h28 (sg [1,39,40,41]) rfl λ s hE12=>qH (qs (hE12) (sr (ck 2 (en (re (by cases H;exact pr rdT))))))
    ·exact lR KO h28 (sg [1,39,40,41]) rfl λ s hE13=>qR (qr (by cases H;exact pr hE13))
end
section
variable (p0_:Ab)
def JgL:St:=⟨(0,.agg [.d (.int .i64 p0_.Modes),.d (.int .u8 p0_.Accept),.d (.sl (p0_.Rules.map Ak))])::[],[]⟩
variable {p0_}
theorem Ki {z} (H:Gy n p0_=some z):AF Try.prog 59 [.agg (AL p0_)] (.d (.bool z)):=by
 exact fO 12 (JgL p0_) Try.func59 (sr (ck 2 (en (sr (ck 1 (bx H λ r9 h29 H=>ca false (UL h29) (ck 5 (en (sr (ck 3 (en (re (by cases H;exact pr rd)))))))))))))
end
def JgM:St:=⟨[],[]⟩
theorem UM {z} (H:Jq n=some z):AF Try.prog 31 [] (.agg [.d (.int .i64 z.Mode),.d (.int .i64 z.Last),.d (.int .u8 z.Need)]):=by
 exact fO 2 JgM Try.func31 (sr (ck 1 (en (sr (ck 2 (en (re (by cases H;exact pr rd))))))))
section
variable (p0_:Int) (p1_:Int)
def JgN:St:=⟨(0,.d (.int .u8 p0_))::(1,.d (.int .i64 p1_))::[],[]⟩
variable {p0_ p1_}
theorem Kj {z} (H:Hz n p0_ p1_=some z):AF Try.prog 51 [.d (.int .u8 p0_),.d (.int .i64 p1_)] (.d (.bool z)):=by
 exact fO 18 (JgN p0_ p1_) Try.func51 (sr (ck 1 (en (sr (ck 4 (gc 1 (decide (0<=p1_)) (pA (ck 3 (bx H λ gd2 h30 H=>soG (λ hg=>Jl (C6 h30 hg)) (Cd (λ hh=>hh) (Cd (λ hh=>hh) (Ed))) (gc 2 ((decide (0<=p1_))&&(decide (p1_<8))) (pA (ck 1 (en (re (by cases H;exact pr rd)))))))))))))))
end
section
variable (p0_:Ab) (p1_:Aa) (p2_:Int)
def JgO:St:=⟨(0,.agg [.d (.int .i64 p0_.Modes),.d (.int .u8 p0_.Accept),.d (.sl (p0_.Rules.map Ak))])::(1,.agg [.d (.int .i64 p1_.Mode),.d (.int .i64 p1_.Last),.d (.int .u8 p1_.Need)])::(2,.d (.int .i64 p2_))::[],[]⟩
variable {p0_ p1_ p2_}
theorem PT {z} (H:HZ n p0_ p1_ p2_=some z):AF Try.prog 17 [.agg (AL p0_),.agg (B4 p1_),.d (.int .i64 p2_)] (.tup [.agg [.d (.int .i64 z.1.Mode),.d (.int .i64 z.1.Last),.d (.int .u8 z.1.Need)],.d (.bool z.2)]):=by
 refine fO 78 (JgO p0_ p1_ p2_) Try.func17 (sr (ck 4 (en (sq (sr (ck 5 (gc 1 (!(decide (p2_<0))) (sE (g:=(!(decide (p2_<0)))) (λ hg=>Av Ak p0_.Rules) (gc 1 (!(decide (p2_<0))) (pO (en (cn H (λ H=>?_) (λ H=>?_)))))))))))))
 ·exact sr (ck 3 (en (re (qr (by cases H;exact pr rdT)))))
 ·refine sk (qz (sr (ck 3 (bx H λ x9 h31 H=>sp (AA Ak h31) (ck 3 (en (sq (sr (ck 7 (gc 1 (!(x9.From != p1_.Mode)) (ck 1 (gc 1 (!(x9.From != p1_.Mode)) (bx H λ r10 h32 H=>cG false (leZ) rfl (λ hg=>Kj (C6 h32 hg)) (Or.inl rfl) (Cd (λ hh=>hh) (Cd (λ hh=>hh) (Ed))) rfl (gc 1 (!(x9.From != p1_.Mode)) (pO (en (cn H (λ H=>?_) (λ H=>?_))))))))))))))))))
  ·exact sr (ck 3 (en (re (qr (by cases H;exact pr rdT)))))
  ·refine sk (qz (sq (sr (ck 3 (en (cn H (λ H=>?_) (λ H=>?_)))))))
   ·refine sr (ck 6 (en (sq (sr (ck 2 (en (cn H (λ H=>?_) (λ H=>?_))))))))
    ·exact sr (ck 3 (en (re (qr (qr (by cases H;exact pr rdT))))))
    ·exact sk (qz (sr (ck 8 (en (re (qr (by cases H;exact pr rdT)))))))
   ·refine sk (qz (sq (sr (ck 4 (bx H λ b3 h33 H=>sp (GP h33) (bx H λ r11 h34 H=>ca false (Kh h34) (bx H λ r12 h35 H=>ca false (Kj h35) (ck 1 (en (cn H (λ H=>?_) (λ H=>?_)))))))))))
    ·exact sr (ck 3 (en (re (qr (by cases H;exact pr rdT)))))
    ·exact sk (qz (sr (ck 8 (bx H λ b4 h36 H=>sp (GP h36) (bx H λ r13 h37 H=>ca false (Kh h37) (ck 5 (en (re (by cases H;exact pr rdT)))))))))
end
section
variable (p0_:Ab) (states_1:(List Aa)) (from_1:(List (List Int))) (number_1:(List (Aa×Int))) (k_1:Int) (states_2:(List Aa)) (from_2:(List (List Int))) (states_3:(List Aa)) (from_3:(List (List Int))) (number_2:(List (Aa×Int))) (x_7:Int) (states_4:(List Aa)) (from_4:(List (List Int))) (number_3:(List (Aa×Int))) (states_5:(List Aa)) (from_5:(List (List Int))) (number_4:(List (Aa×Int))) (states_6:(List Aa)) (from_6:(List (List Int))) (number_5:(List (Aa×Int))) (n_1:Int)
def JgP:St:=⟨(0,.agg [.d (.int .i64 p0_.Modes),.d (.int .u8 p0_.Accept),.d (.sl (p0_.Rules.map Ak))])::[],[]⟩
def JgQ:St:=⟨(1,.ptr 0 0)::(5,.osl 1 3 0 (states_1.length))::(6,.osl 2 1 0 (from_1.length))::(7,.mp 3)::(8,.d (.int .i64 k_1))::[],[some (.box (AL p0_)),some (.arr 3 (states_1.map As)),some (.narr 1 (from_1.map (nL 1 Ax))),some (.map true false (AH As Ax number_1))]⟩
def JgR:St:=⟨(5,.osl 0 3 0 (states_2.length))::(6,.osl 1 1 0 (from_2.length))::[],[some (.arr 3 (states_2.map As)),some (.narr 1 (from_2.map (nL 1 Ax)))]⟩
def JgS:St:=⟨(1,.ptr 0 0)::(5,.osl 1 3 0 (states_3.length))::(6,.osl 2 1 0 (from_3.length))::(7,.mp 3)::(8,.d (.int .i64 k_1))::(29,.d (.int .i64 ((p0_.Rules.length:Nat):Int)))::(30,.d (.int .i64 x_7))::[],[some (.box (AL p0_)),some (.arr 3 (states_3.map As)),some (.narr 1 (from_3.map (nL 1 Ax))),some (.map true false (AH As Ax number_2))]⟩
def JgT:St:=⟨(1,.ptr 0 0)::(5,.osl 1 3 0 (states_4.length))::(6,.osl 2 1 0 (from_4.length))::(7,.mp 3)::(8,.d (.int .i64 k_1))::[],[some (.box (AL p0_)),some (.arr 3 (states_4.map As)),some (.narr 1 (from_4.map (nL 1 Ax))),some (.map true false (AH As Ax number_3))]⟩
def JgU:St:=⟨(1,.ptr 0 0)::(5,.osl 1 3 0 (states_5.length))::(6,.osl 2 1 0 (from_5.length))::(7,.mp 3)::(8,.d (.int .i64 k_1))::(29,.d (.int .i64 ((p0_.Rules.length:Nat):Int)))::(30,.d (.int .i64 x_7))::[],[some (.box (AL p0_)),some (.arr 3 (states_5.map As)),some (.narr 1 (from_5.map (nL 1 Ax))),some (.map true false (AH As Ax number_4))]⟩
def JgV:St:=⟨(1,.ptr 0 0)::(5,.osl 1 3 0 (states_6.length))::(6,.osl 2 1 0 (from_6.length))::(7,.mp 3)::(8,.d (.int .i64 k_1))::(12,.d (.int .i64 n_1))::(29,.d (.int .i64 ((p0_.Rules.length:Nat):Int)))::(30,.d (.int .i64 x_7))::[],[some (.box (AL p0_)),some (.arr 3 (states_6.map As)),some (.narr 1 (from_6.map (nL 1 Ax))),some (.map true false (AH As Ax number_5))]⟩
def O7:((List Aa)×(List (List Int))×(List (Aa×Int)))->Ex->St->Prop:=xX 0 2 (λ (y:((List Aa)×(List (List Int))×(List (Aa×Int))))=>JgT p0_ k_1 y.1 y.2.1 y.2.2)
def Jt:((List Aa)×(List (List Int))×(List (Aa×Int))×Int)->St:=(λ (x:((List Aa)×(List (List Int))×(List (Aa×Int))×Int))=>JgS p0_ k_1 x.1 x.2.1 x.2.2.1 x.2.2.2)
def O8:((List Aa)×(List (List Int)))->Ex->St->Prop:=xX 0 0 (λ (y:((List Aa)×(List (List Int))))=>JgR y.1 y.2)
def Ju:((List Aa)×(List (List Int))×(List (Aa×Int))×Int)->St:=(λ (x:((List Aa)×(List (List Int))×(List (Aa×Int))×Int))=>JgQ p0_ x.1 x.2.1 x.2.2.1 x.2.2.2)
variable {p0_ states_1 from_1 number_1 k_1 states_2 from_2 states_3 from_3 number_2 x_7 states_4 from_4 number_3 states_5 from_5 number_4 states_6 from_6 number_5 n_1}
theorem Oj (x:((List Aa)×(List (List Int))×(List (Aa×Int))×Int)) (z:(((List Aa)×(List (List Int))×(List (Aa×Int))×Int)⊕((List Aa)×(List (List Int))×(List (Aa×Int))))) (H:By n p0_ k_1 x.1 x.2.1 x.2.2.1 x.2.2.2=some z):WP (cxk 78 0) (AC Try.f54) [1,1,1,1,0,1,0,0,1,0,0,1,0,0] (AJ 0 (Jt p0_ k_1) (O7 p0_ k_1) z) (Jt p0_ k_1 x):=by
 obtain ⟨states_3,from_3,number_2,x_7⟩:=x
 refine sr (ck 1 (en (sq (cn H (λ H=>?_) (λ H=>?_)))))
 ·refine sk (qz (sj (λ (x:((List Aa)×(List (List Int))×(List (Aa×Int))))=>JgU p0_ k_1 x_7 x.1 x.2.1 x.2.2) (λ (x:((List Aa)×(List (List Int))×(List (Aa×Int))))=>Cy n x_7 x.1 x.2.1 x.2.2) z ?_ (λ hFAu_explore_J1=>?_)))
  ·rintro ⟨states_5,from_5,number_4⟩ H
   exact rz (ck 2 (ae (by cases H;exact og (gP [1,5,6,7,8,29,30] [0,1,2,3] (po1 (po1 (pn1 (nL 1 Ax) from_5 (po1 (Pl.z)))))))))
  refine bk 3 (sr (ck 2 (en (sr (ck 3 (bx H λ x10 h39 H=>sp (Bc 1 3 h39) (sp (DD As 1 0 (ty 26) h39) (ck 1 (bx H λ r15 h40 H=>ca false (PT h40) (ck 6 (en (sq (sr (ck 2 (en (cn H (λ H=>?_) (λ H=>?_)))))))))))))))))
  ·exact ex 3 (qx (qH (qs (gP [1,5,6,7,8,29,30] [0,1,2,3] (po1 (po1 (pn1 (nL 1 Ax) from_3 (po1 (Pl.z)))))) (hFAu_explore_J1 (states_3,from_3,number_2) H))))
  ·refine sk (qz (sr (ck 2 (sp (FY (enc:=Ax) (encK:=As) (k:=3) (e1:=λ x=>.int .i64 x) (m:=number_2) (l:=[.d (.int .i64 r15.1.Mode),.d (.int .i64 r15.1.Last),.d (.int .u8 r15.1.Need)]) (key:=r15.1) (z:=0) (vz:=[.int .i64 0]) TR true) (ck 5 (en (sj (λ (x:((List Aa)×(List (List Int))×(List (Aa×Int))×Int))=>JgV p0_ k_1 x_7 x.1 x.2.1 x.2.2.1 x.2.2.2) (λ (x:((List Aa)×(List (List Int))×(List (Aa×Int))×Int))=>CW n k_1 x_7 x.1 x.2.1 x.2.2.1 x.2.2.2) z ?_ (λ hFAu_explore_J2=>?_))))))))
   ·rintro ⟨states_6,from_6,number_5,n_1⟩ H
    exact bx H λ x11 h41 H=>rg (tr (so1 (encN:=(nL 1 Ax)) 2 1 h41) (sno (encN:=(nL 1 Ax)) (enc:=Ax) h41 [.own 1 (x11.map Ax)] x11 1 2 0 1)) (ck 4 (sp (Bc 2 1 h41) (sp (RR (encN:=(nL 1 Ax)) (row:=[.osl 4 1 0 (x11.length)]) (k:=2) (sz:=1) (off:=0) (t:=ty 33) (v:=.osl 4 1 0 (x11.length)) h41) (ck 2 (bx H λ l3 h42 H=>sp (Bm Ax 4 1 h42) (sp (Bc 2 1 h41) (sp (XK (encN:=(nL 1 Ax)) (row:=[.osl 4 1 0 (x11.length)]) (row':=[.osl 6 1 0 (l3.length)]) (k:=2) (sz:=1) (off:=0) (t:=ty 33) (v:=.osl 6 1 0 (l3.length)) h41) (ae (qN (qs (tr (tr (tr (tr (tr (sni (encN:=(nL 1 Ax)) (xs:=from_6) (n:=n_1) (enc:=Ax) [.osl 6 1 0 (l3.length)] l3 1 2 0 6 1) (scl (encN:=(nL 1 Ax)) (xss:=from_6) n_1 [.own 1 (l3.map Ax)] 1 2 l3)) (sn 6 2 1 (lsS from_6 n_1.toNat l3))) (sn 65 2 1 (lsS from_6 n_1.toNat l3))) (sn 67 2 1 (lsS from_6 n_1.toNat l3))) (gP [1,5,6,7,8,29,30] [0,1,2,3] (po1 (po1 (pn1 (nL 1 Ax) (List.set from_6 n_1.toNat l3) (po1 (Pl.z))))))) (hFAu_explore_J1 (states_6,(List.set from_6 n_1.toNat l3),number_5) H)))))))))))
   refine sr (ck 2 (en (cn H (λ H=>?_) (λ H=>?_))))
   ·exact sr (ck 3 (en (sr (ck 3 (sp (Ke (enc:=Ax) (encK:=As) (k:=3) (e1:=λ x=>.int .i64 x) (m:=number_2) (l:=[.d (.int .i64 r15.1.Mode),.d (.int .i64 r15.1.Last),.d (.int .u8 r15.1.Need)]) (key:=r15.1) (y:=((states_3.length:Nat):Int)) (v:=.d (.int .i64 ((states_3.length:Nat):Int))) (vz:=[.int .i64 0]) TR) (en (rz (ck 3 (bx H λ l4 h43 H=>sp (Bm As 1 3 h43) (ck 1 (sK false (bx H λ l5 h44 H=>sp (JeI (encN:=(nL 1 Ax)) (esz:=1) (k:=2) (e:=[.nil]) h44) (ck 2 (ae (qs (tr (JfW (encN:=(nL 1 Ax)) (xss:=from_3) (yss:=l5) (y:=([]:(List Int))) (row:=[.own 0 []]) (sz:=1) 7 (by kernel_rfl) (JeB h44) (by kernel_rfl)) (gP [1,5,6,7,8,12,29,30] [0,6,7,3] (po1 (po1 (pn1 (nL 1 Ax) l5 (po1 (Pl.z))))))) (hFAu_explore_J2 (l4,l5,(El r15.1 ((states_3.length:Nat):Int) number_2),((states_3.length:Nat):Int)) H))))))))))))))))
   ·exact sk (qs (gP [1,5,6,7,8,12,29,30] [0,1,2,3] (po1 (po1 (pn1 (nL 1 Ax) from_3 (po1 (Pl.z)))))) (hFAu_explore_J2 (states_3,from_3,number_2,(Option.getD (Dg r15.1 number_2) 0)) H))
 ·exact ex 2 (qx (by cases H;exact xo rfl (gP [1,5,6,7,8] [0,1,2,3] (po1 (po1 (pn1 (nL 1 Ax) from_3 (po1 (Pl.z))))))))
theorem Ol (x:((List Aa)×(List (List Int))×(List (Aa×Int))×Int)) (z:(((List Aa)×(List (List Int))×(List (Aa×Int))×Int)⊕((List Aa)×(List (List Int))))) (H:Cz n p0_ x.1 x.2.1 x.2.2.1 x.2.2.2=some z):WP (cxk 78 0) (AC Try.f54) [1,1,1,1,0,1,0,0] (AJ 0 (Ju p0_) (O8) z) (Ju p0_ x):=by
 obtain ⟨states_1,from_1,number_1,k_1⟩:=x
 refine sq (sr (ck 4 (en (cn H (λ H=>?_) (λ H=>?_)))))
 ·exact sk (qz (sq (bk 1 (sr (ck 2 (sp (Av Ak p0_.Rules) (ck 1 (en (bk 2 (bx H λ y20 h45 H=>lX Oj h45 (gP [1,5,6,7,8,29,30] [0,1,2,3] (po1 (po1 (pn1 (nL 1 Ax) from_1 (po1 (Pl.z)))))) rfl λ s hE14=>qH (qN (qs (hE14) (rz (ck 3 (ae (by cases H;exact og (gP [1,5,6,7,8] [0,1,2,3] (po1 (po1 (pn1 (nL 1 Ax) y20.2.1 (po1 (Pl.z))))))))))))))))))))))
 ·exact ex 0 (qx (by cases H;exact xo rfl (gP [5,6] [1,2] (po1 (pn1 (nL 1 Ax) from_1 (Pl.z))))))
theorem LL {z} (H:Eo n p0_=some z):AF Try.prog 54 [.agg (AL p0_)] (.tup [.own 3 (z.1.map As),.d (.sl (z.2.map (eL Ax)))]):=by
 exact fO 78 (JgP p0_) Try.func54 (sr (ck 3 (en (sr (bx H λ r14 h38 H=>ca false (UM h38) (ck 2 (en (sr (ck 2 (sK true (ck 2 (en (sq (rg (JfV (sz:=1) (es:=[[.nil]]) 3 (List.map (nL 1 Ax) ([[]]:List (List Int))) (by kernel_rfl) (by kernel_rfl)) (ck 2 (sp (Ke (enc:=Ax) (encK:=As) (k:=4) (e1:=λ x=>.int .i64 x) (m:=[]) (l:=[.d (.int .i64 r14.Mode),.d (.int .i64 r14.Last),.d (.int .u8 r14.Need)]) (key:=r14) (y:=0) (v:=.d (.int .i64 0)) (vz:=[.int .i64 0]) TR) (ck 2 (en (sq (sr (ck 1 (en (bk 0 (bx H λ y21 h46 H=>lX Ol h46 (gP [1,5,6,7,8] [0,2,3,4] (po1 (po1 (pn1 (nL 1 Ax) ([[]]:List (List Int)) (po1 (Pl.z)))))) rfl λ s hE15=>qH (qs (hE15) (sr (ck 4 (ae (qs (JeD (encN:=(nL 1 Ax)) (encD:=(eL Ax)) (xss:=y21.2) (k:=1) (sz:=1) 3 (by kernel_rfl) (λ _=>rfl) (λ _=>rfl)) (re (by cases H;exact pr (rT (vs:=[.osl 0 3 0 (y21.1.length),.d (.sl (y21.2.map (eL Ax)))]) [0] (t1 (ao vo) (t1 (ad vd) (t0)))))))))))))))))))))))))))))))))))
end
section
variable (p0_:Ab)
def JgW:St:=⟨(0,.agg [.d (.int .i64 p0_.Modes),.d (.int .u8 p0_.Accept),.d (.sl (p0_.Rules.map Ak))])::[],[]⟩
variable {p0_}
theorem SY {z} (H:H1 n p0_=some z):AF Try.prog 25 [.agg (AL p0_)] (.own 3 (z.map As)):=by
 exact fO 11 (JgW p0_) Try.func25 (sr (ck 2 (en (sr (ck 1 (bx H λ r16 h47 H=>cl [List.length r16.1] (LL h47) (ck 5 (en (sr (ck 2 (en (re (by cases H;exact pr (rO (v:=.osl 1 3 0 (r16.1.length)) [1] (ao vo)))))))))))))))
end
section
variable (p0_:Ab) (p1_:Aa)
def JgX:St:=⟨(0,.agg [.d (.int .i64 p0_.Modes),.d (.int .u8 p0_.Accept),.d (.sl (p0_.Rules.map Ak))])::(1,.agg [.d (.int .i64 p1_.Mode),.d (.int .i64 p1_.Last),.d (.int .u8 p1_.Need)])::[],[]⟩
variable {p0_ p1_}
theorem LM {z} (H:Ep n p0_ p1_=some z):AF Try.prog 19 [.agg (AL p0_),.agg (B4 p1_)] (.d (.bool z)):=by
 exact fO 22 (JgX p0_ p1_) Try.func19 (sr (ck 3 (en (sr (ck 7 (gc 1 (decide (p1_.Mode<p0_.Modes)) (ck 1 (gc 1 (decide (p1_.Mode<p0_.Modes)) (bx H λ r17 h48 H=>cG false (leZ) rfl (λ hg=>Kj (C6 h48 hg)) (Or.inl rfl) (Cd (λ hh=>hh) (Cd (λ hh=>hh) (Ed))) rfl (pA (ck 2 (gc 1 ((decide (p1_.Mode<p0_.Modes))&&r17) (bx H λ r18 h49 H=>cG false (leZ) rfl (λ hg=>Kj (C6 h49 hg)) (Or.inl rfl) (Cd (λ hh=>hh) (Ed)) rfl (pA (ck 1 (en (re (by cases H;exact pr rd))))))))))))))))))
end
section
variable (p0_:Ab) (r19:((List Aa)×(List (List Int)))) (alive_1:(List Bool)) (open_1:(List Int)) (x_8:Int) (alive_2:(List Bool)) (open_2:(List Int)) (alive_3:(List Bool)) (open_3:(List Int)) (alive_4:(List Bool)) (open_4:(List Int)) (alive_5:(List Bool)) (x15:(List Int)) (alive_6:(List Bool)) (open_5:(List Int)) (x_9:Int) (alive_7:(List Bool)) (open_6:(List Int)) (alive_8:(List Bool)) (open_7:(List Int))
def JgY:St:=⟨(0,.agg [.d (.int .i64 p0_.Modes),.d (.int .u8 p0_.Accept),.d (.sl (p0_.Rules.map Ak))])::[],[]⟩
def JgZ:St:=⟨(1,.ptr 0 0)::(4,.d (.sl (r19.2.map (eL Ax))))::(5,.osl 1 1 0 (alive_1.length))::(6,.osl 2 1 0 (open_1.length))::(20,.d (.sl (r19.1.map As)))::(21,.d (.int .i64 ((r19.1.length:Nat):Int)))::(22,.d (.int .i64 x_8))::[],[some (.box (AL p0_)),some (.arr 1 (alive_1.map eB)),some (.arr 1 (open_1.map Ax))]⟩
def Jg0:St:=⟨(4,.d (.sl (r19.2.map (eL Ax))))::(5,.osl 0 1 0 (alive_2.length))::(6,.osl 1 1 0 (open_2.length))::[],[some (.arr 1 (alive_2.map eB)),some (.arr 1 (open_2.map Ax))]⟩
def Jg1:St:=⟨(1,.ptr 0 0)::(4,.d (.sl (r19.2.map (eL Ax))))::(5,.osl 1 1 0 (alive_3.length))::(6,.osl 2 1 0 (open_3.length))::(20,.d (.sl (r19.1.map As)))::(21,.d (.int .i64 ((r19.1.length:Nat):Int)))::(22,.d (.int .i64 x_8))::[],[some (.box (AL p0_)),some (.arr 1 (alive_3.map eB)),some (.arr 1 (open_3.map Ax))]⟩
def R2:((List Bool)×(List Int))->Ex->St->Prop:=xX 0 0 (λ (y:((List Bool)×(List Int)))=>Jg0 r19 y.1 y.2)
def LO:((List Bool)×(List Int)×Int)->St:=(λ (x:((List Bool)×(List Int)×Int))=>JgZ p0_ r19 x.1 x.2.1 x.2.2)
def Jg2:St:=⟨(4,.d (.sl (r19.2.map (eL Ax))))::(5,.osl 0 1 0 (alive_4.length))::(6,.osl 1 1 0 (open_4.length))::[],[some (.arr 1 (alive_4.map eB)),some (.arr 1 (open_4.map Ax))]⟩
def Jg3:St:=⟨(5,.osl 0 1 0 (alive_5.length))::[],[some (.arr 1 (alive_5.map eB))]⟩
def Jg4:St:=⟨(4,.d (.sl (r19.2.map (eL Ax))))::(5,.osl 0 1 0 (alive_6.length))::(6,.osl 1 1 0 (open_5.length))::(55,.d (.sl (x15.map Ax)))::(56,.d (.int .i64 ((x15.length:Nat):Int)))::(57,.d (.int .i64 x_9))::[],[some (.arr 1 (alive_6.map eB)),some (.arr 1 (open_5.map Ax))]⟩
def Jg5:St:=⟨(4,.d (.sl (r19.2.map (eL Ax))))::(5,.osl 0 1 0 (alive_7.length))::(6,.osl 1 1 0 (open_6.length))::[],[some (.arr 1 (alive_7.map eB)),some (.arr 1 (open_6.map Ax))]⟩
def Jg6:St:=⟨(4,.d (.sl (r19.2.map (eL Ax))))::(5,.osl 0 1 0 (alive_8.length))::(6,.osl 1 1 0 (open_7.length))::(55,.d (.sl (x15.map Ax)))::(56,.d (.int .i64 ((x15.length:Nat):Int)))::(57,.d (.int .i64 x_9))::[],[some (.arr 1 (alive_8.map eB)),some (.arr 1 (open_7.map Ax))]⟩
def R3:((List Bool)×(List Int))->Ex->St->Prop:=xX 0 4 (λ (y:((List Bool)×(List Int)))=>Jg5 r19 y.1 y.2)
def LP:((List Bool)×(List Int)×Int)->St:=(λ (x:((List Bool)×(List Int)×Int))=>Jg4 r19 x15 x.1 x.2.1 x.2.2)
def R4:(List Bool)->Ex->St->Prop:=xX 0 2 (λ (y:(List Bool))=>Jg3 y)
def LQ:((List Bool)×(List Int))->St:=(λ (x:((List Bool)×(List Int)))=>Jg2 r19 x.1 x.2)
variable {p0_ r19 alive_1 open_1 x_8 alive_2 open_2 alive_3 open_3 alive_4 open_4 alive_5 x15 alive_6 open_5 x_9 alive_7 open_6 alive_8 open_7}
theorem P9 (x:((List Bool)×(List Int)×Int)) (z:(((List Bool)×(List Int)×Int)⊕((List Bool)×(List Int)))) (H:Dj n p0_ r19 x.1 x.2.1 x.2.2=some z):WP (cxk 75 0) (AC Try.f28) [1,1,1,1,0,1,0,0] (AJ 0 (LO p0_ r19) (R2 r19) z) (LO p0_ r19 x):=by
 obtain ⟨alive_1,open_1,x_8⟩:=x
 refine sr (ck 1 (en (sq (cn H (λ H=>?_) (λ H=>?_)))))
 ·refine sk (qz (sj (λ (x:((List Bool)×(List Int)))=>Jg1 p0_ r19 x_8 x.1 x.2) (λ (x:((List Bool)×(List Int)))=>DP n x_8 x.1 x.2) z ?_ (λ hFAu_Alive_J1=>?_)))
  ·rintro ⟨alive_3,open_3⟩ H
   exact rz (ck 2 (ae (by cases H;exact og (sg [1,4,5,6,20,21,22]))))
  refine bk 1 (sr (ck 1 (bx H λ x12 h52 H=>sp (AA As h52) (ck 4 (en (sr (ck 2 (bx H λ r20 h53 H=>ca false (LM h53) (en (cn H (λ H=>?_) (λ H=>?_)))))))))))
  ·exact sr (ck 2 (bx H λ x13 h54 H=>sp (Bc 1 1 h54) (bx H λ l7 h55 H=>stA eB 1 0 (ty 4) h54 h55 (en (rg (tr (sn 5 1 1 (Di h55)) (sn 30 1 1 (Di h55))) (ck 3 (bx H λ l8 h56 H=>sp (Bm Ax 2 1 h56) (ck 1 (ae (qN (qs (sg [1,4,5,6,20,21,22]) (hFAu_Alive_J1 (l7,l8) H))))))))))))
  ·exact sk (qN (qs (sg [1,4,5,6,20,21,22]) (hFAu_Alive_J1 (alive_1,open_1) H)))
 ·exact ex 0 (qx (by cases H;exact xo rfl (sg [4,5,6])))
theorem Qa (x:((List Bool)×(List Int)×Int)) (z:(((List Bool)×(List Int)×Int)⊕((List Bool)×(List Int)))) (H:Dk n r19 x15 x.1 x.2.1 x.2.2=some z):WP (cxk 75 0) (AC Try.f28) [1,1,1,1,1,0,0,0,1,0,1,1,1,0,0] (AJ 0 (LP r19 x15) (R3 r19) z) (LP r19 x15 x):=by
 obtain ⟨alive_6,open_5,x_9⟩:=x
 refine sr (ck 1 (en (sq (cn H (λ H=>?_) (λ H=>?_)))))
 ·refine sk (qz (sj (λ (x:((List Bool)×(List Int)))=>Jg6 r19 x15 x_9 x.1 x.2) (λ (x:((List Bool)×(List Int)))=>DQ n x_9 x.1 x.2) z ?_ (λ hFAu_Alive_J2=>?_)))
  ·rintro ⟨alive_8,open_7⟩ H
   exact rz (ck 2 (ae (by cases H;exact og (sg [4,5,6,55,56,57]))))
  refine bk 5 (sr (bx H λ x16 h61 H=>sp (AA Ax h61) (ck 2 (en (sr (ck 2 (bx H λ x17 h62 H=>sp (Bc 0 1 h62) (sp (DD eB 0 0 (ty 4) h62) (ck 1 (en (cn H (λ H=>?_) (λ H=>?_))))))))))))
  ·exact sr (ck 2 (bx H λ x18 h63 H=>sp (Bc 0 1 h63) (bx H λ l10 h64 H=>stA eB 0 0 (ty 4) h63 h64 (en (rg (tr (tr (sn 5 0 1 (Di h64)) (sn 61 0 1 (Di h64))) (sn 66 0 1 (Di h64))) (ck 3 (bx H λ l11 h65 H=>sp (Bm Ax 1 1 h65) (ck 1 (ae (qN (qs (sg [4,5,6,55,56,57]) (hFAu_Alive_J2 (l10,l11) H))))))))))))
  ·exact sk (qN (qs (sg [4,5,6,55,56,57]) (hFAu_Alive_J2 (alive_6,open_5) H)))
 ·exact ex 4 (qx (by cases H;exact xo rfl (sg [4,5,6])))
theorem Qb (x:((List Bool)×(List Int))) (z:(((List Bool)×(List Int))⊕(List Bool))) (H:EM n r19 x.1 x.2=some z):WP (cxk 75 0) (AC Try.f28) [1,1,1,1,1,0,0,0] (AJ 0 (LQ r19) (R4) z) (LQ r19 x):=by
 obtain ⟨alive_4,open_4⟩:=x
 refine sq (sr (ck 3 (en (cn H (λ H=>?_) (λ H=>?_)))))
 ·exact sk (qz (bk 3 (sr (ck 4 (bx H λ x14 h58 H=>sp (Bc 1 1 h58) (sp (DD Ax 1 0 (ty 3) h58) (ck 1 (en (sr (ck 4 (bx H λ l9 h59 H=>sp (IU 1 1 h59) (ck 1 (en (sq (rg (Np (k:=1) (sz:=1) 6 (l9.map Ax) (l9.length) (by kernel_rfl) (GL h59) (IT (enc:=Ax) h59) (GN h59)) (ck 2 (bx H λ x15 h60 H=>sp (AA (eL Ax) h60) (ck 1 (sp (Av Ax x15) (ck 1 (en (bk 4 (bx H λ y23 h66 H=>lX Qa h66 (sg [4,5,6,55,56,57]) rfl λ s hE17=>qH (qN (by cases H;exact og (tr (hE17) (sg [4,5,6])))))))))))))))))))))))))))
 ·exact ex 2 (qx (by cases H;exact xo rfl (sg [5])))
theorem UN {z} (H:HN n p0_=some z):AF Try.prog 28 [.agg (AL p0_)] (.own 1 (z.map eB)):=by
 exact fO 75 (JgY p0_) Try.func28 (sr (ck 2 (en (sr (ck 1 (bx H λ r19 h50 H=>ca false (LL h50) (ck 5 (en (sr (ck 1 (sp (Av As r19.1) (bx H λ l6 h51 H=>sp (Jfd eB 1 h51) (ck 1 (en (sr (ck 1 (en (sq (sr (ck 1 (sp (Av As r19.1) (ck 1 (en (bk 0 (bx H λ y22 h57 H=>lX P9 h57 (tr (Aw.nilo 6 1 (by kernel_rfl)) (sg [1,4,5,6,20,21,22])) rfl λ s hE16=>qH (qs (hE16) (sq (bk 2 (bx H λ y24 h67 H=>lX Qb h67 (sg [4,5,6]) rfl λ s hE18=>qH (qs (hE18) (sr (ck 2 (en (re (by cases H;exact pr (rO (v:=.osl 0 1 0 (z.length)) [0] (ao vo)))))))))))))))))))))))))))))))))))))
end
section
variable (p0_:(List Int)) (p1_:(List Int)) (n_2:Int) (n_3:Int)
def Jg7:St:=⟨(0,.d (.sl (p0_.map eU8)))::(1,.d (.sl (p1_.map eU8)))::[],[]⟩
def Jg8:St:=⟨(0,.d (.sl (p0_.map eU8)))::(1,.d (.sl (p1_.map eU8)))::(5,.d (.int .i64 n_2))::[],[]⟩
def Jg9:St:=⟨(5,.d (.int .i64 n_3))::[],[]⟩
def Qc:Int->Ex->St->Prop:=xX 0 0 (λ (y:Int)=>Jg9 y)
def KP:Int->St:=(λ (x:Int)=>Jg8 p0_ p1_ x)
variable {p0_ p1_ n_2 n_3}
theorem O9 (x:Int) (z:(Int⊕Int)) (H:D0 n p0_ p1_ x=some z):WP (cxk 30 0) (AC Try.f80) [1,1,0,0,0] (AJ 0 (KP p0_ p1_) (Qc) z) (KP p0_ p1_ x):=by
 revert H
 generalize x=n_2
 intro H
 refine sq (sr (ck 2 (sp (Av eU8 p0_) (ck 4 (sE (g:=decide (n_2<((p0_.length:Nat):Int))) (λ hg=>Av eU8 p1_) (gc 1 (decide (n_2<((p0_.length:Nat):Int))) (pA (ck 3 (bx H λ x19 h68 H=>sE (λ hg=>AA eU8 (C6 h68 hg)) (gc 1 ((decide (n_2<((p0_.length:Nat):Int)))&&(decide (n_2<((p1_.length:Nat):Int)))) (ck 2 (bx H λ x20 h69 H=>sE (λ hg=>AA eU8 (C6 h69 hg)) (gc 2 ((decide (n_2<((p0_.length:Nat):Int)))&&(decide (n_2<((p1_.length:Nat):Int)))) (pA (en (cn H (λ H=>?_) (λ H=>?_)))))))))))))))))
 ·exact sk (qz (bk 1 (rz (ck 3 (ae (qN (by cases H;exact og (sg [0,1,5]))))))))
 ·exact ex 0 (qx (by cases H;exact xo rfl (sg [5])))
theorem IX {z} (H:Er n p0_ p1_=some z):AF Try.prog 80 [.d (.sl (p0_.map eU8)),.d (.sl (p1_.map eU8))] (.d (.int .i64 z)):=by
 exact fO 30 (Jg7 p0_ p1_) Try.func80 (sr (ck 1 (en (sr (ck 1 (en (sq (bk 0 (bx H λ y25 h70 H=>lX O9 h70 (sg [0,1,5]) rfl λ s hE19=>qH (qs (hE19) (sr (ck 2 (en (re (by cases H;exact pr rd)))))))))))))))
end
section
variable (p0_:Ae) (o2_:(List (Ae×Bool))) (o3_:(List (Bool×(List Int)))) (x_10:(List (Ae×Bool))) (x_11:(List (Bool×(List Int))))
def JbK:St:=⟨(0,.agg [.d (.int .i64 p0_.At),.d (.int .i64 p0_.State)])::(1,.ptr 0 0)::(2,.ptr 1 0)::[],[some (.box [.mp 2]),some (.box [.osl 3 1 0 (o3_.length)]),some (.map true false (AH Ap eB o2_)),some (.narr 1 (o3_.map (eTg 1 Ax)))]⟩
def Wk:St:=⟨[],[some (.box [.mp 2]),some (.box [.osl 3 1 0 (x_11.length)]),some (.map true false (AH Ap eB x_10)),some (.narr 1 (x_11.map (eTg 1 Ax)))]⟩
variable {p0_ o2_ o3_ x_10 x_11}
theorem Hr {z} (H:Bs n p0_ o2_ o3_=some z):Bk Try.prog 79 [.agg [.d (.int .i64 p0_.At),.d (.int .i64 p0_.State)],.ptr 0 0,.ptr 1 0] [some (.box [.mp 2]),some (.box [.osl 3 1 0 (o3_.length)]),some (.map true false (AH Ap eB o2_)),some (.narr 1 (o3_.map (eTg 1 Ax)))] 4 (.tup []) [some (.box [.mp 2]),some (.box [.osl 3 1 0 (z.2.length)]),some (.map true false (AH Ap eB z.1)),some (.narr 1 (z.2.map (eTg 1 Ax)))]:=by
 refine fL 23 4 (JbK p0_ o2_ o3_) Try.func79 (sr (ck 1 (en (sr (ck 2 (sp (FY (enc:=eB) (encK:=Ap) (k:=2) (e1:=λ x=>.bool x) (m:=o2_) (l:=[.d (.int .i64 p0_.At),.d (.int .i64 p0_.State)]) (key:=p0_) (z:=false) (vz:=[.bool false]) LF false) (ck 1 (en (cn H (λ H=>?_) (λ H=>?_))))))))))
 ·exact sr (ck 2 (sp (Ke (enc:=eB) (encK:=Ap) (k:=2) (e1:=λ x=>.bool x) (m:=o2_) (l:=[.d (.int .i64 p0_.At),.d (.int .i64 p0_.State)]) (key:=p0_) (y:=true) (v:=.d (.bool true)) (vz:=[.bool false]) LF) (en (bx H λ x21 h71 H=>rg (tr (so1 (encN:=(eTg 1 Ax)) 3 1 (Jn h71)) (sno (encN:=(eTg 1 Ax)) (enc:=Ax) (Jn h71) [.own 1 (x21.map Ax)] x21 1 3 0 1)) (ck 6 (sp (Bc 3 1 (Jn h71)) (sp (RR (encN:=(eTg 1 Ax)) (row:=[.osl 5 1 0 (x21.length)]) (k:=3) (sz:=1) (off:=0) (t:=ty 33) (v:=.osl 5 1 0 (x21.length)) (Jn h71)) (ck 3 (bx H λ l12 h72 H=>sp (Bm Ax 5 1 h72) (sp (Bc 3 1 (Jn h71)) (sp (XK (encN:=(eTg 1 Ax)) (row:=[.osl 5 1 0 (x21.length)]) (row':=[.osl 7 1 0 (l12.length)]) (k:=3) (sz:=1) (off:=0) (t:=ty 33) (v:=.osl 7 1 0 (l12.length)) (Jn h71)) (ae (by cases H;exact pL' (rl (s':=Wk (El p0_ true o2_) (List.set o3_ p0_.At.toNat (false,l12))) (tr (tr (tr (tr (tr (sni (encN:=(eTg 1 Ax)) (xs:=o3_) (n:=p0_.At) (enc:=Ax) [.osl 7 1 0 (l12.length)] l12 1 3 0 7 1) (scl (encN:=(eTg 1 Ax)) (xss:=o3_) p0_.At [.own 1 (l12.map Ax)] 1 3 (false,l12))) (sn 10 3 1 (lsS o3_ p0_.At.toNat (false,l12)))) (sn 13 3 1 (lsS o3_ p0_.At.toNat (false,l12)))) (snc 1 0 3 1 (lsS o3_ p0_.At.toNat (false,l12)))) (gP [] [0,1,2,3] (po1 (po1 (po1 (pn1 (eTg 1 Ax) (List.set o3_ p0_.At.toNat (false,l12)) (Pl.z)))))))))))))))))))))
 ·exact sk (by cases H;exact pL' (rl (s':=Wk o2_ o3_) (gP [] [0,1,2,3] (po1 (po1 (po1 (pn1 (eTg 1 Ax) o3_ (Pl.z))))))))
end
section
variable (p0_:Ab) (x_15:An) (r24:(List Aa)) (number_6:(List (Aa×Int))) (x_16:Int) (number_7:(List (Aa×Int))) (y29:(List (Aa×Int))) (g_1:An) (x_17:Int) (g_2:An) (x28:Aa) (g_3:An) (x_18:Int) (g_4:An) (g_5:An)
def JbL:St:=⟨(0,.agg [.d (.int .i64 p0_.Modes),.d (.int .u8 p0_.Accept),.d (.sl (p0_.Rules.map Ak))])::[],[]⟩
def JbM:St:=⟨(2,.ptr 0 0)::[],[some (.box (Ai x_15 (.osl 1 1 0 (x_15.Accepts.length)))),some (.arr 1 (x_15.Accepts.map eB))]⟩
def JbN:St:=⟨(1,.ptr 0 0)::(3,.d (.sl (r24.map As)))::(4,.mp 1)::(19,.d (.sl (r24.map As)))::(20,.d (.int .i64 ((r24.length:Nat):Int)))::(21,.d (.int .i64 x_16))::[],[some (.box (AL p0_)),some (.map true false (AH As Ax number_6))]⟩
def JbO:St:=⟨(1,.ptr 0 0)::(3,.d (.sl (r24.map As)))::(4,.mp 1)::[],[some (.box (AL p0_)),some (.map true false (AH As Ax number_7))]⟩
def Om:(List (Aa×Int))->Ex->St->Prop:=xX 0 0 (λ (y:(List (Aa×Int)))=>JbO p0_ r24 y)
def ID:((List (Aa×Int))×Int)->St:=(λ (x:((List (Aa×Int))×Int))=>JbN p0_ r24 x.1 x.2)
def JbP:St:=⟨(1,.ptr 0 0)::(4,.mp 1)::(7,.ptr 2 0)::(40,.d (.sl (r24.map As)))::(41,.d (.int .i64 ((r24.length:Nat):Int)))::(42,.d (.int .i64 x_17))::[],[some (.box (AL p0_)),some (.map true false (AH As Ax y29)),some (.box (H4 g_1 (.osl 3 1 0 (g_1.Arcs.length)) (.osl 4 1 0 (g_1.Accepts.length)))),some (.narr 1 (g_1.Arcs.map (nL 3 BT))),some (.arr 1 (g_1.Accepts.map eB))]⟩
def JbQ:St:=⟨(7,.ptr 0 0)::[],[some (.box (H4 g_2 (.osl 1 1 0 (g_2.Arcs.length)) (.osl 2 1 0 (g_2.Accepts.length)))),some (.narr 1 (g_2.Arcs.map (nL 3 BT))),some (.arr 1 (g_2.Accepts.map eB))]⟩
def JbR:St:=⟨(1,.ptr 0 0)::(4,.mp 1)::(7,.ptr 2 0)::(8,.d (.int .i64 x_17))::(9,.ptr 3 0)::(40,.d (.sl (r24.map As)))::(41,.d (.int .i64 ((r24.length:Nat):Int)))::(42,.d (.int .i64 x_17))::(57,.d (.sl (p0_.Rules.map Ak)))::(58,.d (.int .i64 ((p0_.Rules.length:Nat):Int)))::(59,.d (.int .i64 x_18))::[],[some (.box (AL p0_)),some (.map true false (AH As Ax y29)),some (.box (H4 g_3 (.osl 4 1 0 (g_3.Arcs.length)) (.osl 5 1 0 (g_3.Accepts.length)))),some (.box (B4 x28)),some (.narr 1 (g_3.Arcs.map (nL 3 BT))),some (.arr 1 (g_3.Accepts.map eB))]⟩
def JbS:St:=⟨(1,.ptr 0 0)::(4,.mp 1)::(7,.ptr 2 0)::(40,.d (.sl (r24.map As)))::(41,.d (.int .i64 ((r24.length:Nat):Int)))::(42,.d (.int .i64 x_17))::[],[some (.box (AL p0_)),some (.map true false (AH As Ax y29)),some (.box (H4 g_4 (.osl 3 1 0 (g_4.Arcs.length)) (.osl 4 1 0 (g_4.Accepts.length)))),some (.narr 1 (g_4.Arcs.map (nL 3 BT))),some (.arr 1 (g_4.Accepts.map eB))]⟩
def JbT:St:=⟨(1,.ptr 0 0)::(4,.mp 1)::(7,.ptr 2 0)::(8,.d (.int .i64 x_17))::(9,.ptr 3 0)::(40,.d (.sl (r24.map As)))::(41,.d (.int .i64 ((r24.length:Nat):Int)))::(42,.d (.int .i64 x_17))::(57,.d (.sl (p0_.Rules.map Ak)))::(58,.d (.int .i64 ((p0_.Rules.length:Nat):Int)))::(59,.d (.int .i64 x_18))::[],[some (.box (AL p0_)),some (.map true false (AH As Ax y29)),some (.box (H4 g_5 (.osl 4 1 0 (g_5.Arcs.length)) (.osl 5 1 0 (g_5.Accepts.length)))),some (.box (B4 x28)),some (.narr 1 (g_5.Arcs.map (nL 3 BT))),some (.arr 1 (g_5.Accepts.map eB))]⟩
def On:An->Ex->St->Prop:=xX 0 4 (λ (y:An)=>JbS p0_ r24 y29 x_17 y)
def IE:(An×Int)->St:=(λ (x:(An×Int))=>JbR p0_ r24 y29 x_17 x28 x.1 x.2)
def Oo:An->Ex->St->Prop:=xX 0 2 (λ (y:An)=>JbQ y)
def IF:(An×Int)->St:=(λ (x:(An×Int))=>JbP p0_ r24 y29 x.1 x.2)
variable {p0_ x_15 r24 number_6 x_16 number_7 y29 g_1 x_17 g_2 x28 g_3 x_18 g_4 g_5}
theorem Nt (x:((List (Aa×Int))×Int)) (z:(((List (Aa×Int))×Int)⊕(List (Aa×Int)))) (H:CH n p0_ r24 x.1 x.2=some z):WP (cxk 109 0) (AC Try.f63) [1,1,1,0,1,0,0] (AJ 0 (ID p0_ r24) (Om p0_ r24) z) (ID p0_ r24 x):=by
 obtain ⟨number_6,x_16⟩:=x
 refine sr (ck 1 (en (sq (cn H (λ H=>?_) (λ H=>?_)))))
 ·exact sk (qz (sq (bk 1 (sr (ck 1 (bx H λ x27 h87 H=>sp (AA As h87) (ck 4 (en (rz (ck 3 (sp (Ke (enc:=Ax) (encK:=As) (k:=1) (e1:=λ x=>.int .i64 x) (m:=number_6) (l:=[.d (.int .i64 x27.Mode),.d (.int .i64 x27.Last),.d (.int .u8 x27.Need)]) (key:=x27) (y:=x_16) (v:=.d (.int .i64 x_16)) (vz:=[.int .i64 0]) TR) (ae (qN (qz (rz (ck 2 (ae (by cases H;exact og (sg [1,3,4,19,20,21])))))))))))))))))))
 ·exact ex 0 (qx (by cases H;exact xo rfl (sg [1,3,4])))
theorem Nu (x:(An×Int)) (z:((An×Int)⊕An)) (H:Cg n p0_ r24 y29 x_17 x28 x.1 x.2=some z):WP (cxk 109 0) (AC Try.f63) [1,1,1,1,1,0,1,0,0,1,1,0,0,1,1,1,0,0] (AJ 0 (IE p0_ r24 y29 x_17 x28) (On p0_ r24 y29 x_17) z) (IE p0_ r24 y29 x_17 x28 x):=by
 obtain ⟨g_3,x_18⟩:=x
 refine sr (ck 1 (en (sq (cn H (λ H=>?_) (λ H=>?_)))))
 ·refine sk (qz (sj (λ (x:An)=>JbT p0_ r24 y29 x_17 x28 x_18 x) (λ (x:An)=>C9 n x_18 x) z ?_ (λ hFRb_newGraph_J1=>?_)))
  ·intro g_5 H
   exact rz (ck 2 (ae (by cases H;exact og (gP [1,4,7,8,9,40,41,42,57,58,59] [0,1,2,3,4,5] (po1 (po1 (po1 (po1 (pn1 (nL 3 BT) g_5.Arcs (po1 (Pl.z)))))))))))
  refine bk 5 (sr (ck 1 (bx H λ x30 h96 H=>sp (AA Ak h96) (ck 4 (en (sr (ck 3 (bx H λ r27 h97 H=>ca false (PT h97) (ck 6 (en (sr (ck 3 (gc 3 r27.2 (ck 2 (sE (g:=r27.2) (λ hg=>FY (enc:=Ax) (encK:=As) (k:=1) (e1:=λ x=>.int .i64 x) (m:=y29) (l:=[.d (.int .i64 r27.1.Mode),.d (.int .i64 r27.1.Last),.d (.int .u8 r27.1.Need)]) (key:=r27.1) (z:=0) (vz:=[.int .i64 0]) TR false) (bx H λ x31 h98 H=>sE (λ hg=>AA eB (C6 h98 hg)) (gc 1 r27.2 (pA (en (cn H (λ H=>?_) (λ H=>?_)))))))))))))))))))))
  ·exact bx H λ x32 h99 H=>rg (tr (so1 (encN:=(nL 3 BT)) 4 1 h99) (sno (encN:=(nL 3 BT)) (enc:=BT) h99 [.own 3 (x32.map BT)] x32 1 4 0 3)) (ck 10 (sp (Bc 4 1 h99) (sp (RR (encN:=(nL 3 BT)) (row:=[.osl 8 3 0 (x32.length)]) (k:=4) (sz:=1) (off:=0) (t:=ty 139) (v:=.osl 8 3 0 (x32.length)) h99) (ck 6 (sp (FY (enc:=Ax) (encK:=As) (k:=1) (e1:=λ x=>.int .i64 x) (m:=y29) (l:=[.d (.int .i64 r27.1.Mode),.d (.int .i64 r27.1.Last),.d (.int .u8 r27.1.Need)]) (key:=r27.1) (z:=0) (vz:=[.int .i64 0]) TR false) (ck 2 (bx H λ l18 h100 H=>sp (Bm BT 8 3 h100) (sp (Bc 4 1 h99) (sp (XK (encN:=(nL 3 BT)) (row:=[.osl 8 3 0 (x32.length)]) (row':=[.osl 10 3 0 (l18.length)]) (k:=4) (sz:=1) (off:=0) (t:=ty 139) (v:=.osl 10 3 0 (l18.length)) h99) (ae (qN (qs (tr (tr (tr (tr (tr (sni (encN:=(nL 3 BT)) (xs:=g_3.Arcs) (n:=x_17) (enc:=BT) [.osl 10 3 0 (l18.length)] l18 1 4 0 10 3) (scl (encN:=(nL 3 BT)) (xss:=g_3.Arcs) x_17 [.own 3 (l18.map BT)] 1 4 l18)) (sn 86 4 1 (lsS g_3.Arcs x_17.toNat l18))) (sn 91 4 1 (lsS g_3.Arcs x_17.toNat l18))) (snc 2 0 4 1 (lsS g_3.Arcs x_17.toNat l18))) (gP [1,4,7,8,9,40,41,42,57,58,59] [0,1,2,3,4,5] (po1 (po1 (po1 (po1 (pn1 (nL 3 BT) (List.set g_3.Arcs x_17.toNat l18) (po1 (Pl.z))))))))) (hFRb_newGraph_J1 ({ Arcs:=List.set g_3.Arcs x_17.toNat l18,Accepts:=g_3.Accepts,Alive:=g_3.Alive }:An) H)))))))))))))
  ·exact sk (qN (qs (gP [1,4,7,8,9,40,41,42,57,58,59] [0,1,2,3,4,5] (po1 (po1 (po1 (po1 (pn1 (nL 3 BT) g_3.Arcs (po1 (Pl.z)))))))) (hFRb_newGraph_J1 g_3 H)))
 ·exact ex 4 (qx (by cases H;exact xo rfl (gP [1,4,7,40,41,42] [0,1,2,4,5] (po1 (po1 (po1 (pn1 (nL 3 BT) g_3.Arcs (po1 (Pl.z)))))))))
theorem Nv (x:(An×Int)) (z:((An×Int)⊕An)) (H:CI n p0_ r24 y29 x.1 x.2=some z):WP (cxk 109 0) (AC Try.f63) [1,1,1,1,1,0,1,0,0] (AJ 0 (IF p0_ r24 y29) (Oo) z) (IF p0_ r24 y29 x):=by
 obtain ⟨g_1,x_17⟩:=x
 refine sr (ck 1 (en (sq (cn H (λ H=>?_) (λ H=>?_)))))
 ·exact sk (qz (sq (bk 3 (sr (ck 1 (bx H λ x28 h92 H=>sp (AA As h92) (ck 4 (en (sr (ck 7 (bx H λ r26 h93 H=>ca false (LM h93) (bx H λ x29 h94 H=>sp (Bc 4 1 h94) (bx H λ l17 h95 H=>stA eB 4 0 (ty 4) h94 h95 (en (sq (rg (tr (sn 50 4 1 (Di h95)) (snc 2 1 4 1 (Di h95))) (ck 2 (sp (Av Ak p0_.Rules) (ck 1 (en (bk 4 (bx H λ y30 h101 H=>lX Nu h101 (gP [1,4,7,8,9,40,41,42,57,58,59] [0,1,2,5,3,4] (po1 (po1 (po1 (po1 (pn1 (nL 3 BT) g_1.Arcs (po1 (Pl.z)))))))) rfl λ s hE24=>qH (qN (qs (hE24) (rz (ck 2 (ae (by cases H;exact og (gP [1,4,7,40,41,42] [0,1,2,3,4] (po1 (po1 (po1 (pn1 (nL 3 BT) y30.Arcs (po1 (Pl.z)))))))))))))))))))))))))))))))))))
 ·exact ex 2 (qx (by cases H;exact xo rfl (gP [7] [2,3,4] (po1 (pn1 (nL 3 BT) g_1.Arcs (po1 (Pl.z)))))))
theorem KQ {z} (H:DR n p0_=some z):Bk Try.prog 63 [.agg (AL p0_)] [] 0 (.ptr 0 0) [some (.box (Ai z (.osl 1 1 0 (z.Accepts.length)))),some (.arr 1 (z.Accepts.map eB))]:=by
 exact fL 109 0 (JbL p0_) Try.func63 (sr (ck 2 (en (sr (ck 1 (bx H λ r24 h86 H=>ca false (SY h86) (ck 1 (en (sr (ck 1 (sp (Av As r24) (ck 2 (en (sq (sr (ck 1 (sp (Av As r24) (ck 1 (en (bk 0 (bx H λ y29 h88 H=>lX Nt h88 (sg [1,3,4,19,20,21]) rfl λ s hE23=>qH (qs (hE23) (sr (ck 1 (sp (Av As r24) (bx H λ l15 h89 H=>sp (Jbl 1 (ez:=[.nil]) h89) (ck 1 (sp (Av As r24) (bx H λ l16 h90 H=>sp (Jfd eB 1 h90) (ck 1 (bx H λ r25 h91 H=>ca false (UN h91) (ck 3 (en (sq (sq (rg (tr (tr (Jbh (encN:=(nL 3 BT)) (sz:=1) (z:=[.nil]) (n:=((r24.length:Nat):Int)) 2 (UD h89) (by kernel_rfl) (by kernel_rfl)) (sn 32 2 1 (QK h89))) (snc 4 0 2 1 (QK h89))) (ck 1 (sp (Av As r24) (ck 1 (en (bk 2 (bx H λ y31 h102 H=>lX Nv h102 (gP [1,4,7,40,41,42] [0,1,4,2,3] (po1 (po1 (po1 (pn1 (nL 3 BT) l15 (po1 (Pl.z))))))) rfl λ s hE25=>qH (qs (hE25) (sr (ck 2 (en (re (by cases H;exact pL (rl (s':=JbM z) (tr (Jbg (encN:=(nL 3 BT)) (encD:=(eL BT)) (xss:=z.Arcs) (sz:=1) 0 0 1 (by kernel_rfl) (by kernel_rfl) (λ _=>rfl) (λ _=>rfl)) (sg [2])))))))))))))))))))))))))))))))))))))))))))))))))))
end
section
variable (p1_:(List Int)) (b0_:An) (x_19:(List (Bool×(List Int)))) (x_20:Int) (r28:((List (Ae×Bool))×(List (Bool×(List Int))))) (reached_8:(List (Bool×(List Int)))) (add_7:(List (Ae×Bool))) (most_8:Int) (x_21:Int) (reached_9:(List (Bool×(List Int)))) (most_9:Int) (x34:(Bool×(List Int))) (reached_10:(List (Bool×(List Int)))) (add_8:(List (Ae×Bool))) (most_10:Int) (x_22:Int) (reached_11:(List (Bool×(List Int)))) (add_9:(List (Ae×Bool))) (most_11:Int) (x36:(List K7)) (reached_12:(List (Bool×(List Int)))) (add_10:(List (Ae×Bool))) (most_12:Int) (x_23:Int) (reached_13:(List (Bool×(List Int)))) (add_11:(List (Ae×Bool))) (most_13:Int) (reached_14:(List (Bool×(List Int)))) (add_12:(List (Ae×Bool))) (most_14:Int)
def JbU:St:=⟨(0,.ptr 0 0)::(1,.d (.sl (p1_.map eU8)))::[],[some (.box (Ai b0_ (.osl 1 1 0 (b0_.Accepts.length)))),some (.arr 1 (b0_.Accepts.map eB))]⟩
def Wl:St:=⟨(4,.osl 2 1 0 (x_19.length))::(5,.d (.int .i64 x_20))::[],[some (.box (Ai b0_ (.osl 1 1 0 (b0_.Accepts.length)))),some (.arr 1 (b0_.Accepts.map eB)),some (.narr 1 (x_19.map (eTg 1 Ax)))]⟩
def JbV:St:=⟨(0,.ptr 0 0)::(1,.d (.sl (p1_.map eU8)))::(6,.ptr 2 0)::(8,.clo 79 [.ptr 3 0,.ptr 2 0])::(9,.d (.int .i64 most_8))::(34,.d (.int .i64 ((r28.2.length:Nat):Int)))::(35,.d (.int .i64 x_21))::[],[some (.box (Ai b0_ (.osl 1 1 0 (b0_.Accepts.length)))),some (.arr 1 (b0_.Accepts.map eB)),some (.box [.osl 4 1 0 (reached_8.length)]),some (.box [.mp 5]),some (.narr 1 (reached_8.map (eTg 1 Ax))),some (.map true false (AH Ap eB add_7))]⟩
def JbW:St:=⟨(6,.ptr 2 0)::(9,.d (.int .i64 most_9))::[],[some (.box (Ai b0_ (.osl 1 1 0 (b0_.Accepts.length)))),some (.arr 1 (b0_.Accepts.map eB)),some (.box [.osl 3 1 0 (reached_9.length)]),some (.narr 1 (reached_9.map (eTg 1 Ax)))]⟩
def JbX:St:=⟨(0,.ptr 0 0)::(1,.d (.sl (p1_.map eU8)))::(6,.ptr 2 0)::(8,.clo 79 [.ptr 3 0,.ptr 2 0])::(9,.d (.int .i64 most_10))::(10,.d (.int .i64 x_21))::(34,.d (.int .i64 ((r28.2.length:Nat):Int)))::(35,.d (.int .i64 x_21))::(41,.d (.sl (x34.2.map Ax)))::(42,.d (.int .i64 ((x34.2.length:Nat):Int)))::(43,.d (.int .i64 x_22))::[],[some (.box (Ai b0_ (.osl 1 1 0 (b0_.Accepts.length)))),some (.arr 1 (b0_.Accepts.map eB)),some (.box [.osl 4 1 0 (reached_10.length)]),some (.box [.mp 5]),some (.narr 1 (reached_10.map (eTg 1 Ax))),some (.map true false (AH Ap eB add_8))]⟩
def JbY:St:=⟨(0,.ptr 0 0)::(1,.d (.sl (p1_.map eU8)))::(6,.ptr 2 0)::(8,.clo 79 [.ptr 3 0,.ptr 2 0])::(9,.d (.int .i64 most_11))::(34,.d (.int .i64 ((r28.2.length:Nat):Int)))::(35,.d (.int .i64 x_21))::[],[some (.box (Ai b0_ (.osl 1 1 0 (b0_.Accepts.length)))),some (.arr 1 (b0_.Accepts.map eB)),some (.box [.osl 4 1 0 (reached_11.length)]),some (.box [.mp 5]),some (.narr 1 (reached_11.map (eTg 1 Ax))),some (.map true false (AH Ap eB add_9))]⟩
def JbZ:St:=⟨(0,.ptr 0 0)::(1,.d (.sl (p1_.map eU8)))::(6,.ptr 2 0)::(8,.clo 79 [.ptr 3 0,.ptr 2 0])::(9,.d (.int .i64 most_12))::(10,.d (.int .i64 x_21))::(34,.d (.int .i64 ((r28.2.length:Nat):Int)))::(35,.d (.int .i64 x_21))::(41,.d (.sl (x34.2.map Ax)))::(42,.d (.int .i64 ((x34.2.length:Nat):Int)))::(43,.d (.int .i64 x_22))::(53,.d (.sl (x36.map BT)))::(54,.d (.int .i64 ((x36.length:Nat):Int)))::(55,.d (.int .i64 x_23))::[],[some (.box (Ai b0_ (.osl 1 1 0 (b0_.Accepts.length)))),some (.arr 1 (b0_.Accepts.map eB)),some (.box [.osl 4 1 0 (reached_12.length)]),some (.box [.mp 5]),some (.narr 1 (reached_12.map (eTg 1 Ax))),some (.map true false (AH Ap eB add_10))]⟩
def Jb0:St:=⟨(0,.ptr 0 0)::(1,.d (.sl (p1_.map eU8)))::(6,.ptr 2 0)::(8,.clo 79 [.ptr 3 0,.ptr 2 0])::(9,.d (.int .i64 most_13))::(10,.d (.int .i64 x_21))::(34,.d (.int .i64 ((r28.2.length:Nat):Int)))::(35,.d (.int .i64 x_21))::(41,.d (.sl (x34.2.map Ax)))::(42,.d (.int .i64 ((x34.2.length:Nat):Int)))::(43,.d (.int .i64 x_22))::[],[some (.box (Ai b0_ (.osl 1 1 0 (b0_.Accepts.length)))),some (.arr 1 (b0_.Accepts.map eB)),some (.box [.osl 4 1 0 (reached_13.length)]),some (.box [.mp 5]),some (.narr 1 (reached_13.map (eTg 1 Ax))),some (.map true false (AH Ap eB add_11))]⟩
def Jb1:St:=⟨(0,.ptr 0 0)::(1,.d (.sl (p1_.map eU8)))::(6,.ptr 2 0)::(8,.clo 79 [.ptr 3 0,.ptr 2 0])::(9,.d (.int .i64 most_14))::(10,.d (.int .i64 x_21))::(34,.d (.int .i64 ((r28.2.length:Nat):Int)))::(35,.d (.int .i64 x_21))::(41,.d (.sl (x34.2.map Ax)))::(42,.d (.int .i64 ((x34.2.length:Nat):Int)))::(43,.d (.int .i64 x_22))::(53,.d (.sl (x36.map BT)))::(54,.d (.int .i64 ((x36.length:Nat):Int)))::(55,.d (.int .i64 x_23))::[],[some (.box (Ai b0_ (.osl 1 1 0 (b0_.Accepts.length)))),some (.arr 1 (b0_.Accepts.map eB)),some (.box [.osl 4 1 0 (reached_14.length)]),some (.box [.mp 5]),some (.narr 1 (reached_14.map (eTg 1 Ax))),some (.map true false (AH Ap eB add_12))]⟩
def LR:((List (Bool×(List Int)))×(List (Ae×Bool))×Int)->Ex->St->Prop:=xX 2 4 (λ (y:((List (Bool×(List Int)))×(List (Ae×Bool))×Int))=>Jb0 p1_ b0_ r28 x_21 x34 x_22 y.1 y.2.1 y.2.2)
def G7:((List (Bool×(List Int)))×(List (Ae×Bool))×Int×Int)->St:=(λ (x:((List (Bool×(List Int)))×(List (Ae×Bool))×Int×Int))=>JbZ p1_ b0_ r28 x_21 x34 x_22 x36 x.1 x.2.1 x.2.2.1 x.2.2.2)
def LS:((List (Bool×(List Int)))×(List (Ae×Bool))×Int)->Ex->St->Prop:=xX 2 2 (λ (y:((List (Bool×(List Int)))×(List (Ae×Bool))×Int))=>JbY p1_ b0_ r28 x_21 y.1 y.2.1 y.2.2)
def G8:((List (Bool×(List Int)))×(List (Ae×Bool))×Int×Int)->St:=(λ (x:((List (Bool×(List Int)))×(List (Ae×Bool))×Int×Int))=>JbX p1_ b0_ r28 x_21 x34 x.1 x.2.1 x.2.2.1 x.2.2.2)
def LT:((List (Bool×(List Int)))×Int)->Ex->St->Prop:=xX 2 0 (λ (y:((List (Bool×(List Int)))×Int))=>JbW b0_ y.1 y.2)
def G9:((List (Bool×(List Int)))×(List (Ae×Bool))×Int×Int)->St:=(λ (x:((List (Bool×(List Int)))×(List (Ae×Bool))×Int×Int))=>JbV p1_ b0_ r28 x.1 x.2.1 x.2.2.1 x.2.2.2)
variable {p1_ b0_ x_19 x_20 r28 reached_8 add_7 most_8 x_21 reached_9 most_9 x34 reached_10 add_8 most_10 x_22 reached_11 add_9 most_11 x36 reached_12 add_10 most_12 x_23 reached_13 add_11 most_13 reached_14 add_12 most_14}
theorem K8 (x:((List (Bool×(List Int)))×(List (Ae×Bool))×Int×Int)) (z:(((List (Bool×(List Int)))×(List (Ae×Bool))×Int×Int)⊕((List (Bool×(List Int)))×(List (Ae×Bool))×Int))) (H:Bz n p1_ b0_ r28 x_21 x34 x_22 x36 x.1 x.2.1 x.2.2.1 x.2.2.2=some z):WP (cxk 88 2) (AC Try.f64) [1,1,1,1,1,1,1,0,1,0,0,1,1,0,0,1,1,0,0,1,1,0,0,1,1,0,0] (AJ 2 (G7 p1_ b0_ r28 x_21 x34 x_22 x36) (LR p1_ b0_ r28 x_21 x34 x_22) z) (G7 p1_ b0_ r28 x_21 x34 x_22 x36 x):=by
 obtain ⟨reached_12,add_10,most_12,x_23⟩:=x
 refine sr (ck 1 (en (sq (cn H (λ H=>?_) (λ H=>?_)))))
 ·refine sk (qz (sj (λ (x:((List (Bool×(List Int)))×(List (Ae×Bool))×Int))=>Jb1 p1_ b0_ r28 x_21 x34 x_22 x36 x_23 x.1 x.2.1 x.2.2) (λ (x:((List (Bool×(List Int)))×(List (Ae×Bool))×Int))=>CX n x_23 x.1 x.2.1 x.2.2) z ?_ (λ hFRb_graph_walkx_J1=>?_)))
  ·rintro ⟨reached_14,add_12,most_14⟩ H
   exact rz (ck 2 (ae (by cases H;exact og (gP [0,1,6,8,9,10,34,35,41,42,43,53,54,55] [0,1,2,3,4,5] (po1 (po1 (po1 (po1 (pn1 (eTg 1 Ax) reached_14 (po1 (Pl.z)))))))))))
  refine bk 5 (sr (bx H λ x37 h109 H=>sp (AA BT h109) (ck 3 (en (sr (ck 4 (bx H λ l20 h110 H=>sp (MA eU8 1 h110) (bx H λ r29 h111 H=>ca false (IX h111) (ck 1 (en (sr (ck 6 (en (sr (ck 3 (sp (Av eU8 x37.Cells) (ck 1 (en (cn H (λ H=>?_) (λ H=>?_))))))))))))))))))))
  ·exact rz (ck 7 (bx H λ r30 h112 H=>xcP (xok _ _) [3,2,5,4] (Hr h112) (po1 (po1 (po1 (pn1 (eTg 1 Ax) reached_12 (Pl.z))))) (tb (f:=HU (Ef [3,2,5,4] 7 4)) [some (.box (Ai b0_ (.osl 1 1 0 (b0_.Accepts.length)))),some (.arr 1 (b0_.Accepts.map eB)),some (.box [.osl 4 1 0 (r30.2.length)]),some (.box [.mp 5]),some (.narr 1 (r30.2.map (eTg 1 Ax))),some (.map true false (AH Ap eB r30.1)),some (.box (Jko x37))] (po1 (po1 (po1 (po1 (pn1 (eTg 1 Ax) r30.2 (po1 (po1 (Pl.z)))))))) (ae (qN (qs (gP [0,1,6,8,9,10,34,35,41,42,43,53,54,55] [0,1,2,3,4,5] (po1 (po1 (po1 (po1 (pn1 (eTg 1 Ax) r30.2 (po1 (Pl.z)))))))) (hFRb_graph_walkx_J1 (r30.2,r30.1,(if Bl .i64 x_21 r29>most_12 then Bl .i64 x_21 r29 else most_12)) H)))))))
  ·exact sk (qN (qs (gP [0,1,6,8,9,10,34,35,41,42,43,53,54,55] [0,1,2,3,4,5] (po1 (po1 (po1 (po1 (pn1 (eTg 1 Ax) reached_12 (po1 (Pl.z)))))))) (hFRb_graph_walkx_J1 (reached_12,add_10,(if Bl .i64 x_21 r29>most_12 then Bl .i64 x_21 r29 else most_12)) H)))
 ·exact ex 4 (qx (by cases H;exact xo rfl (gP [0,1,6,8,9,10,34,35,41,42,43] [0,1,2,3,4,5] (po1 (po1 (po1 (po1 (pn1 (eTg 1 Ax) reached_12 (po1 (Pl.z))))))))))
theorem K9 (x:((List (Bool×(List Int)))×(List (Ae×Bool))×Int×Int)) (z:(((List (Bool×(List Int)))×(List (Ae×Bool))×Int×Int)⊕((List (Bool×(List Int)))×(List (Ae×Bool))×Int))) (H:BA n p1_ b0_ r28 x_21 x34 x.1 x.2.1 x.2.2.1 x.2.2.2=some z):WP (cxk 88 2) (AC Try.f64) [1,1,1,1,1,1,1,0,1,0,0,1,1,0,0,1,1,0,0] (AJ 2 (G8 p1_ b0_ r28 x_21 x34) (LS p1_ b0_ r28 x_21) z) (G8 p1_ b0_ r28 x_21 x34 x):=by
 obtain ⟨reached_10,add_8,most_10,x_22⟩:=x
 refine sr (ck 1 (en (sq (cn H (λ H=>?_) (λ H=>?_)))))
 ·exact sk (qz (sq (bk 3 (sr (bx H λ x35 h107 H=>sp (AA Ax h107) (ck 2 (en (sr (ck 5 (bx H λ x36 h108 H=>sp (AA (eL BT) h108) (ck 1 (sp (Av BT x36) (ck 1 (en (bk 4 (bx H λ y32 h113 H=>lX K8 h113 (gP [0,1,6,8,9,10,34,35,41,42,43,53,54,55] [0,1,2,3,4,5] (po1 (po1 (po1 (po1 (pn1 (eTg 1 Ax) reached_10 (po1 (Pl.z)))))))) rfl λ s hE26=>qH (qN (qs (hE26) (rz (ck 2 (ae (by cases H;exact og (gP [0,1,6,8,9,10,34,35,41,42,43] [0,1,2,3,4,5] (po1 (po1 (po1 (po1 (pn1 (eTg 1 Ax) y32.1 (po1 (Pl.z))))))))))))))))))))))))))))))
 ·exact ex 2 (qx (by cases H;exact xo rfl (gP [0,1,6,8,9,34,35] [0,1,2,3,4,5] (po1 (po1 (po1 (po1 (pn1 (eTg 1 Ax) reached_10 (po1 (Pl.z))))))))))
theorem La (x:((List (Bool×(List Int)))×(List (Ae×Bool))×Int×Int)) (z:(((List (Bool×(List Int)))×(List (Ae×Bool))×Int×Int)⊕((List (Bool×(List Int)))×Int))) (H:BX n p1_ b0_ r28 x.1 x.2.1 x.2.2.1 x.2.2.2=some z):WP (cxk 88 2) (AC Try.f64) [1,1,1,1,1,1,1,0,1,0,0] (AJ 2 (G9 p1_ b0_ r28) (LT b0_) z) (G9 p1_ b0_ r28 x):=by
 obtain ⟨reached_8,add_7,most_8,x_21⟩:=x
 refine sr (ck 1 (en (sq (cn H (λ H=>?_) (λ H=>?_)))))
 ·exact sk (qz (sq (bk 1 (sr (ck 2 (en (sq (bx H λ x34 h106 H=>rg (YD (enc:=Ax) (xss:=reached_8) (sz:=1) (isz:=1) 4 (by kernel_rfl) h106) (ck 2 (sp (Bc 4 1 h106) (sp (RR (encN:=(eTg 1 Ax)) (row:=[.d (.sl (x34.2.map Ax))]) (k:=4) (sz:=1) (off:=0) (t:=ty 33) (v:=.d (.sl (x34.2.map Ax))) h106) (sp (Av Ax x34.2) (ck 1 (en (bk 2 (bx H λ y33 h114 H=>lX K9 h114 (tr (tr (tr (scl (encN:=(eTg 1 Ax)) (xss:=reached_8) x_21 [.d (.sl (x34.2.map Ax))] 1 4 (true,x34.2)) (sn 38 4 1 (lsS reached_8 x_21.toNat (true,x34.2)))) (snc 2 0 4 1 (lsS reached_8 x_21.toNat (true,x34.2)))) (gP [0,1,6,8,9,10,34,35,41,42,43] [0,1,2,3,4,5] (po1 (po1 (po1 (po1 (pn1 (eTg 1 Ax) (List.set reached_8 x_21.toNat (true,x34.2)) (po1 (Pl.z))))))))) rfl λ s hE27=>qH (qN (qs (hE27) (rz (ck 2 (ae (by cases H;exact og (gP [0,1,6,8,9,34,35] [0,1,2,3,4,5] (po1 (po1 (po1 (po1 (pn1 (eTg 1 Ax) y33.1 (po1 (Pl.z))))))))))))))))))))))))))))))
 ·exact ex 0 (qx (by cases H;exact xo rfl (gP [6,9] [0,1,2,4] (po1 (po1 (po1 (pn1 (eTg 1 Ax) reached_8 (Pl.z))))))))
theorem H6 {z} (H:CJ n p1_ b0_=some z):Bk Try.prog 64 [.ptr 0 0,.d (.sl (p1_.map eU8))] [some (.box (Ai b0_ (.osl 1 1 0 (b0_.Accepts.length)))),some (.arr 1 (b0_.Accepts.map eB))] 2 (.tup [.osl 2 1 0 (z.1.length),.d (.int .i64 z.2)]) [some (.box (Ai b0_ (.osl 1 1 0 (b0_.Accepts.length)))),some (.arr 1 (b0_.Accepts.map eB)),some (.narr 1 (z.1.map (eTg 1 Ax)))]:=by
 refine fL 88 2 (JbU p1_ b0_) Try.func64 (sr (ck 2 (en (sr (ck 1 (sp (Av eU8 p1_) (ck 1 (bx H λ l19 h103 H=>sp (Jbl 1 (ez:=[.nil]) h103) (ck 2 (en (sq (rg (tr (tr (Jbh (encN:=(eTg 1 Ax)) (sz:=1) (z:=[.nil]) (n:=(Bl .i64 ((p1_.length:Nat):Int) 1)) 2 (UD h103) (by kernel_rfl) (by kernel_rfl)) (sn 19 2 1 (QK h103))) (snc 3 0 2 1 (QK h103))) (ck 3 (en (sr (xm (xok _ _) (ck 1 (en (sq (sr (ck 4 (bx H λ x33 h104 H=>sp (AA eB h104) (ck 2 (en (cn H (λ H=>?_) (λ H=>?_))))))))))))))))))))))))))
 ·exact sr (ck 3 (en (re (qr (by cases H;exact pL (rl (s':=Wl b0_ l19 (-1)) (gP [4,5] [0,1,2] (po1 (po1 (pn1 (eTg 1 Ax) l19 (Pl.z)))))))))))
 ·exact sk (qz (sr (ck 2 (bx H λ r28 h105 H=>xcP (xok _ _) [5,3,4,2] (Hr h105) (po1 (po1 (po1 (pn1 (eTg 1 Ax) l19 (Pl.z))))) (tb (f:=HU (Ef [5,3,4,2] 6 4)) [some (.box (Ai b0_ (.osl 1 1 0 (b0_.Accepts.length)))),some (.arr 1 (b0_.Accepts.map eB)),some (.narr 1 (r28.2.map (eTg 1 Ax))),some (.box [.osl 2 1 0 (r28.2.length)]),some (.map true false (AH Ap eB r28.1)),some (.box [.mp 4])] (po1 (po1 (pn1 (eTg 1 Ax) r28.2 (po1 (po1 (po1 (Pl.z))))))) (en (sr (ck 1 (en (sq (sr (ck 3 (en (bk 0 (bx H λ y34 h115 H=>lX La h115 (gP [0,1,6,8,9,34,35] [0,1,3,5,2,4] (po1 (po1 (po1 (po1 (pn1 (eTg 1 Ax) r28.2 (po1 (Pl.z)))))))) rfl λ s hE28=>qH (qs (hE28) (sr (ck 4 (en (re (by cases H;exact pL (rl (s':=Wl b0_ y34.1 y34.2) (gP [4,5] [0,1,3] (po1 (po1 (pn1 (eTg 1 Ax) y34.1 (Pl.z)))))))))))))))))))))))))))
end
section
variable (p1_:Ae) (b0_1_:(List Int)) (b1_:An) (o2_:(List (Ae×Bool)))
def Jb2:St:=⟨(0,.ptr 0 0)::(1,.agg [.d (.int .i64 p1_.At),.d (.int .i64 p1_.State)])::[],[some (.box [.ptr 1 0,.d (.sl (b0_1_.map eU8)),.mp 2]),some (.box (Ai b1_ (.osl 3 1 0 (b1_.Accepts.length)))),some (.map true false (AH Ap eB o2_)),some (.arr 1 (b1_.Accepts.map eB))]⟩
def Jb3:St:=⟨(4,.clo 85 [.ptr 4 0,.ptr 5 0])::[],[some (.box [.ptr 1 0,.d (.sl (b0_1_.map eU8)),.mp 2]),some (.box (Ai b1_ (.osl 3 1 0 (b1_.Accepts.length)))),some (.map true false (AH Ap eB o2_)),some (.arr 1 (b1_.Accepts.map eB)),some (.box [.ptr 0 0]),some (.box [.d (.int .i64 p1_.At),.d (.int .i64 p1_.State)])]⟩
variable {p1_ b0_1_ b1_ o2_}
theorem E5 {z} (H:CQ n p1_ b0_1_ b1_ o2_=some z):Bk Try.prog 73 [.ptr 0 0,.agg [.d (.int .i64 p1_.At),.d (.int .i64 p1_.State)]] [some (.box [.ptr 1 0,.d (.sl (b0_1_.map eU8)),.mp 2]),some (.box (Ai b1_ (.osl 3 1 0 (b1_.Accepts.length)))),some (.map true false (AH Ap eB o2_)),some (.arr 1 (b1_.Accepts.map eB))] 4 (.clo 85 [.ptr 4 0,.ptr 5 0]) [some (.box [.ptr 1 0,.d (.sl (b0_1_.map eU8)),.mp 2]),some (.box (Ai b1_ (.osl 3 1 0 (b1_.Accepts.length)))),some (.map true false (AH Ap eB o2_)),some (.arr 1 (b1_.Accepts.map eB)),some (.box [.ptr 0 0]),some (.box [.d (.int .i64 p1_.At),.d (.int .i64 p1_.State)])]:=by
 exact fL 6 4 (Jb2 p1_ b0_1_ b1_ o2_) Try.func73 (sr (ck 3 (en (sr (xm (xok _ _) (ck 1 (en (re (by cases H;exact pL (rl (s':=Jb3 p1_ b0_1_ b1_ o2_) (sg [4])))))))))))
end
noncomputable def Jb4 (p1_:(List UInt8)) (p2_:Ae) (b2_:Ae) (b3_1_:(List Int)) (b4_:An) (o5_:(List (Ae×Bool))):St:=⟨(73,.agg [.d (.int .i64 p2_.At),.d (.int .i64 p2_.State)])::(72,.d (.str p1_))::(6,.ptr 1 0)::(12,.ptr 2 0)::[],[some (.lp Ah [6,12] [.ptr 1 0,.ptr 2 0] 0),some (.box [.ptr 3 0]),some (.box [.d (.int .i64 b2_.At),.d (.int .i64 b2_.State)]),some (.box [.ptr 4 0,.d (.sl (b3_1_.map eU8)),.mp 5]),some (.box (Ai b4_ (.osl 6 1 0 (b4_.Accepts.length)))),some (.map true false (AH Ap eB o5_)),some (.arr 1 (b4_.Accepts.map eB))]⟩
noncomputable def Wm (b2_:Ae) (b3_1_:(List Int)) (b4_:An) (x_24:(List (Ae×Bool))):St:=⟨[],[some (.lp Ah [6,12] [.ptr 1 0,.ptr 2 0] 1),some (.box [.ptr 3 0]),some (.box [.d (.int .i64 b2_.At),.d (.int .i64 b2_.State)]),some (.box [.ptr 4 0,.d (.sl (b3_1_.map eU8)),.mp 5]),some (.box (Ai b4_ (.osl 6 1 0 (b4_.Accepts.length)))),some (.map true false (AH Ap eB x_24)),some (.arr 1 (b4_.Accepts.map eB))]⟩
section
variable (p1_:(List UInt8)) (p2_:Ae) (b2_:Ae) (b3_1_:(List Int)) (b4_:An) (o5_:(List (Ae×Bool)))
variable {p1_ p2_ b2_ b3_1_ b4_ o5_}
theorem MN {z} (H:CT n p1_ p2_ b2_ b3_1_ b4_ o5_=some z):PR Try.prog [.d (.str p1_),.agg [.d (.int .i64 p2_.At),.d (.int .i64 p2_.State)]] [some (.lp Ah [6,12] [.ptr 1 0,.ptr 2 0] 0),some (.box [.ptr 3 0]),some (.box [.d (.int .i64 b2_.At),.d (.int .i64 b2_.State)]),some (.box [.ptr 4 0,.d (.sl (b3_1_.map eU8)),.mp 5]),some (.box (Ai b4_ (.osl 6 1 0 (b4_.Accepts.length)))),some (.map true false (AH Ap eB o5_)),some (.arr 1 (b4_.Accepts.map eB))] 7 z.1 [some (.lp Ah [6,12] [.ptr 1 0,.ptr 2 0] z.1),some (.box [.ptr 3 0]),some (.box [.d (.int .i64 b2_.At),.d (.int .i64 b2_.State)]),some (.box [.ptr 4 0,.d (.sl (b3_1_.map eU8)),.mp 5]),some (.box (Ai b4_ (.osl 6 1 0 (b4_.Accepts.length)))),some (.map true false (AH Ap eB z.2)),some (.arr 1 (b4_.Accepts.map eB))]:=by
 refine fk (C:=AC Try.f60) (p:=[1,1,1,0,1,0,0,1,0,0,1,0,0,1,1,0,0,1,1,1,1,0]) 88 [72,73] [.exit 4] (ts:=[6,12]) (vs:=[.ptr 1 0,.ptr 2 0]) (Jb4 p1_ p2_ b2_ b3_1_ b4_ o5_) follows (YE 88 7) (rz (ck 2 (ae (aq (js:=[.exit 4]) (bk 5 (sr (ck 5 (sp (FY (enc:=eB) (encK:=Ap) (k:=5) (e1:=λ x=>.bool x) (m:=o5_) (l:=[.d (.int .i64 p2_.At),.d (.int .i64 p2_.State)]) (key:=p2_) (z:=false) (vz:=[.bool false]) LF false) (en (cn H (λ H=>?_) (λ H=>?_)))))))))))
 ·exact sr (ck 5 (sp (Ke (enc:=eB) (encK:=Ap) (k:=5) (e1:=λ x=>.bool x) (m:=o5_) (l:=[.d (.int .i64 b2_.At),.d (.int .i64 b2_.State)]) (key:=b2_) (y:=true) (v:=.d (.bool true)) (vz:=[.bool false]) LF) (en (ex 4 (qX rfl (by cases H;exact rq (s':=Wm b2_ b3_1_ b4_ (El b2_ true o5_)) (sg [])))))))
 ·exact sk (qN (by cases H;exact rq (s':=Wm b2_ b3_1_ b4_ o5_) (sg [])))
end
end Go.AI
end
