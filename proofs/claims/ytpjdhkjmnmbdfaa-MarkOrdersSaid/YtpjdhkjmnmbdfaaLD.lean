/- Part 4 of 6 of the proof: lemmas about the model and the program's functions, with no condition beyond those that each states. -/
import Derived.Test.YtpjdhkjmnmbdfaaLC
import Derived.RecoverIn
import Derived.TacticsInMore
import Derived.Shelf.Sort.Plain
import Derived.Shelf.Slices.In.SortNone
import Derived.Test.YtpjdhkjmnmbdfaaProg
import Derived.Shelf.Lays
import Derived.KernelRfl
section
namespace Go.AI
variable {P:Program} {Γ:Cx} {C:Code} {p:List Nat} {Q:Ex->St->Prop} {s s':St} {K:St->Prop} {i nk:Nat}
variable {α β ζ:Type}
def lpd (C:Code) (p:List Nat) (n:Nat) (ps:List Nat) (js:List Code):O4:=⟨n,ps,nav (p++[0]) C,nav (p++[1]) C,js⟩
structure JQ (Q:Ex->St->Prop) (js:List Code) (j:Nat) (s:St):Prop where
 out:ZQ Q js j s
theorem jz {js:List Code} (h:PQ Q .normal s):JQ Q js 0 s:=⟨h.out⟩
theorem jn {js:List Code} {j:Nat} {x y:Option ζ} {r:ζ} (H:(if Nat.beq j 0=true then x else y)=some r) (h1:x=some r->PQ Q .normal s) (h2:y=some r->JQ Q js j s):JQ Q js j s:=by
 split at H
 ·rename_i h;have:=JkJ h;subst this;exact jz (h1 H)
 ·exact h2 H
theorem jx {js:List Code} {j:Nat} (k e:Nat) {x y:Option ζ} {r:ζ} (H:(if Nat.beq j (k+2)=true then x else y)=some r) (h1:x=some r->PQ Q (.exit e) s) (h2:y=some r->JQ Q js j s) (h:js[k]? = some (.exit e):=by kernel_rfl):JQ Q js j s:=by
 split at H
 ·rename_i hj
  have:=JkJ hj
  subst this
  refine ⟨?_⟩
  simp only [ZQ,h]
  exact (h1 H).out
 ·exact h2 H
def rgV (Γ:Cx) (c:Code) (js:List Code) (ts:List Nat) (s:St):Option (FuncId×List AV×List (Option Ob)×List Nat):=
 match c with
 | .rangeFunc g ps asg body=>match Ak s.env g with
  | .clo f caps=>some (f,.yld s.objs.length::caps,rgO Γ ps asg body js ts s,AN (rgO Γ ps asg body js ts s) (.yld s.objs.length::caps))
  | _=>none
 | _=>none
def rgB (Γ:Cx) (ord:List Nat) (nb:Nat) (O O1:List (Option Ob)):Bool:=!Γ.rd&&Nat.ble nb ord.length&&Nat.ble nb O1.length&&ord.all (λ k=>Nat.blt k O.length)
theorem rf (js:List Code) (ts ord:List Nat) (j:Nat) {f:FuncId} {ys:List AV} {O0 O1 raw0:List (Option Ob)} {nb:Nat} {r:AV} (hr:Γ.lent f ys O0 nb r O1) (hp0:raw0=O0) (hk:JQ Q js j ⟨s.env,(D4 ((rgV Γ (nav p C) js ts s).getD (0,[],[],[])).2.2.1 ord nb O1).set s.objs.length none⟩)
  (hc:rgV Γ (nav p C) js ts s=some (f,((rgV Γ (nav p C) js ts s).getD (0,[],[],[])).2.1,((rgV Γ (nav p C) js ts s).getD (0,[],[],[])).2.2.1,ord):=by kernel_rfl)
  (hxs:((rgV Γ (nav p C) js ts s).getD (0,[],[],[])).2.1.map (Jt ord)=ys:=by kernel_rfl) (hO:Fg ((rgV Γ (nav p C) js ts s).getD (0,[],[],[])).2.2.1 ord=raw0:=by kernel_rfl)
  (hb:rgB Γ ord nb ((rgV Γ (nav p C) js ts s).getD (0,[],[],[])).2.2.1 O1=true:=by kernel_rfl) (hj:lpJ (D4 ((rgV Γ (nav p C) js ts s).getD (0,[],[],[])).2.2.1 ord nb O1) s.objs.length=some (js,j):=by kernel_rfl):WP Γ C p Q s:=by
 generalize ((rgV Γ (nav p C) js ts s).getD (0,[],[],[])).2.1=xs at hc hxs
 generalize ((rgV Γ (nav p C) js ts s).getD (0,[],[],[])).2.2.1=Ot at *
 subst hp0
 refine ⟨?_⟩
 have hk:=hk.out
 unfold rgV at hc
 split at hc
 ·rename_i g ps asg body he
  split at hc
  ·rename_i f' caps hg
   simp only [JkN,Prod.mk.injEq] at hc
   obtain ⟨rfl,rfl,rfl,rfl⟩:=hc
   unfold rgB at hb
   simp only [JkD,Bool.not_eq_true'] at hb
   obtain ⟨⟨⟨b1,b2⟩,b3⟩,b4⟩:=hb
   rw [he]
   refine ⟨s,.refl s,?_⟩
   unfold Qk
   rw [hg]
   refine ⟨js,ts,nb,r,O1,j,b1,?_,JkS b2,JkS b3,λ k hk=>?_,hj,hk⟩
   ·rw [hxs,hO];exact hr
   ·have:=JkS (List.all_eq_true.1 b4 k hk)
    omega
  ·cases hc
 ·cases hc
def JaX (c:Code) (i:Nat) (s:St):Option (Nat×List AV×List Nat):=
 match (Bf c)[i]? with
 | some o=>match o.op with
  | .call ⟨.value x,args,_⟩=>match unG (Ak s.env x) with
   | .yld k=>some (k,args.toList.map (λ y=>unG (Ak s.env y)),AN s.objs (.yld k::args.toList.map (λ y=>unG (Ak s.env y))))
   | _=>none
  | _=>none
 | none=>none
def Jft (Γ:Cx) (c:Code) (o:Oper):Bool:=!QX c&&B3 Γ.nt o.dst&&ndB o.op
def nxY (Γ:Cx) (c:Code) (i:Nat) (g:Bool) (ord:List Nat) (nb j:Nat) (O1:List (Option Ob)) (s:St):Option St:=
 match (Bf c)[i]? with
 | some o=>bif Jft Γ c o&&Nat.ble nb ord.length&&Nat.ble nb O1.length&&ord.all (λ k=>Nat.blt k s.objs.length) then
   some ⟨putA o.dst o.guard.isSome g (.d (.bool (Nat.beq j 0))) s.env,D4 s.objs ord nb O1⟩ else none
 | none=>none
def gY (c:Code) (i:Nat) (s:St):Option Bool:=match (Bf c)[i]? with
 | some o=>BQ (Bf c) s.env o.guard
 | none=>none
theorem Y5 (hX:XOK P Γ) {o:Oper} {g:Bool} (ho:(Bf (nav p C))[i]? = some o) (h0:Jft Γ (nav p C) o=true) (hg:gY (nav p C) i s=some g) (hgt:g=true) (hx:L4 P Γ.nt o g s s') (hk:RF Γ C p (i+1) Q s'):RF Γ C p i Q s:=by
 refine ⟨?_⟩
 have hk:=hk.out
 unfold A0 at hk ⊢
 simp only [Jft,JkD,Bool.not_eq_true'] at h0
 obtain ⟨⟨h1,h3⟩,h4⟩:=h0
 rw [CL ho]
 show AW _ _ _ _ _ _
 unfold AW
 have hga:BQ (Bf (nav p C)) s.env o.guard=some g:=by
  unfold gY at hg
  rw [ho] at hg
  exact hg
 rw [hga]
 simp only [h3,Bool.not_true,cond_false]
 exact ⟨λ _=>.inr (.inr ⟨h1,.inl ⟨s',by rw [hX.ext];exact hx,hk⟩⟩),λ h=>by rw [hgt] at h;cases h⟩
theorem JaY {nt:Slt} {o:Oper} {st:St} {v:AV} {O1:List (Option Ob)} {g:Bool} (h:L4 P nt o true st ⟨putA o.dst false true v st.env,O1⟩):L4 P nt o g st ⟨putA o.dst o.guard.isSome g v st.env,O1⟩:=by
 intro N H0 F0 w0 a w hg hI hdst rd n K Qw hqr hK
 subst hg
 refine h N H0 F0 w0 a w rfl hI hdst rd n K Qw hqr λ a' w' hI'=>hK a' w' ?_
 obtain ⟨F,ρ,hS,hSl,hrest⟩:=hI'
 refine ⟨F,ρ,hS,?_,hrest⟩
 cases hgs:o.guard.isSome with
 | false=>exact hSl
 | true=>
  cases hd:o.dst with
  | none=>rw [hd] at hSl;exact hSl
  | some d=>
   rw [hd] at hSl
   intro t
   have:=hSl t
   simp only [putA,cond_true,cond_false,Bi] at this ⊢
   split
   ·rename_i e;rw [if_pos e] at this;exact .gvT _ _ this
   ·rename_i e;rw [if_neg e] at this;exact this
theorem xy (hX:XOK P Γ) {g:Bool} (hgt:g=true) {gs:List Bool} (hi:FI g gs) (ord:List Nat) {ys:List AV} {O0 O1 raw0:List (Option Ob)} {nb j:Nat} (hr:VT P ys O0 nb j O1) (hp0:raw0=O0) (hk:RF Γ C p (i+1) Q ((nxY Γ (nav p C) i g ord nb j O1 s).getD s)) (hg:gY (nav p C) i s=some g:=by kernel_rfl) (hgs:Hb (nav p C) i s=gs:=by kernel_rfl)
  (hc:JaX (nav p C) i s=some (ord.headD 0,((JaX (nav p C) i s).getD (0,[],[])).2.1,ord):=by kernel_rfl) (hxs:((JaX (nav p C) i s).getD (0,[],[])).2.1.map (Jt ord)=ys:=by kernel_rfl) (hO:Fg s.objs ord=raw0:=by kernel_rfl)
  (hn:(nxY Γ (nav p C) i g ord nb j O1 s).isSome=true:=by kernel_rfl) (hl:Nat.ble 1 ord.length=true:=by kernel_rfl):RF Γ C p i Q s:=by
 generalize ((JaX (nav p C) i s).getD (0,[],[])).2.1=xs at hc hxs
 have hn:=BS (d:=s) hn
 generalize (nxY Γ (nav p C) i g ord nb j O1 s).getD s=s' at hn hk
 subst hp0
 unfold JaX at hc
 unfold nxY at hn
 split at hn
 ·rename_i o ho
  rw [ho] at hc
  simp only at hc
  obtain ⟨h0,hn⟩:=AM hn
  simp only [JkD] at h0
  obtain ⟨⟨⟨h1,h2⟩,h3⟩,h4⟩:=h0
  cases hn
  split at hc
  ·rename_i x args ts hop
   split at hc
   ·rename_i k hx
    simp only [JkN,Prod.mk.injEq] at hc
    obtain ⟨hk0,rfl,hord⟩:=hc
    subst hxs
    subst hO
    have hgob:FY true (o.op.operands.toList.map (Ak s.env)):=by
     subst hgs
     unfold Hb at hi
     rw [ho] at hi
     rw [← hgt]
     exact Ng hi
    have h00:(AN s.objs (.yld k::args.toList.map (λ y=>unG (Ak s.env y))))[0]? = some k:=by
     rw [hord,hk0]
     have:=JkS hl
     cases ord with
     | nil=>simp at this
     | cons y l=>rfl
    refine Y5 hX ho h1 hg hgt (hord▸JaY (JdJ hop hgob hx (by rw [hord];exact hr) h00 (by rw [hord];exact JkS h2) (JkS h3) λ k hk=>?_)) hk
    rw [hord] at hk
    have:=JkS (List.all_eq_true.1 h4 k hk)
    omega
   ·cases hc
  ·cases hc
 ·cases hn
theorem cnh {c:Bool} {x y:Option ζ} {r:ζ} (H:(if c=true then x else y)=some r) (h1:c=true->x=some r->WP Γ C (p++[0]) Q s) (h2:c=false->y=some r->WP Γ C (p++[1]) Q s) (h:Xj (nav p C)=true:=by kernel_rfl) (hc:Ak s.env (QY (nav p C))=.d (.bool c):=by kernel_rfl):WP Γ C p Q s:=by
 refine ⟨?_⟩
 rw [VQ h]
 show UU _ _ _
 rw [hc]
 refine ⟨λ e=>?_,λ e=>?_⟩
 ·subst e;exact (h1 rfl (by simpa using H)).out
 ·subst e;exact (h2 rfl (by simpa using H)).out
def jAt (objs:List (Option Ob)) (k:Nat):Option Nat:=match obA objs k with
 | some (.lp _ _ _ j)=>some j
 | _=>none
def Jfu (objs:List (Option Ob)) (k j:Nat):List (Option Ob):=match obA objs k with
 | some (.lp d ts vs _)=>objs.set k (some (.lp d ts vs j))
 | _=>objs
theorem JiU (k:Nat) {j:Nat} (hj:Nat.beq j 0=true) (h:jAt s.objs k=some j:=by kernel_rfl):AE nk s ⟨s.env,Jfu s.objs k 0⟩:=by
 have:=JkJ hj
 subst this
 have e:Jfu s.objs k 0=s.objs:=by
  unfold jAt at h
  unfold Jfu
  split at h
  ·rename_i d ts vs j ho
   cases h
   apply List.ext_getElem?
   intro i
   rw [List.getElem?_set]
   split
   ·rename_i e
    subst e
    split
    ·unfold obA at ho
     split at ho
     ·rename_i he;rw [he,ho]
     ·cases ho
    ·rename_i hl;rw [JkY (by omega)]
   ·rfl
  ·cases h
 rw [e]
 exact .refl s
theorem jb2 {b:Bool} (h:(!b)=false):b=true:=by simpa using h
def Mx:Code->Code
 | .region id ops _=>.region id ops.toList.dropLast.toArray false
 | c=>c
def Jj1:Code->Code
 | .region id ops _=>.region id ops false
 | c=>c
def Jj2 (Γ:Cx) (c:Code) (x:Nat) (s0:St) (Q:Ex->St->Prop):Ex->St->Prop:=λ _ s=>JeQ Γ.ty (Fl c) x s0.env s.env s0.objs s.objs/\∃ F,(Fl c)[(Fl c).size-1]? = some F/\AW Γ false (Fl c).toList F (Q .normal) s
theorem mx {c:Code} {x:Nat} {s0:St} (m:Nat) (hk:RF Γ (Jj1 c) [] m Q s) (hi:Nat.ble (Bf (Mx c)).length i=true:=by kernel_rfl) (hm:Nat.beq (Fl c).size (m+1)=true:=by kernel_rfl) (h:S4 c=true:=by kernel_rfl)
  (h1:ldL Γ.ty (Fl c) x s0.env s.env s0.objs=ldL Γ.ty (Fl c) x s0.env s.env s.objs:=by kernel_rfl) (h2:(ldL Γ.ty (Fl c) x s0.env s.env s0.objs).all Option.isSome=true:=by kernel_rfl):RF (cxX Γ (Fl c) x) (Mx c) [] i (Jj2 Γ c x s0 Q) s:=by
 refine ⟨Xd i hi ⟨⟨h1,h2⟩,?_⟩⟩
 have hk:=hk.out
 have hm:=JkJ hm
 cases c with
 | region id ops d=>
  simp only [Fl] at hm ⊢
  have hg:=JkH (show m<ops.size by omega)
  refine ⟨ops[m],by rw [show ops.size-1=m by omega];exact hg,?_⟩
  have hk:MV Γ false ops.toList (ops.toList.drop m) (Q .normal) s:=hk
  rw [show ops.toList.drop m=[ops[m]] by
   rw [List.drop_eq_getElem_cons (by simp;omega)]
   simp
   omega] at hk
  exact hk
 | _=>cases h
def Ie (ev:Operand->AV):Op->Option FuncId×List AV
 | .call ⟨.value (.func f),args,_⟩=>(some f,args.toList.map ev)
 | .call ⟨.value x,args,_⟩=>match ev x with
  | .clo f l=>(some f,args.toList.map ev++l)
  | _=>(none,[])
 | _=>(none,[])
theorem Sn {ev ev':Operand->AV} {op:Op} (h:∀ y∈op.operands.toList,ev y=ev' y):Ie ev op=Ie ev' op:=by
 cases op with
 | call c=>
  obtain ⟨callee,args,ts⟩:=c
  cases callee with
  | value x=>
   have ha:args.toList.map ev=args.toList.map ev':=List.map_congr_left λ y hy=>h y (by simp [Op.operands,Call.operands];exact .inr (by simpa using hy))
   have hx:=h x (by simp [Op.operands,Call.operands])
   cases x<;>simp only [Ie,ha,hx]
  | _=>rfl
 | _=>rfl
theorem Y6 {nt:Slt} {o:Oper} {st:St} {f:FuncId} {xs:List AV} {nb:Nat} {r:AV} {O1:List (Option Ob)} (hgob:FY true (o.op.operands.toList.map (Ak st.env))) (hc:Ie (λ y=>unG (Ak st.env y)) o.op=(some f,xs))
  (hcall:Cu P f (xs.map (Jt (AN st.objs xs))) (Fg st.objs (AN st.objs xs)) nb r O1) (hnb:nb<=(AN st.objs xs).length) (hnb1:nb<=O1.length) (hord:∀ k∈AN st.objs xs,k<st.objs.length) :
  Vq P nt o true st ⟨putA o.dst false true (PF (CW (AN st.objs xs) st.objs.length nb) r) st.env,D4 st.objs (AN st.objs xs) nb O1⟩:=by
 intro N H0 F0 w0 a w _ hI hdst K Qw hK
 obtain ⟨F,ρ,hS,hSl,hn,hdf⟩:=hI
 have hk:∀ v w' F' ρ'',FLe F F'->RLe ρ ρ''->Sim N H0 F0 F' ρ'' (D4 st.objs (AN st.objs xs) nb O1) w'.heap->Ai F' ρ'' (PF (CW (AN st.objs xs) st.objs.length nb) r) v->Mu w w'->K (a.put o.dst v) w':=
  λ v w' F' ρ'' hF hρ hS' hv hmu=>hK _ _ ⟨F',ρ'',hS',(hSl.mono hF hρ).putA hn hdst hv,hn.put hdst,by rw [BF];exact ⟨hdf.1.mono hF,hdf.2.1.trans hmu,hdf.2.2.mono hρ⟩⟩
 have hev:∀ y∈o.op.operands.toList,Ai F ρ (unG (Ak st.env y)) (a.eval y):=λ y hy=>B6 rfl _ hgob _ (List.mem_map_of_mem hy) _ (A1 hSl y)
 unfold Ie at hc
 split at hc
 ·rename_i f' args ts hop
  cases hc
  exact Vp (ev:=λ y=>unG (Ak st.env y)) hop hS (λ y hy=>hev y (by rw [hop];simp [Op.operands,Call.operands];exact .inr (by simpa using hy))) hcall hnb hnb1 hord hk
 ·rename_i x args ts _ hop
  split at hc
  ·rename_i f' l hx
   have hx:unG (Ak st.env x)=.clo f' l:=hx
   cases hc
   have hxr:=hev x (by rw [hop];simp [Op.operands,Call.operands])
   rw [hx] at hxr
   generalize hxv:a.eval x=xv at hxr
   cases hxr with
   | clo _ _ vs hl hr=>
    have hcr0:=IU (args:=args) (a:=a) (ev:=λ y=>unG (Ak st.env y)) (λ y hy=>hev y (by rw [hop];simp [Op.operands,Call.operands];exact .inr (by simpa using hy)))
    refine JC (vs:=args.map a.eval++vs) (λ fn c hf hb hnm=>?_) hS ⟨by simp [hl],λ i y v hy hv=>?_⟩ hcall hnb hnb1 hord hk
    ·simp only [execOp,hop,resolve,hxv,Deferred.ofValue,Sem.run_bind,Sem.run_pure,Result.andThen_ok,invoke,callFunc,run_program,hf,hnm,hb,JkP,if_false,Option.isNone_some,Array.empty_append,Array.append_empty]
    ·rw [Array.toList_append] at hv
     have hl0:=hcr0.1
     by_cases hi:i<(args.toList.map (λ y=>unG (Ak st.env y))).length
     ·rw [JkK hi] at hy
      rw [JkK (by omega)] at hv
      exact hcr0.2 i y v hy hv
     ·rw [JkV (by omega)] at hy
      rw [JkV (by omega)] at hv
      rw [← hl0] at hv
      exact hr _ y v hy (by simpa using hv)
  ·cases hc
 ·cases hc
def JaZ (c:Code) (i:Nat) (s:St):Option ((Option FuncId×List AV)×List Nat):=
 match (Bf c)[i]? with
 | some o=>some (Ie (λ y=>unG (Ak s.env y)) o.op,AN s.objs (Ie (λ y=>unG (Ak s.env y)) o.op).2)
 | none=>none
def nxS (Γ:Cx) (ops:Array Oper) (x:Nat) (c:Code) (i:Nat) (g:Bool) (ord:List Nat) (nb:Nat) (r:AV) (O1:List (Option Ob)) (s:St):Option St:=
 match (Bf c)[i]? with
 | some o=>bif !QX c&&Nat.beq i x&&Nat.blt x ops.size.pred&&B3 Γ.nt o.dst&&Nat.ble nb ord.length&&Nat.ble nb O1.length&&ord.all (λ k=>Nat.blt k s.objs.length) then
   some ⟨putA o.dst o.guard.isSome g (PF (CW ord s.objs.length nb) r) s.env,D4 s.objs ord nb O1⟩ else none
 | none=>none
theorem xs {c:Code} {x:Nat} (hX:XOK P Γ) {g:Bool} (hgt:g=true) {gs:List Bool} (hi:FI g gs) (ord:List Nat) {f:FuncId} {ys:List AV} {O0 O1 raw0:List (Option Ob)} {nb:Nat} {r:AV} (hr:Cu P f ys O0 nb r O1) (hp0:raw0=O0)
  (hk:RF (cxX Γ (Fl c) x) (Mx c) [] (i+1) Q ((nxS Γ (Fl c) x (Mx c) i g ord nb r O1 s).getD s)) (hreg:S4 c=true:=by kernel_rfl) (hg:gY (Mx c) i s=some g:=by kernel_rfl) (hgs:Hb (Mx c) i s=gs:=by kernel_rfl)
  (hc:JaZ (Mx c) i s=some ((some f,((JaZ (Mx c) i s).getD ((none,[]),[])).1.2),ord):=by kernel_rfl) (hxs:((JaZ (Mx c) i s).getD ((none,[]),[])).1.2.map (Jt ord)=ys:=by kernel_rfl) (hO:Fg s.objs ord=raw0:=by kernel_rfl)
  (hn:(nxS Γ (Fl c) x (Mx c) i g ord nb r O1 s).isSome=true:=by kernel_rfl):RF (cxX Γ (Fl c) x) (Mx c) [] i Q s:=by
 generalize ((JaZ (Mx c) i s).getD ((none,[]),[])).1.2=zs at hc hxs
 have hn:=BS (d:=s) hn
 generalize (nxS Γ (Fl c) x (Mx c) i g ord nb r O1 s).getD s=s' at hn hk
 subst hp0
 unfold JaZ at hc
 unfold nxS at hn
 split at hn
 ·rename_i o ho
  rw [ho] at hc
  simp only [JkN,Prod.mk.injEq] at hc
  obtain ⟨hc,hord⟩:=hc
  rw [hc] at hord
  simp only at hord
  obtain ⟨h0,hn⟩:=AM hn
  simp only [JkD] at h0
  obtain ⟨⟨⟨⟨⟨⟨h1,h2⟩,h3⟩,h4⟩,h5⟩,h6⟩,h7⟩:=h0
  cases hn
  subst hord
  subst hxs
  subst hO
  have hix:=JkJ h2
  subst hix
  have hox:(Fl c)[i]? = some o:=by
   cases c with
   | region id ops d=>
    simp only [Mx,Bf,List.getElem?_dropLast] at ho
    split at ho
    ·show ops[i]? = some o
     simpa using ho
    ·cases ho
   | _=>cases hreg
  have hgob:FY true (o.op.operands.toList.map (Ak s.env)):=by
   subst hgs
   unfold Hb at hi
   rw [ho] at hi
   rw [← hgt]
   exact Ng hi
  refine ⟨?_⟩
  have hk:=hk.out
  unfold A0 at hk ⊢
  simp only [nav] at hk ⊢
  rw [CL ho]
  show AW _ _ _ _ _ _
  unfold AW
  have hga:BQ (Bf (Mx c)) s.env o.guard=some g:=by
   unfold gY at hg
   rw [ho] at hg
   exact hg
  rw [hga]
  have h4:B3 (cxX Γ (Fl c) i).nt o.dst=true:=h4
  simp only [h4,Bool.not_true,cond_false]
  refine ⟨λ _=>.inr (.inr ⟨by simpa using h1,.inl ⟨_,⟨hox,_,_,rfl,λ env he=>?_⟩,hk⟩⟩),λ h=>by rw [hgt] at h;cases h⟩
  rw [hX.ext]
  have hgob':FY true (o.op.operands.toList.map (Ak env)):=by
   rw [List.map_congr_left he];exact hgob
  have hc':Ie (λ y=>unG (Ak env y)) o.op=(some f,zs):=by
   rw [Sn (ev':=λ y=>unG (Ak s.env y)) λ y hy=>by rw [he y hy]]
   exact hc
  have hnd:ndB o.op=true:=by
   cases hop:o.op with
   | defer d=>rw [hop] at hc;cases hc
   | _=>rfl
  exact JaY (st:=⟨env,s.objs⟩) ((Y6 (st:=⟨env,s.objs⟩) hgob' hc' hr (JkS h5) (JkS h6) λ k hk=>by
   exact JkS (List.all_eq_true.1 h7 k hk)).ok hnd)
 ·cases hn
theorem aq {js:List Code} (hk:WP Γ C (p++[1]) Q ⟨s.env,(Xm s.objs 1).getD []⟩) (h1:lpJ s.objs 0=some (js,0):=by kernel_rfl) (h2:(Xm s.objs 1).isSome=true:=by kernel_rfl):PQ (Jfq Γ (nav (p++[1]) C) nk Q) .normal s:=⟨⟨s,_,js,.refl s,h1,BS (d:=[]) h2,hk.out⟩⟩
theorem rq {js:List Code} {j:Nat} {O1:List (Option Ob)} {e:Ex} (sh:AE nk s s') (h:exJ js e j:=by first|exact trivial|exact rfl) (h1:lpJ s'.objs 0=some (js,1):=by kernel_rfl) (h2:Xm s'.objs j=some O1:=by kernel_rfl):PQ (Jfr nk js j O1) e s:=⟨⟨h,s',sh,h1,h2⟩⟩
def JiV (objs:List (Option Ob)):Option (O4×List Nat×List AV×Nat):=match obA objs 0 with
 | some (.lp d ts vs j)=>some (d,ts,vs,j)
 | _=>none
theorem fk (n:Nat) (ps:List Nat) (js:List Code) {ts:List Nat} {vs args:List AV} {nb j:Nat} {O0 O1:List (Option Ob)} (s:St) (hfol:P.follows .mixedOrders=true) (hΓ:HE P Γ) (h:WP Γ C (p++[0]) (Jfq Γ (nav (p++[1]) C) nb (Jfr nb js j O1)) s)
  (h0:JiV O0=some (lpd C p n ps js,ts,vs,0):=by kernel_rfl) (hlen:Nat.beq args.length ps.length=true:=by kernel_rfl) (hps:(ps.all λ q=>Nat.blt q n)=true:=by kernel_rfl) (hnb:Nat.ble 1 nb=true:=by kernel_rfl) (hnt:Γ.nt=⟨n,[],nb,Γ.nt.qf⟩:=by kernel_rfl) (hrd:Γ.rd=true:=by kernel_rfl)
  (hs:(⟨Jfs ps args (ts.zip vs),O0⟩:St)=s:=by kernel_rfl):VT P args O0 nb j O1:=by
 have ho:obA O0 0=some (.lp (lpd C p n ps js) ts vs 0):=by
  unfold JiV at h0
  split at h0
  ·rename_i he;cases h0;exact he
  ·cases h0
 exact JaW (d:=lpd C p n ps js) hfol hΓ hrd ho (JkJ hlen) hps hnb hnt (by
  show wpA Γ (nav (p++[0]) C) _ _
  rw [← hs] at h
  exact h.out)
end Go.AI
end
section
namespace Go.AI
variable {P:Program}
theorem So {f:FuncId} {fn:Func} {id:Nat} {o0 o1:Oper} {a b:Nat} {X:Code} {t u:TypeId} {caps:Array Value} (hf:P.funcs[f]? = some fn) (hb:fn.body=some (.seq (.region id #[o0,o1] false) (.cond (.tmp b) X .skip)))
  (h0:o0.op=.call ⟨.builtin .recover,#[],#[]⟩) (g0:o0.guard=none) (d0:o0.dst=some a) (h1:o1.op=.binOp .neq t (.tmp a) (.const .nilIface) u) (g1:o1.guard=none) (d1:o1.dst=some b) (he1:∀ w,(eqGuard .neq t (.tmp a) (.const .nilIface) .nilIface .nilIface).run P w=.ok () w) (he2:∀ w,(binOp .neq t .nilIface .nilIface).run P w=.ok (.bool false) w)
  (hr:fn.results=#[]) (hnm:(fn.name == "runtime.NumGoroutine")=false) (ha:a<fn.ntmps) (hbn:b<fn.ntmps) (hc:caps.size<=fn.ntmps):QD P (Kj f caps):=by
 refine ⟨_,caps,f,caps,rfl,λ w=>?_,λ w=>?_⟩
 ·simp only [Kj,invoke,callFunc,Sem.run_bind,run_program,Result.andThen_ok,hf,hb,hnm,if_false,Option.isNone_some,JkP,Sem.run_pure,Array.empty_append]
 ·refine callsDIn_of_wpSIn hf hb trivial λ c₀ cs hu0=>?_
  apply wpSIn_seq
  apply wpSIn_region
  simp [wpOpsSIn,go_sem,recoverD,hu0,Exit.thenS,h0,h1,g0,g1,d0,d1,Region.wanted]
  have e:a<caps.size+(fn.ntmps-caps.size):=by omega
  rw [if_pos e]
  simp only [he1,he2,Result.andThen_ok]
  refine wpSIn_cond (t:=false) (by simp [Act.eval];omega) ?_
  simp only [JkP,if_false]
  refine wpSIn_of_wpIn rfl (wpIn_skip ?_)
  cases c₀
  simp_all [bodyPostS,results,settle,Mu]
theorem Xo {t:TypeId} {ms:Array (String×TypeId)} (hu:P.underlying t=some (.interface ms)) (d:Nat) (w:World):(Op.equalIn (d+1) t .nilIface .nilIface).run P w=.ok true w:=by
 simp [Op.equalIn,go_sem,run_underlying hu]
theorem Tc {t:TypeId} {a:Nat} {ms:Array (String×TypeId)} (hu:P.underlying t=some (.interface ms)) (w:World):(eqGuard .neq t (.tmp a) (.const .nilIface) .nilIface .nilIface).run P w=.ok () w/\(binOp .neq t .nilIface .nilIface).run P w=.ok (.bool false) w:=by
 constructor
 ·simp [eqGuard,go_sem]
 ·have e:Op.equal t .nilIface .nilIface=Op.equalIn (9999+1) t .nilIface .nilIface:=rfl
  simp only [binOp,e,Sem.run_bind,Xo hu,Result.andThen_ok,Sem.run_pure,Bool.not_true]
theorem Y7 {nt:Slt} {o:Oper} {st:St} {x:Operand} {tys:Array TypeId} {f:FuncId} {caps:List AV} (hop:o.op=.defer ⟨.value x,#[],tys⟩) (hgob:FY true (o.op.operands.toList.map (Ak st.env))) (hx:unG (Ak st.env x)=.clo f caps) (hd:o.dst=none) (hQ:(f,caps.length)∈nt.qf):L4 P nt o true st st:=by
 intro N H0 F0 w0 a w _ hI hdst rd n K Qw hqr hK
 have hrd:rd=none:=hqr (List.ne_nil_of_mem hQ)
 subst hrd
 obtain ⟨F,ρ,hS,hSl,hn,hdf,hmu,hrk⟩:=hI
 have hxr:Ai F ρ (unG (Ak st.env x)) (a.eval x):=B6 rfl _ hgob _ (List.mem_map_of_mem (by rw [hop];simp [Op.operands,Call.operands])) _ (A1 hSl x)
 rw [hx] at hxr
 generalize hxv:a.eval x=xv at hxr
 cases hxr with
 | clo _ _ vs hl hr=>
  have hex:(execOp a.eval o).run P w=.ok (.defer (Kj f vs)) w:=by
   simp only [execOp,hop,resolve,hxv,Deferred.ofValue,Sem.run_bind,Sem.run_pure,Result.andThen_ok,Kj]
   simp
  obtain ⟨l,q1,q2,q3⟩:=hdf
  refine ⟨λ _ _=>trivial,?_⟩
  show Oper.uponIn _ _ _ _ _ _ _ ((execOp a.eval o).run P w)
  rw [hex,Oper.uponIn_defer,hd]
  exact hK _ _ ⟨F,ρ,hS,hSl,hn,⟨l,.quiet (by rw [← hl];exact hQ) q1,q2,q3⟩,hmu,hrk⟩
end Go.AI
end
section
namespace Go.AI
variable {P:Program} {Γ:Cx} {C:Code} {p:List Nat} {Q:Ex->St->Prop} {s s':St} {i:Nat}
def dfB (nt:Slt) (c:Code) (i:Nat) (s:St):Bool:=match (Bf c)[i]? with
 | some o=>!QX c&&o.guard.isNone&&o.dst.isNone&&(match o.op with
  | .defer ⟨.value x,args,_⟩=>args.isEmpty&&(match Ak s.env x with
   | .clo f caps=>nt.qf.any λ q=>Nat.beq q.1 f&&Nat.beq q.2 caps.length
   | _=>false)
  | _=>false)
 | none=>false
theorem xd (hX:XOK P Γ) (hk:RF Γ C p (i+1) Q s) (h:dfB Γ.nt (nav p C) i s=true:=by kernel_rfl):RF Γ C p i Q s:=by
 unfold dfB at h
 split at h
 ·rename_i o ho
  simp only [JkD,Bool.not_eq_true'] at h
  obtain ⟨⟨⟨h1,h2⟩,h3⟩,h4⟩:=h
  split at h4
  ·rename_i x args tys hop
   simp only [JkD] at h4
   obtain ⟨ha,h4⟩:=h4
   have hae:args=#[]:=by simpa using ha
   subst hae
   split at h4
   ·rename_i f caps hx
    obtain ⟨q,hq,hq2⟩:=List.any_eq_true.mp h4
    simp only [JkD] at hq2
    have e1:=JkJ hq2.1
    have e2:=JkJ hq2.2
    have hQ:(f,caps.length)∈Γ.nt.qf:=by rw [← e1,← e2];exact hq
    have hgN:o.guard=none:=by simpa using h2
    have hdN:o.dst=none:=by simpa using h3
    refine ⟨?_⟩
    have hk:=hk.out
    unfold A0 at hk ⊢
    rw [CL ho]
    show AW _ _ _ _ _ _
    unfold AW
    rw [hgN]
    simp only [BQ,hdN,B3,Bool.not_true,cond_false]
    refine ⟨λ _=>.inr (.inr ⟨h1,.inl ⟨s,?_,hk⟩⟩),λ h=>by cases h⟩
    rw [hX.ext]
    refine Y7 hop ?_ (by rw [hx];rfl) hdN hQ
    rw [hop]
    simp [Op.operands,Call.operands,hx,FY]
   ·cases h4
  ·cases h4
 ·cases h
end Go.AI
end
section
namespace Go.AI
variable {Γ:Cx} {C:Code} {p:List Nat} {Q:Ex->St->Prop} {s s':St} {K:St->Prop} {i:Nat} {nk:Nat}
variable {α β ζ:Type}
def xX {σ:Type} (nk k:Nat) (st:σ->St):σ->Ex->St->Prop:=λ y e s=>e=Ex.exit k/\AE nk s (st y)
def xR {σ:Type} (ty:Nat->Ty) (fn:Func) (r:σ->AV):σ->Ex->St->Prop:=λ y e s=>e=Ex.ret/\RA ty fn.results.toList (r y) s
def xL {σ:Type} (nk:Nat) (ty:Nat->Ty) (fn:Func) (r:σ->AV) (O:σ->List (Option Ob)):σ->Ex->St->Prop:=λ y e s=>e=Ex.ret/\RL nk ty fn.results.toList (r y) (O y) s
def xS {σ τ:Type} (a:σ->Ex->St->Prop) (b:τ->Ex->St->Prop):σ⊕τ->Ex->St->Prop
 | .inl y=>a y
 | .inr y=>b y
variable {σ ρ τ:Type} {st:σ->St} {E:ρ->Ex->St->Prop}
theorem xo {r:ρ} {k nk':Nat} {st':τ->St} {y:τ} (hE:E r=xX nk' k st' y) (h:AE nk' s (st' y)):PQ (AA nk st E (.inr r)) (.exit k) s:=oe (by rw [hE];exact ⟨rfl,h⟩)
theorem ro {r:ρ} {ty:Nat->Ty} {fn:Func} {f:τ->AV} {y:τ} (hE:E r=xR ty fn f y) (h:RA ty fn.results.toList (f y) s):PQ (AA nk st E (.inr r)) .ret s:=or (by rw [hE];exact ⟨rfl,h⟩)
theorem lo {r:ρ} {nk':Nat} {ty:Nat->Ty} {fn:Func} {f:τ->AV} {O:τ->List (Option Ob)} {y:τ} (hE:E r=xL nk' ty fn f O y) (h:RL nk' ty fn.results.toList (f y) (O y) s):PQ (AA nk st E (.inr r)) .ret s:=or (by rw [hE];exact ⟨rfl,h⟩)
theorem lX {body:σ->Option (σ⊕ρ)} {n:Nat} {x:σ} {r:ρ} {k nk':Nat} {st':τ->St} {y:τ} (hb:∀ x z,body x=some z->WP Γ C (p++[0]) (AA nk' st E z) (st x)) (hr:whl body n x=some r) (hs:AE nk' s (st x)) (hE:E r=xX nk' k st' y)
  (hk:∀ s,AE nk' s (st' y)->PQ Q (.exit k) s) (hn:Γ.nt.nk=nk':=by rfl) (h:Ra (nav p C)=true:=by kernel_rfl):WP Γ C p Q s:=by
 subst hn
 exact lp st E hr hs hb (λ e s he=>by rw [hE] at he;obtain ⟨rfl,he⟩:=he;exact hk s he) h
theorem lR {body:σ->Option (σ⊕ρ)} {n:Nat} {x:σ} {r:ρ} {nk':Nat} {ty:Nat->Ty} {fn:Func} {f:τ->AV} {y:τ} (hb:∀ x z,body x=some z->WP Γ C (p++[0]) (AA nk' st E z) (st x)) (hr:whl body n x=some r) (hs:AE nk' s (st x)) (hE:E r=xR ty fn f y)
  (hk:∀ s,RA ty fn.results.toList (f y) s->PQ Q .ret s) (hn:Γ.nt.nk=nk':=by rfl) (h:Ra (nav p C)=true:=by kernel_rfl):WP Γ C p Q s:=by
 subst hn
 exact lp st E hr hs hb (λ e s he=>by rw [hE] at he;obtain ⟨rfl,he⟩:=he;exact hk s he) h
theorem lL {body:σ->Option (σ⊕ρ)} {n:Nat} {x:σ} {r:ρ} {nk' nk2:Nat} {ty:Nat->Ty} {fn:Func} {f:τ->AV} {O:τ->List (Option Ob)} {y:τ} (hb:∀ x z,body x=some z->WP Γ C (p++[0]) (AA nk' st E z) (st x)) (hr:whl body n x=some r) (hs:AE nk' s (st x)) (hE:E r=xL nk2 ty fn f O y)
  (hk:∀ s,RL nk2 ty fn.results.toList (f y) (O y) s->PQ Q .ret s) (hn:Γ.nt.nk=nk':=by rfl) (h:Ra (nav p C)=true:=by kernel_rfl):WP Γ C p Q s:=by
 subst hn
 exact lp st E hr hs hb (λ e s he=>by rw [hE] at he;obtain ⟨rfl,he⟩:=he;exact hk s he) h
def g0 (c:Code) (i:Nat) (s:St):Bool:=(gAt c i s).getD false
theorem sE {g:Bool} {v:AV} {obs:List Ob} {x:Option Eff} (ho:g=true->H2 s x v obs [] none) (hk:RF Γ C p (i+1) Q ((KU Γ (nav p C) i g v obs s).getD s)) (hg:gAt (nav p C) i s=some g:=by kernel_rfl) (hx:Ol Γ (nav p C) i s=x:=by kernel_rfl) (hgs:Hb (nav p C) i s=List.replicate (Hb (nav p C) i s).length g:=by kernel_rfl) (hn:(KU Γ (nav p C) i g v obs s).isSome=true:=by kernel_rfl):RF Γ C p i Q s:=
 sG (gs:=Hb (nav p C) i s) ho (Ta λ b hb=>by rw [hgs] at hb;exact List.eq_of_mem_replicate hb) hk hg hx rfl hn
theorem oi {a z:ζ} (h:some a=some z):a=z:=Option.some.inj h
theorem lsS (xs:List α) (n:Nat) (y:α):xs.length=(xs.set n y).length:=List.length_set.symm
theorem lrS (n:Nat) (z:α):n=(List.replicate n z).length:=List.length_replicate.symm
theorem tr {s1 s2 s3:St} (h:AE nk s1 s2) (h':AE nk s2 s3):AE nk s1 s3:=AE.trans h h'
theorem sg (ts:List Nat) (h:gcA nk ts s=s':=by kernel_rfl):AE nk s s':=Jer ts h
theorem gP (ts ord:List Nat) {raw:List (Option Ob)} (hp:Pl (MU ord) raw s'.objs) (h:gcA nk ts s=⟨s'.env,raw⟩:=by kernel_rfl):AE nk s s':=Jfj ts ord hp h
theorem sn (t k sz:Nat) {n m:Nat} (e:n=m) (h:lkA s.env t=.osl k sz 0 n:=by kernel_rfl):AE nk s ⟨(t,.osl k sz 0 m)::s.env,s.objs⟩:=Je6 t k sz 0 n m h e
theorem snc (b i k sz:Nat) {n m:Nat} (e:n=m) (h:(Q4 s b,(IX s b)[i]?)=(true,some (.osl k sz 0 n)):=by kernel_rfl):AE nk s ⟨s.env,s.objs.set b (some (.box ((IX s b).set i (.osl k sz 0 m))))⟩:=JdB b i k sz n m h e
theorem so1 {encN:α->List AV} (k sz:Nat) {xss:List α} {x:α} {n:Int} (hx:idx xss n=some x) (h:Ed s k=some (sz,xss.map encN):=by kernel_rfl):AE nk s ⟨s.env,s.objs.set k (some (.narr sz ((xss.map encN).set n.toNat (encN x))))⟩:=JiO k h hx
theorem snr {encN:α->List AV} {xs:List α} {n:Int} (row:List AV) (sz k j m isz:Nat) {n1 n2:Nat} (e:n1=n2) (h:Ed s k=some (sz,(xs.map encN).set n.toNat row):=by kernel_rfl) (hj:row[j]? = some (.osl m isz 0 n1):=by kernel_rfl):AE nk s ⟨s.env,s.objs.set k (some (.narr sz ((xs.map encN).set n.toNat (row.set j (.osl m isz 0 n2)))))⟩:=JdC k j m isz n1 n2 _ h hj e rfl
theorem sni {encN:α->List AV} {xs:List α} {n:Int} {enc:β->List D} (row:List AV) (zs:List β) (sz k j m isz:Nat) (h:(Ed s k,Q6 s m)=(some (sz,(xs.map encN).set n.toNat row),some (isz,zs.map enc)):=by kernel_rfl) (hj:row[j]? = some (.osl m isz 0 zs.length):=by kernel_rfl) :
  AE nk s ⟨s.env,(s.objs.set m none).set k (some (.narr sz ((xs.map encN).set n.toNat (row.set j (.own isz (zs.map enc))))))⟩:=JdA k j m isz _ h hj rfl
theorem sno {encN:α->List AV} {xss:List α} {x:α} {n:Int} {enc:β->List D} (hx:idx xss n=some x) (row:List AV) (ys:List β) (sz k j isz:Nat) (h:Ed s k=some (sz,(xss.map encN).set n.toNat row):=by kernel_rfl) (hj:row[j]? = some (.own isz (ys.map enc)):=by kernel_rfl) :
  AE nk s ⟨s.env,s.objs.set k (some (.narr sz ((xss.map encN).set n.toNat (row.set j (.osl s.objs.length isz 0 ys.length)))))++[some (.arr isz (ys.map enc))]⟩:=X8 k j isz _ (ltN hx) h hj rfl
theorem scl {encN:α->List AV} {xss:List α} (n:Int) (row:List AV) (sz k:Nat) (y:α) (h:Ed s k=some (sz,(xss.map encN).set n.toNat row):=by kernel_rfl) (hy:row=encN y:=by kernel_rfl):AE nk s ⟨s.env,s.objs.set k (some (.narr sz ((xss.set n.toNat y).map encN)))⟩:=Jfk k y h hy
theorem so0 {encN:α->List AV} {xss:List α} (k sz:Nat) (n:Int) (d:α) (h:Ed s k=some (sz,xss.map encN):=by kernel_rfl):AE nk s ⟨s.env,s.objs.set k (some (.narr sz ((xss.map encN).set n.toNat (encN (xss.getD n.toNat d)))))⟩:=by
 have ho:=DP h
 have e:(xss.map encN).set n.toNat (encN (xss.getD n.toNat d))=xss.map encN:=by
  apply List.ext_getElem?
  intro i
  rw [List.getElem?_set]
  split
  ·rename_i e;subst e
   split
   ·rename_i hl
    rw [List.length_map] at hl
    rw [JkG,JkL,JkC hl];rfl
   ·rename_i hl;rw [JkY (by simpa using hl)]
  ·rfl
 rw [e,HH ho]
 exact AE.sem λ _ _ _ _ _ _ _ _ h=>h
theorem snT {encN:α->List AV} {xss:List α} {n:Int} {d:α} {enc:β->List D} (f:α->List β) (row:List AV) (sz k j isz:Nat) (hd:f d=[]:=by rfl) (h:Ed s k=some (sz,(xss.map encN).set n.toNat row):=by kernel_rfl) (hj:row[j]? = some (.own isz ((f (xss.getD n.toNat d)).map enc)):=by kernel_rfl) :
  AE nk s ⟨s.env,s.objs.set k (some (.narr sz ((xss.map encN).set n.toNat (row.set j (.osl s.objs.length isz 0 (f (xss.getD n.toNat d)).length)))))++[some (.arr isz ((f (xss.getD n.toNat d)).map enc))]⟩:=by
 rcases Nat.lt_or_ge n.toNat (xss.map encN).length with hl|hl
 ·exact X8 k j isz _ hl h hj rfl
 ·have ho:=DP h
  have e0:∀ r,(xss.map encN).set n.toNat r=xss.map encN:=λ r=>List.set_eq_of_length_le hl
  have e1:xss.getD n.toNat d=d:=by rw [JkL,JkY (by simpa using hl)];rfl
  rw [e0] at ho
  rw [e0,e1,hd,HH ho]
  refine AE.sem λ _ _ _ _ _ _ _ _ hI=>?_
  obtain ⟨F,ρ,hS,hSl,hn,hdf⟩:=hI
  refine ⟨F,ρ,hS.table (by simp) λ i L ob hi hob=>?_,hSl,hn,hdf⟩
  have:=hS.dom i L hi
  rw [AK,if_pos this] at hob;exact hob
theorem po1 {f:AV->AV} {o:Option Ob} {l m:List (Option Ob)} (h:Pl f l m):Pl f (o::l) (o::m):=Pl.o o h
theorem pn1 {f:AV->AV} (encN:α->List AV) (xss:List α) {sz:Nat} {l m:List (Option Ob)} (h:Pl f l m) (hc:∀ x,(encN x).map f=encN x:=by intro _;rfl):Pl f (some (.narr sz ((xss.map encN).map λ e=>e.map f))::l) (some (.narr sz (xss.map encN))::m):=Pl.n sz (nrM hc) h
attribute [irreducible] xL
end Go.AI
end
section
namespace Go.AI
theorem On (x:Int):∀ l:List Int,(Xb x l).Perm (x::l)
 | []=>.refl _
 | y::l=>by
  unfold Xb
  split
  ·exact .refl _
  ·exact ((On x l).cons y).trans (.swap x y l)
theorem KY:∀ l:List Int,(JJ l).Perm l
 | []=>.refl _
 | x::l=>(On x _).trans ((KY l).cons x)
theorem Po {x:Int}:∀ {l:List Int},l.Pairwise (·<=·)->(Xb x l).Pairwise (·<=·)
 | [],_=>by simp [Xb]
 | y::l,h=>by
  unfold Xb
  rw [List.pairwise_cons] at h
  split
  ·rename_i hxy
   refine List.pairwise_cons.2 ⟨λ z hz=>?_,List.pairwise_cons.2 h⟩
   rcases List.mem_cons.1 hz with rfl|hz
   ·exact hxy
   ·have:=h.1 z hz;omega
  ·rename_i hxy
   refine List.pairwise_cons.2 ⟨λ z hz=>?_,Po h.2⟩
   rcases List.mem_cons.1 ((On x l).mem_iff.1 hz) with rfl|hz
   ·omega
   ·exact h.1 z hz
theorem IG:∀ l:List Int,(JJ l).Pairwise (·<=·)
 | []=>.nil
 | x::l=>Po (IG l)
theorem T5 (l:List Int):JJ l=l.mergeSort λ x y=>decide (x<=y):=by
 refine List.Perm.eq_of_pairwise (le:=(·<=·)) (λ a b _ _ h1 h2=>by omega) (IG l) ?_ ((KY l).trans (List.mergeSort_perm _ _).symm)
 have:=List.pairwise_mergeSort (le:=λ x y:Int=>decide (x<=y)) (λ a b c h1 h2=>by simp at *;omega) (λ a b=>by simp;omega) l
 exact this.imp λ h=>by simpa using h
end Go.AI
end
section
namespace Go.AI
open Go.Sort Go.Shelf Go.Proofs
variable {P:Program} {ρs:Ren}
theorem Sim.more {N:Nat->Prop} {H0 F0 F:Nat->Option Obj} {ρ:Nat->Option Loc} {O:List (Option Ob)} {h:Array Obj} (hS:Sim N H0 F0 F ρ O h) (os:Array Obj):Sim N H0 F0 F ρ O (h++os):=by
 have hl:∀ b,b<h.size->(h++os)[b]? = h[b]? := λ b hb=>Array.getElem?_append_left hb
 have hg:∀ b o,h[b]? = some o->(h++os)[b]? = some o:=λ b o hb=>by rw [hl b (Aq hb)];exact hb
 obtain ⟨σ,hσ⟩:=hS.inn
 have hM:∀ k c M,σ k c=some M->(h++os)[M.b]? = h[M.b]? := λ k c M hM=>hl _ (hσ.new k c M hM).2.1
 refine { hS with size:=λ b hb=>hS.size b (by simp at hb;omega),old:=λ b hb=>?_,frz:=λ b o hb=>hg b o (hS.frz b o hb),loc:=λ k L hk=>?_,obj:=λ k L ob hk ho=>?_,inn:=⟨σ,λ k c M hM=>?_,hσ.obj,hσ.sep,λ k L sz es hk ho i e j isz xs hi hj cs t fr v hb hv=>?_⟩ }
 ·have:b<h.size:=by
   apply Classical.byContradiction;intro hn
   exact hb (hS.size b (by omega))
  rw [hl b this];exact hS.old b hb
 ·have:=hS.loc k L hk;simp;omega
 ·obtain ⟨g1,g2,g3⟩:=hS.obj k L ob hk ho
  exact ⟨g1.mono (FLe.refl _) (RLe.refl _) (hl _ (hS.loc k L hk)),g2,g3⟩
 ·obtain ⟨g1,g2,g3⟩:=hσ.new k c M hM
  exact ⟨g1,by simp;omega,g3⟩
 ·rw [hl _ (hS.loc k L hk)] at hb
  exact (hσ.rep k L sz es hk ho i e j isz xs hi hj cs t fr v hb hv).mono (FLe.refl _) λ L' hL'=>hM _ _ _ hL'
theorem Y8 (L:Lays.n189 P ρs) (hf:∃ fn c,P.funcs[ρs.f 189]? = some fn/\fn.body=some c/\(fn.name == "runtime.NumGoroutine")=false) {xs zs:List Int} (h:X2 xs=some zs) :
  Cu P (ρs.f 189) [.osl 0 1 0 xs.length] [some (.arr 1 (xs.map Af))] 1 (.tup []) [some (.arr 1 (zs.map Af))]:=by
 have hz:xs.length<4611686018427387904/\zs=xs.mergeSort λ x y=>decide (x<=y):=by
  unfold X2 at h
  split at h
  ·rename_i h1;exact ⟨h1,by rw [← T5];exact (Option.some.inj h).symm⟩
  ·cases h
 obtain ⟨hlt,hzs⟩:=hz
 refine ⟨hf,λ N F ρ w vs hS hcr=>?_⟩
 obtain ⟨v,rfl⟩:∃ v,vs=#[v]:=by
  have:=hcr.1
  have h1:vs.size=1:=by simpa using this.symm
  exact ⟨vs[0],by apply Array.ext;simp [h1];intro i h1' h2;simp at h2;subst h2;rfl⟩
 have hv:=hcr.2 0 _ v rfl rfl
 have hlen:zs.length=xs.length:=by rw [hzs];exact List.length_mergeSort _
 have htup:∀ F' ρ',Ai F' ρ' (.tup []) (.tuple #[]):=λ F' ρ'=>.tup [] #[] rfl λ i a v h=>by simp at h
 generalize hn:xs.length=n at hv
 cases hv with
 | osl0 _ _ _ a=>
  have hx:xs=[]:=List.length_eq_zero_iff.1 hn
  have hz0:zs=[]:=List.length_eq_zero_iff.1 (by omega)
  refine (Any.slices_Sort_int_none L a 0 w).mono λ e w' he=>?_
  obtain ⟨rfl,rfl⟩:=he
  subst hx;subst hz0
  exact ⟨_,F,ρ,rfl,hS,λ j _ L h=>h,htup _ _,Mu.refl _⟩
 | osl _ _ _ _ cap Lo hL hc hs hz=>
  obtain ⟨⟨g1,g2,cs,t,fr,g3,g4,g5,g6⟩,gN,gF⟩:=hS.obj 0 Lo _ hL rfl
  simp only [List.length_map,Nat.mul_one] at g2
  have hcell:∀ j,j<xs.length->cs[Lo.base+j]? = some (.int .i64 (xs.toArray[j]!)):=λ j hj=>by
   obtain ⟨u,hu,hd⟩:=g6 j (Af xs[j]) (by rw [JkG,JkC hj];rfl) 0 (.int .i64 xs[j]) rfl
   cases hd
   have e:xs.toArray[j]! = xs[j]:=by rw [getElem!_pos _ j (by simpa using hj)];simp
   rw [e]
   simpa using hu
  have hH:Holds (Value.int .i64) w Lo.b (Lo.base+0*1) xs.toArray:=λ j hj=>by
   have hj:j<xs.length:=by simpa using hj
   have:=hcell j hj
   refine ⟨by simp only [World.cell?,g3,Option.isSome_none,JkP,if_false,Nat.zero_mul,Nat.add_zero];exact this,Ql g3 (g5 _ (by simp;omega))⟩
  refine ((hn▸Any.slices_Sort_int L Lo.b (Lo.base+0*1) cap xs w hH (Aq g3) hlt)).mono λ e w' he=>?_
  obtain ⟨rfl,m,os,rfl⟩:=he
  rw [← hzs]
  have hheap:(grow (putRow (Value.int .i64) (Sort.ahead w m) Lo.b (Lo.base+0*1) zs.toArray) os).heap=w.heap.setIfInBounds Lo.b (.cells (putCells (Value.int .i64) Lo.base zs.toArray cs) t fr)++os:=by
   simp only [grow,putRow,mapBlock,Sort.ahead,Nat.zero_mul,Nat.add_zero]
   congr 1
   apply Array.ext_getElem?
   intro i
   rw [Array.getElem?_modify,Array.getElem?_setIfInBounds]
   split
   ·rename_i e;subst e
    rw [if_pos (Aq g3),g3];rfl
   ·rfl
  have hS1:=hS.rewrite (k':=0) (L':=Lo) (x:=.cells (putCells (Value.int .i64) Lo.base zs.toArray cs) t fr) (O':=[some (.arr 1 (zs.map Af))]) hL rfl (by rw [Ck hL];exact RLe.refl _) rfl (λ j ob' hj hob'=>by
    have:=AT hob';simp at this;omega) (by simp) (by simp) (λ ob' hob'=>by
    cases hob'
    refine ⟨λ e he=>?_,by simp;omega,_,t,fr,by rw [Array.getElem?_setIfInBounds_self_of_lt (Aq g3)],by simp [putCells,g4],g5,λ i e hi j x hx=>?_⟩
    ·simp only [List.mem_map] at he;obtain ⟨y,_,rfl⟩:=he;rfl
    ·simp only [JkG,JkF] at hi
     obtain ⟨y,hy,rfl⟩:=hi
     have hj:j=0:=by have:=Ag hx;simpa [Af] using this
     subst hj
     have hx:x=.int .i64 y:=by simpa [Af] using hx.symm
     subst hx
     have hil:=Ag hy
     refine ⟨.int .i64 y,?_,.int _ _⟩
     have hin:Lo.base+i<cs.size:=by omega
     have e:zs.toArray[i]! = y:=by
      rw [getElem!_pos _ i (by simpa using hil)]
      simpa [JkC hil] using hy
     simp only [putCells,Array.getElem?_mapIdx,Nat.mul_one,Nat.add_zero,JkH hin,Option.map_some]
     rw [if_pos ⟨by omega,by simp;omega⟩,show Lo.base+i-Lo.base=i by omega,e]) (λ ob' hob'=>by cases hob';rfl)
  rw [Ck hL] at hS1
  refine ⟨_,F,ρ,rfl,by rw [hheap];exact hS1.more os,λ j _ L h=>h,htup _ _,rfl,rfl,by rw [hheap];simp⟩
end Go.AI
end
section
namespace Go.Proofs
open Go.Shelf
def Try.laysSort_ren:Go.Shelf.Ren:=⟨λ|189=>61|125=>74|257=>73|128=>90|129=>91|294=>81|295=>82|296=>83|297=>84|298=>85|299=>86|216=>87|300=>88|301=>89|328=>93|329=>94|330=>95|331=>96|332=>97|215=>98|343=>99|n=>n,λ|28=>40|3=>3|46=>161|0=>0|51=>172|53=>174|4=>4|183=>166|182=>165|131=>148|5=>5|9=>9|218=>176|222=>180|228=>182|229=>183|n=>n,λ|n=>n⟩
theorem Try.laysSort:Go.Proofs.Lays.n189 Try.prog Try.laysSort_ren:={
 mixed:=by kernel_rfl
 f125:=Try.func74.trans (congrArg some (by kernel_rfl))
 f128:=Try.func90.trans (congrArg some (by kernel_rfl))
 f129:=Try.func91.trans (congrArg some (by kernel_rfl))
 f189:=Try.func61.trans (congrArg some (by kernel_rfl))
 f215:=Try.func98.trans (congrArg some (by kernel_rfl))
 f216:=Try.func87.trans (congrArg some (by kernel_rfl))
 f257:=Try.func73.trans (congrArg some (by kernel_rfl))
 f294:=Try.func81.trans (congrArg some (by kernel_rfl))
 f295:=Try.func82.trans (congrArg some (by kernel_rfl))
 f296:=Try.func83.trans (congrArg some (by kernel_rfl))
 f297:=Try.func84.trans (congrArg some (by kernel_rfl))
 f298:=Try.func85.trans (congrArg some (by kernel_rfl))
 f299:=Try.func86.trans (congrArg some (by kernel_rfl))
 f300:=Try.func88.trans (congrArg some (by kernel_rfl))
 f301:=Try.func89.trans (congrArg some (by kernel_rfl))
 f328:=Try.func93.trans (congrArg some (by kernel_rfl))
 f329:=Try.func94.trans (congrArg some (by kernel_rfl))
 f330:=Try.func95.trans (congrArg some (by kernel_rfl))
 f331:=Try.func96.trans (congrArg some (by kernel_rfl))
 f332:=Try.func97.trans (congrArg some (by kernel_rfl))
 f343:=Try.func99.trans (congrArg some (by kernel_rfl))
 t0:=Try.underlying0
 a0:=Try.isAgg0
 z0:=Try.sizeOf0
 v0:=Try.zeroValue0
 t3:=Try.underlying3
 a3:=Try.isAgg3
 z3:=Try.sizeOf3
 v3:=Try.zeroValue3
 t4:=Try.underlying4
 a4:=Try.isAgg4
 z4:=Try.sizeOf4
 v4:=Try.zeroValue4
 t5:=Try.underlying5
 a5:=Try.isAgg5
 z5:=Try.sizeOf5
 v5:=Try.zeroValue5
 t9:=Try.underlying9
 a9:=Try.isAgg9
 z9:=Try.sizeOf9
 v9:=Try.zeroValue9
 t28:=Try.underlying40
 a28:=Try.isAgg40
 z28:=Try.sizeOf40
 v28:=Try.zeroValue40
 t46:=Try.underlying161
 a46:=Try.isAgg161
 z46:=Try.sizeOf161
 v46:=Try.zeroValue161
 t51:=Try.underlying172
 a51:=Try.isAgg172
 z51:=Try.sizeOf172
 v51:=Try.zeroValue172
 t53:=Try.underlying174
 a53:=Try.isAgg174
 z53:=Try.sizeOf174
 v53:=Try.zeroValue174
 t131:=Try.underlying148
 a131:=Try.isAgg148
 z131:=Try.sizeOf148
 v131:=Try.zeroValue148
 t182:=Try.underlying165
 a182:=Try.isAgg165
 z182:=Try.sizeOf165
 v182:=Try.zeroValue165
 t183:=Try.underlying166
 a183:=Try.isAgg166
 z183:=Try.sizeOf166
 v183:=Try.zeroValue166
 t218:=Try.underlying176
 a218:=Try.isAgg176
 z218:=Try.sizeOf176
 v218:=Try.zeroValue176
 t222:=Try.underlying180
 a222:=Try.isAgg180
 z222:=Try.sizeOf180
 v222:=Try.zeroValue180
 t228:=Try.underlying182
 a228:=Try.isAgg182
 z228:=Try.sizeOf182
 v228:=Try.zeroValue182
 t229:=Try.underlying183
 a229:=Try.isAgg183
 z229:=Try.sizeOf183
 v229:=Try.zeroValue183 }
end Go.Proofs
end
section
namespace Go.AI
open Go.Proofs
set_option maxRecDepth 100000
theorem DY:Inf Try.prog 3 1 8 (.int .i64 0):=AH (by kernel_rfl)
theorem JdK:Inf Try.prog 4 1 1 (.bool false):=AH (by kernel_rfl)
theorem Rc:Inf Try.prog 5 1 1 (.int .u8 0):=AH (by kernel_rfl)
theorem T6:Inf Try.prog 9 1 16 (.string ⟨#[]⟩):=AH (by kernel_rfl)
theorem Jew:Inf Try.prog 22 1 24 (.slice none 0 0):=AH (by kernel_rfl)
theorem JiW:Inf Try.prog 24 3 32 (.agg #[.int .u8 0,.int .u8 0,.slice none 0 0]):=AH (by kernel_rfl)
theorem Ja0:Inf Try.prog 25 1 24 (.slice none 0 0):=AH (by kernel_rfl)
theorem Jex:Inf Try.prog 27 1 24 (.slice none 0 0):=AH (by kernel_rfl)
theorem Jey:Inf Try.prog 29 3 40 (.agg #[.int .i64 0,.int .u8 0,.slice none 0 0]):=AH (by kernel_rfl)
theorem JiX:Inf Try.prog 32 1 24 (.slice none 0 0):=AH (by kernel_rfl)
theorem Jez:Inf Try.prog 33 1 8 (.int .i64 0):=AH (by kernel_rfl)
theorem VU:Inf Try.prog 39 1 24 (.slice none 0 0):=AH (by kernel_rfl)
theorem Td:Inf Try.prog 40 1 24 (.slice none 0 0):=AH (by kernel_rfl)
theorem JeA:Inf Try.prog 42 2 48 (.agg #[.slice none 0 0,.slice none 0 0]):=AH (by kernel_rfl)
theorem JiY:Inf Try.prog 44 4 64 (.agg #[.slice none 0 0,.slice none 0 0,.int .i64 0,.int .i64 0]):=AH (by kernel_rfl)
theorem Ja1:Inf Try.prog 46 1 24 (.slice none 0 0):=AH (by kernel_rfl)
theorem JeB:Inf Try.prog 48 6 64 (.agg #[.string ⟨#[]⟩,.slice none 0 0,.int .u8 0,.int .u8 0,.int .i64 0,.int .i64 0]):=AH (by kernel_rfl)
theorem JiZ:Inf Try.prog 52 4 40 (.agg #[.int .i64 0,.int .i64 0,.int .i64 0,.string ⟨#[]⟩]):=AH (by kernel_rfl)
theorem Ji0:Inf Try.prog 56 1 24 (.slice none 0 0):=AH (by kernel_rfl)
theorem JeC:Inf Try.prog 58 3 24 (.agg #[.int .i64 0,.int .i64 0,.int .i64 0]):=AH (by kernel_rfl)
theorem JeD:Inf Try.prog 59 1 24 (.slice none 0 0):=AH (by kernel_rfl)
theorem Ji1:Inf Try.prog 61 4 48 (.agg #[.int .i64 0,.int .i64 0,.int .i64 0,.slice none 0 0]):=AH (by kernel_rfl)
theorem JeE:Inf Try.prog 63 5 40 (.agg #[.int .i64 0,.int .i64 0,.int .i64 0,.int .i64 0,.int .i64 0]):=AH (by kernel_rfl)
theorem Ji2:Inf Try.prog 65 9 80 (.agg #[.int .i64 0,.int .i64 0,.int .i64 0,.int .i64 0,.int .i64 0,.int .i64 0,.int .i64 0,.int .i64 0,.string ⟨#[]⟩]):=AH (by kernel_rfl)
theorem JeF:Inf Try.prog 68 2 2 (.agg #[.int .u8 0,.int .u8 0]):=AH (by kernel_rfl)
theorem JeG:Inf Try.prog 70 6 56 (.agg #[.slice none 0 0,.slice none 0 0,.int .u8 0,.int .u8 0,.int .u8 0,.int .u8 0]):=AH (by kernel_rfl)
theorem Yc:Inf Try.prog 80 3 24 (.agg #[.int .i64 0,.int .i64 0,.int .u8 0]):=AH (by kernel_rfl)
theorem Ji3:Inf Try.prog 82 7 80 (.agg #[.string ⟨#[]⟩,.slice none 0 0,.int .i64 0,.int .i64 0,.int .i64 0,.int .u8 0,.bool false]):=AH (by kernel_rfl)
theorem Ji4:Inf Try.prog 85 1 24 (.slice none 0 0):=AH (by kernel_rfl)
theorem Ja2:Inf Try.prog 88 1 24 (.slice none 0 0):=AH (by kernel_rfl)
theorem Ji5:Inf Try.prog 92 6 72 (.agg #[.string ⟨#[]⟩,.int .i64 0,.int .i64 0,.int .i64 0,.int .u8 0,.slice none 0 0]):=AH (by kernel_rfl)
theorem JeH:Inf Try.prog 97 1 1 (.int .u8 0):=AH (by kernel_rfl)
theorem Jfv:Inf Try.prog 100 1 24 (.slice none 0 0):=AH (by kernel_rfl)
theorem Jfw:Inf Try.prog 102 1 24 (.slice none 0 0):=AH (by kernel_rfl)
theorem Jfx:Inf Try.prog 105 4 48 (.agg #[.int .i64 0,.int .i64 0,.int .i64 0,.slice none 0 0]):=AH (by kernel_rfl)
theorem Ja3:Inf Try.prog 107 10 136 (.agg #[.int .i64 0,.int .i64 0,.string ⟨#[]⟩,.slice none 0 0,.slice none 0 0,.int .i64 0,.int .i64 0,.int .i64 0,.slice none 0 0,.int .i64 0]):=AH (by kernel_rfl)
theorem Jfy:Inf Try.prog 109 2 16 (.agg #[.int .i64 0,.int .i64 0]):=AH (by kernel_rfl)
theorem Jfz:Inf Try.prog 113 1 8 (.pointer none):=AH (by kernel_rfl)
theorem Ja4:Inf Try.prog 116 2 48 (.agg #[.slice none 0 0,.slice none 0 0]):=AH (by kernel_rfl)
theorem Ja5:Inf Try.prog 117 1 24 (.slice none 0 0):=AH (by kernel_rfl)
theorem Ja6:Inf Try.prog 118 1 24 (.slice none 0 0):=AH (by kernel_rfl)
theorem JfA:Inf Try.prog 120 8 136 (.agg #[.int .i64 0,.int .u8 0,.slice none 0 0,.string ⟨#[]⟩,.slice none 0 0,.slice none 0 0,.slice none 0 0,.int .i64 0]):=AH (by kernel_rfl)
theorem JfB:Inf Try.prog 128 1 24 (.slice none 0 0):=AH (by kernel_rfl)
theorem Ja7:Inf Try.prog 132 1 24 (.slice none 0 0):=AH (by kernel_rfl)
theorem Ja8:Inf Try.prog 133 1 24 (.slice none 0 0):=AH (by kernel_rfl)
theorem Ja9:Inf Try.prog 135 5 88 (.agg #[.int .i64 0,.int .i64 0,.slice none 0 0,.slice none 0 0,.slice none 0 0]):=AH (by kernel_rfl)
theorem Jba:Inf Try.prog 138 5 56 (.agg #[.slice none 0 0,.bool false,.int .i64 0,.int .i64 0,.int .i64 0]):=AH (by kernel_rfl)
theorem JfC:Inf Try.prog 142 1 8 (.map none):=AH (by kernel_rfl)
theorem Jbb:Inf Try.prog 143 1 24 (.slice none 0 0):=AH (by kernel_rfl)
theorem Jbc:Inf Try.prog 145 2 16 (.agg #[.int .i64 0,.int .i64 0]):=AH (by kernel_rfl)
theorem JfD:Inf Try.prog 146 5 120 (.agg #[.slice none 0 0,.slice none 0 0,.slice none 0 0,.slice none 0 0,.slice none 0 0]):=AH (by kernel_rfl)
theorem JfE:Inf Try.prog 151 1 8 (.pointer none):=AH (by kernel_rfl)
theorem JfF:Inf Try.prog 161 1 8 (.int .u64 0):=AH (by kernel_rfl)
theorem JfG:Inf Try.prog 165 1 8 (.int .i64 0):=AH (by kernel_rfl)
theorem JfH:Inf Try.prog 172 1 4 (.int .u32 0):=AH (by kernel_rfl)
theorem JfI:Inf Try.prog 174 1 8 (.int .u64 0):=AH (by kernel_rfl)
theorem JfJ:Inf Try.prog 176 1 8 (.int .u64 0):=AH (by kernel_rfl)
theorem JfK:Inf Try.prog 180 1 8 (.pointer none):=AH (by kernel_rfl)
theorem JfL:Inf Try.prog 206 2 16 (.agg #[.int .i64 0,.int .i64 0]):=AH (by kernel_rfl)
def ty:Nat->Ty
 | 3=>⟨true,[],1,false,[.int .i64 0],.int .i64⟩
 | 4=>⟨true,[],1,false,[.bool false],.bool⟩
 | 5=>⟨true,[],1,false,[.int .u8 0],.int .u8⟩
 | 9=>⟨true,[],1,false,[.str []],.string⟩
 | 22=>⟨true,[],1,false,[.nil],.slice 6 56 [.nil,.nil,.int .u8 0,.int .u8 0,.int .u8 0,.int .u8 0]⟩
 | 24=>⟨true,[],3,true,[.int .u8 0,.int .u8 0,.nil],.struct [(0,1),(1,1),(2,1)]⟩
 | 25=>⟨true,[],1,false,[.nil],.slice 1 1 [.int .u8 0]⟩
 | 27=>⟨true,[],1,false,[.nil],.slice 6 64 [.str [],.nil,.int .u8 0,.int .u8 0,.int .i64 0,.int .i64 0]⟩
 | 29=>⟨true,[],3,true,[.int .i64 0,.int .u8 0,.nil],.struct [(0,1),(1,1),(2,1)]⟩
 | 32=>⟨true,[],1,false,[.nil],.slice 1 16 [.str []]⟩
 | 33=>⟨true,[],1,false,[.int .i64 0],.int .i64⟩
 | 39=>⟨true,[],1,false,[.nil],.slice 1 1 [.int .u8 0]⟩
 | 40=>⟨true,[],1,false,[.nil],.slice 1 8 [.int .i64 0]⟩
 | 42=>⟨true,[],2,true,[.nil,.nil],.struct [(0,1),(1,1)]⟩
 | 44=>⟨true,[],4,true,[.nil,.nil,.int .i64 0,.int .i64 0],.struct [(0,2),(2,1),(3,1)]⟩
 | 46=>⟨true,[],1,false,[.nil],.slice 1 1 [.bool false]⟩
 | 48=>⟨true,[],6,true,[.str [],.nil,.int .u8 0,.int .u8 0,.int .i64 0,.int .i64 0],.struct [(0,1),(1,1),(2,1),(3,1),(4,1),(5,1)]⟩
 | 52=>⟨true,[.int .i64,.int .i64,.int .i64,.string],4,true,[.int .i64 0,.int .i64 0,.int .i64 0,.str []],.struct [(0,1),(1,1),(2,1),(3,1)]⟩
 | 56=>⟨true,[],1,false,[.nil],.slice 10 136 [.int .i64 0,.int .i64 0,.str [],.nil,.nil,.int .i64 0,.int .i64 0,.int .i64 0,.nil,.int .i64 0]⟩
 | 58=>⟨true,[.int .i64,.int .i64,.int .i64],3,true,[.int .i64 0,.int .i64 0,.int .i64 0],.struct [(0,1),(1,1),(2,1)]⟩
 | 59=>⟨true,[],1,false,[.nil],.slice 5 88 [.int .i64 0,.int .i64 0,.nil,.nil,.nil]⟩
 | 61=>⟨true,[],4,true,[.int .i64 0,.int .i64 0,.int .i64 0,.nil],.struct [(0,3),(3,1)]⟩
 | 63=>⟨true,[.int .i64,.int .i64,.int .i64,.int .i64,.int .i64],5,true,[.int .i64 0,.int .i64 0,.int .i64 0,.int .i64 0,.int .i64 0],.struct [(0,1),(1,1),(2,1),(3,1),(4,1)]⟩
 | 65=>⟨true,[],9,true,[.int .i64 0,.int .i64 0,.int .i64 0,.int .i64 0,.int .i64 0,.int .i64 0,.int .i64 0,.int .i64 0,.str []],.struct [(0,1),(1,1),(2,5),(7,1),(8,1)]⟩
 | 68=>⟨true,[],2,true,[.int .u8 0,.int .u8 0],.array 2 1⟩
 | 70=>⟨true,[],6,true,[.nil,.nil,.int .u8 0,.int .u8 0,.int .u8 0,.int .u8 0],.struct [(0,1),(1,1),(2,1),(3,1),(4,2)]⟩
 | 80=>⟨true,[.int .i64,.int .i64,.int .u8],3,true,[.int .i64 0,.int .i64 0,.int .u8 0],.struct [(0,1),(1,1),(2,1)]⟩
 | 82=>⟨true,[],7,true,[.str [],.nil,.int .i64 0,.int .i64 0,.int .i64 0,.int .u8 0,.bool false],.struct [(0,1),(1,1),(2,1),(3,3),(6,1)]⟩
 | 85=>⟨true,[],1,false,[.nil],.slice 1 24 [.nil]⟩
 | 88=>⟨true,[],1,false,[.nil],.slice 3 24 [.int .i64 0,.int .i64 0,.int .u8 0]⟩
 | 92=>⟨true,[],6,true,[.str [],.int .i64 0,.int .i64 0,.int .i64 0,.int .u8 0,.nil],.struct [(0,1),(1,1),(2,3),(5,1)]⟩
 | 97=>⟨true,[],1,false,[.int .u8 0],.int .u8⟩
 | 107=>⟨true,[],10,true,[.int .i64 0,.int .i64 0,.str [],.nil,.nil,.int .i64 0,.int .i64 0,.int .i64 0,.nil,.int .i64 0],.struct [(0,1),(1,1),(2,1),(3,1),(4,1),(5,4),(9,1)]⟩
 | 109=>⟨true,[],2,true,[.int .i64 0,.int .i64 0],.array 2 1⟩
 | 113=>⟨true,[],1,false,[.nilp],.other⟩
 | 116=>⟨true,[],2,true,[.nil,.nil],.struct [(0,1),(1,1)]⟩
 | 117=>⟨true,[],1,false,[.nil],.slice 1 24 [.nil]⟩
 | 118=>⟨true,[],1,false,[.nil],.slice 2 48 [.nil,.nil]⟩
 | 120=>⟨true,[],8,true,[.int .i64 0,.int .u8 0,.nil,.str [],.nil,.nil,.nil,.int .i64 0],.struct [(0,3),(3,1),(4,1),(5,1),(6,1),(7,1)]⟩
 | 128=>⟨true,[],1,false,[.nil],.slice 1 24 [.nil]⟩
 | 132=>⟨true,[],1,false,[.nil],.slice 5 56 [.nil,.bool false,.int .i64 0,.int .i64 0,.int .i64 0]⟩
 | 133=>⟨true,[],1,false,[.nil],.slice 2 16 [.int .i64 0,.int .i64 0]⟩
 | 135=>⟨true,[],5,true,[.int .i64 0,.int .i64 0,.nil,.nil,.nil],.struct [(0,1),(1,1),(2,1),(3,1),(4,1)]⟩
 | 138=>⟨true,[],5,true,[.nil,.bool false,.int .i64 0,.int .i64 0,.int .i64 0],.struct [(0,1),(1,1),(2,1),(3,1),(4,1)]⟩
 | 142=>⟨true,[],1,false,[.nilm],.map [.int .i64,.int .i64,.int .u8] true false [.int .i64 0]⟩
 | 143=>⟨true,[],1,false,[.nil],.slice 2 16 [.int .i64 0,.int .i64 0]⟩
 | 145=>⟨true,[.int .i64,.int .i64],2,true,[.int .i64 0,.int .i64 0],.struct [(0,1),(1,1)]⟩
 | 146=>⟨true,[],5,true,[.nil,.nil,.nil,.nil,.nil],.array 5 1⟩
 | 151=>⟨true,[],1,false,[.nilp],.other⟩
 | 161=>⟨true,[],1,false,[.int .u64 0],.int .u64⟩
 | 165=>⟨true,[],1,false,[.int .i64 0],.int .i64⟩
 | 172=>⟨true,[],1,false,[.int .u32 0],.int .u32⟩
 | 174=>⟨true,[],1,false,[.int .u64 0],.int .u64⟩
 | 176=>⟨true,[],1,false,[.int .u64 0],.int .u64⟩
 | 180=>⟨true,[],1,false,[.nilp],.other⟩
 | _=>⟨false,[],0,false,[],.other⟩
theorem tf3:Au Try.prog 3 (ty 3):=tfM DY Try.underlying3 rfl
theorem tf4:Au Try.prog 4 (ty 4):=tfM JdK Try.underlying4 rfl
theorem tf5:Au Try.prog 5 (ty 5):=tfM Rc Try.underlying5 rfl
theorem tf9:Au Try.prog 9 (ty 9):=tfM T6 Try.underlying9 rfl
theorem Jj3:Au Try.prog 22 (ty 22):=tfM Jew Try.underlying22 (slK JeG)
theorem Jj4:Au Try.prog 24 (ty 24):=tfM JiW Try.underlying24 (stF (AC (Be Rc Try.underlying5) (AC (Be Rc Try.underlying5) (AC (Be Jew Try.underlying22) Fk))))
theorem Jj5:Au Try.prog 25 (ty 25):=tfM Ja0 Try.underlying25 (slK Rc (λ _=>Try.underlying5))
theorem Jj6:Au Try.prog 27 (ty 27):=tfM Jex Try.underlying27 (slK JeB)
theorem Jj7:Au Try.prog 29 (ty 29):=tfM Jey Try.underlying29 (stF (AC (Be DY Try.underlying3) (AC (Be Rc Try.underlying5) (AC (Be Jex Try.underlying27) Fk))))
theorem Jj8:Au Try.prog 32 (ty 32):=tfM JiX Try.underlying32 (slK T6)
theorem Jj9:Au Try.prog 33 (ty 33):=tfM Jez Try.underlying33 rfl
theorem Jka:Au Try.prog 39 (ty 39):=tfM VU Try.underlying39 (slK JeH (λ _=>Try.underlying97))
theorem Jkb:Au Try.prog 40 (ty 40):=tfM Td Try.underlying40 (slK DY)
theorem Jkc:Au Try.prog 42 (ty 42):=tfM JeA Try.underlying42 (stF (AC (Be VU Try.underlying39) (AC (Be Td Try.underlying40) Fk)))
theorem Jkd:Au Try.prog 44 (ty 44):=tfM JiY Try.underlying44 (stF (AC (Be JeA Try.underlying42) (AC (Be DY Try.underlying3) (AC (Be Jez Try.underlying33) Fk))))
theorem Jke:Au Try.prog 46 (ty 46):=tfM Ja1 Try.underlying46 (slK JdK)
theorem Jkf:Au Try.prog 48 (ty 48):=tfM JeB Try.underlying48 (stF (AC (Be T6 Try.underlying9) (AC (Be VU Try.underlying39) (AC (Be Rc Try.underlying5) (AC (Be Rc Try.underlying5) (AC (Be DY Try.underlying3) (AC (Be DY Try.underlying3) Fk)))))))
theorem Jkg:Au Try.prog 52 (ty 52):=tfM JiZ Try.underlying52 (stF (AC (Be DY Try.underlying3) (AC (Be DY Try.underlying3) (AC (Be DY Try.underlying3) (AC (Be T6 Try.underlying9) Fk))))) (λ _=>Nd Try.underlying52 (by kernel_rfl) (by kernel_rfl) rfl λ j f k h1 h2=>match j,h1,h2 with|0,h1,h2=>(by cases h1;cases h2;exact ⟨by decide,rfl,⟨_,Try.underlying3⟩⟩)|1,h1,h2=>(by cases h1;cases h2;exact ⟨by decide,rfl,⟨_,Try.underlying3⟩⟩)|2,h1,h2=>(by cases h1;cases h2;exact ⟨by decide,rfl,⟨_,Try.underlying3⟩⟩)|3,h1,h2=>(by cases h1;cases h2;exact ⟨by decide,rfl,Try.underlying9⟩)|n+4,h1,_=>by simp at h1)
theorem Jkh:Au Try.prog 56 (ty 56):=tfM Ji0 Try.underlying56 (slK Ja3)
theorem Jki:Au Try.prog 58 (ty 58):=tfM JeC Try.underlying58 (stF (AC (Be DY Try.underlying3) (AC (Be DY Try.underlying3) (AC (Be DY Try.underlying3) Fk)))) (λ _=>Nd Try.underlying58 (by kernel_rfl) (by kernel_rfl) rfl λ j f k h1 h2=>match j,h1,h2 with|0,h1,h2=>(by cases h1;cases h2;exact ⟨by decide,rfl,⟨_,Try.underlying3⟩⟩)|1,h1,h2=>(by cases h1;cases h2;exact ⟨by decide,rfl,⟨_,Try.underlying3⟩⟩)|2,h1,h2=>(by cases h1;cases h2;exact ⟨by decide,rfl,⟨_,Try.underlying3⟩⟩)|n+3,h1,_=>by simp at h1)
theorem Jkj:Au Try.prog 59 (ty 59):=tfM JeD Try.underlying59 (slK Ja9)
theorem Jkk:Au Try.prog 61 (ty 61):=tfM Ji1 Try.underlying61 (stF (AC (Be JeC Try.underlying58) (AC (Be JeD Try.underlying59) Fk)))
theorem Jkl:Au Try.prog 63 (ty 63):=tfM JeE Try.underlying63 (stF (AC (Be DY Try.underlying3) (AC (Be DY Try.underlying3) (AC (Be DY Try.underlying3) (AC (Be DY Try.underlying3) (AC (Be DY Try.underlying3) Fk)))))) (λ _=>Nd Try.underlying63 (by kernel_rfl) (by kernel_rfl) rfl λ j f k h1 h2=>match j,h1,h2 with|0,h1,h2=>(by cases h1;cases h2;exact ⟨by decide,rfl,⟨_,Try.underlying3⟩⟩)|1,h1,h2=>(by cases h1;cases h2;exact ⟨by decide,rfl,⟨_,Try.underlying3⟩⟩)|2,h1,h2=>(by cases h1;cases h2;exact ⟨by decide,rfl,⟨_,Try.underlying3⟩⟩)|3,h1,h2=>(by cases h1;cases h2;exact ⟨by decide,rfl,⟨_,Try.underlying3⟩⟩)|4,h1,h2=>(by cases h1;cases h2;exact ⟨by decide,rfl,⟨_,Try.underlying3⟩⟩)|n+5,h1,_=>by simp at h1)
theorem Jkm:Au Try.prog 65 (ty 65):=tfM Ji2 Try.underlying65 (stF (AC (Be DY Try.underlying3) (AC (Be DY Try.underlying3) (AC (Be JeE Try.underlying63) (AC (Be DY Try.underlying3) (AC (Be T6 Try.underlying9) Fk))))))
theorem Jkn:Au Try.prog 68 (ty 68):=tfM JeF Try.underlying68 (arK Rc)
theorem Jko:Au Try.prog 70 (ty 70):=tfM JeG Try.underlying70 (stF (AC (Be Ja0 Try.underlying25) (AC (Be Ja0 Try.underlying25) (AC (Be Rc Try.underlying5) (AC (Be Rc Try.underlying5) (AC (Be JeF Try.underlying68) Fk))))))
theorem Jkp:Au Try.prog 80 (ty 80):=tfM Yc Try.underlying80 (stF (AC (Be DY Try.underlying3) (AC (Be DY Try.underlying3) (AC (Be Rc Try.underlying5) Fk)))) (λ _=>Nd Try.underlying80 (by kernel_rfl) (by kernel_rfl) rfl λ j f k h1 h2=>match j,h1,h2 with|0,h1,h2=>(by cases h1;cases h2;exact ⟨by decide,rfl,⟨_,Try.underlying3⟩⟩)|1,h1,h2=>(by cases h1;cases h2;exact ⟨by decide,rfl,⟨_,Try.underlying3⟩⟩)|2,h1,h2=>(by cases h1;cases h2;exact ⟨by decide,rfl,⟨_,Try.underlying5⟩⟩)|n+3,h1,_=>by simp at h1)
theorem Jkq:Au Try.prog 82 (ty 82):=tfM Ji3 Try.underlying82 (stF (AC (Be T6 Try.underlying9) (AC (Be VU Try.underlying39) (AC (Be DY Try.underlying3) (AC (Be Yc Try.underlying80) (AC (Be JdK Try.underlying4) Fk))))))
theorem Jkr:Au Try.prog 85 (ty 85):=tfM Ji4 Try.underlying85 (slK Td)
theorem Jks:Au Try.prog 88 (ty 88):=tfM Ja2 Try.underlying88 (slK Yc)
theorem Jkt:Au Try.prog 92 (ty 92):=tfM Ji5 Try.underlying92 (stF (AC (Be T6 Try.underlying9) (AC (Be DY Try.underlying3) (AC (Be Yc Try.underlying80) (AC (Be Ja2 Try.underlying88) Fk)))))
theorem Jku:Au Try.prog 97 (ty 97):=tfM JeH Try.underlying97 rfl
theorem Ji6:Au Try.prog 107 (ty 107):=tfM Ja3 Try.underlying107 (stF (AC (Be DY Try.underlying3) (AC (Be DY Try.underlying3) (AC (Be T6 Try.underlying9) (AC (Be Jfv Try.underlying100) (AC (Be Jfw Try.underlying102) (AC (Be Jfx Try.underlying105) (AC (Be DY Try.underlying3) Fk))))))))
theorem Ji7:Au Try.prog 109 (ty 109):=tfM Jfy Try.underlying109 (arK DY)
theorem Ji8:Au Try.prog 113 (ty 113):=tfM Jfz Try.underlying113 trivial
theorem Ji9:Au Try.prog 116 (ty 116):=tfM Ja4 Try.underlying116 (stF (AC (Be Td Try.underlying40) (AC (Be Td Try.underlying40) Fk)))
theorem Jja:Au Try.prog 117 (ty 117):=tfM Ja5 Try.underlying117 (slK Jbb)
theorem Jjb:Au Try.prog 118 (ty 118):=tfM Ja6 Try.underlying118 (slK Ja4)
theorem Jjc:Au Try.prog 120 (ty 120):=tfM JfA Try.underlying120 (stF (AC (Be Jey Try.underlying29) (AC (Be T6 Try.underlying9) (AC (Be Ja2 Try.underlying88) (AC (Be Ja5 Try.underlying117) (AC (Be Ja6 Try.underlying118) (AC (Be DY Try.underlying3) Fk)))))))
theorem Jjd:Au Try.prog 128 (ty 128):=tfM JfB Try.underlying128 (slK Ja1)
theorem Jje:Au Try.prog 132 (ty 132):=tfM Ja7 Try.underlying132 (slK Jba)
theorem Jjf:Au Try.prog 133 (ty 133):=tfM Ja8 Try.underlying133 (slK JfL)
theorem Jjg:Au Try.prog 135 (ty 135):=tfM Ja9 Try.underlying135 (stF (AC (Be DY Try.underlying3) (AC (Be DY Try.underlying3) (AC (Be Ja7 Try.underlying132) (AC (Be Td Try.underlying40) (AC (Be Ja8 Try.underlying133) Fk))))))
theorem Jjh:Au Try.prog 138 (ty 138):=tfM Jba Try.underlying138 (stF (AC (Be VU Try.underlying39) (AC (Be JdK Try.underlying4) (AC (Be DY Try.underlying3) (AC (Be DY Try.underlying3) (AC (Be DY Try.underlying3) Fk))))))
theorem Jji:Au Try.prog 142 (ty 142):=tfM JfC Try.underlying142 (by obtain ⟨j,h1,h2,h3,h4⟩:=DY;exact ⟨_,_,j,_,rfl,(Sl Try.underlying80 (by kernel_rfl) rfl λ j f k h1 h2=>match j,h1,h2 with|0,h1,h2=>(by cases h1;cases h2;exact ⟨by decide,rfl,⟨_,Try.underlying3⟩⟩)|1,h1,h2=>(by cases h1;cases h2;exact ⟨by decide,rfl,⟨_,Try.underlying3⟩⟩)|2,h1,h2=>(by cases h1;cases h2;exact ⟨by decide,rfl,⟨_,Try.underlying5⟩⟩)|n+3,h1,_=>by simp at h1),h1,h4,rfl,(λ h=>by cases h),(λ _=>⟨_,rfl,rfl⟩)⟩)
theorem Jjj:Au Try.prog 143 (ty 143):=tfM Jbb Try.underlying143 (slK Jbc)
theorem Jjk:Au Try.prog 145 (ty 145):=tfM Jbc Try.underlying145 (stF (AC (Be DY Try.underlying3) (AC (Be DY Try.underlying3) Fk))) (λ _=>Nd Try.underlying145 (by kernel_rfl) (by kernel_rfl) rfl λ j f k h1 h2=>match j,h1,h2 with|0,h1,h2=>(by cases h1;cases h2;exact ⟨by decide,rfl,⟨_,Try.underlying3⟩⟩)|1,h1,h2=>(by cases h1;cases h2;exact ⟨by decide,rfl,⟨_,Try.underlying3⟩⟩)|n+2,h1,_=>by simp at h1)
theorem Jjl:Au Try.prog 146 (ty 146):=tfM JfD Try.underlying146 (arK Ja1)
theorem Jjm:Au Try.prog 151 (ty 151):=tfM JfE Try.underlying151 trivial
theorem Jjn:Au Try.prog 161 (ty 161):=tfM JfF Try.underlying161 rfl
theorem Jjo:Au Try.prog 165 (ty 165):=tfM JfG Try.underlying165 rfl
theorem Jjp:Au Try.prog 172 (ty 172):=tfM JfH Try.underlying172 rfl
theorem Jjq:Au Try.prog 174 (ty 174):=tfM JfI Try.underlying174 rfl
theorem Jjr:Au Try.prog 176 (ty 176):=tfM JfJ Try.underlying176 rfl
theorem Jjs:Au Try.prog 180 (ty 180):=tfM JfK Try.underlying180 trivial
theorem tyOK:Ky Try.prog ty:=by
 intro t h
 unfold ty at h
 split at h
 ·exact tf3
 ·exact tf4
 ·exact tf5
 ·exact tf9
 ·exact Jj3
 ·exact Jj4
 ·exact Jj5
 ·exact Jj6
 ·exact Jj7
 ·exact Jj8
 ·exact Jj9
 ·exact Jka
 ·exact Jkb
 ·exact Jkc
 ·exact Jkd
 ·exact Jke
 ·exact Jkf
 ·exact Jkg
 ·exact Jkh
 ·exact Jki
 ·exact Jkj
 ·exact Jkk
 ·exact Jkl
 ·exact Jkm
 ·exact Jkn
 ·exact Jko
 ·exact Jkp
 ·exact Jkq
 ·exact Jkr
 ·exact Jks
 ·exact Jkt
 ·exact Jku
 ·exact Ji6
 ·exact Ji7
 ·exact Ji8
 ·exact Ji9
 ·exact Jja
 ·exact Jjb
 ·exact Jjc
 ·exact Jjd
 ·exact Jje
 ·exact Jjf
 ·exact Jjg
 ·exact Jjh
 ·exact Jji
 ·exact Jjj
 ·exact Jjk
 ·exact Jjl
 ·exact Jjm
 ·exact Jjn
 ·exact Jjo
 ·exact Jjp
 ·exact Jjq
 ·exact Jjr
 ·exact Jjs
 ·cases h
theorem follows:Try.prog.follows .mixedOrders=true:=by kernel_rfl
def qfT:List (Nat×Nat):=[(49,3)]
theorem Jkv (vs:Array Value) (h:vs.size=3):QD Try.prog (Kj 49 vs):=So Try.func49 rfl rfl rfl rfl rfl rfl rfl (λ w=>(Tc Try.underlying20 w).1) (λ w=>(Tc (a:=0) Try.underlying20 w).2) rfl (by kernel_rfl) (by decide) (by decide) (by rw [h];decide)
theorem Jkw:∀ f k,(f,k)∈qfT->∀ vs:Array Value,vs.size=k->QD Try.prog (Kj f vs):=λ _ _ h vs hs=>by
 simp only [qfT,List.mem_cons,List.not_mem_nil,or_false,Prod.mk.injEq] at h
 rcases h with ⟨rfl,rfl⟩
 ·exact Jkv vs hs
def cxk (n nk:Nat):Cx:=⟨ty,⟨n,[],nk,qfT⟩,AG Try.prog,Cu Try.prog,L4 Try.prog,false⟩
def cxr (n nk:Nat):Cx:=⟨ty,⟨n,[],nk,[]⟩,AG Try.prog,Cu Try.prog,L4 Try.prog,true⟩
def cx (n:Nat):Cx:=cxk n 0
theorem JeI (n nk:Nat):HE Try.prog (cxk n nk):=⟨tyOK,λ _ _ _ h=>h,λ _ _ _ _ _ _ h=>h,λ _ _ _ _ _ h=>h,Jkw,λ h=>by cases h⟩
theorem Jjt (n nk:Nat):HE Try.prog (cxr n nk):=⟨tyOK,λ _ _ _ h=>h,λ _ _ _ _ _ _ h=>h,λ _ _ _ _ _ h=>h,λ _ _ h=>(by cases h),λ _=>rfl⟩
end Go.AI
end
section
namespace Go.AI
structure Av where
 Print:(List UInt8)
 Cells:(List Int)
 Left:Int
 Right:Int
 From:Int
 To:Int
 deriving DecidableEq,Inhabited
structure Ab where
 Modes:Int
 Accept:Int
 Rules:(List Av)
 deriving DecidableEq,Inhabited
structure Aa where
 Mode:Int
 Last:Int
 Need:Int
 deriving DecidableEq,Inhabited
structure AB where
 States:(List Int)
 Costs:(List Int)
 deriving DecidableEq,Inhabited
structure FJ where
 Rule:Int
 To:Int
 deriving DecidableEq,Inhabited
structure Ad where
 T:Ab
 S:(List UInt8)
 States:(List Aa)
 Arcs:(List (List FJ))
 Columns:(List AB)
 Last:Int
 deriving DecidableEq,Inhabited
structure AS where
 Cells:(List Int)
 Path:(List Int)
 deriving DecidableEq,Inhabited
structure Jju where
 Line:(List Int)
 Keep:Bool
 Ink:Int
 Block:Int
 At:Int
 deriving DecidableEq,Inhabited
structure Jbd where
 N:Int
 K:Int
 deriving DecidableEq,Inhabited
structure Re where
 First:Int
 End:Int
 Rows:(List Jju)
 Ends:(List Int)
 Labels:(List Jbd)
 deriving DecidableEq,Inhabited
structure Yd where
 Width:Int
 Height:Int
 Binding:Int
 deriving DecidableEq,Inhabited
structure IZ where
 Format:Yd
 Volumes:(List Re)
 deriving DecidableEq,Inhabited
structure Rf where
 Volume:Int
 Leaf:Int
 Side:Int
 Line:Int
 Cell:Int
 deriving DecidableEq,Inhabited
structure JeJ where
 Op:Int
 N:Int
 deriving DecidableEq,Inhabited
structure Jbe where
 X:Int
 Y:Int
 deriving DecidableEq,Inhabited
structure VV where
 Kind:Int
 Texture:Int
 P:(List Jbe)
 deriving DecidableEq,Inhabited
structure Jbf where
 W:Int
 H:Int
 Gap:Int
 F:(List VV)
 deriving DecidableEq,Inhabited
structure My where
 Kind:Int
 Level:Int
 Text:(List UInt8)
 Rows:(List (List (List UInt8)))
 F:(List JeJ)
 Pic:Jbf
 Page:Int
 deriving DecidableEq,Inhabited
structure VW where
 Reader:Int
 Version:Int
 At:Rf
 Cut:Int
 Put:(List UInt8)
 deriving DecidableEq,Inhabited
structure JK where
 Block:Int
 At:Int
 Cut:Int
 Put:(List UInt8)
 deriving DecidableEq,Inhabited
structure FE (α:Type) where
 a0:α
 a1:α
 deriving DecidableEq,Inhabited
structure Dd where
 P:(List Int)
 C:(List Int)
 L:Int
 R:Int
 W:(FE Int)
 deriving DecidableEq,Inhabited
structure KZ where
 Base:Int
 Drop:Int
 More:(List Dd)
 deriving DecidableEq,Inhabited
structure AO where
 S:(List UInt8)
 I:Int
 State:Aa
 L:(List Aa)
 deriving DecidableEq,Inhabited
structure Bq where
 W:AS
 At:Int
 E:Int
 deriving DecidableEq,Inhabited
structure CD where
 Text:(List UInt8)
 Cells:(List Int)
 At:Int
 End:Aa
 Ok:Bool
 deriving DecidableEq,Inhabited
def FK (_:Nat) (t_1:Ab) (i_1:Int):Option ((Ab×Int)⊕Ab):=
 if decide (i_1<4)=true then
  (idx ([[97],[98],[97,98],[]]) i_1).bind λ x1=>
  (idx [1,3,7,32] i_1).bind λ x2=>
  (app 64 t_1.Rules ([({ Print:=x1,Cells:=[x2],Left:=63,Right:=63,From:=0,To:=Jaj .i64 i_1 3 }:Av)])).bind λ l1=>
  some (.inl (({ Modes:=t_1.Modes,Accept:=t_1.Accept,Rules:=l1 }:Ab),(Ay .i64 i_1 1)))
 else
  some (.inr t_1)
def If (n:Nat) :Option Ab:=
 (whl (λ (x:(Ab×Int))=>FK n x.1 x.2) n (({ Modes:=2,Accept:=1,Rules:=([]:List Av) }:Ab),0)).bind λ y1=>
 (app 64 y1.Rules ([({ Print:=[65],Cells:=[1],Left:=63,Right:=63,From:=1,To:=0 }:Av)])).bind λ l2=>
 some ({ Modes:=y1.Modes,Accept:=y1.Accept,Rules:=l2 }:Ab)
def DE (_:Nat) (p0_:Int):Option Bool:=
 some ((decide (32<=Cr .u8 p0_ 127))&&(decide (Cr .u8 p0_ 127<=126)))
def Fm (n:Nat) (p0_:(List UInt8)) (x_1:Int):Option (Int⊕(Unit⊕(Int×Int))):=
 if decide (x_1<((p0_.length:Nat):Int))=true then
  (LL p0_ x_1).bind λ b1=>
  (DE n b1).bind λ r1=>
  if (!r1)=true then
   some (.inr (.inr (x_1,60)))
  else
   some (.inl (Ay .i64 x_1 1))
 else
  some (.inr (.inl ()))
def HJ (n:Nat) (p0_:(List UInt8)):Option (Int×Int):=
 (whl (λ (x:Int)=>Fm n p0_ x) n 0).bind λ y2=>
 match y2 with
 | Sum.inl _=>
  some (((p0_.length:Nat):Int),0)
 | Sum.inr y4=>
  some y4
def Er (_:Nat) (p0_:Int):Option Int:=
 if ((decide (97<=Cr .u8 p0_ 127))&&(decide (Cr .u8 p0_ 127<=122)))=true then
  some 1
 else
  if ((decide (65<=Cr .u8 p0_ 127))&&(decide (Cr .u8 p0_ 127<=90)))=true then
   some 2
  else
   if ((decide (48<=Cr .u8 p0_ 127))&&(decide (Cr .u8 p0_ 127<=57)))=true then
    some 3
   else
    if ((Cr .u8 p0_ 127)==32)=true then
     some 4
    else
     some 5
def CY (n:Nat) (p0_:(List UInt8)) (x_2:Int):Option (Int⊕(Unit⊕Bool)):=
 if decide (x_2<((p0_.length:Nat):Int))=true then
  (LL p0_ x_2).bind λ b2=>
  (Er n b2).bind λ r2=>
  if (r2==4)=true then
   some (.inr (.inr true))
  else
   some (.inl (Ay .i64 x_2 1))
 else
  some (.inr (.inl ()))
def Es (n:Nat) (p0_:(List UInt8)):Option Bool:=
 (whl (λ (x:Int)=>CY n p0_ x) n 0).bind λ y5=>
 match y5 with
 | Sum.inl _=>
  some false
 | Sum.inr y7=>
  some y7
def I0 (_:Nat) (p0_:Int):Option Bool:=
 some (decide (p0_<64))
def Et (n:Nat) (p0_:Av) (x_3:Int):Option (Int⊕(Unit⊕Bool)):=
 if decide (x_3<((p0_.Cells.length:Nat):Int))=true then
  (idx p0_.Cells x_3).bind λ x4=>
  (I0 n x4).bind λ r5=>
  if (((!r5)||(x4==63))||(x4==0))=true then
   some (.inr (.inr false))
  else
   some (.inl (Ay .i64 x_3 1))
 else
  some (.inr (.inl ()))
def Hu (n:Nat) (p0_:Av) (p1_:Int):Option Bool:=
 if (((decide (((p0_.Print.length:Nat):Int)>4))||(decide (((p0_.Cells.length:Nat):Int)<1)))||(decide (((p0_.Cells.length:Nat):Int)>4)))=true then
  some false
 else
  (HJ n p0_.Print).bind λ r3=>
  if (r3.2 != 0)=true then
   some false
  else
   if ((((decide (p0_.Left<1))||(decide (p0_.Left>63)))||(decide (p0_.Right<1)))||(decide (p0_.Right>63)))=true then
    some false
   else
    if ((((decide (p0_.From<0))||(decide (p0_.From>=p1_)))||(decide (p0_.To<0)))||(decide (p0_.To>=p1_)))=true then
     some false
    else
     (Es n p0_.Print).bind λ r4=>
     if r4=true then
      (if ((((p0_.Print.length:Nat):Int)==1)&&(((p0_.Cells.length:Nat):Int)==1))=true then idx p0_.Cells 0 else some default).bind λ x3=>
      some (((((p0_.Print.length:Nat):Int)==1)&&(((p0_.Cells.length:Nat):Int)==1))&&(x3==0))
     else
      (whl (λ (x:Int)=>Et n p0_ x) n 0).bind λ y8=>
      match y8 with
      | Sum.inl _=>
       some true
      | Sum.inr y10=>
       some y10
def Eu (_:Nat) (p0_:(List Int)) (p1_:(List Int)) (x_4:Int):Option (Int⊕(Unit⊕Bool)):=
 if decide (x_4<((p0_.length:Nat):Int))=true then
  (idx p0_ x_4).bind λ x5=>
  (idx p1_ x_4).bind λ x6=>
  if (x5 != x6)=true then
   some (.inr (.inr false))
  else
   some (.inl (Ay .i64 x_4 1))
 else
  some (.inr (.inl ()))
def Hv (n:Nat) (p0_:(List Int)) (p1_:(List Int)):Option Bool:=
 if (((p0_.length:Nat):Int) != ((p1_.length:Nat):Int))=true then
  some false
 else
  (whl (λ (x:Int)=>Eu n p0_ p1_ x) n 0).bind λ y11=>
  match y11 with
  | Sum.inl _=>
   some true
  | Sum.inr y13=>
   some y13
def Hw (n:Nat) (p0_:Av) (p1_:Av):Option Bool:=
 (if (((((p0_.From==p1_.From)&&(p0_.To==p1_.To))&&(p0_.Left==p1_.Left))&&(p0_.Right==p1_.Right))&&(p0_.Print==p1_.Print))=true then Hv n p0_.Cells p1_.Cells else some default).bind λ r6=>
 some ((((((p0_.From==p1_.From)&&(p0_.To==p1_.To))&&(p0_.Left==p1_.Left))&&(p0_.Right==p1_.Right))&&(p0_.Print==p1_.Print))&&r6)
def Dv (n:Nat) (_:Ab) (x_5:Int) (x7:Av) (l3:(List Av)) (x_6:Int):Option (Int⊕(Unit⊕(Int×Int))):=
 if decide (x_6<((l3.length:Nat):Int))=true then
  (idx l3 x_6).bind λ x8=>
  (Hw n x8 x7).bind λ r8=>
  if r8=true then
   some (.inr (.inr (x_5,20)))
  else
   some (.inl (Ay .i64 x_6 1))
 else
  some (.inr (.inl ()))
def Dw (n:Nat) (p0_:Ab) (x_5:Int):Option (Int⊕(Unit⊕(Int×Int))):=
 if decide (x_5<((p0_.Rules.length:Nat):Int))=true then
  (idx p0_.Rules x_5).bind λ x7=>
  (Hu n x7 p0_.Modes).bind λ r7=>
  if (!r7)=true then
   some (.inr (.inr (x_5,20)))
  else
   (sub p0_.Rules 0 x_5).bind λ l3=>
   (whl (λ (x:Int)=>Dv n p0_ x_5 x7 l3 x) n 0).bind λ y14=>
   match y14 with
   | Sum.inl _=>
    some (.inl (Ay .i64 x_5 1))
   | Sum.inr y16=>
    some (.inr (.inr y16))
 else
  some (.inr (.inl ()))
def Hx (n:Nat) (p0_:Ab):Option (Int×Int):=
 if ((decide (p0_.Modes<1))||(decide (p0_.Modes>8)))=true then
  some ((-1),1)
 else
  (if (!(p0_.Accept==0))=true then CH (decide (0<=p0_.Modes)) else some default).bind λ _=>
  if ((p0_.Accept==0)||(decide (IntKind.i64.wrap p0_.Accept>=QU .i64 1 p0_.Modes)))=true then
   some ((-1),1)
  else
   if ((decide (((p0_.Rules.length:Nat):Int)<1))||(decide (((p0_.Rules.length:Nat):Int)>64)))=true then
    some ((-1),1)
   else
    (whl (λ (x:Int)=>Dw n p0_ x) n 0).bind λ y17=>
    match y17 with
    | Sum.inl _=>
     some (0,0)
    | Sum.inr y19=>
     some y19
def Ew (n:Nat) (p0_:Ab):Option Bool:=
 (Hx n p0_).bind λ r9=>
 some (r9.2==0)
def I1 (_:Nat) :Option Aa:=
 some ({ Mode:=0,Last:=0,Need:=63 }:Aa)
def Hg (_:Nat) (p0_:Int) (p1_:Int):Option Bool:=
 (if ((decide (0<=p1_))&&(decide (p1_<8)))=true then CH (decide (0<=p1_)) else some default).bind λ _=>
 some (((decide (0<=p1_))&&(decide (p1_<8)))&&((Cr .u8 (QV .u8 p0_ p1_) 1)==1))
def HK (n:Nat) (p0_:Ab) (p1_:Aa) (p2_:Int):Option (Aa×Bool):=
 if ((decide (p2_<0))||(decide (p2_>=((p0_.Rules.length:Nat):Int))))=true then
  some (({ Mode:=0,Last:=0,Need:=0 }:Aa),false)
 else
  (idx p0_.Rules p2_).bind λ x9=>
  (if (!(x9.From != p1_.Mode))=true then Hg n x9.Left p1_.Last else some default).bind λ r10=>
  if ((x9.From != p1_.Mode)||(!r10))=true then
   some (({ Mode:=0,Last:=0,Need:=0 }:Aa),false)
  else
   if (x9.Print==[])=true then
    if ((Cr .u8 p1_.Need x9.Right)==0)=true then
     some (({ Mode:=0,Last:=0,Need:=0 }:Aa),false)
    else
     some (({ Mode:=x9.To,Last:=p1_.Last,Need:=Cr .u8 p1_.Need x9.Right }:Aa),true)
   else
    (LL x9.Print 0).bind λ b3=>
    (Er n b3).bind λ r11=>
    (Hg n p1_.Need r11).bind λ r12=>
    if (!r12)=true then
     some (({ Mode:=0,Last:=0,Need:=0 }:Aa),false)
    else
     (LL x9.Print (JI .i64 ((x9.Print.length:Nat):Int) 1)).bind λ b4=>
     (Er n b4).bind λ r13=>
     some (({ Mode:=x9.To,Last:=r13,Need:=x9.Right }:Aa),true)
def Cv (_:Nat) (x_7:Int) (states_5:(List Aa)) (from_5:(List (List Int))) (number_4:(List (Aa×Int))):Option (((List Aa)×(List (List Int))×(List (Aa×Int))×Int)⊕((List Aa)×(List (List Int))×(List (Aa×Int)))):=
 some (.inl (states_5,from_5,number_4,(Ay .i64 x_7 1)))
def CS (n:Nat) (k_1:Int) (x_7:Int) (states_6:(List Aa)) (from_6:(List (List Int))) (number_5:(List (Aa×Int))) (n_1:Int):Option (((List Aa)×(List (List Int))×(List (Aa×Int))×Int)⊕((List Aa)×(List (List Int))×(List (Aa×Int)))):=
 (idx from_6 n_1).bind λ x11=>
 (app 8 x11 [k_1]).bind λ l4=>
 Cv n x_7 states_6 (List.set from_6 n_1.toNat l4) number_5
def Bv (n:Nat) (p0_:Ab) (k_1:Int) (states_3:(List Aa)) (from_3:(List (List Int))) (number_2:(List (Aa×Int))) (x_7:Int):Option (((List Aa)×(List (List Int))×(List (Aa×Int))×Int)⊕((List Aa)×(List (List Int))×(List (Aa×Int)))):=
 if decide (x_7<((p0_.Rules.length:Nat):Int))=true then
  (idx states_3 k_1).bind λ x10=>
  (HK n p0_ x10 x_7).bind λ r15=>
  if (!r15.2)=true then
   Cv n x_7 states_3 from_3 number_2
  else
   if (!(Option.isSome (Gt r15.1 number_2)))=true then
    (app 24 states_3 [r15.1]).bind λ l5=>
    (app 24 from_3 [([]:(List Int))]).bind λ l6=>
    CS n k_1 x_7 l5 l6 (LM r15.1 ((states_3.length:Nat):Int) number_2) ((states_3.length:Nat):Int)
   else
    CS n k_1 x_7 states_3 from_3 number_2 (Option.getD (Gt r15.1 number_2) 0)
 else
  some (.inr (states_3,from_3,number_2))
def Cw (n:Nat) (p0_:Ab) (states_1:(List Aa)) (from_1:(List (List Int))) (number_1:(List (Aa×Int))) (k_1:Int):Option (((List Aa)×(List (List Int))×(List (Aa×Int))×Int)⊕((List Aa)×(List (List Int)))):=
 if decide (k_1<((states_1.length:Nat):Int))=true then
  (whl (λ (x:((List Aa)×(List (List Int))×(List (Aa×Int))×Int))=>Bv n p0_ k_1 x.1 x.2.1 x.2.2.1 x.2.2.2) n (states_1,from_1,number_1,0)).bind λ y20=>
  some (.inl (y20.1,y20.2.1,y20.2.2,(Ay .i64 k_1 1)))
 else
  some (.inr (states_1,from_1))
def Fn (n:Nat) (p0_:Ab):Option ((List Aa)×(List (List Int))):=
 (I1 n).bind λ r14=>
 (whl (λ (x:((List Aa)×(List (List Int))×(List (Aa×Int))×Int))=>Cw n p0_ x.1 x.2.1 x.2.2.1 x.2.2.2) n ([r14],([[]]:List (List Int)),(LM r14 0 []),0)).bind λ y21=>
 some (y21.1,y21.2)
def HL (n:Nat) (p0_:Ab):Option (List Aa):=
 (Fn n p0_).bind λ r16=>
 some r16.1
def ES (_:Nat) (p0_:(List UInt8)) (p1_:(List UInt8)):Option Bool:=
 (if decide (((p0_.length:Nat):Int)>=((p1_.length:Nat):Int))=true then sub p0_ 0 ((p1_.length:Nat):Int) else some default).bind λ s1=>
 some ((decide (((p0_.length:Nat):Int)>=((p1_.length:Nat):Int)))&&(s1==p1_))
def ET (n:Nat) (p0_:(List UInt8)) (p1_:(List UInt8)):Option Bool:=
 (ES n p0_ p1_).bind λ r17=>
 some r17
def Fp (n:Nat) (p0_:Ab) (p1_:Aa):Option Bool:=
 (if decide (p1_.Mode<p0_.Modes)=true then Hg n p0_.Accept p1_.Mode else some default).bind λ r19=>
 (if ((decide (p1_.Mode<p0_.Modes))&&r19)=true then Hg n p1_.Need 0 else some default).bind λ r20=>
 some (((decide (p1_.Mode<p0_.Modes))&&r19)&&r20)
def De (_:Nat) (p0_:Int):Option Bool:=
 some (p0_ != p0_)
def DQ (n:Nat) (p0_:Int) (p1_:Int):Option Bool:=
 (De n p0_).bind λ r21=>
 (if r21=true then De n p1_ else some default).bind λ r22=>
 some ((r21&&(!r22))||(decide (p0_<p1_)))
def EU (_:Nat) (p0_:Int):Option Bool:=
 some (p0_ != p0_)
def A7 (n:Nat) (p0_:(List Int)) (p1_:Int) (i_2:Int) (j_1:Int):Option ((Int×Int)⊕Int):=
 if decide (i_2<j_1)=true then
  (idx p0_ (IntKind.i64.wrap (QV .u64 (IntKind.u64.wrap (Ay .i64 i_2 j_1)) 1))).bind λ x13=>
  (DQ n x13 p1_).bind λ r23=>
  if r23=true then
   some (.inl ((Ay .i64 (IntKind.i64.wrap (QV .u64 (IntKind.u64.wrap (Ay .i64 i_2 j_1)) 1)) 1),j_1))
  else
   some (.inl (i_2,(IntKind.i64.wrap (QV .u64 (IntKind.u64.wrap (Ay .i64 i_2 j_1)) 1))))
 else
  some (.inr i_2)
def Bj (n:Nat) (p0_:(List Int)) (p1_:Int):Option (Int×Bool):=
 (whl (λ (x:(Int×Int))=>A7 n p0_ p1_ x.1 x.2) n (0,((p0_.length:Nat):Int))).bind λ y22=>
 (if decide (y22<((p0_.length:Nat):Int))=true then idx p0_ y22 else some default).bind λ x14=>
 (if ((decide (y22<((p0_.length:Nat):Int)))&&!(x14==p1_))=true then idx p0_ y22 else some default).bind λ x15=>
 (if ((decide (y22<((p0_.length:Nat):Int)))&&!(x14==p1_))=true then EU n x15 else some default).bind λ r24=>
 (if (((decide (y22<((p0_.length:Nat):Int)))&&!(x14==p1_))&&r24)=true then EU n p1_ else some default).bind λ r25=>
 some (y22,((decide (y22<((p0_.length:Nat):Int)))&&((x14==p1_)||(r24&&r25))))
def Bx (n:Nat) (p0_:AB) (p1_:Int):Option Int:=
 (Bj n p0_.States p1_).bind λ r26=>
 if (!r26.2)=true then
  some (-1)
 else
  (idx p0_.Costs r26.1).bind λ x16=>
  some x16
def BY (_:Nat) (_:Ab) (_:(List UInt8)) (r30:(List Aa)) (_:(List AB)) (number_6:(List (Aa×Int))) (x_10:Int):Option (((List (Aa×Int))×Int)⊕(List (Aa×Int))):=
 if decide (x_10<((r30.length:Nat):Int))=true then
  (idx r30 x_10).bind λ x22=>
  some (.inl ((LM x22 x_10 number_6),(Ay .i64 x_10 1)))
 else
  some (.inr number_6)
def Cm (_:Nat) (x_12:Int) (w_5:Ad):Option ((Ad×Int)⊕Ad):=
 some (.inl (w_5,(Ay .i64 x_12 1)))
def BZ (n:Nat) (p0_:Ab) (_:(List Aa)) (y27:(List (Aa×Int))) (x_11:Int) (x23:Aa) (w_3:Ad) (x_12:Int):Option ((Ad×Int)⊕Ad):=
 if decide (x_12<((p0_.Rules.length:Nat):Int))=true then
  (HK n p0_ x23 x_12).bind λ r31=>
  if r31.2=true then
   (idx w_3.Arcs x_11).bind λ x24=>
   (app 16 x24 [({ Rule:=x_12,To:=(Option.getD (Gt r31.1 y27) 0) }:FJ)]).bind λ l11=>
   Cm n x_12 ({ T:=w_3.T,S:=w_3.S,States:=w_3.States,Arcs:=List.set w_3.Arcs x_11.toNat l11,Columns:=w_3.Columns,Last:=w_3.Last }:Ad)
  else
   Cm n x_12 w_3
 else
  some (.inr w_3)
def Cn (n:Nat) (p0_:Ab) (r30:(List Aa)) (y27:(List (Aa×Int))) (w_1:Ad) (x_11:Int):Option ((Ad×Int)⊕Ad):=
 if decide (x_11<((r30.length:Nat):Int))=true then
  (idx r30 x_11).bind λ x23=>
  (whl (λ (x:(Ad×Int))=>BZ n p0_ r30 y27 x_11 x23 x.1 x.2) n (w_1,0)).bind λ y28=>
  some (.inl (y28,(Ay .i64 x_11 1)))
 else
  some (.inr w_1)
def DR (n:Nat) (p0_:Ab) (p1_:(List UInt8)):Option Ad:=
 (HL n p0_).bind λ r30=>
 (mkl 48 (Ay .i64 ((p1_.length:Nat):Int) 1) (⟨[],[]⟩:AB)).bind λ l9=>
 (whl (λ (x:((List (Aa×Int))×Int))=>BY n p0_ p1_ r30 l9 x.1 x.2) n ([],0)).bind λ y27=>
 (mkl 24 ((r30.length:Nat):Int) ([]:(List FJ))).bind λ l10=>
 (whl (λ (x:(Ad×Int))=>Cn n p0_ r30 y27 x.1 x.2) n (({ T:=p0_,S:=p1_,States:=r30,Arcs:=l10,Columns:=l9,Last:=0 }:Ad),0)).bind λ y29=>
 some y29
def BV (_:Nat) (p0_:Int) (p1_:Int) (b2_:Ad) (o0_:(List (List Bool))):Option (Ad×(List (List Bool))):=
 (idx o0_ (Bz p0_ 5)).bind λ x25=>
 (CH (decide (0<=Bz p0_ 5/\Bz p0_ 5<((5:Nat):Int)))).bind λ _=>
 (idx x25 p1_).bind λ x26=>
 if (!x26)=true then
  (idx x25 p1_).bind λ _=>
  (put x25 p1_ true).bind λ l12=>
  (idx b2_.Columns p0_).bind λ x28=>
  (app 8 x28.States [p1_]).bind λ l13=>
  some (({ T:=b2_.T,S:=b2_.S,States:=b2_.States,Arcs:=b2_.Arcs,Columns:=List.set b2_.Columns p0_.toNat ({ States:=l13,Costs:=x28.Costs }:AB),Last:=b2_.Last }:Ad),(List.set o0_ (Int.toNat (Bz p0_ 5)) l12))
 else
  some (b2_,(List.set o0_ (Int.toNat (Bz p0_ 5)) x25))
def Bw (n:Nat) (p1_:Int) (p2_:Int) (b0_:Ad):Option (Int×Bool):=
 (idx b0_.T.Rules p2_).bind λ x29=>
 (sub b0_.S p1_ ((b0_.S.length:Nat):Int)).bind λ s3=>
 (ET n s3 x29.Print).bind λ r32=>
 some ((Ay .i64 p1_ ((x29.Print.length:Nat):Int)),r32)
def Te (_:Nat) (o0_:(List Int)):Option (List Int):=
 X2 o0_
def BG (_:Nat) (b0_:Ad) (known_1:(List (List Bool))) (x_18:Int):Option (((List (List Bool))×Int)⊕(List (List Bool))):=
 if decide (x_18<5)=true then
  (idx known_1 x_18).bind λ _=>
  (mkl 1 ((b0_.States.length:Nat):Int) (false:Bool)).bind λ l14=>
  (CH (decide (0<=x_18/\x_18<((5:Nat):Int)))).bind λ _=>
  some (.inl ((List.set known_1 x_18.toNat l14),(Ay .i64 x_18 1)))
 else
  some (.inr known_1)
def BH (_:Nat) (x_21:Int) (w_12:Ad) (known_8:(List (List Bool))):Option ((Ad×(List (List Bool))×Int)⊕(Ad×(List (List Bool)))):=
 some (.inl (w_12,known_8,(Ay .i64 x_21 1)))
def Bk (n:Nat) (_:(Ad×(List (List Bool)))) (x_19:Int) (_:Int) (_:Int) (x34:(List FJ)) (w_10:Ad) (known_6:(List (List Bool))) (x_21:Int):Option ((Ad×(List (List Bool))×Int)⊕(Ad×(List (List Bool)))):=
 if decide (x_21<((x34.length:Nat):Int))=true then
  (idx x34 x_21).bind λ x35=>
  (Bw n x_19 x35.Rule w_10).bind λ r34=>
  if r34.2=true then
   (BV n r34.1 x35.To w_10 known_6).bind λ r35=>
   BH n x_21 r35.1 r35.2
  else
   BH n x_21 w_10 known_6
 else
  some (.inr (w_10,known_6))
def BI (n:Nat) (r33:(Ad×(List (List Bool)))) (x_19:Int) (class_1:Int) (known_4:(List (List Bool))) (i_4:Int) (x33:Int) (w_9:Ad):Option ((Ad×(List (List Bool))×Int)⊕(Ad×(List (List Bool)))):=
 (idx w_9.Arcs x33).bind λ x34=>
 (whl (λ (x:(Ad×(List (List Bool))×Int))=>Bk n r33 x_19 class_1 i_4 x34 x.1 x.2.1 x.2.2) n (w_9,known_4,0)).bind λ y31=>
 some (.inl (y31.1,y31.2,(Ay .i64 i_4 1)))
def BJ (n:Nat) (r33:(Ad×(List (List Bool)))) (x_19:Int) (class_1:Int) (w_7:Ad) (known_4:(List (List Bool))) (i_4:Int):Option ((Ad×(List (List Bool))×Int)⊕(Ad×(List (List Bool)))):=
 (idx w_7.Columns x_19).bind λ x31=>
 if decide (i_4<((x31.States.length:Nat):Int))=true then
  (idx (List.set w_7.Columns x_19.toNat x31) x_19).bind λ x32=>
  (idx x32.States i_4).bind λ x33=>
  (idx w_7.States x33).bind λ x36=>
  (CH (decide (0<=class_1))).bind λ _=>
  if ((Cr .u8 (QV .u8 x36.Need class_1) 1)==1)=true then
   BI n r33 x_19 class_1 known_4 i_4 x33 ({ T:=w_7.T,S:=w_7.S,States:=w_7.States,Arcs:=w_7.Arcs,Columns:=List.set (List.set w_7.Columns x_19.toNat x31) x_19.toNat x32,Last:=x_19 }:Ad)
  else
   BI n r33 x_19 class_1 known_4 i_4 x33 ({ T:=w_7.T,S:=w_7.S,States:=w_7.States,Arcs:=w_7.Arcs,Columns:=List.set (List.set w_7.Columns x_19.toNat x31) x_19.toNat x32,Last:=w_7.Last }:Ad)
 else
  some (.inr (({ T:=w_7.T,S:=w_7.S,States:=w_7.States,Arcs:=w_7.Arcs,Columns:=List.set w_7.Columns x_19.toNat x31,Last:=w_7.Last }:Ad),known_4))
def Bl (n:Nat) (r33:(Ad×(List (List Bool)))) (w_6:Ad) (known_3:(List (List Bool))) (x_19:Int) (class_1:Int):Option ((Ad×(List (List Bool))×Int)⊕Ad):=
 (whl (λ (x:(Ad×(List (List Bool))×Int))=>BJ n r33 x_19 class_1 x.1 x.2.1 x.2.2) n (w_6,known_3,0)).bind λ y32=>
 (idx y32.1.Columns x_19).bind λ x37=>
 (Te n x37.States).bind λ r36=>
 (CH (decide (List.length x37.States=List.length r36))).bind λ _=>
 (idx y32.2 (Bz x_19 5)).bind λ x38=>
 (CH (decide (0<=Bz x_19 5/\Bz x_19 5<((5:Nat):Int)))).bind λ _=>
 some (.inl (({ T:=y32.1.T,S:=y32.1.S,States:=y32.1.States,Arcs:=y32.1.Arcs,Columns:=List.set y32.1.Columns x_19.toNat ({ States:=r36,Costs:=x37.Costs }:AB),Last:=y32.1.Last }:Ad),(List.set y32.2 (Int.toNat (Bz x_19 5)) (List.replicate (x38.length) (false:Bool))),(Ay .i64 x_19 1)))
def BK (n:Nat) (r33:(Ad×(List (List Bool)))) (w_6:Ad) (known_3:(List (List Bool))) (x_19:Int):Option ((Ad×(List (List Bool))×Int)⊕Ad):=
 if decide (x_19<((r33.1.Columns.length:Nat):Int))=true then
  if decide (x_19<((w_6.S.length:Nat):Int))=true then
   (LL w_6.S x_19).bind λ b5=>
   (Er n b5).bind λ r37=>
   Bl n r33 w_6 known_3 x_19 r37
  else
   Bl n r33 w_6 known_3 x_19 0
 else
  some (.inr w_6)
def CN (n:Nat) (b0_:Ad):Option Ad:=
 (whl (λ (x:((List (List Bool))×Int))=>BG n b0_ x.1 x.2) n (([[],[],[],[],[]]:List (List Bool)),0)).bind λ y30=>
 (BV n 0 0 b0_ y30).bind λ r33=>
 (whl (λ (x:(Ad×(List (List Bool))×Int))=>BK n r33 x.1 x.2.1 x.2.2) n (r33.1,r33.2,0)).bind λ y33=>
 some y33
def Ba (_:Nat) (x_25:Int) (x_27:Ad) (better_3:Bool):Option ((Ad×Bool×Int)⊕(Ad×Bool)):=
 some (.inl (x_27,better_3,(Ay .i64 x_25 1)))
def Bb (n:Nat) (p0_:Int) (p1_:Bool) (b1_0_:Int) (b2_0_:Int) (x41:(List FJ)) (x_24:Ad) (better_1:Bool) (x_25:Int):Option ((Ad×Bool×Int)⊕(Ad×Bool)):=
 if decide (x_25<((x41.length:Nat):Int))=true then
  (idx x41 x_25).bind λ x42=>
  (Bw n b2_0_ x42.Rule x_24).bind λ r38=>
  if ((!r38.2)||(!((r38.1==b2_0_)==p1_)))=true then
   Ba n x_25 x_24 better_1
  else
   (idx x_24.Columns r38.1).bind λ x43=>
   (Bx n x43 x42.To).bind λ r39=>
   (idx x_24.T.Rules x42.Rule).bind λ x44=>
   (idx x_24.Columns b1_0_).bind λ x45=>
   (if decide (r39>=0)=true then idx x45.Costs p0_ else some default).bind λ x46=>
   (if ((decide (r39>=0))&&!(decide (x46<0)))=true then idx x45.Costs p0_ else some default).bind λ x47=>
   if ((decide (r39>=0))&&((decide (x46<0))||(decide (Ay .i64 r39 ((x44.Cells.length:Nat):Int)<x47))))=true then
    (idx (List.set x_24.Columns b1_0_.toNat x45) b1_0_).bind λ x48=>
    (idx x48.Costs p0_).bind λ _=>
    (put x48.Costs p0_ (Ay .i64 r39 ((x44.Cells.length:Nat):Int))).bind λ l15=>
    Ba n x_25 ({ T:=x_24.T,S:=x_24.S,States:=x_24.States,Arcs:=x_24.Arcs,Columns:=List.set (List.set x_24.Columns b1_0_.toNat x45) b1_0_.toNat ({ States:=x48.States,Costs:=l15 }:AB),Last:=x_24.Last }:Ad) true
   else
    Ba n x_25 ({ T:=x_24.T,S:=x_24.S,States:=x_24.States,Arcs:=x_24.Arcs,Columns:=List.set x_24.Columns b1_0_.toNat x45,Last:=x_24.Last }:Ad) better_1
 else
  some (.inr (x_24,better_1))
def BW (n:Nat) (p0_:Int) (p1_:Bool) (b1_0_:Int) (b2_0_:Int) (b3_:Ad):Option (Ad×Bool):=
 (idx b3_.Columns b1_0_).bind λ x39=>
 (idx x39.States p0_).bind λ x40=>
 (idx b3_.Arcs x40).bind λ x41=>
 (whl (λ (x:(Ad×Bool×Int))=>Bb n p0_ p1_ b1_0_ b2_0_ x41 x.1 x.2.1 x.2.2) n (({ T:=b3_.T,S:=b3_.S,States:=b3_.States,Arcs:=b3_.Arcs,Columns:=List.set b3_.Columns b1_0_.toNat x39,Last:=b3_.Last }:Ad),false,0)).bind λ y34=>
 some (y34.1,y34.2)
def BL (_:Nat) (x_30:Int) (r_2:(List Int)):Option (((List Int)×Int)⊕Ad):=
 some (.inl (r_2,(Ay .i64 x_30 1)))
def Bm (n:Nat) (w_13:Ad) (place_3:Int) (x51:AB) (l16:(List Int)) (x52:AB) (r_1:(List Int)) (x_30:Int):Option (((List Int)×Int)⊕Ad):=
 if decide (x_30<((x52.States.length:Nat):Int))=true then
  (idx x52.States x_30).bind λ x53=>
  (idx (List.set w_13.Columns place_3.toNat ({ States:=x51.States,Costs:=l16 }:AB)) place_3).bind λ _=>
  (idx r_1 x_30).bind λ _=>
  (put r_1 x_30 (-1)).bind λ l17=>
  (if (place_3==((w_13.S.length:Nat):Int))=true then idx w_13.States x53 else some default).bind λ x56=>
  (if (place_3==((w_13.S.length:Nat):Int))=true then Fp n w_13.T x56 else some default).bind λ r40=>
  if ((place_3==((w_13.S.length:Nat):Int))&&r40)=true then
   (idx l17 x_30).bind λ _=>
   (put l17 x_30 0).bind λ l18=>
   BL n x_30 l18
  else
   BL n x_30 l17
 else
  some (.inr ({ T:=w_13.T,S:=w_13.S,States:=w_13.States,Arcs:=w_13.Arcs,Columns:=List.set (List.set w_13.Columns place_3.toNat ({ States:=x51.States,Costs:=l16 }:AB)) place_3.toNat ({ States:=x52.States,Costs:=r_1 }:AB),Last:=w_13.Last }:Ad))
def Bn (n:Nat) (place_3:Int) (x58:AB) (w_15:Ad) (x_31:Int):Option ((Ad×Int)⊕Ad):=
 if decide (x_31<((x58.States.length:Nat):Int))=true then
  (BW n x_31 false place_3 place_3 w_15).bind λ r41=>
  some (.inl (r41.1,(Ay .i64 x_31 1)))
 else
  some (.inr w_15)
def Bo (n:Nat) (place_3:Int) (x59:AB) (w_19:Ad) (better_4:Bool) (x_32:Int):Option ((Ad×Bool×Int)⊕(Ad×Bool)):=
 if decide (x_32<((x59.States.length:Nat):Int))=true then
  (BW n x_32 true place_3 place_3 w_19).bind λ r42=>
  some (.inl (r42.1,(r42.2||better_4),(Ay .i64 x_32 1)))
 else
  some (.inr (w_19,better_4))
def BM (n:Nat) (place_3:Int) (w_17:Ad):Option (Ad⊕Ad):=
 (idx w_17.Columns place_3).bind λ x59=>
 (whl (λ (x:(Ad×Bool×Int))=>Bo n place_3 x59 x.1 x.2.1 x.2.2) n (({ T:=w_17.T,S:=w_17.S,States:=w_17.States,Arcs:=w_17.Arcs,Columns:=List.set w_17.Columns place_3.toNat x59,Last:=w_17.Last }:Ad),false,0)).bind λ y37=>
 if (!y37.2)=true then
  some (.inr y37.1)
 else
  some (.inl y37.1)
def Ce (n:Nat) (w_13:Ad) (place_3:Int):Option ((Ad×Int)⊕Ad):=
 if decide (place_3>=0)=true then
  (idx w_13.Columns place_3).bind λ _=>
  (idx w_13.Columns place_3).bind λ x51=>
  (mkl 8 ((x51.States.length:Nat):Int) (0:Int)).bind λ l16=>
  (idx (List.set w_13.Columns place_3.toNat ({ States:=x51.States,Costs:=l16 }:AB)) place_3).bind λ x52=>
  (whl (λ (x:((List Int)×Int))=>Bm n w_13 place_3 x51 l16 x52 x.1 x.2) n (x52.Costs,0)).bind λ y35=>
  (idx y35.Columns place_3).bind λ x58=>
  (whl (λ (x:(Ad×Int))=>Bn n place_3 x58 x.1 x.2) n (({ T:=y35.T,S:=y35.S,States:=y35.States,Arcs:=y35.Arcs,Columns:=List.set y35.Columns place_3.toNat x58,Last:=y35.Last }:Ad),0)).bind λ y36=>
  (whl (λ (x:Ad)=>BM n place_3 x) n y36).bind λ y38=>
  some (.inl (y38,(JI .i64 place_3 1)))
 else
  some (.inr w_13)
def CO (n:Nat) (b0_:Ad):Option Ad:=
 (whl (λ (x:(Ad×Int))=>Ce n x.1 x.2) n (b0_,((b0_.S.length:Nat):Int))).bind λ y39=>
 some y39
def Bg (_:Nat) (x_34:Int):Option (Int⊕((AS×Int×Int×Int)⊕Unit)):=
 some (.inl (Ay .i64 x_34 1))
def Bh (n:Nat) (b0_:Ad) (result_4:AS) (place_4:Int) (cost_3:Int) (x61:(List FJ)) (x_34:Int):Option (Int⊕((AS×Int×Int×Int)⊕Unit)):=
 if decide (x_34<((x61.length:Nat):Int))=true then
  (idx x61 x_34).bind λ x62=>
  (Bw n place_4 x62.Rule b0_).bind λ r44=>
  if (!r44.2)=true then
   Bg n x_34
  else
   (idx b0_.T.Rules x62.Rule).bind λ x63=>
   (idx b0_.Columns r44.1).bind λ x64=>
   (Bx n x64 x62.To).bind λ r45=>
   if ((decide (r45<0))||(r45 != (JI .i64 cost_3 ((x63.Cells.length:Nat):Int))))=true then
    Bg n x_34
   else
    (app 1 result_4.Cells x63.Cells).bind λ l19=>
    (app 8 result_4.Path [x62.Rule]).bind λ l20=>
    some (.inr (.inl (({ Cells:=l19,Path:=l20 }:AS),r44.1,x62.To,(JI .i64 cost_3 ((x63.Cells.length:Nat):Int)))))
 else
  some (.inr (.inr ()))
def BA (n:Nat) (b0_:Ad) (result_4:AS) (place_4:Int) (state_3:Int) (cost_3:Int):Option ((AS×Int×Int×Int)⊕AS):=
 if decide (cost_3>0)=true then
  (idx b0_.Arcs state_3).bind λ x61=>
  (whl (λ (x:Int)=>Bh n b0_ result_4 place_4 cost_3 x61 x) n 0).bind λ y40=>
  match y40 with
  | Sum.inl y41=>
   some (.inl (y41.1,y41.2.1,y41.2.2.1,y41.2.2.2))
  | Sum.inr _=>
   some (.inr result_4)
 else
  some (.inr result_4)
def Cf (n:Nat) (b0_:Ad):Option AS:=
 (idx b0_.Columns 0).bind λ x60=>
 (Bx n x60 0).bind λ r43=>
 (whl (λ (x:(AS×Int×Int×Int))=>BA n b0_ x.1 x.2.1 x.2.2.1 x.2.2.2) n (({ Cells:=([]:List Int),Path:=([]:List Int) }:AS),0,0,r43)).bind λ y43=>
 some y43
def Hy (n:Nat) (p0_:Ab) (p1_:(List UInt8)):Option (AS×Int×Int):=
 (HJ n p1_).bind λ r46=>
 if (r46.2 != 0)=true then
  some (({ Cells:=[],Path:=[] }:AS),r46.1,r46.2)
 else
  (Ew n p0_).bind λ r47=>
  if (!r47)=true then
   some (({ Cells:=[],Path:=[] }:AS),0,61)
  else
   (DR n p0_ p1_).bind λ r48=>
   (CN n r48).bind λ r49=>
   (CO n r49).bind λ r50=>
   (idx r50.Columns 0).bind λ x65=>
   (idx x65.Costs 0).bind λ x66=>
   if decide (x66<0)=true then
    some (({ Cells:=[],Path:=[] }:AS),r50.Last,61)
   else
    (Cf n ({ T:=r50.T,S:=r50.S,States:=r50.States,Arcs:=r50.Arcs,Columns:=List.set r50.Columns (Int.toNat 0) x65,Last:=r50.Last }:Ad)).bind λ r51=>
    some (r51,((p1_.length:Nat):Int),0)
def Lz (_:Nat) (_:Ab) (_:(List Int)):Option Unit:=
 some ()
def GN (_:Nat) (_:Int) (p2_:Int) (b1_0_:Int) (b2_0_:Int) (b3_0_:Int):Option (Nat×Int×Int):=
 if (b3_0_==b1_0_)=true then
  some (2,p2_,b3_0_)
 else
  some (0,b2_0_,(Ay .i64 b3_0_ 1))
def Cy (n:Nat) (_:Ab) (b3_0_:Int) (_:(List Int)) (at_1:Int) (_:Int) (x67:Int) (x68:Av) (x_44:Int) (x_45:Int) (x_46:Int):Option ((Int×Int×Int)⊕((Int×Int)⊕(Nat×Int×Int))):=
 if decide (x_46<((x68.Cells.length:Nat):Int))=true then
  (GN n x67 at_1 b3_0_ x_44 x_45).bind λ r52=>
  if (!(Nat.beq r52.1 0))=true then
   some (.inr (.inr (r52.1,r52.2.1,r52.2.2)))
  else
   some (.inl (r52.2.1,r52.2.2,(Ay .i64 x_46 1)))
 else
  some (.inr (.inl (x_44,x_45)))
def Df (n:Nat) (b2_:Ab) (b3_0_:Int) (o6_:(List Int)) (x_39:Int) (x_40:Int) (at_1:Int) (x_41:Int):Option ((Int×Int×Int×Int)⊕((Int×Int)⊕(Nat×Int×Int))):=
 if decide (x_41<((o6_.length:Nat):Int))=true then
  (idx o6_ x_41).bind λ x67=>
  (idx b2_.Rules x67).bind λ x68=>
  (whl (λ (x:(Int×Int×Int))=>Cy n b2_ b3_0_ o6_ at_1 x_41 x67 x68 x.1 x.2.1 x.2.2) n (x_39,x_40,0)).bind λ y44=>
  match y44 with
  | Sum.inl y45=>
   (idx b2_.Rules x67).bind λ x69=>
   some (.inl (y45.1,y45.2,(Ay .i64 at_1 ((x69.Print.length:Nat):Int)),(Ay .i64 x_41 1)))
  | Sum.inr y46=>
   some (.inr (.inr y46))
 else
  some (.inr (.inl (x_39,x_40)))
def Fq (n:Nat) (b2_:Ab) (b3_0_:Int) (b4_0_:Int) (b5_0_:Int) (o6_:(List Int)):Option (Nat×Int×Int):=
 (whl (λ (x:(Int×Int×Int×Int))=>Df n b2_ b3_0_ o6_ x.1 x.2.1 x.2.2.1 x.2.2.2) n (b4_0_,b5_0_,0,0)).bind λ y47=>
 match y47 with
 | Sum.inl y48=>
  some (0,y48.1,y48.2)
 | Sum.inr y49=>
  some y49
def FL (_:Nat) (place_6:Int):Option (Int×Int):=
 some (place_6,0)
def CP (n:Nat) (p0_:Ab) (p1_:(List UInt8)) (p2_:Int):Option (Int×Int):=
 (Hy n p0_ p1_).bind λ r53=>
 if (r53.2.2 != 0)=true then
  some (0,r53.2.2)
 else
  if ((decide (p2_<0))||(decide (p2_>=((r53.1.Cells.length:Nat):Int))))=true then
   some (0,310)
  else
   (Lz n p0_ r53.1.Path).bind λ _=>
   (Fq n p0_ p2_ 0 0 r53.1.Path).bind λ r55=>
   if Nat.beq r55.1 0=true then
    FL n r55.2.1
   else
    if Nat.beq r55.1 2=true then
     FL n r55.2.1
    else
     none
def LA (_:Nat) (p0_:Re) (p1_:Int):Option Int:=
 if (p1_==0)=true then
  some 0
 else
  (idx p0_.Ends (JI .i64 p1_ 1)).bind λ x70=>
  some x70
def E5 (_:Nat) (p0_:(List Int)) (x_49:Int):Option (Int⊕(Unit⊕Int)):=
 if decide (x_49<((p0_.length:Nat):Int))=true then
  (idx p0_ x_49).bind λ x71=>
  if (x71 != 0)=true then
   some (.inr (.inr x_49))
  else
   some (.inl (Ay .i64 x_49 1))
 else
  some (.inr (.inl ()))
def Hh (n:Nat) (p0_:(List Int)):Option Int:=
 (whl (λ (x:Int)=>E5 n p0_ x) n 0).bind λ y50=>
 match y50 with
 | Sum.inl _=>
  some ((p0_.length:Nat):Int)
 | Sum.inr y52=>
  some y52
def Nm (n:Nat) (p0_:IZ) (p1_:Rf):Option (Int×Int×Int):=
 if ((((decide (p1_.Volume<0))||(decide (p1_.Volume>=((p0_.Volumes.length:Nat):Int))))||(decide (p1_.Side<0)))||(decide (p1_.Side>1)))=true then
  some (0,0,310)
 else
  (idx p0_.Volumes p1_.Volume).bind λ x72=>
  if (((decide (p1_.Leaf<0))||(decide (p1_.Leaf>=((x72.Labels.length:Nat):Int))))||(decide (Ay .i64 (Je0 .i64 2 p1_.Leaf) p1_.Side>=((x72.Ends.length:Nat):Int))))=true then
   some (0,0,310)
  else
   (LA n x72 (Ay .i64 (Je0 .i64 2 p1_.Leaf) p1_.Side)).bind λ r56=>
   (idx x72.Ends (Ay .i64 (Je0 .i64 2 p1_.Leaf) p1_.Side)).bind λ x73=>
   (sub x72.Rows r56 x73).bind λ l21=>
   if ((decide (p1_.Line<1))||(decide (p1_.Line>((l21.length:Nat):Int))))=true then
    some (0,0,310)
   else
    (idx l21 (JI .i64 p1_.Line 1)).bind λ x74=>
    (Hh n x74.Line).bind λ r57=>
    if (((x74.At==(-1))||(decide (p1_.Cell<r57)))||(decide (p1_.Cell>=((x74.Line.length:Nat):Int))))=true then
     some (0,0,310)
    else
     some (x74.Block,(Ay .i64 x74.At (JI .i64 p1_.Cell r57)),0)
def Dg (n:Nat) (p0_:(List My)) (p1_:Ab) (p3_:VW) (r58:(Int×Int×Int)) (x_50:Bool):Option (JK×Int):=
 if x_50=true then
  (idx p0_ r58.1).bind λ x76=>
  (CP n p1_ x76.Text r58.2.1).bind λ r59=>
  if (r59.2 != 0)=true then
   some (({ Block:=0,At:=0,Cut:=0,Put:=[] }:JK),r59.2)
  else
   (if (!(decide (p3_.Cut<0)))=true then idx p0_ r58.1 else some default).bind λ x77=>
   if ((decide (p3_.Cut<0))||(decide (p3_.Cut>JI .i64 ((x77.Text.length:Nat):Int) r59.1)))=true then
    some (({ Block:=0,At:=0,Cut:=0,Put:=[] }:JK),310)
   else
    some (({ Block:=r58.1,At:=r59.1,Cut:=p3_.Cut,Put:=p3_.Put }:JK),0)
 else
  some (({ Block:=0,At:=0,Cut:=0,Put:=[] }:JK),310)
def Ig (n:Nat) (p0_:(List My)) (p1_:Ab) (p2_:IZ) (p3_:VW):Option (JK×Int):=
 (Nm n p2_ p3_.At).bind λ r58=>
 if (((r58.2.2 != 0)||(decide (r58.1<0)))||(decide (r58.1>=((p0_.length:Nat):Int))))=true then
  some (({ Block:=0,At:=0,Cut:=0,Put:=[] }:JK),310)
 else
  (idx p0_ r58.1).bind λ x75=>
  if (x75.Kind==1)=true then
   Dg n p0_ p1_ p3_ r58 (x75.Kind==1)
  else
   if (x75.Kind==2)=true then
    Dg n p0_ p1_ p3_ r58 (x75.Kind==2)
   else
    Dg n p0_ p1_ p3_ r58 (x75.Kind==4)
def GO (n:Nat) :Option Bool:=
 (If n).bind λ r60=>
 (CP n r60 [97,97,98] 1).bind λ r61=>
 (CP n r60 [97,65] 1).bind λ r62=>
 (CP n r60 [97,65] 2).bind λ r63=>
 (CP n r60 [97,65] 3).bind λ r64=>
 (CP n r60 [97,99] 0).bind λ r65=>
 (CP n r60 [97,9] 0).bind λ r66=>
 (Ig n ([]:List My) r60 ({ Format:=({ Width:=24,Height:=4,Binding:=1 }:Yd),Volumes:=[] }:IZ) ({ Reader:=0,Version:=0,At:=({ Volume:=0,Leaf:=0,Side:=0,Line:=0,Cell:=0 }:Rf),Cut:=0,Put:=[] }:VW)).bind λ r67=>
 some ((((((((((r61.2==0)&&(r62.2==0))&&(r63.2==0))&&(r64.2==310))&&(r65.2==61))&&(r66.2==60))&&(r67.2==310))&&(r61.1==1))&&(r62.1==1))&&(r63.1==1))
def A4 (_:Nat) (p0_:(List UInt8)) (p1_:(List Int)) (p2_:(FE Int)):Option Av:=
 some ({ Print:=p0_,Cells:=p1_,Left:=63,Right:=63,From:=p2_.a0,To:=p2_.a1 }:Av)
def Pp (n:Nat) :Option (List Av):=
 (A4 n [97] [1] ({ a0:=0,a1:=0 }:(FE Int))).bind λ r68=>
 (A4 n [98] [3] ({ a0:=0,a1:=0 }:(FE Int))).bind λ r69=>
 (A4 n [99] [9] ({ a0:=0,a1:=0 }:(FE Int))).bind λ r70=>
 (A4 n [32] [0] ({ a0:=0,a1:=0 }:(FE Int))).bind λ r71=>
 some [r68,r69,r70,r71]
def GG (n:Nat) (p0_:Int) (p1_:Int) (p2_:(FE Int)):Option Av:=
 (A4 n [] [p0_] p2_).bind λ r72=>
 (CH (decide (0<=p1_))).bind λ _=>
 some ({ Print:=r72.Print,Cells:=r72.Cells,Left:=r72.Left,Right:=QU .u8 1 p1_,From:=r72.From,To:=r72.To }:Av)
def Fr (_:Nat) (l_1:(List Av)):Option Ab:=
 some ({ Modes:=1,Accept:=1,Rules:=l_1 }:Ab)
def I2 (n:Nat) (p0_:Int):Option Ab:=
 (Pp n).bind λ r73=>
 if ((Bz p0_ 8)==1)=true then
  (GG n 60 3 ({ a0:=0,a1:=1 }:(FE Int))).bind λ r74=>
  (A4 n [49] [1] ({ a0:=1,a1:=1 }:(FE Int))).bind λ r75=>
  (A4 n [50] [3] ({ a0:=1,a1:=1 }:(FE Int))).bind λ r76=>
  (A4 n [32] [0] ({ a0:=1,a1:=0 }:(FE Int))).bind λ r77=>
  (app 64 r73 [r74,r75,r76,r77]).bind λ l22=>
  some ({ Modes:=2,Accept:=3,Rules:=l22 }:Ab)
 else
  if ((Bz p0_ 8)==2)=true then
   (GG n 32 2 ({ a0:=0,a1:=1 }:(FE Int))).bind λ r78=>
   (A4 n [65] [1] ({ a0:=1,a1:=0 }:(FE Int))).bind λ r79=>
   (A4 n [66] [3] ({ a0:=1,a1:=0 }:(FE Int))).bind λ r80=>
   (app 64 r73 [r78,r79,r80]).bind λ l23=>
   some ({ Modes:=2,Accept:=1,Rules:=l23 }:Ab)
  else
   if ((Bz p0_ 8)==3)=true then
    (A4 n [97,98] [7] ({ a0:=0,a1:=0 }:(FE Int))).bind λ r81=>
    (A4 n [97,98,99] [15] ({ a0:=0,a1:=0 }:(FE Int))).bind λ r82=>
    (A4 n [99,97] [4,4] ({ a0:=0,a1:=0 }:(FE Int))).bind λ r83=>
    (app 64 r73 [r81,r82,r83]).bind λ l24=>
    Fr n l24
   else
    if ((Bz p0_ 8)==4)=true then
     (A4 n [45] [1,3] ({ a0:=0,a1:=0 }:(FE Int))).bind λ r84=>
     (app 64 r73 [r84]).bind λ l25=>
     Fr n l25
    else
     if ((Bz p0_ 8)==5)=true then
      (A4 n [98] [44] ({ a0:=0,a1:=0 }:(FE Int))).bind λ r85=>
      (A4 n [99,97,98] [44] ({ a0:=0,a1:=0 }:(FE Int))).bind λ r86=>
      (A4 n [45] [36] ({ a0:=0,a1:=0 }:(FE Int))).bind λ r87=>
      (app 64 r73 [({ Print:=r85.Print,Cells:=r85.Cells,Left:=17,Right:=r85.Right,From:=r85.From,To:=r85.To }:Av),({ Print:=r86.Print,Cells:=r86.Cells,Left:=2,Right:=r86.Right,From:=r86.From,To:=r86.To }:Av),r87]).bind λ l26=>
      Fr n l26
     else
      if ((Bz p0_ 8)==6)=true then
       (GG n 40 1 ({ a0:=0,a1:=1 }:(FE Int))).bind λ r88=>
       (A4 n [225] [1] ({ a0:=1,a1:=0 }:(FE Int))).bind λ r89=>
       (A4 n [226] [3] ({ a0:=1,a1:=0 }:(FE Int))).bind λ r90=>
       (app 64 r73 [r88,r89,r90]).bind λ l27=>
       some ({ Modes:=2,Accept:=1,Rules:=l27 }:Ab)
      else
       if ((Bz p0_ 8)==7)=true then
        (A4 n [45] [1,5] ({ a0:=0,a1:=0 }:(FE Int))).bind λ r91=>
        (A4 n [49] [5,5] ({ a0:=0,a1:=0 }:(FE Int))).bind λ r92=>
        (A4 n [50] [5,9] ({ a0:=0,a1:=0 }:(FE Int))).bind λ r93=>
        (app 64 r73 [r91,r92,r93]).bind λ l28=>
        Fr n l28
       else
        Fr n r73
def Fs (_:Nat) (p0_:Dd) (out_1:Av) (i_5:Int):Option ((Av×Int)⊕Av):=
 if ((decide (i_5<((p0_.P.length:Nat):Int)))&&(decide (i_5<3)))=true then
  (idx p0_.P i_5).bind λ x80=>
  (sub [97,98,99,65,66,49,50,45,46] (IntKind.i64.wrap (Bz x80 9)) (Ay .i64 (IntKind.i64.wrap (Bz x80 9)) 1)).bind λ s4=>
  (cat out_1.Print s4).bind λ s5=>
  some (.inl (({ Print:=s5,Cells:=out_1.Cells,Left:=out_1.Left,Right:=out_1.Right,From:=out_1.From,To:=out_1.To }:Av),(Ay .i64 i_5 1)))
 else
  some (.inr out_1)
def Ft (_:Nat) (p0_:Dd) (out_3:Av) (i_6:Int):Option ((Av×Int)⊕Av):=
 if ((decide (i_6<((p0_.C.length:Nat):Int)))&&(decide (i_6<2)))=true then
  (idx p0_.C i_6).bind λ x82=>
  (idx [1,3,9,5,7,32,44,60] (Bz x82 8)).bind λ x83=>
  (app 1 out_3.Cells [x83]).bind λ l29=>
  some (.inl (({ Print:=out_3.Print,Cells:=l29,Left:=out_3.Left,Right:=out_3.Right,From:=out_3.From,To:=out_3.To }:Av),(Ay .i64 i_6 1)))
 else
  some (.inr out_3)
def Nn (n:Nat) (p0_:Dd) (p1_:Int):Option Av:=
 (idx [63,63,2,8,17,62,4,1] (Bz p0_.L 8)).bind λ x78=>
 (idx [63,63,2,8,17,62,4,1] (Bz p0_.R 8)).bind λ x79=>
 (CH (!(p1_==0))).bind λ _=>
 (CH (!(p1_==0))).bind λ _=>
 (whl (λ (x:(Av×Int))=>Fs n p0_ x.1 x.2) n (({ Print:=[],Cells:=([]:List Int),Left:=x78,Right:=x79,From:=Bz (IntKind.i64.wrap p0_.W.a0) p1_,To:=Bz (IntKind.i64.wrap p0_.W.a1) p1_ }:Av),0)).bind λ y53=>
 (idx [1,3,9,5,7,32,44,60] (Bz (Jaj .u8 p0_.L 8) 8)).bind λ x81=>
 (whl (λ (x:(Av×Int))=>Ft n p0_ x.1 x.2) n (({ Print:=y53.Print,Cells:=[x81],Left:=y53.Left,Right:=y53.Right,From:=y53.From,To:=y53.To }:Av),0)).bind λ y54=>
 some y54
def IH (_:Nat) (p0_:Int):Option Bool:=
 some ((decide (Cr .u8 p0_ 127>=32))&&(decide (Cr .u8 p0_ 127<=126)))
def Ih (n:Nat) (p0_:(List UInt8)) (i_7:Int):Option (Int⊕(Unit⊕(Int×Int))):=
 if decide (i_7<((p0_.length:Nat):Int))=true then
  (LL p0_ i_7).bind λ b6=>
  (IH n b6).bind λ r94=>
  if (!r94)=true then
   some (.inr (.inr (i_7,60)))
  else
   some (.inl (Ay .i64 i_7 1))
 else
  some (.inr (.inl ()))
def K0 (n:Nat) (p0_:(List UInt8)):Option (Int×Int):=
 (whl (λ (x:Int)=>Ih n p0_ x) n 0).bind λ y55=>
 match y55 with
 | Sum.inl _=>
  some (((p0_.length:Nat):Int),0)
 | Sum.inr y57=>
  some y57
def JL (n:Nat) (p0_:(List UInt8)):Option Bool:=
 (K0 n p0_).bind λ r95=>
 some (r95.2==0)
def Oo (_:Nat) (p0_:Int):Option Bool:=
 some ((Cr .u8 p0_ 127)==32)
def Ey (n:Nat) (p0_:Av) (space_1:Bool) (i_8:Int):Option ((Bool×Int)⊕Bool):=
 if decide (i_8<((p0_.Print.length:Nat):Int))=true then
  (if (!space_1)=true then LL p0_.Print i_8 else some default).bind λ b7=>
  (if (!space_1)=true then Oo n b7 else some default).bind λ r97=>
  some (.inl ((space_1||r97),(Ay .i64 i_8 1)))
 else
  some (.inr space_1)
def Dx (_:Nat) (p0_:Av) (_:Bool) (blank_1:Bool) (i_9:Int):Option ((Bool×Int)⊕(Bool⊕Bool)):=
 if decide (i_9<((p0_.Cells.length:Nat):Int))=true then
  (idx p0_.Cells i_9).bind λ x84=>
  if decide (x84>=63)=true then
   some (.inr (.inr false))
  else
   (if (!blank_1)=true then idx p0_.Cells i_9 else some default).bind λ x85=>
   some (.inl ((blank_1||(x85==0)),(Ay .i64 i_9 1)))
 else
  some (.inr (.inl blank_1))
def LB (n:Nat) (p0_:Av) (p1_:Int):Option Bool:=
 (JL n p0_.Print).bind λ r96=>
 if ((((!r96)||(decide (((p0_.Print.length:Nat):Int)>4)))||(decide (((p0_.Cells.length:Nat):Int)<1)))||(decide (((p0_.Cells.length:Nat):Int)>4)))=true then
  some false
 else
  if ((((((((decide (p0_.Left<1))||(decide (p0_.Left>63)))||(decide (p0_.Right<1)))||(decide (p0_.Right>63)))||(decide (p0_.From<0)))||(decide (p0_.From>=p1_)))||(decide (p0_.To<0)))||(decide (p0_.To>=p1_)))=true then
   some false
  else
   (whl (λ (x:(Bool×Int))=>Ey n p0_ x.1 x.2) n (false,0)).bind λ y58=>
   (whl (λ (x:(Bool×Int))=>Dx n p0_ y58 x.1 x.2) n (false,0)).bind λ y59=>
   match y59 with
   | Sum.inl y60=>
    if (!y58)=true then
     some (!y60)
    else
     some (((((p0_.Print.length:Nat):Int)==1)&&(((p0_.Cells.length:Nat):Int)==1))&&y60)
   | Sum.inr y61=>
    some y61
def Ez (_:Nat) (p0_:(List Int)) (p1_:(List Int)) (i_10:Int):Option (Int⊕(Unit⊕Bool)):=
 if decide (i_10<((p0_.length:Nat):Int))=true then
  (idx p0_ i_10).bind λ x86=>
  (idx p1_ i_10).bind λ x87=>
  if (x86 != x87)=true then
   some (.inr (.inr false))
  else
   some (.inl (Ay .i64 i_10 1))
 else
  some (.inr (.inl ()))
def GH (n:Nat) (p0_:(List Int)) (p1_:(List Int)):Option Bool:=
 if (((p0_.length:Nat):Int) != ((p1_.length:Nat):Int))=true then
  some false
 else
  (whl (λ (x:Int)=>Ez n p0_ p1_ x) n 0).bind λ y62=>
  match y62 with
  | Sum.inl _=>
   some true
  | Sum.inr y64=>
   some y64
def Hi (n:Nat) (p0_:Av) (p1_:Av):Option Bool:=
 (if (p0_.Print==p1_.Print)=true then GH n p0_.Cells p1_.Cells else some default).bind λ r98=>
 some ((((((p0_.Print==p1_.Print)&&r98)&&(p0_.Left==p1_.Left))&&(p0_.Right==p1_.Right))&&(p0_.From==p1_.From))&&(p0_.To==p1_.To))
def FM (n:Nat) (p0_:Ab) (i_11:Int) (k_2:Int):Option (Int⊕(Unit⊕(Int×Int))):=
 if decide (k_2<i_11)=true then
  (idx p0_.Rules k_2).bind λ x89=>
  (idx p0_.Rules i_11).bind λ x90=>
  (Hi n x89 x90).bind λ r100=>
  if r100=true then
   some (.inr (.inr (i_11,20)))
  else
   some (.inl (Ay .i64 k_2 1))
 else
  some (.inr (.inl ()))
def FN (n:Nat) (p0_:Ab) (i_11:Int):Option (Int⊕(Unit⊕(Int×Int))):=
 if decide (i_11<((p0_.Rules.length:Nat):Int))=true then
  (idx p0_.Rules i_11).bind λ x88=>
  (LB n x88 p0_.Modes).bind λ r99=>
  if (!r99)=true then
   some (.inr (.inr (i_11,20)))
  else
   (whl (λ (x:Int)=>FM n p0_ i_11 x) n 0).bind λ y65=>
   match y65 with
   | Sum.inl _=>
    some (.inl (Ay .i64 i_11 1))
   | Sum.inr y67=>
    some (.inr (.inr y67))
 else
  some (.inr (.inl ()))
def LC (n:Nat) (p0_:Ab):Option (Int×Int):=
 (if (!(((decide (p0_.Modes<1))||(decide (p0_.Modes>8)))||(p0_.Accept==0)))=true then CH (decide (0<=p0_.Modes)) else some default).bind λ _=>
 if ((((((decide (p0_.Modes<1))||(decide (p0_.Modes>8)))||(p0_.Accept==0))||(decide (IntKind.i64.wrap p0_.Accept>=QU .i64 1 p0_.Modes)))||(decide (((p0_.Rules.length:Nat):Int)<1)))||(decide (((p0_.Rules.length:Nat):Int)>64)))=true then
  some ((-1),1)
 else
  (whl (λ (x:Int)=>FN n p0_ x) n 0).bind λ y68=>
  match y68 with
  | Sum.inl _=>
   some (0,0)
  | Sum.inr y70=>
   some y70
def Oq (n:Nat) (p0_:Ab):Option Bool:=
 (LC n p0_).bind λ r101=>
 some (r101.2==0)
def GP (_:Nat) (i_12:Int) (t_5:Ab):Option ((Ab×Int)⊕Ab):=
 some (.inl (t_5,(Ay .i64 i_12 1)))
def Fu (n:Nat) (p0_:KZ) (r102:Ab) (t_3:Ab) (i_12:Int):Option ((Ab×Int)⊕Ab):=
 if decide (i_12<((r102.Rules.length:Nat):Int))=true then
  (CH (decide (0<=i_12))).bind λ _=>
  if ((Cr .u8 (QV .u8 p0_.Drop i_12) 1)==0)=true then
   (idx r102.Rules i_12).bind λ x91=>
   (app 64 t_3.Rules [x91]).bind λ l30=>
   GP n i_12 ({ Modes:=t_3.Modes,Accept:=t_3.Accept,Rules:=l30 }:Ab)
  else
   GP n i_12 t_3
 else
  some (.inr t_3)
def GQ (_:Nat) (i_13:Int) (t_8:Ab):Option ((Ab×Int)⊕Ab):=
 some (.inl (t_8,(Ay .i64 i_13 1)))
def Fv (n:Nat) (p0_:KZ) (_:Ab) (t_6:Ab) (i_13:Int):Option ((Ab×Int)⊕Ab):=
 if ((decide (i_13<((p0_.More.length:Nat):Int)))&&(decide (i_13<2)))=true then
  (idx p0_.More i_13).bind λ x92=>
  (Nn n x92 t_6.Modes).bind λ r103=>
  (app 64 t_6.Rules [r103]).bind λ l31=>
  (Oq n ({ Modes:=t_6.Modes,Accept:=t_6.Accept,Rules:=l31 }:Ab)).bind λ r104=>
  if (!r104)=true then
   (sub l31 0 (JI .i64 ((l31.length:Nat):Int) 1)).bind λ l32=>
   GQ n i_13 ({ Modes:=t_6.Modes,Accept:=t_6.Accept,Rules:=l32 }:Ab)
  else
   GQ n i_13 ({ Modes:=t_6.Modes,Accept:=t_6.Accept,Rules:=l31 }:Ab)
 else
  some (.inr t_6)
def GS (_:Nat) (t_9:Ab):Option Ab:=
 some t_9
def I3 (n:Nat) (p0_:KZ):Option Ab:=
 (I2 n p0_.Base).bind λ r102=>
 (whl (λ (x:(Ab×Int))=>Fu n p0_ r102 x.1 x.2) n (({ Modes:=r102.Modes,Accept:=r102.Accept,Rules:=([]:List Av) }:Ab),0)).bind λ y71=>
 (whl (λ (x:(Ab×Int))=>Fv n p0_ r102 x.1 x.2) n (y71,0)).bind λ y72=>
 if (((y72.Rules.length:Nat):Int)==0)=true then
  GS n ({ Modes:=y72.Modes,Accept:=y72.Accept,Rules:=r102.Rules }:Ab)
 else
  GS n y72
def I4 (_:Nat) :Option Aa:=
 some ({ Mode:=0,Last:=0,Need:=63 }:Aa)
def Ii (_:Nat) (p0_:Int) (p1_:Int):Option Bool:=
 (if ((decide (p1_>=0))&&(decide (p1_<8)))=true then CH (decide (0<=p1_)) else some default).bind λ _=>
 some (((decide (p1_>=0))&&(decide (p1_<8)))&&((Cr .u8 (QV .u8 p0_ p1_) 1)==1))
def Hz (_:Nat) (p0_:Int):Option Int:=
 if ((decide (Cr .u8 p0_ 127>=97))&&(decide (Cr .u8 p0_ 127<=122)))=true then
  some 1
 else
  if ((decide (Cr .u8 p0_ 127>=65))&&(decide (Cr .u8 p0_ 127<=90)))=true then
   some 2
  else
   if ((decide (Cr .u8 p0_ 127>=48))&&(decide (Cr .u8 p0_ 127<=57)))=true then
    some 3
   else
    if ((Cr .u8 p0_ 127)==32)=true then
     some 4
    else
     some 5
def Dh (n:Nat) (p0_:Ab) (p1_:Aa) (p2_:Int):Option (Aa×Bool):=
 if ((decide (p2_<0))||(decide (p2_>=((p0_.Rules.length:Nat):Int))))=true then
  some (({ Mode:=0,Last:=0,Need:=0 }:Aa),false)
 else
  (idx p0_.Rules p2_).bind λ x95=>
  (if (!(x95.From != p1_.Mode))=true then Ii n x95.Left p1_.Last else some default).bind λ r105=>
  if ((x95.From != p1_.Mode)||(!r105))=true then
   some (({ Mode:=0,Last:=0,Need:=0 }:Aa),false)
  else
   if ((((x95.Print.length:Nat):Int)==0)&&((Cr .u8 p1_.Need x95.Right)==0))=true then
    some (({ Mode:=0,Last:=0,Need:=0 }:Aa),false)
   else
    if (((x95.Print.length:Nat):Int)==0)=true then
     some (({ Mode:=x95.To,Last:=p1_.Last,Need:=Cr .u8 p1_.Need x95.Right }:Aa),true)
    else
     (LL x95.Print 0).bind λ b8=>
     (Hz n b8).bind λ r106=>
     (Ii n p1_.Need r106).bind λ r107=>
     if (!r107)=true then
      some (({ Mode:=0,Last:=0,Need:=0 }:Aa),false)
     else
      (LL x95.Print (JI .i64 ((x95.Print.length:Nat):Int) 1)).bind λ b9=>
      (Hz n b9).bind λ r108=>
      some (({ Mode:=x95.To,Last:=r108,Need:=x95.Right }:Aa),true)
def Dy (_:Nat) (p0_:(List Aa)) (p1_:Aa) (i_15:Int):Option (Int⊕(Unit⊕Int)):=
 if decide (i_15<((p0_.length:Nat):Int))=true then
  (idx p0_ i_15).bind λ x96=>
  if ((x96.Mode==p1_.Mode)&&((x96.Last==p1_.Last)&&((x96.Need==p1_.Need)&&true)))=true then
   some (.inr (.inr i_15))
  else
   some (.inl (Ay .i64 i_15 1))
 else
  some (.inr (.inl ()))
def CZ (n:Nat) (p0_:(List Aa)) (p1_:Aa):Option Int:=
 (whl (λ (x:Int)=>Dy n p0_ p1_ x) n 0).bind λ y74=>
 match y74 with
 | Sum.inl _=>
  some (-1)
 | Sum.inr y76=>
  some y76
def EV (_:Nat) (k_3:Int) (out_12:(List Aa)):Option (((List Aa)×Int)⊕(List Aa)):=
 some (.inl (out_12,(Ay .i64 k_3 1)))
def DS (n:Nat) (p0_:Ab) (i_16:Int) (out_10:(List Aa)) (k_3:Int):Option (((List Aa)×Int)⊕(List Aa)):=
 if decide (k_3<((p0_.Rules.length:Nat):Int))=true then
  (idx out_10 i_16).bind λ x97=>
  (Dh n p0_ x97 k_3).bind λ r110=>
  (if r110.2=true then CZ n out_10 r110.1 else some default).bind λ r111=>
  if (r110.2&&(decide (r111<0)))=true then
   (app 24 out_10 [r110.1]).bind λ l33=>
   EV n k_3 l33
  else
   EV n k_3 out_10
 else
  some (.inr out_10)
def EW (n:Nat) (p0_:Ab) (out_8:(List Aa)) (i_16:Int):Option (((List Aa)×Int)⊕(List Aa)):=
 if decide (i_16<((out_8.length:Nat):Int))=true then
  (whl (λ (x:((List Aa)×Int))=>DS n p0_ i_16 x.1 x.2) n (out_8,0)).bind λ y77=>
  some (.inl (y77,(Ay .i64 i_16 1)))
 else
  some (.inr out_8)
def Dz (n:Nat) (p0_:Ab):Option (List Aa):=
 (I4 n).bind λ r109=>
 (whl (λ (x:((List Aa)×Int))=>EW n p0_ x.1 x.2) n ([r109],0)).bind λ y78=>
 some y78
def Dp (n:Nat) (p0_:Ab) (p1_:Aa):Option Bool:=
 (if ((decide (p1_.Mode>=0))&&(decide (p1_.Mode<p0_.Modes)))=true then Ii n p0_.Accept p1_.Mode else some default).bind λ r112=>
 (if (((decide (p1_.Mode>=0))&&(decide (p1_.Mode<p0_.Modes)))&&r112)=true then Ii n p1_.Need 0 else some default).bind λ r113=>
 some ((((decide (p1_.Mode>=0))&&(decide (p1_.Mode<p0_.Modes)))&&r112)&&r113)
def HM (_:Nat) (p0_:(List UInt8)) (p1_:Int) (p2_:(List UInt8)):Option Bool:=
 (if decide (Ay .i64 p1_ ((p2_.length:Nat):Int)<=((p0_.length:Nat):Int))=true then sub p0_ p1_ (Ay .i64 p1_ ((p2_.length:Nat):Int)) else some default).bind λ s7=>
 some ((decide (Ay .i64 p1_ ((p2_.length:Nat):Int)<=((p0_.length:Nat):Int)))&&(s7==p2_))
def Gu (n:Nat) (p0_:Ab) (p1_:AO) (p2_:Int) (p3_:(List (List Int))):Option Int:=
 (Dh n p0_ p1_.State p2_).bind λ r114=>
 (if (!(!r114.2))=true then idx p0_.Rules p2_ else some default).bind λ x98=>
 (if (!(!r114.2))=true then HM n p1_.S p1_.I x98.Print else some default).bind λ r115=>
 if ((!r114.2)||(!r115))=true then
  some (-1)
 else
  (idx p0_.Rules p2_).bind λ x99=>
  (idx p3_ (Ay .i64 p1_.I ((x99.Print.length:Nat):Int))).bind λ x100=>
  (CZ n p1_.L r114.1).bind λ r116=>
  (idx x100 r116).bind λ x101=>
  if decide (x101<0)=true then
   some (-1)
  else
   (idx p0_.Rules p2_).bind λ x102=>
   some (Ay .i64 x101 ((x102.Cells.length:Nat):Int))
def LD (_:Nat) (p0_:Int) (p1_:Int):Option Int:=
 if ((decide (p0_<0))||((decide (p1_>=0))&&(decide (p1_<p0_))))=true then
  some p1_
 else
  some p0_
def DF (_:Nat) (k_4:Int) (out_17:(List (List Int))):Option (((List (List Int))×Int)⊕(List (List Int))):=
 some (.inl (out_17,(Ay .i64 k_4 1)))
def C0 (n:Nat) (p0_:Ab) (p1_:(List UInt8)) (r117:(List Aa)) (i_17:Int) (out_15:(List (List Int))) (k_4:Int):Option (((List (List Int))×Int)⊕(List (List Int))):=
 if decide (k_4<((r117.length:Nat):Int))=true then
  (idx out_15 i_17).bind λ x104=>
  (idx x104 k_4).bind λ _=>
  (put x104 k_4 (-1)).bind λ l36=>
  (if (i_17==((p1_.length:Nat):Int))=true then idx r117 k_4 else some default).bind λ x106=>
  (if (i_17==((p1_.length:Nat):Int))=true then Dp n p0_ x106 else some default).bind λ r118=>
  if ((i_17==((p1_.length:Nat):Int))&&r118)=true then
   (idx (List.set out_15 i_17.toNat l36) i_17).bind λ x107=>
   (idx x107 k_4).bind λ _=>
   (put x107 k_4 0).bind λ l37=>
   DF n k_4 (List.set (List.set out_15 i_17.toNat l36) i_17.toNat l37)
  else
   DF n k_4 (List.set out_15 i_17.toNat l36)
 else
  some (.inr out_15)
def DG (_:Nat) (r_3:Int) (out_24:(List (List Int))) (changed_6:Bool):Option (((List (List Int))×Bool×Int)⊕((List (List Int))×Bool)):=
 some (.inl (out_24,changed_6,(Ay .i64 r_3 1)))
def C1 (n:Nat) (p0_:Ab) (p1_:(List UInt8)) (r117:(List Aa)) (i_17:Int) (k_5:Int) (out_22:(List (List Int))) (changed_4:Bool) (r_3:Int):Option (((List (List Int))×Bool×Int)⊕((List (List Int))×Bool)):=
 if decide (r_3<((p0_.Rules.length:Nat):Int))=true then
  (idx r117 k_5).bind λ x109=>
  (Gu n p0_ ({ S:=p1_,I:=i_17,State:=x109,L:=r117 }:AO) r_3 out_22).bind λ r119=>
  (if decide (r119>=0)=true then idx out_22 i_17 else some default).bind λ _=>
  (if decide (r119>=0)=true then idx (List.getD out_22 i_17.toNat []) k_5 else some default).bind λ x111=>
  (if decide (r119>=0)=true then LD n x111 r119 else some default).bind λ r120=>
  (if decide (r119>=0)=true then idx out_22 i_17 else some default).bind λ _=>
  (if decide (r119>=0)=true then idx (List.getD out_22 i_17.toNat []) k_5 else some default).bind λ x113=>
  if ((decide (r119>=0))&&(r120 != x113))=true then
   (idx (List.set out_22 i_17.toNat (List.getD out_22 i_17.toNat [])) i_17).bind λ x114=>
   (idx x114 k_5).bind λ _=>
   (put x114 k_5 r119).bind λ l38=>
   DG n r_3 (List.set (List.set out_22 i_17.toNat (List.getD out_22 i_17.toNat [])) i_17.toNat l38) true
  else
   DG n r_3 (List.set out_22 i_17.toNat (List.getD out_22 i_17.toNat [])) changed_4
 else
  some (.inr (out_22,changed_4))
def C2 (n:Nat) (p0_:Ab) (p1_:(List UInt8)) (r117:(List Aa)) (i_17:Int) (out_20:(List (List Int))) (changed_2:Bool) (k_5:Int):Option (((List (List Int))×Bool×Int)⊕((List (List Int))×Bool)):=
 if decide (k_5<((r117.length:Nat):Int))=true then
  (whl (λ (x:((List (List Int))×Bool×Int))=>C1 n p0_ p1_ r117 i_17 k_5 x.1 x.2.1 x.2.2) n (out_20,changed_2,0)).bind λ y80=>
  some (.inl (y80.1,y80.2,(Ay .i64 k_5 1)))
 else
  some (.inr (out_20,changed_2))
def DH (n:Nat) (p0_:Ab) (p1_:(List UInt8)) (r117:(List Aa)) (i_17:Int) (out_18:(List (List Int))) (changed_1:Bool):Option (((List (List Int))×Bool)⊕(List (List Int))):=
 if changed_1=true then
  (whl (λ (x:((List (List Int))×Bool×Int))=>C2 n p0_ p1_ r117 i_17 x.1 x.2.1 x.2.2) n (out_18,false,0)).bind λ y81=>
  some (.inl (y81.1,y81.2))
 else
  some (.inr out_18)
def E6 (n:Nat) (p0_:Ab) (p1_:(List UInt8)) (r117:(List Aa)) (out_13:(List (List Int))) (i_17:Int):Option (((List (List Int))×Int)⊕(List (List Int))):=
 if decide (i_17>=0)=true then
  (idx out_13 i_17).bind λ _=>
  (mkl 8 ((r117.length:Nat):Int) (0:Int)).bind λ l35=>
  (whl (λ (x:((List (List Int))×Int))=>C0 n p0_ p1_ r117 i_17 x.1 x.2) n ((List.set out_13 i_17.toNat l35),0)).bind λ y79=>
  (whl (λ (x:((List (List Int))×Bool))=>DH n p0_ p1_ r117 i_17 x.1 x.2) n (y79,true)).bind λ y82=>
  some (.inl (y82,(JI .i64 i_17 1)))
 else
  some (.inr out_13)
def Hj (n:Nat) (p0_:Ab) (p1_:(List UInt8)):Option (List (List Int)):=
 (Dz n p0_).bind λ r117=>
 (mkl 24 (Ay .i64 ((p1_.length:Nat):Int) 1) ([]:(List Int))).bind λ l34=>
 (whl (λ (x:((List (List Int))×Int))=>E6 n p0_ p1_ r117 x.1 x.2) n (l34,((p1_.length:Nat):Int))).bind λ y83=>
 some y83
def Ee (_:Nat) (_:Ab) (p1_:(List UInt8)) (r121:(List Aa)) (at_2:(List (List Bool))) (i_18:Int):Option (((List (List Bool))×Int)⊕(List (List Bool))):=
 if decide (i_18<=((p1_.length:Nat):Int))=true then
  (idx at_2 i_18).bind λ _=>
  (mkl 1 ((r121.length:Nat):Int) (false:Bool)).bind λ l40=>
  some (.inl ((List.set at_2 i_18.toNat l40),(Ay .i64 i_18 1)))
 else
  some (.inr at_2)
def Ef (_:Nat) (r_4:Int) (at_11:(List (List Bool))) (changed_12:Bool):Option (((List (List Bool))×Bool×Int)⊕((List (List Bool))×Bool)):=
 some (.inl (at_11,changed_12,(Ay .i64 r_4 1)))
def Di (n:Nat) (p0_:Ab) (p1_:(List UInt8)) (r121:(List Aa)) (_:Int) (i_19:Int) (k_6:Int) (at_9:(List (List Bool))) (changed_10:Bool) (r_4:Int):Option (((List (List Bool))×Bool×Int)⊕((List (List Bool))×Bool)):=
 (if decide (r_4<((p0_.Rules.length:Nat):Int))=true then idx at_9 i_19 else some default).bind λ _=>
 (if decide (r_4<((p0_.Rules.length:Nat):Int))=true then idx (List.getD at_9 i_19.toNat []) k_6 else some default).bind λ x120=>
 if ((decide (r_4<((p0_.Rules.length:Nat):Int)))&&x120)=true then
  (idx r121 k_6).bind λ x121=>
  (Dh n p0_ x121 r_4).bind λ r122=>
  (idx p0_.Rules r_4).bind λ x122=>
  (if r122.2=true then idx p0_.Rules r_4 else some default).bind λ x123=>
  (if r122.2=true then HM n p1_ i_19 x123.Print else some default).bind λ r123=>
  (if (r122.2&&r123)=true then idx (List.set at_9 i_19.toNat (List.getD at_9 i_19.toNat [])) (Ay .i64 i_19 ((x122.Print.length:Nat):Int)) else some default).bind λ _=>
  (if (r122.2&&r123)=true then CZ n r121 r122.1 else some default).bind λ r124=>
  (if (r122.2&&r123)=true then idx (List.getD (List.set at_9 i_19.toNat (List.getD at_9 i_19.toNat [])) (Int.toNat (Ay .i64 i_19 ((x122.Print.length:Nat):Int))) []) r124 else some default).bind λ x125=>
  if ((r122.2&&r123)&&(!x125))=true then
   (idx (List.set (List.set at_9 i_19.toNat (List.getD at_9 i_19.toNat [])) (Int.toNat (Ay .i64 i_19 ((x122.Print.length:Nat):Int))) (List.getD (List.set at_9 i_19.toNat (List.getD at_9 i_19.toNat [])) (Int.toNat (Ay .i64 i_19 ((x122.Print.length:Nat):Int))) [])) (Ay .i64 i_19 ((x122.Print.length:Nat):Int))).bind λ x126=>
   (CZ n r121 r122.1).bind λ r125=>
   (idx x126 r125).bind λ _=>
   (put x126 r125 true).bind λ l42=>
   Ef n r_4 (List.set (List.set (List.set at_9 i_19.toNat (List.getD at_9 i_19.toNat [])) (Int.toNat (Ay .i64 i_19 ((x122.Print.length:Nat):Int))) (List.getD (List.set at_9 i_19.toNat (List.getD at_9 i_19.toNat [])) (Int.toNat (Ay .i64 i_19 ((x122.Print.length:Nat):Int))) [])) (Int.toNat (Ay .i64 i_19 ((x122.Print.length:Nat):Int))) l42) true
  else
   Ef n r_4 (List.set (List.set at_9 i_19.toNat (List.getD at_9 i_19.toNat [])) (Int.toNat (Ay .i64 i_19 ((x122.Print.length:Nat):Int))) (List.getD (List.set at_9 i_19.toNat (List.getD at_9 i_19.toNat [])) (Int.toNat (Ay .i64 i_19 ((x122.Print.length:Nat):Int))) [])) changed_10
 else
  some (.inr ((List.set at_9 i_19.toNat (List.getD at_9 i_19.toNat [])),changed_10))
def Dj (n:Nat) (p0_:Ab) (p1_:(List UInt8)) (r121:(List Aa)) (out_25:Int) (i_19:Int) (at_7:(List (List Bool))) (changed_8:Bool) (k_6:Int):Option (((List (List Bool))×Bool×Int)⊕((List (List Bool))×Bool)):=
 if decide (k_6<((r121.length:Nat):Int))=true then
  (whl (λ (x:((List (List Bool))×Bool×Int))=>Di n p0_ p1_ r121 out_25 i_19 k_6 x.1 x.2.1 x.2.2) n (at_7,changed_8,0)).bind λ y85=>
  some (.inl (y85.1,y85.2,(Ay .i64 k_6 1)))
 else
  some (.inr (at_7,changed_8))
def Eg (n:Nat) (p0_:Ab) (p1_:(List UInt8)) (r121:(List Aa)) (out_25:Int) (i_19:Int) (at_5:(List (List Bool))) (changed_7:Bool):Option (((List (List Bool))×Bool)⊕(List (List Bool))):=
 if changed_7=true then
  (whl (λ (x:((List (List Bool))×Bool×Int))=>Dj n p0_ p1_ r121 out_25 i_19 x.1 x.2.1 x.2.2) n (at_5,false,0)).bind λ y86=>
  some (.inl (y86.1,y86.2))
 else
  some (.inr at_5)
def Eh (_:Nat) (k_7:Int) (at_14:(List (List Bool))) (out_29:Int):Option (((List (List Bool))×Int×Int)⊕((List (List Bool))×Int)):=
 some (.inl (at_14,out_29,(Ay .i64 k_7 1)))
def Dk (n:Nat) (_:Ab) (_:(List UInt8)) (r121:(List Aa)) (i_19:Int) (class_2:Int) (at_12:(List (List Bool))) (out_27:Int) (k_7:Int):Option (((List (List Bool))×Int×Int)⊕((List (List Bool))×Int)):=
 if decide (k_7<((r121.length:Nat):Int))=true then
  (idx at_12 i_19).bind λ x128=>
  (idx x128 k_7).bind λ x129=>
  (if x129=true then idx r121 k_7 else some default).bind λ x130=>
  (if x129=true then Ii n x130.Need class_2 else some default).bind λ r126=>
  if (x129&&r126)=true then
   Eh n k_7 (List.set at_12 i_19.toNat x128) i_19
  else
   Eh n k_7 (List.set at_12 i_19.toNat x128) out_27
 else
  some (.inr (at_12,out_27))
def Ei (n:Nat) (p0_:Ab) (p1_:(List UInt8)) (r121:(List Aa)) (out_25:Int) (i_19:Int) (y87:(List (List Bool))) (class_2:Int):Option (((List (List Bool))×Int×Int)⊕Int):=
 (whl (λ (x:((List (List Bool))×Int×Int))=>Dk n p0_ p1_ r121 i_19 class_2 x.1 x.2.1 x.2.2) n (y87,out_25,0)).bind λ y88=>
 some (.inl (y88.1,y88.2,(Ay .i64 i_19 1)))
def Ej (n:Nat) (p0_:Ab) (p1_:(List UInt8)) (r121:(List Aa)) (at_4:(List (List Bool))) (out_25:Int) (i_19:Int):Option (((List (List Bool))×Int×Int)⊕Int):=
 if decide (i_19<=((p1_.length:Nat):Int))=true then
  (whl (λ (x:((List (List Bool))×Bool))=>Eg n p0_ p1_ r121 out_25 i_19 x.1 x.2) n (at_4,true)).bind λ y87=>
  if decide (i_19<((p1_.length:Nat):Int))=true then
   (LL p1_ i_19).bind λ b10=>
   (Hz n b10).bind λ r127=>
   Ei n p0_ p1_ r121 out_25 i_19 y87 r127
  else
   Ei n p0_ p1_ r121 out_25 i_19 y87 0
 else
  some (.inr out_25)
def Ij (n:Nat) (p0_:Ab) (p1_:(List UInt8)):Option Int:=
 (Dz n p0_).bind λ r121=>
 (mkl 24 (Ay .i64 ((p1_.length:Nat):Int) 1) ([]:(List Bool))).bind λ l39=>
 (whl (λ (x:((List (List Bool))×Int))=>Ee n p0_ p1_ r121 x.1 x.2) n (l39,0)).bind λ y84=>
 (idx y84 0).bind λ x117=>
 (idx x117 0).bind λ _=>
 (put x117 0 true).bind λ l41=>
 (whl (λ (x:((List (List Bool))×Int×Int))=>Ej n p0_ p1_ r121 x.1 x.2.1 x.2.2) n ((List.set y84 (Int.toNat 0) l41),0,0)).bind λ y89=>
 some y89
def EA (n:Nat) (p0_:Ab) (r129:(List (List Int))) (_:(List Aa)) (_:Bq) (p_1:AO) (x136:Int) (r_5:Int):Option (Int⊕Int):=
 (Gu n p0_ p_1 r_5 r129).bind λ r135=>
 if (r135 != x136)=true then
  some (.inl (Ay .i64 r_5 1))
 else
  some (.inr r_5)
def Hk (n:Nat) (p0_:Ab) (r129:(List (List Int))) (r131:(List Aa)) (out_30:Bq) (p_1:AO):Option ((Bq×AO)⊕Bq):=
 (idx r129 p_1.I).bind λ x133=>
 (CZ n r131 p_1.State).bind λ r133=>
 (idx x133 r133).bind λ x134=>
 if decide (x134>0)=true then
  (idx r129 p_1.I).bind λ x135=>
  (CZ n r131 p_1.State).bind λ r134=>
  (idx x135 r134).bind λ x136=>
  (whl (λ (x:Int)=>EA n p0_ r129 r131 out_30 p_1 x136 x) n 0).bind λ y90=>
  (app 8 out_30.W.Path [y90]).bind λ l43=>
  (idx p0_.Rules y90).bind λ x137=>
  (app 1 out_30.W.Cells x137.Cells).bind λ l44=>
  (Dh n p0_ p_1.State y90).bind λ r136=>
  (idx p0_.Rules y90).bind λ x138=>
  some (.inl (({ W:=({ Cells:=l44,Path:=l43 }:AS),At:=out_30.At,E:=out_30.E }:Bq),({ S:=p_1.S,I:=Ay .i64 p_1.I ((x138.Print.length:Nat):Int),State:=r136.1,L:=p_1.L }:AO)))
 else
  some (.inr out_30)
def LE (n:Nat) (p0_:Ab) (p1_:(List UInt8)):Option Bq:=
 (K0 n p1_).bind λ r128=>
 if (r128.2 != 0)=true then
  some ({ W:=({ Cells:=[],Path:=[] }:AS),At:=r128.1,E:=r128.2 }:Bq)
 else
  (Hj n p0_ p1_).bind λ r129=>
  (idx r129 0).bind λ x131=>
  (idx x131 0).bind λ x132=>
  if decide (x132<0)=true then
   (Ij n p0_ p1_).bind λ r130=>
   some ({ W:=({ Cells:=[],Path:=[] }:AS),At:=r130,E:=61 }:Bq)
  else
   (Dz n p0_).bind λ r131=>
   (I4 n).bind λ r132=>
   (whl (λ (x:(Bq×AO))=>Hk n p0_ r129 r131 x.1 x.2) n (({ W:=({ Cells:=([]:List Int),Path:=([]:List Int) }:AS),At:=((p1_.length:Nat):Int),E:=0 }:Bq),({ S:=p1_,I:=0,State:=r132,L:=r131 }:AO))).bind λ y91=>
   some y91
def EB (n:Nat) (p0_:Ab) (r143:(List Aa)) (out_32:(List Bool)) (i_22:Int):Option (((List Bool)×Int)⊕(List Bool)):=
 if decide (i_22<((r143.length:Nat):Int))=true then
  (idx r143 i_22).bind λ x144=>
  (Dp n p0_ x144).bind λ r144=>
  (app 1 out_32 [r144]).bind λ l46=>
  some (.inl (l46,(Ay .i64 i_22 1)))
 else
  some (.inr out_32)
def FO (_:Nat) (k_8:Int) (out_40:(List Bool)) (grown_6:Bool):Option (((List Bool)×Bool×Int)⊕((List Bool)×Bool)):=
 some (.inl (out_40,grown_6,(Ay .i64 k_8 1)))
def C7 (n:Nat) (p0_:Ab) (r143:(List Aa)) (i_23:Int) (out_38:(List Bool)) (grown_4:Bool) (k_8:Int):Option (((List Bool)×Bool×Int)⊕((List Bool)×Bool)):=
 (if decide (k_8<((p0_.Rules.length:Nat):Int))=true then idx out_38 i_23 else some default).bind λ x145=>
 if ((decide (k_8<((p0_.Rules.length:Nat):Int)))&&(!x145))=true then
  (idx r143 i_23).bind λ x146=>
  (Dh n p0_ x146 k_8).bind λ r145=>
  (if r145.2=true then CZ n r143 r145.1 else some default).bind λ r146=>
  (if r145.2=true then idx out_38 r146 else some default).bind λ x147=>
  if (r145.2&&x147)=true then
   (idx out_38 i_23).bind λ _=>
   (put out_38 i_23 true).bind λ l47=>
   FO n k_8 l47 true
  else
   FO n k_8 out_38 grown_4
 else
  some (.inr (out_38,grown_4))
def EC (n:Nat) (p0_:Ab) (r143:(List Aa)) (out_36:(List Bool)) (grown_2:Bool) (i_23:Int):Option (((List Bool)×Bool×Int)⊕((List Bool)×Bool)):=
 if decide (i_23<((r143.length:Nat):Int))=true then
  (whl (λ (x:((List Bool)×Bool×Int))=>C7 n p0_ r143 i_23 x.1 x.2.1 x.2.2) n (out_36,grown_2,0)).bind λ y102=>
  some (.inl (y102.1,y102.2,(Ay .i64 i_23 1)))
 else
  some (.inr (out_36,grown_2))
def Hl (n:Nat) (p0_:Ab) (r143:(List Aa)) (out_34:(List Bool)) (grown_1:Bool):Option (((List Bool)×Bool)⊕(List Bool)):=
 if grown_1=true then
  (whl (λ (x:((List Bool)×Bool×Int))=>EC n p0_ r143 x.1 x.2.1 x.2.2) n (out_34,false,0)).bind λ y103=>
  some (.inl (y103.1,y103.2))
 else
  some (.inr out_34)
def LF (n:Nat) (p0_:Ab):Option (List Bool):=
 (Dz n p0_).bind λ r143=>
 (whl (λ (x:((List Bool)×Int))=>EB n p0_ r143 x.1 x.2) n (([]:List Bool),0)).bind λ y101=>
 (whl (λ (x:((List Bool)×Bool))=>Hl n p0_ r143 x.1 x.2) n (y101,true)).bind λ y104=>
 some y104
def Fw (n:Nat) (p0_:Ab) (r147:(List Aa)) (out_41:(List Int)) (near_1:(List Bool)) (i_24:Int):Option (((List Int)×(List Bool)×Int)⊕((List Int)×(List Bool))):=
 if decide (i_24<((r147.length:Nat):Int))=true then
  (app 8 out_41 [(-1)]).bind λ l48=>
  (idx r147 i_24).bind λ x149=>
  (Dp n p0_ x149).bind λ r148=>
  (app 1 near_1 [r148]).bind λ l49=>
  some (.inl (l48,l49,(Ay .i64 i_24 1)))
 else
  some (.inr (out_41,near_1))
def GT (_:Nat) (k_9:Int) (out_49:(List Int)) (ring_5:(List Bool)) (grown_12:Bool):Option (((List Int)×(List Bool)×Bool×Int)⊕((List Int)×(List Bool)×Bool)):=
 some (.inl (out_49,ring_5,grown_12,(Ay .i64 k_9 1)))
def Fx (n:Nat) (p0_:Ab) (r147:(List Aa)) (near_3:(List Bool)) (i_25:Int) (out_47:(List Int)) (ring_3:(List Bool)) (grown_10:Bool) (k_9:Int):Option (((List Int)×(List Bool)×Bool×Int)⊕((List Int)×(List Bool)×Bool)):=
 (if decide (k_9<((p0_.Rules.length:Nat):Int))=true then idx ring_3 i_25 else some default).bind λ x150=>
 if ((decide (k_9<((p0_.Rules.length:Nat):Int)))&&(!x150))=true then
  (idx r147 i_25).bind λ x151=>
  (Dh n p0_ x151 k_9).bind λ r149=>
  (if r149.2=true then CZ n r147 r149.1 else some default).bind λ r150=>
  (if r149.2=true then idx near_3 r150 else some default).bind λ x152=>
  if (r149.2&&x152)=true then
   (idx ring_3 i_25).bind λ _=>
   (put ring_3 i_25 true).bind λ l51=>
   (idx out_47 i_25).bind λ _=>
   (put out_47 i_25 k_9).bind λ l52=>
   GT n k_9 l52 l51 true
  else
   GT n k_9 out_47 ring_3 grown_10
 else
  some (.inr (out_47,ring_3,grown_10))
def Fy (n:Nat) (p0_:Ab) (r147:(List Aa)) (near_3:(List Bool)) (out_45:(List Int)) (ring_1:(List Bool)) (grown_8:Bool) (i_25:Int):Option (((List Int)×(List Bool)×Bool×Int)⊕((List Int)×(List Bool)×Bool)):=
 if decide (i_25<((r147.length:Nat):Int))=true then
  (whl (λ (x:((List Int)×(List Bool)×Bool×Int))=>Fx n p0_ r147 near_3 i_25 x.1 x.2.1 x.2.2.1 x.2.2.2) n (out_45,ring_1,grown_8,0)).bind λ y106=>
  some (.inl (y106.1,y106.2.1,y106.2.2,(Ay .i64 i_25 1)))
 else
  some (.inr (out_45,ring_1,grown_8))
def Ik (n:Nat) (p0_:Ab) (r147:(List Aa)) (out_43:(List Int)) (near_3:(List Bool)) (grown_7:Bool):Option (((List Int)×(List Bool)×Bool)⊕(List Int)):=
 if grown_7=true then
  (app 1 ([]:List Bool) near_3).bind λ l50=>
  (whl (λ (x:((List Int)×(List Bool)×Bool×Int))=>Fy n p0_ r147 near_3 x.1 x.2.1 x.2.2.1 x.2.2.2) n (out_43,l50,false,0)).bind λ y107=>
  some (.inl (y107.1,y107.2.1,y107.2.2))
 else
  some (.inr out_43)
def No (n:Nat) (p0_:Ab):Option (List Int):=
 (Dz n p0_).bind λ r147=>
 (whl (λ (x:((List Int)×(List Bool)×Int))=>Fw n p0_ r147 x.1 x.2.1 x.2.2) n (([]:List Int),([]:List Bool),0)).bind λ y105=>
 (whl (λ (x:((List Int)×(List Bool)×Bool))=>Ik n p0_ r147 x.1 x.2.1 x.2.2) n (y105.1,y105.2,true)).bind λ y108=>
 some y108
def GU (_:Nat) (k_10:Int) (fit_3:(List Int)):Option (((List Int)×Int)⊕(List Int)):=
 some (.inl (fit_3,(Ay .i64 k_10 1)))
def Fz (n:Nat) (p0_:Ab) (_:(List Int)) (r151:(List Aa)) (r152:(List Bool)) (_:(List Int)) (_:(List Int)) (s_1:Aa) (_:Int) (_:Int) (fit_1:(List Int)) (k_10:Int):Option (((List Int)×Int)⊕(List Int)):=
 if decide (k_10<((p0_.Rules.length:Nat):Int))=true then
  (Dh n p0_ s_1 k_10).bind λ r155=>
  (if r155.2=true then CZ n r151 r155.1 else some default).bind λ r156=>
  (if r155.2=true then idx r152 r156 else some default).bind λ x156=>
  if (r155.2&&x156)=true then
   (app 8 fit_1 [k_10]).bind λ l53=>
   GU n k_10 l53
  else
   GU n k_10 fit_1
 else
  some (.inr fit_1)
def GV (n:Nat) (p0_:Ab) (p1_:(List Int)) (r151:(List Aa)) (r152:(List Bool)) (r153:(List Int)) (path_1:(List Int)) (s_1:Aa) (size_1:Int) (i_26:Int):Option (((List Int)×Aa×Int×Int)⊕((List Int)×Aa)):=
 if (((decide (i_26<((p1_.length:Nat):Int)))&&(decide (i_26<10)))&&(decide (size_1<=10)))=true then
  (whl (λ (x:((List Int)×Int))=>Fz n p0_ p1_ r151 r152 r153 path_1 s_1 size_1 i_26 x.1 x.2) n (([]:List Int),0)).bind λ y109=>
  if (((y109.length:Nat):Int)==0)=true then
   some (.inr (path_1,s_1))
  else
   (idx p1_ i_26).bind λ x157=>
   (CH (!(((y109.length:Nat):Int)==0))).bind λ _=>
   (idx y109 (Bz (IntKind.i64.wrap x157) ((y109.length:Nat):Int))).bind λ x158=>
   (app 8 path_1 [x158]).bind λ l54=>
   (idx p0_.Rules x158).bind λ x159=>
   (Dh n p0_ s_1 x158).bind λ r157=>
   some (.inl (l54,r157.1,(Ay .i64 size_1 ((x159.Print.length:Nat):Int)),(Ay .i64 i_26 1)))
 else
  some (.inr (path_1,s_1))
def GW (n:Nat) (p0_:Ab) (r151:(List Aa)) (r153:(List Int)) (path_3:(List Int)) (s_3:Aa):Option (((List Int)×Aa)⊕(List Int)):=
 (Dp n p0_ s_3).bind λ r158=>
 if (!r158)=true then
  (CZ n r151 s_3).bind λ r159=>
  (idx r153 r159).bind λ x160=>
  (app 8 path_3 [x160]).bind λ l55=>
  (Dh n p0_ s_3 x160).bind λ r160=>
  some (.inl (l55,r160.1))
 else
  some (.inr path_3)
def Np (n:Nat) (p0_:Ab) (p1_:(List Int)):Option ((List Int)×Bool):=
 (Dz n p0_).bind λ r151=>
 (LF n p0_).bind λ r152=>
 (No n p0_).bind λ r153=>
 (idx r152 0).bind λ x155=>
 if (!x155)=true then
  some (([]:List Int),false)
 else
  (I4 n).bind λ r154=>
  (whl (λ (x:((List Int)×Aa×Int×Int))=>GV n p0_ p1_ r151 r152 r153 x.1 x.2.1 x.2.2.1 x.2.2.2) n (([]:List Int),r154,0,0)).bind λ y110=>
  (whl (λ (x:((List Int)×Aa))=>GW n p0_ r151 r153 x.1 x.2) n (y110.1,y110.2)).bind λ y111=>
  some (y111,true)
end Go.AI
end
section
namespace Go.AI
def Gv (n:Nat) (p0_:Ab) (p1_:(List Int)) (out_50:CD) (i_27:Int):Option ((CD×Int)⊕(CD⊕CD)):=
 if decide (i_27<((p1_.length:Nat):Int))=true then
  (idx p1_ i_27).bind λ x161=>
  (Dh n p0_ out_50.End x161).bind λ r162=>
  if (!r162.2)=true then
   some (.inr (.inr out_50))
  else
   (idx p1_ i_27).bind λ x162=>
   (idx p0_.Rules x162).bind λ x163=>
   (cat out_50.Text x163.Print).bind λ s8=>
   (idx p1_ i_27).bind λ x164=>
   (idx p0_.Rules x164).bind λ x165=>
   (app 1 out_50.Cells x165.Cells).bind λ l56=>
   some (.inl (({ Text:=s8,Cells:=l56,At:=Ay .i64 out_50.At 1,End:=r162.1,Ok:=out_50.Ok }:CD),(Ay .i64 i_27 1)))
 else
  some (.inr (.inl out_50))
def Nq (n:Nat) (p0_:Ab) (p1_:(List Int)):Option CD:=
 (I4 n).bind λ r161=>
 (whl (λ (x:(CD×Int))=>Gv n p0_ p1_ x.1 x.2) n (({ Text:=[],Cells:=([]:List Int),At:=0,End:=r161,Ok:=false }:CD),0)).bind λ y112=>
 match y112 with
 | Sum.inl y113=>
  (Dp n p0_ y113.End).bind λ r163=>
  some ({ Text:=y113.Text,Cells:=y113.Cells,At:=y113.At,End:=y113.End,Ok:=r163 }:CD)
 | Sum.inr y114=>
  some y114
def Nr (n:Nat) (p0_:Ab) (p1_:(List Int)):Option ((List UInt8)×Bool):=
 (Np n p0_ p1_).bind λ r164=>
 (Nq n p0_ r164.1).bind λ r165=>
 some (r165.Text,r164.2)
def Co (n:Nat) (_:Bool) (r167:Ab) (r168:((List UInt8)×Bool)) (r169:Bq) (reached_1:(List Bool)) (last_1:Int) (cell_2:Int):Option (((List Bool)×Int×Int)⊕((List Bool)⊕Bool)):=
 if decide (cell_2<((r169.W.Cells.length:Nat):Int))=true then
  (CP n r167 r168.1 cell_2).bind λ r170=>
  if ((((r170.2 != 0)||(decide (r170.1<last_1)))||(decide (r170.1>((r168.1.length:Nat):Int))))||((cell_2==0)&&(r170.1 != 0)))=true then
   some (.inr (.inr false))
  else
   (idx reached_1 r170.1).bind λ _=>
   (put reached_1 r170.1 true).bind λ l58=>
   some (.inl (l58,r170.1,(Ay .i64 cell_2 1)))
 else
  some (.inr (.inl reached_1))
def DA (_:Nat) (_:Bool) (_:Ab) (_:Bq) (y116:(List Bool)) (at_16:Int) (_:Int) (x168:Av) (k_11:Int):Option (Int⊕(Unit⊕Bool)):=
 if decide (k_11<((x168.Print.length:Nat):Int))=true then
  (idx y116 (Ay .i64 at_16 k_11)).bind λ x170=>
  if x170=true then
   some (.inr (.inr false))
  else
   some (.inl (Ay .i64 k_11 1))
 else
  some (.inr (.inl ()))
def Cp (n:Nat) (r166:Bool) (r167:Ab) (r169:Bq) (y116:(List Bool)) (at_16:Int) (i_28:Int):Option ((Int×Int)⊕(Unit⊕Bool)):=
 if decide (i_28<((r169.W.Path.length:Nat):Int))=true then
  (idx r169.W.Path i_28).bind λ x167=>
  (idx r167.Rules x167).bind λ x168=>
  (if decide (((x168.Print.length:Nat):Int)>0)=true then idx y116 at_16 else some default).bind λ x169=>
  if ((decide (((x168.Print.length:Nat):Int)>0))&&(!x169))=true then
   some (.inr (.inr false))
  else
   (whl (λ (x:Int)=>DA n r166 r167 r169 y116 at_16 i_28 x168 x) n 1).bind λ y118=>
   match y118 with
   | Sum.inl _=>
    some (.inl ((Ay .i64 at_16 ((x168.Print.length:Nat):Int)),(Ay .i64 i_28 1)))
   | Sum.inr y120=>
    some (.inr (.inr y120))
 else
  some (.inr (.inl ()))
def E7 (n:Nat) (p0_:KZ) (p1_:(List Int)):Option Bool:=
 (GO n).bind λ r166=>
 (I3 n p0_).bind λ r167=>
 (Nr n r167 p1_).bind λ r168=>
 (LE n r167 r168.1).bind λ r169=>
 if ((!r168.2)||(r169.E != 0))=true then
  some r166
 else
  (mkl 1 (Ay .i64 ((r168.1.length:Nat):Int) 1) (false:Bool)).bind λ l57=>
  (whl (λ (x:((List Bool)×Int×Int))=>Co n r166 r167 r168 r169 x.1 x.2.1 x.2.2) n (l57,0,0)).bind λ y115=>
  match y115 with
  | Sum.inl y116=>
   (whl (λ (x:(Int×Int))=>Cp n r166 r167 r169 y116 x.1 x.2) n (0,0)).bind λ y121=>
   match y121 with
   | Sum.inl _=>
    some r166
   | Sum.inr y123=>
    some y123
  | Sum.inr y117=>
   some y117
end Go.AI
end
section
namespace Go.AI
open Go.Proofs
set_option maxRecDepth 10000
theorem xok (n kl:Nat):XOK Try.prog (cxk n kl):=⟨tyOK,rfl⟩
noncomputable def AF:O4:=lpd (Az Try.f8) [1,0,1,1,1,1,1,0,1,0] 47 [38,39] [.exit 0]
theorem fO (k:Nat) (s:St) {fn:Func} {f:FuncId} {args:List AV} {r:AV} (hf:Try.prog.funcs[f]? = some fn) (h:WP (cxk k 0) (Az fn) [] (VL (cxk k 0).ty fn.results.toList r) s) (hb:fn.body=some (Az fn):=by kernel_rfl) (hnm:(fn.name == "runtime.NumGoroutine")=false:=by kernel_rfl) (hnt:(cxk k 0).nt.n=fn.ntmps:=by kernel_rfl) (hlen:Nat.ble args.length fn.ntmps=true:=by kernel_rfl) (hs:(⟨(List.range args.length).zip args,[]⟩:St)=s:=by kernel_rfl):AG Try.prog f args r:=fo follows (JeI k 0) hf h hb hnm hnt hlen hs
theorem fL (k nb:Nat) (s:St) {fn:Func} {f:FuncId} {args:List AV} {O0 O1:List (Option Ob)} {r:AV} (hf:Try.prog.funcs[f]? = some fn) (h:WP (cxk k nb) (Az fn) [] (S3 nb (cxk k nb).ty fn.results.toList r O1) s) (hb:fn.body=some (Az fn):=by kernel_rfl) (hnm:(fn.name == "runtime.NumGoroutine")=false:=by kernel_rfl) (hnt:(cxk k nb).nt=⟨fn.ntmps,[],nb,qfT⟩:=by kernel_rfl) (hlen:Nat.ble args.length fn.ntmps=true:=by kernel_rfl) (hs:(⟨(List.range args.length).zip args,O0⟩:St)=s:=by kernel_rfl):Cu Try.prog f args O0 nb r O1:=fl follows (JeI k nb) hf h hb hnm hnt hlen hs
variable {n:Nat}
def Al (x:Av):List D:=[.str x.Print,.sl (x.Cells.map eU8),.int .u8 x.Left,.int .u8 x.Right,.int .i64 x.From,.int .i64 x.To]
def Ah (x:Aa):List D:=[.int .i64 x.Mode,.int .i64 x.Last,.int .u8 x.Need]
def K1 (x:AB):List D:=[.sl (x.States.map Af),.sl (x.Costs.map Af)]
def BE (x:FJ):List D:=[.int .i64 x.Rule,.int .i64 x.To]
def Tf (x:Jju):List D:=[.sl (x.Line.map eU8),.bool x.Keep,.int .i64 x.Ink,.int .i64 x.Block,.int .i64 x.At]
def Qa (x:Jbd):List D:=[.int .i64 x.N,.int .i64 x.K]
def Ns (x:Re):List D:=[.int .i64 x.First,.int .i64 x.End,.sl (x.Rows.map Tf),.sl (x.Ends.map Af),.sl (x.Labels.map Qa)]
def JfM (x:JeJ):List D:=[.int .i64 x.Op,.int .i64 x.N]
def JdL (x:Jbe):List D:=[.int .i64 x.X,.int .i64 x.Y]
def Y9 (x:VV):List D:=[.int .i64 x.Kind,.int .i64 x.Texture,.sl (x.P.map JdL)]
def Il (x:My):List D:=[.int .i64 x.Kind,.int .i64 x.Level,.str x.Text,.sl (x.Rows.map (eL eS)),.sl (x.F.map JfM),.int .i64 x.Pic.W,.int .i64 x.Pic.H,.int .i64 x.Pic.Gap,.sl (x.Pic.F.map Y9),.int .i64 x.Page]
@[reducible] def Jjv {α:Type} (e:α->List D) (x:FE α):List D:=e x.a0++e x.a1
def FA (x:Dd):List D:=[.sl (x.P.map eU8),.sl (x.C.map eU8),.int .u8 x.L,.int .u8 x.R,.int .u8 x.W.a0,.int .u8 x.W.a1]
def Jjw (x:KZ):List D:=[.int .u8 x.Base,.int .u8 x.Drop,.sl (x.More.map FA)]
def FP (x:Ab) (v2:AV):List AV:=[.d (.int .i64 x.Modes),.d (.int .u8 x.Accept),v2]
def K2 (x:Av):List AV:=[.d (.str x.Print),.d (.sl (x.Cells.map eU8)),.d (.int .u8 x.Left),.d (.int .u8 x.Right),.d (.int .i64 x.From),.d (.int .i64 x.To)]
def Am (x:Ab):List AV:=[.d (.int .i64 x.Modes),.d (.int .u8 x.Accept),.d (.sl (x.Rules.map Al))]
def FQ (x:Aa):List AV:=[.d (.int .i64 x.Mode),.d (.int .i64 x.Last),.d (.int .u8 x.Need)]
def GX (x:Ad) (v5:AV) (v6:AV):List AV:=[.d (.int .i64 x.T.Modes),.d (.int .u8 x.T.Accept),.d (.sl (x.T.Rules.map Al)),.d (.str x.S),.d (.sl (x.States.map Ah)),v5,v6,.d (.int .i64 x.Last)]
def An (x:Ad) (v6:AV):List AV:=[.d (.int .i64 x.T.Modes),.d (.int .u8 x.T.Accept),.d (.sl (x.T.Rules.map Al)),.d (.str x.S),.d (.sl (x.States.map Ah)),.d (.sl (x.Arcs.map (eL BE))),v6,.d (.int .i64 x.Last)]
def JfN (x:Re):List AV:=[.d (.int .i64 x.First),.d (.int .i64 x.End),.d (.sl (x.Rows.map Tf)),.d (.sl (x.Ends.map Af)),.d (.sl (x.Labels.map Qa))]
def VX (x:IZ):List AV:=[.d (.int .i64 x.Format.Width),.d (.int .i64 x.Format.Height),.d (.int .i64 x.Format.Binding),.d (.sl (x.Volumes.map Ns))]
def JfO (x:Rf):List AV:=[.d (.int .i64 x.Volume),.d (.int .i64 x.Leaf),.d (.int .i64 x.Side),.d (.int .i64 x.Line),.d (.int .i64 x.Cell)]
def JeK (x:VW):List AV:=[.d (.int .i64 x.Reader),.d (.int .i64 x.Version),.d (.int .i64 x.At.Volume),.d (.int .i64 x.At.Leaf),.d (.int .i64 x.At.Side),.d (.int .i64 x.At.Line),.d (.int .i64 x.At.Cell),.d (.int .i64 x.Cut),.d (.str x.Put)]
def Nt (x:Dd):List AV:=[.d (.sl (x.P.map eU8)),.d (.sl (x.C.map eU8)),.d (.int .u8 x.L),.d (.int .u8 x.R),.d (.int .u8 x.W.a0),.d (.int .u8 x.W.a1)]
def Qb (x:Av) (v1:AV):List AV:=[.d (.str x.Print),v1,.d (.int .u8 x.Left),.d (.int .u8 x.Right),.d (.int .i64 x.From),.d (.int .i64 x.To)]
def Xp (x:KZ):List AV:=[.d (.int .u8 x.Base),.d (.int .u8 x.Drop),.d (.sl (x.More.map FA))]
def D7 (x:AO):List AV:=[.d (.str x.S),.d (.int .i64 x.I),.d (.int .i64 x.State.Mode),.d (.int .i64 x.State.Last),.d (.int .u8 x.State.Need),.d (.sl (x.L.map Ah))]
def Im (x:Bq) (v0:AV) (v1:AV):List AV:=[v0,v1,.d (.int .i64 x.At),.d (.int .i64 x.E)]
def Nu (x:Bq):List AV:=[.d (.sl (x.W.Cells.map eU8)),.d (.sl (x.W.Path.map Af)),.d (.int .i64 x.At),.d (.int .i64 x.E)]
def VY (x:CD) (v1:AV):List AV:=[.d (.str x.Text),v1,.d (.int .i64 x.At),.d (.int .i64 x.End.Mode),.d (.int .i64 x.End.Last),.d (.int .u8 x.End.Need),.d (.bool x.Ok)]
def Ac (x:AB):List AV:=[.own 1 (x.States.map Af),.own 1 (x.Costs.map Af)]
theorem VZ:∀ a b:Aa,AY [.int .i64,.int .i64,.int .u8] ((Ah a).map .d) ((Ah b).map .d)=some (decide (a=b)):=by
  intro a b
  cases a;cases b
  simp [AY,Ah,Bool.decide_and]
  try rfl
section
variable (t_1:Ab) (i_1:Int) (t_2:Ab)
def JfP:St:=⟨[],[]⟩
def JfQ:St:=⟨(0,.ptr 0 0)::(1,.ptr 1 0)::(2,.osl 2 1 0 (List.length ([[97],[98],[97,98],[]])))::(3,.osl 3 1 0 (List.length [1,3,7,32]))::(4,.d (.int .i64 i_1))::[],[some (.box [.d (.int .i64 0),.d (.int .u8 0),.osl 4 6 0 (List.length ([]:List Av))]),some (.box (FP t_1 (.osl 5 6 0 (t_1.Rules.length)))),some (.arr 1 (List.map eS ([[97],[98],[97,98],[]]))),some (.arr 1 (List.map eU8 [1,3,7,32])),some (.arr 6 (List.map Al ([]:List Av))),some (.arr 6 (t_1.Rules.map Al))]⟩
def JfR:St:=⟨(0,.ptr 0 0)::(1,.ptr 1 0)::[],[some (.box [.d (.int .i64 0),.d (.int .u8 0),.osl 2 6 0 (List.length ([]:List Av))]),some (.box (FP t_2 (.osl 3 6 0 (t_2.Rules.length)))),some (.arr 6 (List.map Al ([]:List Av))),some (.arr 6 (t_2.Rules.map Al))]⟩
def Ou:Ab->Ex->St->Prop:=xX 0 0 (λ (y:Ab)=>JfR y)
def I5:(Ab×Int)->St:=(λ (x:(Ab×Int))=>JfQ x.1 x.2)
variable {t_1 i_1 t_2}
theorem Nv (x:(Ab×Int)) (z:((Ab×Int)⊕Ab)) (H:FK n x.1 x.2=some z):WP (cxk 37 0) (Az Try.f12) [1,1,1,1,0,1,0,0] (AA 0 (I5) (Ou) z) (I5 x):=by
 obtain ⟨t_1,i_1⟩:=x
 refine sq (sr (ck 2 (en (cn H (λ H=>?_) (λ H=>?_)))))
 ·exact sk (qz (sq (bk 1 (rz (ck 4 (bx H λ x1 h1 H=>sp (Ax 2 1 h1) (sp (B9 eS 2 0 (ty 9) h1) (ck 2 (bx H λ x2 h2 H=>sp (Ax 3 1 h2) (sp (B9 eU8 3 0 (ty 97) h2) (sF (ck 4 (bx H λ l1 h3 H=>sp (BP Al 5 6 h3) (ck 2 (ae (qN (qz (rz (ck 3 (ae (by cases H;exact og (sg [0,1,2,3,4]))))))))))))))))))))))
 ·exact ex 0 (qx (by cases H;exact xo rfl (sg [0,1])))
theorem Rg {z} (H:If n=some z):AG Try.prog 12 [] (.agg [.d (.int .i64 z.Modes),.d (.int .u8 z.Accept),.own 6 (z.Rules.map Al)]):=by
 exact fO 37 JfP Try.func12 (sr (ck 1 (en (sr (ck 3 (en (sr (ck 2 (en (sr (ck 2 (en (sq (sr (ck 1 (en (bk 0 (bx H λ y1 h4 H=>lX Nv h4 (tr (tr (B8 0 2 6 (by kernel_rfl)) (B8 1 2 6 (by kernel_rfl))) (sg [0,1,2,3,4])) rfl λ s hE1=>qH (qs (hE1) (sr (ck 2 (sF (ck 2 (bx H λ l2 h5 H=>sp (BP Al 3 6 h5) (ck 2 (en (sr (ck 2 (en (re (by cases H;exact pr (rO (v:=.agg [.d (.int .i64 y1.Modes),.d (.int .u8 y1.Accept),.osl 5 6 0 (l2.length)]) [5] (a1 (c1 vd (c1 vd (c1 vo (c0)))))))))))))))))))))))))))))))))))))
end
section
variable (p0_:Int)
def JfS:St:=⟨(0,.d (.int .u8 p0_))::[],[]⟩
variable {p0_}
theorem Mz {z} (H:DE n p0_=some z):AG Try.prog 54 [.d (.int .u8 p0_)] (.d (.bool z)):=by
 exact fO 12 (JfS p0_) Try.func54 (sr (ck 1 (en (sr (ck 3 (en (sr (ck 4 (gc 1 (decide (32<=Cr .u8 p0_ 127)) (pA (ck 1 (en (re (by cases H;exact pr rd))))))))))))))
end
section
variable (p0_:(List UInt8)) (x_1:Int)
def JfT:St:=⟨(0,.d (.str p0_))::[],[]⟩
def JfU:St:=⟨(0,.d (.str p0_))::(6,.d (.int .i64 ((p0_.length:Nat):Int)))::(7,.d (.int .i64 x_1))::[],[]⟩
def JfV:St:=⟨(0,.d (.str p0_))::[],[]⟩
def Sp:(Unit⊕(Int×Int))->Ex->St->Prop:=xS (xX 0 0 (λ (y:Unit)=>JfV p0_)) (xR ty Try.f34 (λ (y:(Int×Int))=>.tup [.d (.int .i64 y.1),.d (.int .i64 y.2)]))
def L6:Int->St:=(λ (x:Int)=>JfU p0_ x)
variable {p0_ x_1}
theorem K3 (x:Int) (z:(Int⊕(Unit⊕(Int×Int)))) (H:Fm n p0_ x=some z):WP (cxk 19 0) (Az Try.f34) [1,0,1,0,0] (AA 0 (L6 p0_) (Sp p0_) z) (L6 p0_ x):=by
 revert H
 generalize x=x_1
 intro H
 refine sr (ck 1 (en (sq (cn H (λ H=>?_) (λ H=>?_)))))
 ·refine sk (qz (sq (bk 1 (sr (ck 2 (en (sr (ck 2 (bx H λ b1 h6 H=>sp (GE h6) (bx H λ r1 h7 H=>ca false (Mz h7) (ck 1 (en (cn H (λ H=>?_) (λ H=>?_))))))))))))))
  ·exact sr (ck 3 (en (re (qR (qr (by cases H;exact ro rfl rdT))))))
  ·exact sk (qN (qz (rz (ck 2 (ae (by cases H;exact og (sg [0,6,7])))))))
 ·exact ex 0 (qx (by cases H;exact xo rfl (sg [0])))
theorem Pq {z} (H:HJ n p0_=some z):AG Try.prog 34 [.d (.str p0_)] (.tup [.d (.int .i64 z.1),.d (.int .i64 z.2)]):=by
 refine fO 19 (JfT p0_) Try.func34 (sr (ck 2 (en (sq (sr (ck 3 (en (bk 0 (bx H λ y2 h8 H=>?_)))))))))
 rcases y2 with y3|y4
 ·exact lX K3 h8 (sg [0,6,7]) rfl λ s hE2=>qH (qs (hE2) (sr (ck 4 (en (re (by cases H;exact pr rdT))))))
 ·exact lR K3 h8 (sg [0,6,7]) rfl λ s hE3=>qR (qr (by cases H;exact pr hE3))
end
section
variable (p0_:Int)
def JfW:St:=⟨(0,.d (.int .u8 p0_))::[],[]⟩
variable {p0_}
theorem Hm {z} (H:Er n p0_=some z):AG Try.prog 59 [.d (.int .u8 p0_)] (.d (.int .i64 z)):=by
 refine fO 30 (JfW p0_) Try.func59 (sr (ck 1 (en (sr (ck 3 (en (sq (bk 0 (sr (ck 4 (gc 1 (decide (97<=Cr .u8 p0_ 127)) (pA (ck 1 (en (cn H (λ H=>?_) (λ H=>?_))))))))))))))))
 ·exact sr (ck 1 (en (re (qR (qr (by cases H;exact pr rd))))))
 ·refine sr (ck 4 (gc 1 (decide (65<=Cr .u8 p0_ 127)) (pA (ck 1 (en (cn H (λ H=>?_) (λ H=>?_)))))))
  ·exact sr (ck 1 (en (re (qR (qr (by cases H;exact pr rd))))))
  ·refine sr (ck 4 (gc 1 (decide (48<=Cr .u8 p0_ 127)) (pA (ck 1 (en (cn H (λ H=>?_) (λ H=>?_)))))))
   ·exact sr (ck 1 (en (re (qR (qr (by cases H;exact pr rd))))))
   ·refine sr (ck 3 (en (cn H (λ H=>?_) (λ H=>?_))))
    ·exact sr (ck 1 (en (re (qR (qr (by cases H;exact pr rd))))))
    ·exact sk (qN (qz (sr (ck 1 (en (re (by cases H;exact pr rd)))))))
end
section
variable (p0_:(List UInt8)) (x_2:Int)
def JfX:St:=⟨(0,.d (.str p0_))::[],[]⟩
def JfY:St:=⟨(0,.d (.str p0_))::(5,.d (.int .i64 ((p0_.length:Nat):Int)))::(6,.d (.int .i64 x_2))::[],[]⟩
def JfZ:St:=⟨[],[]⟩
def Nw:(Unit⊕Bool)->Ex->St->Prop:=xS (xX 0 0 (λ (y:Unit)=>JfZ)) (xR ty Try.f76 (λ (y:Bool)=>.d (.bool y)))
def Io:Int->St:=(λ (x:Int)=>JfY p0_ x)
variable {p0_ x_2}
theorem HN (x:Int) (z:(Int⊕(Unit⊕Bool))) (H:CY n p0_ x=some z):WP (cxk 15 0) (Az Try.f76) [1,0,1,0,0] (AA 0 (Io p0_) (Nw) z) (Io p0_ x):=by
 revert H
 generalize x=x_2
 intro H
 refine sr (ck 1 (en (sq (cn H (λ H=>?_) (λ H=>?_)))))
 ·refine sk (qz (sq (bk 1 (sr (ck 2 (en (sr (ck 2 (bx H λ b2 h9 H=>sp (GE h9) (bx H λ r2 h10 H=>ca false (Hm h10) (ck 1 (en (cn H (λ H=>?_) (λ H=>?_))))))))))))))
  ·exact sr (ck 1 (en (re (qR (qr (by cases H;exact ro rfl rd))))))
  ·exact sk (qN (qz (rz (ck 2 (ae (by cases H;exact og (sg [0,5,6])))))))
 ·exact ex 0 (qx (by cases H;exact xo rfl (sg [])))
theorem PJ {z} (H:Es n p0_=some z):AG Try.prog 76 [.d (.str p0_)] (.d (.bool z)):=by
 refine fO 15 (JfX p0_) Try.func76 (sr (ck 1 (en (sq (sr (ck 3 (en (bk 0 (bx H λ y5 h11 H=>?_)))))))))
 rcases y5 with y6|y7
 ·exact lX HN h11 (sg [0,5,6]) rfl λ s hE4=>qH (qs (hE4) (sr (ck 1 (en (re (by cases H;exact pr rd))))))
 ·exact lR HN h11 (sg [0,5,6]) rfl λ s hE5=>qR (qr (by cases H;exact pr hE5))
end
section
variable (p0_:Int)
def Jf0:St:=⟨(0,.d (.int .u8 p0_))::[],[]⟩
variable {p0_}
theorem T7 {z} (H:I0 n p0_=some z):AG Try.prog 77 [.d (.int .u8 p0_)] (.d (.bool z)):=by
 exact fO 5 (Jf0 p0_) Try.func77 (sr (ck 1 (en (sr (ck 3 (en (re (by cases H;exact pr rd))))))))
end
section
variable (p0_:Av) (p1_:Int) (x_3:Int)
def Jf1:St:=⟨(0,.agg [.d (.str p0_.Print),.d (.sl (p0_.Cells.map eU8)),.d (.int .u8 p0_.Left),.d (.int .u8 p0_.Right),.d (.int .i64 p0_.From),.d (.int .i64 p0_.To)])::(1,.d (.int .i64 p1_))::[],[]⟩
def Jf2:St:=⟨(92,.d (.sl (p0_.Cells.map eU8)))::(93,.d (.int .i64 ((p0_.Cells.length:Nat):Int)))::(94,.d (.int .i64 x_3))::[],[]⟩
def Jf3:St:=⟨[],[]⟩
def Rh:(Unit⊕Bool)->Ex->St->Prop:=xS (xX 0 0 (λ (y:Unit)=>Jf3)) (xR ty Try.f68 (λ (y:Bool)=>.d (.bool y)))
def K4:Int->St:=(λ (x:Int)=>Jf2 p0_ x)
variable {p0_ p1_ x_3}
theorem Km (x:Int) (z:(Int⊕(Unit⊕Bool))) (H:Et n p0_ x=some z):WP (cxk 110 0) (Az Try.f68) [1,1,1,1,1,1,0,1,0,0] (AA 0 (K4 p0_) (Rh) z) (K4 p0_ x):=by
 revert H
 generalize x=x_3
 intro H
 refine sr (ck 1 (en (sq (cn H (λ H=>?_) (λ H=>?_)))))
 ·refine sk (qz (sq (bk 1 (sr (bx H λ x4 h15 H=>sp (Ar eU8 h15) (ck 2 (en (sr (ck 1 (bx H λ r5 h16 H=>ca false (T7 h16) (ck 3 (gc 1 (!(!r5)) (pO (ck 2 (gc 1 (!((!r5)||(x4==63))) (pO (en (cn H (λ H=>?_) (λ H=>?_)))))))))))))))))))
  ·exact sr (ck 1 (en (re (qR (qr (by cases H;exact ro rfl rd))))))
  ·exact sk (qN (qz (rz (ck 2 (ae (by cases H;exact og (sg [92,93,94])))))))
 ·exact ex 0 (qx (by cases H;exact xo rfl (sg [])))
theorem T8 {z} (H:Hu n p0_ p1_=some z):AG Try.prog 68 [.agg (K2 p0_),.d (.int .i64 p1_)] (.d (.bool z)):=by
 refine fO 110 (Jf1 p0_ p1_) Try.func68 (sr (ck 2 (en (sq (sr (ck 6 (gc 1 (!(decide (((p0_.Print.length:Nat):Int)>4))) (sE (g:=(!(decide (((p0_.Print.length:Nat):Int)>4)))) (λ hg=>AL eU8 p0_.Cells) (gc 1 (!(decide (((p0_.Print.length:Nat):Int)>4))) (pO (ck 2 (gc 1 (!((decide (((p0_.Print.length:Nat):Int)>4))||(decide (((p0_.Cells.length:Nat):Int)<1)))) (sE (g:=(!((decide (((p0_.Print.length:Nat):Int)>4))||(decide (((p0_.Cells.length:Nat):Int)<1))))) (λ hg=>AL eU8 p0_.Cells) (gc 1 (!((decide (((p0_.Print.length:Nat):Int)>4))||(decide (((p0_.Cells.length:Nat):Int)<1)))) (pO (en (cn H (λ H=>?_) (λ H=>?_))))))))))))))))))
 ·exact sr (ck 1 (en (re (qr (by cases H;exact pr rd)))))
 ·refine sk (qz (sq (sr (ck 2 (bx H λ r3 h12 H=>ca false (Pq h12) (ck 5 (en (sr (ck 2 (en (cn H (λ H=>?_) (λ H=>?_))))))))))))
  ·exact sr (ck 1 (en (re (qr (by cases H;exact pr rd)))))
  ·refine sk (qz (sq (sr (ck 5 (gc 2 (!(decide (p0_.Left<1))) (pO (ck 2 (gc 2 (!((decide (p0_.Left<1))||(decide (p0_.Left>63)))) (pO (ck 2 (gc 2 (!(((decide (p0_.Left<1))||(decide (p0_.Left>63)))||(decide (p0_.Right<1)))) (pO (en (cn H (λ H=>?_) (λ H=>?_)))))))))))))))
   ·exact sr (ck 1 (en (re (qr (by cases H;exact pr rd)))))
   ·refine sk (qz (sq (sr (ck 5 (gc 1 (!(decide (p0_.From<0))) (ck 1 (gc 1 (!(decide (p0_.From<0))) (pO (ck 2 (gc 2 (!((decide (p0_.From<0))||(decide (p0_.From>=p1_)))) (pO (ck 2 (gc 1 (!(((decide (p0_.From<0))||(decide (p0_.From>=p1_)))||(decide (p0_.To<0)))) (ck 1 (gc 1 (!(((decide (p0_.From<0))||(decide (p0_.From>=p1_)))||(decide (p0_.To<0)))) (pO (en (cn H (λ H=>?_) (λ H=>?_)))))))))))))))))))
    ·exact sr (ck 1 (en (re (qr (by cases H;exact pr rd)))))
    ·refine sk (qz (sq (sr (ck 2 (bx H λ r4 h13 H=>ca false (PJ h13) (en (cn H (λ H=>?_) (λ H=>?_))))))))
     ·exact sr (ck 6 (gc 1 (((p0_.Print.length:Nat):Int)==1) (sE (g:=(((p0_.Print.length:Nat):Int)==1)) (λ hg=>AL eU8 p0_.Cells) (gc 1 (((p0_.Print.length:Nat):Int)==1) (pA (ck 2 (gc 1 ((((p0_.Print.length:Nat):Int)==1)&&(((p0_.Cells.length:Nat):Int)==1)) (bx H λ x3 h14 H=>sE (λ hg=>Ar eU8 (Bu h14 hg)) (gc 2 ((((p0_.Print.length:Nat):Int)==1)&&(((p0_.Cells.length:Nat):Int)==1)) (pA (ck 1 (en (re (qr (by cases H;exact pr rd)))))))))))))))
     ·refine sk (qz (sq (sr (ck 2 (sp (AL eU8 p0_.Cells) (ck 1 (en (bk 0 (bx H λ y8 h17 H=>?_)))))))))
      rcases y8 with y9|y10
      ·exact lX Km h17 (sg [92,93,94]) rfl λ s hE6=>qH (qs (hE6) (sr (ck 1 (en (re (by cases H;exact pr rd))))))
      ·exact lR Km h17 (sg [92,93,94]) rfl λ s hE7=>qR (qr (by cases H;exact pr hE7))
end
section
variable (p0_:(List Int)) (p1_:(List Int)) (x_4:Int)
def Jf4:St:=⟨(0,.d (.sl (p0_.map eU8)))::(1,.d (.sl (p1_.map eU8)))::[],[]⟩
def Jf5:St:=⟨(0,.d (.sl (p0_.map eU8)))::(1,.d (.sl (p1_.map eU8)))::(12,.d (.int .i64 ((p0_.length:Nat):Int)))::(13,.d (.int .i64 x_4))::[],[]⟩
def Jf6:St:=⟨[],[]⟩
def Ri:(Unit⊕Bool)->Ex->St->Prop:=xS (xX 0 0 (λ (y:Unit)=>Jf6)) (xR ty Try.f78 (λ (y:Bool)=>.d (.bool y)))
def K5:Int->St:=(λ (x:Int)=>Jf5 p0_ p1_ x)
variable {p0_ p1_ x_4}
theorem Ko (x:Int) (z:(Int⊕(Unit⊕Bool))) (H:Eu n p0_ p1_ x=some z):WP (cxk 26 0) (Az Try.f78) [1,1,0,1,0,0] (AA 0 (K5 p0_ p1_) (Ri) z) (K5 p0_ p1_ x):=by
 revert H
 generalize x=x_4
 intro H
 refine sr (ck 1 (en (sq (cn H (λ H=>?_) (λ H=>?_)))))
 ·refine sk (qz (sq (bk 1 (sr (ck 2 (en (sr (ck 2 (bx H λ x5 h18 H=>sp (Ar eU8 h18) (ck 3 (bx H λ x6 h19 H=>sp (Ar eU8 h19) (ck 2 (en (cn H (λ H=>?_) (λ H=>?_)))))))))))))))
  ·exact sr (ck 1 (en (re (qR (qr (by cases H;exact ro rfl rd))))))
  ·exact sk (qN (qz (rz (ck 2 (ae (by cases H;exact og (sg [0,1,12,13])))))))
 ·exact ex 0 (qx (by cases H;exact xo rfl (sg [])))
theorem T9 {z} (H:Hv n p0_ p1_=some z):AG Try.prog 78 [.d (.sl (p0_.map eU8)),.d (.sl (p1_.map eU8))] (.d (.bool z)):=by
 refine fO 26 (Jf4 p0_ p1_) Try.func78 (sr (ck 1 (en (sq (sr (ck 1 (sp (AL eU8 p0_) (ck 1 (sp (AL eU8 p1_) (ck 1 (en (cn H (λ H=>?_) (λ H=>?_)))))))))))))
 ·exact sr (ck 1 (en (re (qr (by cases H;exact pr rd)))))
 ·refine sk (qz (sq (sr (ck 1 (sp (AL eU8 p0_) (ck 1 (en (bk 0 (bx H λ y11 h20 H=>?_)))))))))
  rcases y11 with y12|y13
  ·exact lX Ko h20 (sg [0,1,12,13]) rfl λ s hE8=>qH (qs (hE8) (sr (ck 1 (en (re (by cases H;exact pr rd))))))
  ·exact lR Ko h20 (sg [0,1,12,13]) rfl λ s hE9=>qR (qr (by cases H;exact pr hE9))
end
section
variable (p0_:Av) (p1_:Av)
def Jf7:St:=⟨(0,.agg [.d (.str p0_.Print),.d (.sl (p0_.Cells.map eU8)),.d (.int .u8 p0_.Left),.d (.int .u8 p0_.Right),.d (.int .i64 p0_.From),.d (.int .i64 p0_.To)])::(1,.agg [.d (.str p1_.Print),.d (.sl (p1_.Cells.map eU8)),.d (.int .u8 p1_.Left),.d (.int .u8 p1_.Right),.d (.int .i64 p1_.From),.d (.int .i64 p1_.To)])::[],[]⟩
variable {p0_ p1_}
theorem Ua {z} (H:Hw n p0_ p1_=some z):AG Try.prog 69 [.agg (K2 p0_),.agg (K2 p1_)] (.d (.bool z)):=by
 exact fO 45 (Jf7 p0_ p1_) Try.func69 (sr (ck 3 (en (sr (ck 7 (gc 1 (p0_.From==p1_.From) (ck 1 (gc 2 (p0_.From==p1_.From) (pA (ck 2 (gc 1 ((p0_.From==p1_.From)&&(p0_.To==p1_.To)) (ck 1 (gc 2 ((p0_.From==p1_.From)&&(p0_.To==p1_.To)) (pA (ck 2 (gc 1 (((p0_.From==p1_.From)&&(p0_.To==p1_.To))&&(p0_.Left==p1_.Left)) (ck 1 (gc 2 (((p0_.From==p1_.From)&&(p0_.To==p1_.To))&&(p0_.Left==p1_.Left)) (pA (ck 2 (gc 1 ((((p0_.From==p1_.From)&&(p0_.To==p1_.To))&&(p0_.Left==p1_.Left))&&(p0_.Right==p1_.Right)) (ck 1 (gc 2 ((((p0_.From==p1_.From)&&(p0_.To==p1_.To))&&(p0_.Left==p1_.Left))&&(p0_.Right==p1_.Right)) (pA (ck 2 (gc 1 (((((p0_.From==p1_.From)&&(p0_.To==p1_.To))&&(p0_.Left==p1_.Left))&&(p0_.Right==p1_.Right))&&(p0_.Print==p1_.Print)) (ck 1 (gc 1 (((((p0_.From==p1_.From)&&(p0_.To==p1_.To))&&(p0_.Left==p1_.Left))&&(p0_.Right==p1_.Right))&&(p0_.Print==p1_.Print)) (bx H λ r6 h21 H=>cG false (leZ) rfl (λ hg=>T9 (Bu h21 hg)) (Or.inl rfl) (CM (λ hh=>hh) (CM (λ hh=>hh) (FZ))) rfl (pA (ck 1 (en (re (by cases H;exact pr rd))))))))))))))))))))))))))))))))))
end
section
variable (p0_:Ab) (x_5:Int) (x7:Av) (l3:(List Av)) (x_6:Int)
def Jf8:St:=⟨(0,.agg [.d (.int .i64 p0_.Modes),.d (.int .u8 p0_.Accept),.d (.sl (p0_.Rules.map Al))])::[],[]⟩
def Jf9:St:=⟨(1,.ptr 0 0)::(39,.d (.sl (p0_.Rules.map Al)))::(40,.d (.int .i64 ((p0_.Rules.length:Nat):Int)))::(41,.d (.int .i64 x_5))::[],[some (.box (Am p0_))]⟩
def Jga:St:=⟨[],[]⟩
def Jgb:St:=⟨(1,.ptr 0 0)::(4,.d (.int .i64 x_5))::(5,.ptr 1 0)::(39,.d (.sl (p0_.Rules.map Al)))::(40,.d (.int .i64 ((p0_.Rules.length:Nat):Int)))::(41,.d (.int .i64 x_5))::(55,.d (.sl (l3.map Al)))::(56,.d (.int .i64 ((l3.length:Nat):Int)))::(57,.d (.int .i64 x_6))::[],[some (.box (Am p0_)),some (.box (K2 x7))]⟩
def Jgc:St:=⟨(1,.ptr 0 0)::(39,.d (.sl (p0_.Rules.map Al)))::(40,.d (.int .i64 ((p0_.Rules.length:Nat):Int)))::(41,.d (.int .i64 x_5))::[],[some (.box (Am p0_))]⟩
def Rj:(Unit⊕(Int×Int))->Ex->St->Prop:=xS (xX 0 2 (λ (y:Unit)=>Jgc p0_ x_5)) (xR ty Try.f55 (λ (y:(Int×Int))=>.tup [.d (.int .i64 y.1),.d (.int .i64 y.2)]))
def K6:Int->St:=(λ (x:Int)=>Jgb p0_ x_5 x7 l3 x)
def Rk:(Unit⊕(Int×Int))->Ex->St->Prop:=xS (xX 0 0 (λ (y:Unit)=>Jga)) (xR ty Try.f55 (λ (y:(Int×Int))=>.tup [.d (.int .i64 y.1),.d (.int .i64 y.2)]))
def K7:Int->St:=(λ (x:Int)=>Jf9 p0_ x)
variable {p0_ x_5 x7 l3 x_6}
theorem Kp (x:Int) (z:(Int⊕(Unit⊕(Int×Int)))) (H:Dv n p0_ x_5 x7 l3 x=some z):WP (cxk 67 0) (Az Try.f55) [1,1,1,1,0,1,0,0,1,1,0,0,1,1,1,0,0] (AA 0 (K6 p0_ x_5 x7 l3) (Rj p0_ x_5) z) (K6 p0_ x_5 x7 l3 x):=by
 revert H
 generalize x=x_6
 intro H
 refine sr (ck 1 (en (sq (cn H (λ H=>?_) (λ H=>?_)))))
 ·refine sk (qz (sq (bk 3 (sr (bx H λ x8 h26 H=>sp (Ar Al h26) (ck 3 (en (sr (ck 2 (bx H λ r8 h27 H=>ca false (Ua h27) (en (cn H (λ H=>?_) (λ H=>?_)))))))))))))
  ·exact sr (ck 3 (en (re (qR (qr (by cases H;exact ro rfl rdT))))))
  ·exact sk (qN (qz (rz (ck 2 (ae (by cases H;exact og (sg [1,4,5,39,40,41,55,56,57])))))))
 ·exact ex 2 (qx (by cases H;exact xo rfl (sg [1,39,40,41])))
theorem Kq (x:Int) (z:(Int⊕(Unit⊕(Int×Int)))) (H:Dw n p0_ x=some z):WP (cxk 67 0) (Az Try.f55) [1,1,1,1,0,1,0,0] (AA 0 (K7 p0_) (Rk) z) (K7 p0_ x):=by
 revert H
 generalize x=x_5
 intro H
 refine sr (ck 1 (en (sq (cn H (λ H=>?_) (λ H=>?_)))))
 ·refine sk (qz (sq (bk 1 (sr (ck 1 (bx H λ x7 h23 H=>sp (Ar Al h23) (ck 4 (en (sq (sr (ck 3 (bx H λ r7 h24 H=>ca false (T8 h24) (ck 1 (en (cn H (λ H=>?_) (λ H=>?_))))))))))))))))
  ·exact sr (ck 3 (en (re (qr (qR (qr (by cases H;exact ro rfl rdT)))))))
  ·refine sk (qz (sr (ck 3 (bx H λ l3 h25 H=>sp (JaN Al 6 h25) (sp (AL Al l3) (ck 1 (en (bk 2 (bx H λ y14 h28 H=>?_)))))))))
   rcases y14 with y15|y16
   ·exact lX Kp h28 (sg [1,4,5,39,40,41,55,56,57]) rfl λ s hE10=>qH (qN (qs (hE10) (rz (ck 2 (ae (by cases H;exact og (sg [1,39,40,41])))))))
   ·exact lR Kp h28 (sg [1,4,5,39,40,41,55,56,57]) rfl λ s hE11=>qR (qR (qr (by cases H;exact ro rfl hE11)))
 ·exact ex 0 (qx (by cases H;exact xo rfl (sg [])))
theorem Ub {z} (H:Hx n p0_=some z):AG Try.prog 55 [.agg (Am p0_)] (.tup [.d (.int .i64 z.1),.d (.int .i64 z.2)]):=by
 refine fO 67 (Jf8 p0_) Try.func55 (sr (ck 3 (en (sq (sr (ck 5 (gc 2 (!(decide (p0_.Modes<1))) (pO (en (cn H (λ H=>?_) (λ H=>?_)))))))))))
 ·exact sr (ck 2 (en (re (qr (by cases H;exact pr rdT)))))
 ·refine sk (qz (sq (sr (ck 5 (gc 2 (!(p0_.Accept==0)) (ck 1 (gc 1 (!(p0_.Accept==0)) (bx H λ gd1 h22 H=>soG (λ hg=>HG (Bu h22 hg)) (CM (λ hh=>hh) (FZ)) (gc 1 (!(p0_.Accept==0)) (pO (en (cn H (λ H=>?_) (λ H=>?_)))))))))))))
  ·exact sr (ck 2 (en (re (qr (by cases H;exact pr rdT)))))
  ·refine sk (qz (sq (sr (ck 2 (sp (AL Al p0_.Rules) (ck 3 (gc 1 (!(decide (((p0_.Rules.length:Nat):Int)<1))) (sE (g:=(!(decide (((p0_.Rules.length:Nat):Int)<1)))) (λ hg=>AL Al p0_.Rules) (gc 1 (!(decide (((p0_.Rules.length:Nat):Int)<1))) (pO (en (cn H (λ H=>?_) (λ H=>?_)))))))))))))
   ·exact sr (ck 2 (en (re (qr (by cases H;exact pr rdT)))))
   ·refine sk (qz (sq (sr (ck 2 (sp (AL Al p0_.Rules) (ck 1 (en (bk 0 (bx H λ y17 h29 H=>?_)))))))))
    rcases y17 with y18|y19
    ·exact lX Kq h29 (sg [1,39,40,41]) rfl λ s hE12=>qH (qs (hE12) (sr (ck 2 (en (re (by cases H;exact pr rdT))))))
    ·exact lR Kq h29 (sg [1,39,40,41]) rfl λ s hE13=>qR (qr (by cases H;exact pr hE13))
end
section
variable (p0_:Ab)
def Jgd:St:=⟨(0,.agg [.d (.int .i64 p0_.Modes),.d (.int .u8 p0_.Accept),.d (.sl (p0_.Rules.map Al))])::[],[]⟩
variable {p0_}
theorem Uc {z} (H:Ew n p0_=some z):AG Try.prog 35 [.agg (Am p0_)] (.d (.bool z)):=by
 exact fO 12 (Jgd p0_) Try.func35 (sr (ck 2 (en (sr (ck 1 (bx H λ r9 h30 H=>ca false (Ub h30) (ck 5 (en (sr (ck 3 (en (re (by cases H;exact pr rd)))))))))))))
end
def Jge:St:=⟨[],[]⟩
theorem Ud {z} (H:I1 n=some z):AG Try.prog 79 [] (.agg [.d (.int .i64 z.Mode),.d (.int .i64 z.Last),.d (.int .u8 z.Need)]):=by
 exact fO 2 Jge Try.func79 (sr (ck 1 (en (sr (ck 2 (en (re (by cases H;exact pr rd))))))))
section
variable (p0_:Int) (p1_:Int)
def Jgf:St:=⟨(0,.d (.int .u8 p0_))::(1,.d (.int .i64 p1_))::[],[]⟩
variable {p0_ p1_}
theorem JM {z} (H:Hg n p0_ p1_=some z):AG Try.prog 71 [.d (.int .u8 p0_),.d (.int .i64 p1_)] (.d (.bool z)):=by
 exact fO 18 (Jgf p0_ p1_) Try.func71 (sr (ck 1 (en (sr (ck 4 (gc 1 (decide (0<=p1_)) (pA (ck 3 (bx H λ gd2 h31 H=>soG (λ hg=>HG (Bu h31 hg)) (CM (λ hh=>hh) (CM (λ hh=>hh) (FZ))) (gc 2 ((decide (0<=p1_))&&(decide (p1_<8))) (pA (ck 1 (en (re (by cases H;exact pr rd)))))))))))))))
end
section
variable (p0_:Ab) (p1_:Aa) (p2_:Int)
def Jgg:St:=⟨(0,.agg [.d (.int .i64 p0_.Modes),.d (.int .u8 p0_.Accept),.d (.sl (p0_.Rules.map Al))])::(1,.agg [.d (.int .i64 p1_.Mode),.d (.int .i64 p1_.Last),.d (.int .u8 p1_.Need)])::(2,.d (.int .i64 p2_))::[],[]⟩
variable {p0_ p1_ p2_}
theorem Pr {z} (H:HK n p0_ p1_ p2_=some z):AG Try.prog 57 [.agg (Am p0_),.agg (FQ p1_),.d (.int .i64 p2_)] (.tup [.agg [.d (.int .i64 z.1.Mode),.d (.int .i64 z.1.Last),.d (.int .u8 z.1.Need)],.d (.bool z.2)]):=by
 refine fO 78 (Jgg p0_ p1_ p2_) Try.func57 (sr (ck 4 (en (sq (sr (ck 5 (gc 1 (!(decide (p2_<0))) (sE (g:=(!(decide (p2_<0)))) (λ hg=>AL Al p0_.Rules) (gc 1 (!(decide (p2_<0))) (pO (en (cn H (λ H=>?_) (λ H=>?_)))))))))))))
 ·exact sr (ck 3 (en (re (qr (by cases H;exact pr rdT)))))
 ·refine sk (qz (sr (ck 3 (bx H λ x9 h32 H=>sp (Ar Al h32) (ck 3 (en (sq (sr (ck 7 (gc 1 (!(x9.From != p1_.Mode)) (ck 1 (gc 1 (!(x9.From != p1_.Mode)) (bx H λ r10 h33 H=>cG false (leZ) rfl (λ hg=>JM (Bu h33 hg)) (Or.inl rfl) (CM (λ hh=>hh) (CM (λ hh=>hh) (FZ))) rfl (gc 1 (!(x9.From != p1_.Mode)) (pO (en (cn H (λ H=>?_) (λ H=>?_))))))))))))))))))
  ·exact sr (ck 3 (en (re (qr (by cases H;exact pr rdT)))))
  ·refine sk (qz (sq (sr (ck 3 (en (cn H (λ H=>?_) (λ H=>?_)))))))
   ·refine sr (ck 6 (en (sq (sr (ck 2 (en (cn H (λ H=>?_) (λ H=>?_))))))))
    ·exact sr (ck 3 (en (re (qr (qr (by cases H;exact pr rdT))))))
    ·exact sk (qz (sr (ck 8 (en (re (qr (by cases H;exact pr rdT)))))))
   ·refine sk (qz (sq (sr (ck 4 (bx H λ b3 h34 H=>sp (GE h34) (bx H λ r11 h35 H=>ca false (Hm h35) (bx H λ r12 h36 H=>ca false (JM h36) (ck 1 (en (cn H (λ H=>?_) (λ H=>?_)))))))))))
    ·exact sr (ck 3 (en (re (qr (by cases H;exact pr rdT)))))
    ·exact sk (qz (sr (ck 8 (bx H λ b4 h37 H=>sp (GE h37) (bx H λ r13 h38 H=>ca false (Hm h38) (ck 5 (en (re (by cases H;exact pr rdT)))))))))
end
section
variable (p0_:Ab) (states_1:(List Aa)) (from_1:(List (List Int))) (number_1:(List (Aa×Int))) (k_1:Int) (states_2:(List Aa)) (from_2:(List (List Int))) (states_3:(List Aa)) (from_3:(List (List Int))) (number_2:(List (Aa×Int))) (x_7:Int) (states_4:(List Aa)) (from_4:(List (List Int))) (number_3:(List (Aa×Int))) (states_5:(List Aa)) (from_5:(List (List Int))) (number_4:(List (Aa×Int))) (states_6:(List Aa)) (from_6:(List (List Int))) (number_5:(List (Aa×Int))) (n_1:Int)
def Jgh:St:=⟨(0,.agg [.d (.int .i64 p0_.Modes),.d (.int .u8 p0_.Accept),.d (.sl (p0_.Rules.map Al))])::[],[]⟩
def Jgi:St:=⟨(1,.ptr 0 0)::(5,.osl 1 3 0 (states_1.length))::(6,.osl 2 1 0 (from_1.length))::(7,.mp 3)::(8,.d (.int .i64 k_1))::[],[some (.box (Am p0_)),some (.arr 3 (states_1.map Ah)),some (.narr 1 (from_1.map (nL 1 Af))),some (.map true false (F4 Ah Af number_1))]⟩
def Jgj:St:=⟨(5,.osl 0 3 0 (states_2.length))::(6,.osl 1 1 0 (from_2.length))::[],[some (.arr 3 (states_2.map Ah)),some (.narr 1 (from_2.map (nL 1 Af)))]⟩
def Jgk:St:=⟨(1,.ptr 0 0)::(5,.osl 1 3 0 (states_3.length))::(6,.osl 2 1 0 (from_3.length))::(7,.mp 3)::(8,.d (.int .i64 k_1))::(29,.d (.int .i64 ((p0_.Rules.length:Nat):Int)))::(30,.d (.int .i64 x_7))::[],[some (.box (Am p0_)),some (.arr 3 (states_3.map Ah)),some (.narr 1 (from_3.map (nL 1 Af))),some (.map true false (F4 Ah Af number_2))]⟩
def Jgl:St:=⟨(1,.ptr 0 0)::(5,.osl 1 3 0 (states_4.length))::(6,.osl 2 1 0 (from_4.length))::(7,.mp 3)::(8,.d (.int .i64 k_1))::[],[some (.box (Am p0_)),some (.arr 3 (states_4.map Ah)),some (.narr 1 (from_4.map (nL 1 Af))),some (.map true false (F4 Ah Af number_3))]⟩
def Jgm:St:=⟨(1,.ptr 0 0)::(5,.osl 1 3 0 (states_5.length))::(6,.osl 2 1 0 (from_5.length))::(7,.mp 3)::(8,.d (.int .i64 k_1))::(29,.d (.int .i64 ((p0_.Rules.length:Nat):Int)))::(30,.d (.int .i64 x_7))::[],[some (.box (Am p0_)),some (.arr 3 (states_5.map Ah)),some (.narr 1 (from_5.map (nL 1 Af))),some (.map true false (F4 Ah Af number_4))]⟩
def Jgn:St:=⟨(1,.ptr 0 0)::(5,.osl 1 3 0 (states_6.length))::(6,.osl 2 1 0 (from_6.length))::(7,.mp 3)::(8,.d (.int .i64 k_1))::(12,.d (.int .i64 n_1))::(29,.d (.int .i64 ((p0_.Rules.length:Nat):Int)))::(30,.d (.int .i64 x_7))::[],[some (.box (Am p0_)),some (.arr 3 (states_6.map Ah)),some (.narr 1 (from_6.map (nL 1 Af))),some (.map true false (F4 Ah Af number_5))]⟩
def Ov:((List Aa)×(List (List Int))×(List (Aa×Int)))->Ex->St->Prop:=xX 0 2 (λ (y:((List Aa)×(List (List Int))×(List (Aa×Int))))=>Jgl p0_ k_1 y.1 y.2.1 y.2.2)
def I6:((List Aa)×(List (List Int))×(List (Aa×Int))×Int)->St:=(λ (x:((List Aa)×(List (List Int))×(List (Aa×Int))×Int))=>Jgk p0_ k_1 x.1 x.2.1 x.2.2.1 x.2.2.2)
def Ow:((List Aa)×(List (List Int)))->Ex->St->Prop:=xX 0 0 (λ (y:((List Aa)×(List (List Int))))=>Jgj y.1 y.2)
def I7:((List Aa)×(List (List Int))×(List (Aa×Int))×Int)->St:=(λ (x:((List Aa)×(List (List Int))×(List (Aa×Int))×Int))=>Jgi p0_ x.1 x.2.1 x.2.2.1 x.2.2.2)
variable {p0_ states_1 from_1 number_1 k_1 states_2 from_2 states_3 from_3 number_2 x_7 states_4 from_4 number_3 states_5 from_5 number_4 states_6 from_6 number_5 n_1}
theorem Nx (x:((List Aa)×(List (List Int))×(List (Aa×Int))×Int)) (z:(((List Aa)×(List (List Int))×(List (Aa×Int))×Int)⊕((List Aa)×(List (List Int))×(List (Aa×Int))))) (H:Bv n p0_ k_1 x.1 x.2.1 x.2.2.1 x.2.2.2=some z):WP (cxk 78 0) (Az Try.f70) [1,1,1,1,0,1,0,0,1,0,0,1,0,0] (AA 0 (I6 p0_ k_1) (Ov p0_ k_1) z) (I6 p0_ k_1 x):=by
 obtain ⟨states_3,from_3,number_2,x_7⟩:=x
 refine sr (ck 1 (en (sq (cn H (λ H=>?_) (λ H=>?_)))))
 ·refine sk (qz (sj (λ (x:((List Aa)×(List (List Int))×(List (Aa×Int))))=>Jgm p0_ k_1 x_7 x.1 x.2.1 x.2.2) (λ (x:((List Aa)×(List (List Int))×(List (Aa×Int))))=>Cv n x_7 x.1 x.2.1 x.2.2) z ?_ (λ hFAu_explore_J1=>?_)))
  ·rintro ⟨states_5,from_5,number_4⟩ H
   exact rz (ck 2 (ae (by cases H;exact og (gP [1,5,6,7,8,29,30] [0,1,2,3] (po1 (po1 (pn1 (nL 1 Af) from_5 (po1 (Pl.z)))))))))
  refine bk 3 (sr (ck 2 (en (sr (ck 3 (bx H λ x10 h40 H=>sp (Ax 1 3 h40) (sp (B9 Ah 1 0 (ty 80) h40) (ck 1 (bx H λ r15 h41 H=>ca false (Pr h41) (ck 6 (en (sq (sr (ck 2 (en (cn H (λ H=>?_) (λ H=>?_)))))))))))))))))
  ·exact ex 3 (qx (qH (qs (gP [1,5,6,7,8,29,30] [0,1,2,3] (po1 (po1 (pn1 (nL 1 Af) from_3 (po1 (Pl.z)))))) (hFAu_explore_J1 (states_3,from_3,number_2) H))))
  ·refine sk (qz (sr (ck 2 (sp (VS (enc:=Af) (encK:=Ah) (k:=3) (e1:=λ x=>.int .i64 x) (m:=number_2) (l:=[.d (.int .i64 r15.1.Mode),.d (.int .i64 r15.1.Last),.d (.int .u8 r15.1.Need)]) (key:=r15.1) (z:=0) (vz:=[.int .i64 0]) VZ true) (ck 5 (en (sj (λ (x:((List Aa)×(List (List Int))×(List (Aa×Int))×Int))=>Jgn p0_ k_1 x_7 x.1 x.2.1 x.2.2.1 x.2.2.2) (λ (x:((List Aa)×(List (List Int))×(List (Aa×Int))×Int))=>CS n k_1 x_7 x.1 x.2.1 x.2.2.1 x.2.2.2) z ?_ (λ hFAu_explore_J2=>?_))))))))
   ·rintro ⟨states_6,from_6,number_5,n_1⟩ H
    exact bx H λ x11 h42 H=>rg (tr (so1 (encN:=(nL 1 Af)) 2 1 h42) (sno (encN:=(nL 1 Af)) (enc:=Af) h42 [.own 1 (x11.map Af)] x11 1 2 0 1)) (ck 4 (sp (Ax 2 1 h42) (sp (Ca (encN:=(nL 1 Af)) (row:=[.osl 4 1 0 (x11.length)]) (k:=2) (sz:=1) (off:=0) (t:=ty 40) (v:=.osl 4 1 0 (x11.length)) h42) (ck 2 (bx H λ l4 h43 H=>sp (BP Af 4 1 h43) (sp (Ax 2 1 h42) (sp (Mw (encN:=(nL 1 Af)) (row:=[.osl 4 1 0 (x11.length)]) (row':=[.osl 6 1 0 (l4.length)]) (k:=2) (sz:=1) (off:=0) (t:=ty 40) (v:=.osl 6 1 0 (l4.length)) h42) (ae (qN (qs (tr (tr (tr (tr (tr (sni (encN:=(nL 1 Af)) (xs:=from_6) (n:=n_1) (enc:=Af) [.osl 6 1 0 (l4.length)] l4 1 2 0 6 1) (scl (encN:=(nL 1 Af)) (xss:=from_6) n_1 [.own 1 (l4.map Af)] 1 2 l4)) (sn 6 2 1 (lsS from_6 n_1.toNat l4))) (sn 65 2 1 (lsS from_6 n_1.toNat l4))) (sn 67 2 1 (lsS from_6 n_1.toNat l4))) (gP [1,5,6,7,8,29,30] [0,1,2,3] (po1 (po1 (pn1 (nL 1 Af) (List.set from_6 n_1.toNat l4) (po1 (Pl.z))))))) (hFAu_explore_J1 (states_6,(List.set from_6 n_1.toNat l4),number_5) H)))))))))))
   refine sr (ck 2 (en (cn H (λ H=>?_) (λ H=>?_))))
   ·exact sr (ck 3 (en (sr (ck 3 (sp (T1 (enc:=Af) (encK:=Ah) (k:=3) (e1:=λ x=>.int .i64 x) (m:=number_2) (l:=[.d (.int .i64 r15.1.Mode),.d (.int .i64 r15.1.Last),.d (.int .u8 r15.1.Need)]) (key:=r15.1) (y:=((states_3.length:Nat):Int)) (v:=.d (.int .i64 ((states_3.length:Nat):Int))) (vz:=[.int .i64 0]) VZ) (en (rz (ck 3 (bx H λ l5 h44 H=>sp (BP Ah 1 3 h44) (ck 1 (sK false (bx H λ l6 h45 H=>sp (JdF (encN:=(nL 1 Af)) (esz:=1) (k:=2) (e:=[.nil]) h45) (ck 2 (ae (qs (tr (Jfg (encN:=(nL 1 Af)) (xss:=from_3) (yss:=l6) (y:=([]:(List Int))) (row:=[.own 0 []]) (sz:=1) 7 (by kernel_rfl) (Jdw h45) (by kernel_rfl)) (gP [1,5,6,7,8,12,29,30] [0,6,7,3] (po1 (po1 (pn1 (nL 1 Af) l6 (po1 (Pl.z))))))) (hFAu_explore_J2 (l5,l6,(LM r15.1 ((states_3.length:Nat):Int) number_2),((states_3.length:Nat):Int)) H))))))))))))))))
   ·exact sk (qs (gP [1,5,6,7,8,12,29,30] [0,1,2,3] (po1 (po1 (pn1 (nL 1 Af) from_3 (po1 (Pl.z)))))) (hFAu_explore_J2 (states_3,from_3,number_2,(Option.getD (Gt r15.1 number_2) 0)) H))
 ·exact ex 2 (qx (by cases H;exact xo rfl (gP [1,5,6,7,8] [0,1,2,3] (po1 (po1 (pn1 (nL 1 Af) from_3 (po1 (Pl.z))))))))
theorem Ny (x:((List Aa)×(List (List Int))×(List (Aa×Int))×Int)) (z:(((List Aa)×(List (List Int))×(List (Aa×Int))×Int)⊕((List Aa)×(List (List Int))))) (H:Cw n p0_ x.1 x.2.1 x.2.2.1 x.2.2.2=some z):WP (cxk 78 0) (Az Try.f70) [1,1,1,1,0,1,0,0] (AA 0 (I7 p0_) (Ow) z) (I7 p0_ x):=by
 obtain ⟨states_1,from_1,number_1,k_1⟩:=x
 refine sq (sr (ck 4 (en (cn H (λ H=>?_) (λ H=>?_)))))
 ·exact sk (qz (sq (bk 1 (sr (ck 2 (sp (AL Al p0_.Rules) (ck 1 (en (bk 2 (bx H λ y20 h46 H=>lX Nx h46 (gP [1,5,6,7,8,29,30] [0,1,2,3] (po1 (po1 (pn1 (nL 1 Af) from_1 (po1 (Pl.z)))))) rfl λ s hE14=>qH (qN (qs (hE14) (rz (ck 3 (ae (by cases H;exact og (gP [1,5,6,7,8] [0,1,2,3] (po1 (po1 (pn1 (nL 1 Af) y20.2.1 (po1 (Pl.z))))))))))))))))))))))
 ·exact ex 0 (qx (by cases H;exact xo rfl (gP [5,6] [1,2] (po1 (pn1 (nL 1 Af) from_1 (Pl.z))))))
theorem Rl {z} (H:Fn n p0_=some z):AG Try.prog 70 [.agg (Am p0_)] (.tup [.own 3 (z.1.map Ah),.d (.sl (z.2.map (eL Af)))]):=by
 exact fO 78 (Jgh p0_) Try.func70 (sr (ck 3 (en (sr (bx H λ r14 h39 H=>ca false (Ud h39) (ck 2 (en (sr (ck 2 (sK true (ck 2 (en (sq (rg (JaI (sz:=1) (es:=[[.nil]]) 3 (List.map (nL 1 Af) ([[]]:List (List Int))) (by kernel_rfl) (by kernel_rfl)) (ck 2 (sp (T1 (enc:=Af) (encK:=Ah) (k:=4) (e1:=λ x=>.int .i64 x) (m:=[]) (l:=[.d (.int .i64 r14.Mode),.d (.int .i64 r14.Last),.d (.int .u8 r14.Need)]) (key:=r14) (y:=0) (v:=.d (.int .i64 0)) (vz:=[.int .i64 0]) VZ) (ck 2 (en (sq (sr (ck 1 (en (bk 0 (bx H λ y21 h47 H=>lX Ny h47 (gP [1,5,6,7,8] [0,2,3,4] (po1 (po1 (pn1 (nL 1 Af) ([[]]:List (List Int)) (po1 (Pl.z)))))) rfl λ s hE15=>qH (qs (hE15) (sr (ck 4 (ae (qs (X7 (encN:=(nL 1 Af)) (encD:=(eL Af)) (xss:=y21.2) (k:=1) (sz:=1) 3 (by kernel_rfl) (λ _=>rfl) (λ _=>rfl)) (re (by cases H;exact pr (rT (vs:=[.osl 0 3 0 (y21.1.length),.d (.sl (y21.2.map (eL Af)))]) [0] (t1 (ao vo) (t1 (ad vd) (t0)))))))))))))))))))))))))))))))))))
end
section
variable (p0_:Ab)
def Jgo:St:=⟨(0,.agg [.d (.int .i64 p0_.Modes),.d (.int .u8 p0_.Accept),.d (.sl (p0_.Rules.map Al))])::[],[]⟩
variable {p0_}
theorem Sq {z} (H:HL n p0_=some z):AG Try.prog 56 [.agg (Am p0_)] (.own 3 (z.map Ah)):=by
 exact fO 11 (Jgo p0_) Try.func56 (sr (ck 2 (en (sr (ck 1 (bx H λ r16 h48 H=>cl [List.length r16.1] (Rl h48) (ck 5 (en (sr (ck 2 (en (re (by cases H;exact pr (rO (v:=.osl 1 3 0 (r16.1.length)) [1] (ao vo)))))))))))))))
end
section
variable (p0_:(List UInt8)) (p1_:(List UInt8))
def Jgp:St:=⟨(0,.d (.str p0_))::(1,.d (.str p1_))::[],[]⟩
variable {p0_ p1_}
theorem Ox {z} (H:ES n p0_ p1_=some z):AG Try.prog 80 [.d (.str p0_),.d (.str p1_)] (.d (.bool z)):=by
 exact fO 18 (Jgp p0_ p1_) Try.func80 (sr (ck 1 (en (sr (ck 8 (gc 1 (decide (((p0_.length:Nat):Int)>=((p1_.length:Nat):Int))) (bx H λ s1 h49 H=>sE (λ hg=>P8 (Bu h49 hg)) (ck 1 (gc 1 (decide (((p0_.length:Nat):Int)>=((p1_.length:Nat):Int))) (pA (ck 1 (en (re (by cases H;exact pr rd))))))))))))))
end
section
variable (p0_:(List UInt8)) (p1_:(List UInt8))
def Jgq:St:=⟨(0,.d (.str p0_))::(1,.d (.str p1_))::[],[]⟩
variable {p0_ p1_}
theorem Oy {z} (H:ET n p0_ p1_=some z):AG Try.prog 72 [.d (.str p0_),.d (.str p1_)] (.d (.bool z)):=by
 exact fO 8 (Jgq p0_ p1_) Try.func72 (sr (ck 1 (en (sr (ck 2 (bx H λ r17 h50 H=>ca true (Ox h50) (ck 1 (en (re (by cases H;exact pr rd))))))))))
end
section
variable (p0_:Ab) (p1_:Aa)
def Jgr:St:=⟨(0,.agg [.d (.int .i64 p0_.Modes),.d (.int .u8 p0_.Accept),.d (.sl (p0_.Rules.map Al))])::(1,.agg [.d (.int .i64 p1_.Mode),.d (.int .i64 p1_.Last),.d (.int .u8 p1_.Need)])::[],[]⟩
variable {p0_ p1_}
theorem Rm {z} (H:Fp n p0_ p1_=some z):AG Try.prog 62 [.agg (Am p0_),.agg (FQ p1_)] (.d (.bool z)):=by
 exact fO 22 (Jgr p0_ p1_) Try.func62 (sr (ck 3 (en (sr (ck 7 (gc 1 (decide (p1_.Mode<p0_.Modes)) (ck 1 (gc 1 (decide (p1_.Mode<p0_.Modes)) (bx H λ r19 h54 H=>cG false (leZ) rfl (λ hg=>JM (Bu h54 hg)) (Or.inl rfl) (CM (λ hh=>hh) (CM (λ hh=>hh) (FZ))) rfl (pA (ck 2 (gc 1 ((decide (p1_.Mode<p0_.Modes))&&r19) (bx H λ r20 h55 H=>cG false (leZ) rfl (λ hg=>JM (Bu h55 hg)) (Or.inl rfl) (CM (λ hh=>hh) (FZ)) rfl (pA (ck 1 (en (re (by cases H;exact pr rd))))))))))))))))))
end
section
variable (p0_:Int)
def Jgs:St:=⟨(0,.d (.int .i64 p0_))::[],[]⟩
variable {p0_}
theorem Ip {z} (H:De n p0_=some z):AG Try.prog 98 [.d (.int .i64 p0_)] (.d (.bool z)):=by
 exact fO 6 (Jgs p0_) Try.func98 (sr (ck 1 (en (sr (ck 4 (en (re (by cases H;exact pr rd))))))))
end
section
variable (p0_:Int) (p1_:Int)
def Jgt:St:=⟨(0,.d (.int .i64 p0_))::(1,.d (.int .i64 p1_))::[],[]⟩
variable {p0_ p1_}
theorem Oz {z} (H:DQ n p0_ p1_=some z):AG Try.prog 87 [.d (.int .i64 p0_),.d (.int .i64 p1_)] (.d (.bool z)):=by
 exact fO 17 (Jgt p0_ p1_) Try.func87 (sr (ck 1 (en (sr (ck 1 (bx H λ r21 h56 H=>ca false (Ip h56) (ck 2 (bx H λ r22 h57 H=>cG false (leZ) rfl (λ hg=>Ip (Bu h57 hg)) (Or.inl rfl) (CM (λ hh=>hh) (FZ)) rfl (gc 1 r21 (pA (ck 3 (gc 1 (!(r21&&(!r22))) (pO (ck 1 (en (re (by cases H;exact pr rd)))))))))))))))))
end
section
variable (p0_:Int)
def Jgu:St:=⟨(0,.d (.int .i64 p0_))::[],[]⟩
variable {p0_}
theorem I8 {z} (H:EU n p0_=some z):AG Try.prog 92 [.d (.int .i64 p0_)] (.d (.bool z)):=by
 exact fO 6 (Jgu p0_) Try.func92 (sr (ck 1 (en (sr (ck 4 (en (re (by cases H;exact pr rd))))))))
end
section
variable (p0_:(List Int)) (p1_:Int) (i_2:Int) (j_1:Int) (i_3:Int)
def Jgv:St:=⟨(0,.d (.sl (p0_.map Af)))::(1,.d (.int .i64 p1_))::[],[]⟩
def Jgw:St:=⟨(0,.d (.sl (p0_.map Af)))::(1,.d (.int .i64 p1_))::(6,.d (.int .i64 ((p0_.length:Nat):Int)))::(7,.d (.int .i64 i_2))::(8,.d (.int .i64 j_1))::[],[]⟩
def Jgx:St:=⟨(0,.d (.sl (p0_.map Af)))::(1,.d (.int .i64 p1_))::(6,.d (.int .i64 ((p0_.length:Nat):Int)))::(7,.d (.int .i64 i_3))::[],[]⟩
def GY:Int->Ex->St->Prop:=xX 0 0 (λ (y:Int)=>Jgx p0_ p1_ y)
def Dq:(Int×Int)->St:=(λ (x:(Int×Int))=>Jgw p0_ p1_ x.1 x.2)
variable {p0_ p1_ i_2 j_1 i_3}
theorem Gw (x:(Int×Int)) (z:((Int×Int)⊕Int)) (H:A7 n p0_ p1_ x.1 x.2=some z):WP (cxk 54 0) (Az Try.f75) [1,1,1,0,0,0] (AA 0 (Dq p0_ p1_) (GY p0_ p1_) z) (Dq p0_ p1_ x):=by
 obtain ⟨i_2,j_1⟩:=x
 refine sq (sr (ck 3 (en (cn H (λ H=>?_) (λ H=>?_)))))
 ·refine sk (qz (bk 1 (sr (ck 7 (en (sr (ck 2 (bx H λ x13 h58 H=>sp (Ar Af h58) (ck 2 (bx H λ r23 h59 H=>ca false (Oz h59) (en (cn H (λ H=>?_) (λ H=>?_)))))))))))))
  ·exact rz (ck 3 (ae (qN (by cases H;exact og (sg [0,1,6,7,8])))))
  ·exact rz (ck 2 (ae (qN (by cases H;exact og (sg [0,1,6,7,8])))))
 ·exact ex 0 (qx (by cases H;exact xo rfl (sg [0,1,6,7])))
theorem Hn {z} (H:Bj n p0_ p1_=some z):AG Try.prog 75 [.d (.sl (p0_.map Af)),.d (.int .i64 p1_)] (.tup [.d (.int .i64 z.1),.d (.bool z.2)]):=by
 exact fO 54 (Jgv p0_ p1_) Try.func75 (sr (ck 2 (en (sr (ck 1 (sp (AL Af p0_) (ck 1 (en (sr (ck 3 (en (sq (bk 0 (bx H λ y22 h60 H=>lX Gw h60 (sg [0,1,6,7,8]) rfl λ s hE16=>qH (qs (hE16) (sr (ck 7 (bx H λ x14 h61 H=>sE (λ hg=>Ar Af (Bu h61 hg)) (gc 1 (decide (y22<((p0_.length:Nat):Int))) (ck 1 (gc 2 (decide (y22<((p0_.length:Nat):Int))) (ck 2 (bx H λ x15 h62 H=>sE (λ hg=>Ar Af (Bu h62 hg)) (gc 1 ((decide (y22<((p0_.length:Nat):Int)))&&!(x14==p1_)) (bx H λ r24 h63 H=>cG false (leZ) rfl (λ hg=>I8 (Bu h63 hg)) (Or.inl rfl) (CM (λ hh=>hh) (FZ)) rfl (gc 1 ((decide (y22<((p0_.length:Nat):Int)))&&!(x14==p1_)) (ck 1 (bx H λ r25 h64 H=>cG false (leZ) rfl (λ hg=>I8 (Bu h64 hg)) (Or.inl rfl) (CM (λ hh=>hh) (FZ)) rfl (pG (g:=((decide (y22<((p0_.length:Nat):Int)))&&!(x14==p1_))) (v:=.d (.bool (r24&&r25))) (λ hg=>IY (c:=.gv ((decide (y22<((p0_.length:Nat):Int)))&&!(x14==p1_)) (.d (.bool r24))) (a:=.gv (((decide (y22<((p0_.length:Nat):Int)))&&!(x14==p1_))&&r24) (.d (.bool r25))) (b:=.d (.bool false)) rfl rfl rfl ((λ hh=>hh) hg) (λ ht=>by rw [(λ hh=>hh) hg,ht];rfl) trivial) (pG (g:=decide (y22<((p0_.length:Nat):Int))) (v:=.d (.bool ((x14==p1_)||(r24&&r25)))) (λ hg=>IY (c:=.gv (decide (y22<((p0_.length:Nat):Int))) (.d (.bool (x14==p1_)))) (a:=.d (.bool true)) (b:=.gv ((decide (y22<((p0_.length:Nat):Int)))&&!(x14==p1_)) (.d (.bool (r24&&r25)))) rfl rfl rfl ((λ hh=>hh) hg) trivial (λ ht=>by rw [(λ hh=>hh) hg,ht];rfl)) (pA (ck 2 (en (re (by cases H;exact pr rdT)))))))))))))))))))))))))))))))))))
end
section
variable (p0_:AB) (p1_:Int)
def Jgy:St:=⟨(0,.dptr (K1 p0_) 0)::(1,.d (.int .i64 p1_))::[],[]⟩
variable {p0_ p1_}
theorem Fd {z} (H:Bx n p0_ p1_=some z):AG Try.prog 64 [.dptr (K1 p0_) 0,.d (.int .i64 p1_)] (.d (.int .i64 z)):=by
 refine fO 25 (Jgy p0_ p1_) Try.func64 (sr (ck 1 (en (sr (ck 5 (bx H λ r26 h65 H=>ca false (Hn h65) (ck 5 (en (sq (sr (ck 2 (en (cn H (λ H=>?_) (λ H=>?_))))))))))))))
 ·exact sr (ck 1 (en (re (qr (by cases H;exact pr rd)))))
 ·exact sk (qz (sr (ck 5 (bx H λ x16 h66 H=>sp (Ar Af h66) (ck 2 (en (re (by cases H;exact pr rd))))))))
end
section
variable (p0_:Ab) (p1_:(List UInt8)) (x_9:Ad) (r30:(List Aa)) (l9:(List AB)) (number_6:(List (Aa×Int))) (x_10:Int) (number_7:(List (Aa×Int))) (y27:(List (Aa×Int))) (w_1:Ad) (x_11:Int) (w_2:Ad) (x23:Aa) (w_3:Ad) (x_12:Int) (w_4:Ad) (w_5:Ad)
def Jbg:St:=⟨(0,.agg [.d (.int .i64 p0_.Modes),.d (.int .u8 p0_.Accept),.d (.sl (p0_.Rules.map Al))])::(1,.d (.str p1_))::[],[]⟩
def Jbh:St:=⟨(4,.ptr 0 0)::[],[some (.box (An x_9 (.osl 1 2 0 (x_9.Columns.length)))),some (.narr 2 (x_9.Columns.map Ac))]⟩
def Jbi:St:=⟨(2,.ptr 0 0)::(5,.ptr 1 0)::(6,.mp 2)::(33,.d (.sl (r30.map Ah)))::(34,.d (.int .i64 ((r30.length:Nat):Int)))::(35,.d (.int .i64 x_10))::[],[some (.box (Am p0_)),some (.box [.d (.int .i64 p0_.Modes),.d (.int .u8 p0_.Accept),.d (.sl (p0_.Rules.map Al)),.d (.str p1_),.d (.sl (r30.map Ah)),.osl 3 1 0 (List.length ([]:List (List FJ))),.osl 4 2 0 (l9.length),.d (.int .i64 0)]),some (.map true false (F4 Ah Af number_6)),some (.arr 1 (List.map (eL BE) ([]:List (List FJ)))),some (.narr 2 (l9.map Ac))]⟩
def Jbj:St:=⟨(2,.ptr 0 0)::(5,.ptr 1 0)::(6,.mp 2)::[],[some (.box (Am p0_)),some (.box [.d (.int .i64 p0_.Modes),.d (.int .u8 p0_.Accept),.d (.sl (p0_.Rules.map Al)),.d (.str p1_),.d (.sl (r30.map Ah)),.osl 3 1 0 (List.length ([]:List (List FJ))),.osl 4 2 0 (l9.length),.d (.int .i64 0)]),some (.map true false (F4 Ah Af number_7)),some (.arr 1 (List.map (eL BE) ([]:List (List FJ)))),some (.narr 2 (l9.map Ac))]⟩
def MA:(List (Aa×Int))->Ex->St->Prop:=xX 0 0 (λ (y:(List (Aa×Int)))=>Jbj p0_ p1_ r30 l9 y)
def HO:((List (Aa×Int))×Int)->St:=(λ (x:((List (Aa×Int))×Int))=>Jbi p0_ p1_ r30 l9 x.1 x.2)
def Jbk:St:=⟨(2,.ptr 0 0)::(5,.ptr 1 0)::(6,.mp 2)::(56,.d (.sl (r30.map Ah)))::(57,.d (.int .i64 ((r30.length:Nat):Int)))::(58,.d (.int .i64 x_11))::[],[some (.box (Am p0_)),some (.box (GX w_1 (.osl 3 1 0 (w_1.Arcs.length)) (.osl 4 2 0 (w_1.Columns.length)))),some (.map true false (F4 Ah Af y27)),some (.narr 1 (w_1.Arcs.map (nL 2 BE))),some (.narr 2 (w_1.Columns.map Ac))]⟩
def Jbl:St:=⟨(5,.ptr 0 0)::[],[some (.box (GX w_2 (.osl 1 1 0 (w_2.Arcs.length)) (.osl 2 2 0 (w_2.Columns.length)))),some (.narr 1 (w_2.Arcs.map (nL 2 BE))),some (.narr 2 (w_2.Columns.map Ac))]⟩
def Jbm:St:=⟨(2,.ptr 0 0)::(5,.ptr 1 0)::(6,.mp 2)::(9,.d (.int .i64 x_11))::(10,.ptr 3 0)::(56,.d (.sl (r30.map Ah)))::(57,.d (.int .i64 ((r30.length:Nat):Int)))::(58,.d (.int .i64 x_11))::(65,.d (.int .i64 ((p0_.Rules.length:Nat):Int)))::(66,.d (.int .i64 x_12))::[],[some (.box (Am p0_)),some (.box (GX w_3 (.osl 4 1 0 (w_3.Arcs.length)) (.osl 5 2 0 (w_3.Columns.length)))),some (.map true false (F4 Ah Af y27)),some (.box (FQ x23)),some (.narr 1 (w_3.Arcs.map (nL 2 BE))),some (.narr 2 (w_3.Columns.map Ac))]⟩
def Jbn:St:=⟨(2,.ptr 0 0)::(5,.ptr 1 0)::(6,.mp 2)::(56,.d (.sl (r30.map Ah)))::(57,.d (.int .i64 ((r30.length:Nat):Int)))::(58,.d (.int .i64 x_11))::[],[some (.box (Am p0_)),some (.box (GX w_4 (.osl 3 1 0 (w_4.Arcs.length)) (.osl 4 2 0 (w_4.Columns.length)))),some (.map true false (F4 Ah Af y27)),some (.narr 1 (w_4.Arcs.map (nL 2 BE))),some (.narr 2 (w_4.Columns.map Ac))]⟩
def Jbo:St:=⟨(2,.ptr 0 0)::(5,.ptr 1 0)::(6,.mp 2)::(9,.d (.int .i64 x_11))::(10,.ptr 3 0)::(56,.d (.sl (r30.map Ah)))::(57,.d (.int .i64 ((r30.length:Nat):Int)))::(58,.d (.int .i64 x_11))::(65,.d (.int .i64 ((p0_.Rules.length:Nat):Int)))::(66,.d (.int .i64 x_12))::[],[some (.box (Am p0_)),some (.box (GX w_5 (.osl 4 1 0 (w_5.Arcs.length)) (.osl 5 2 0 (w_5.Columns.length)))),some (.map true false (F4 Ah Af y27)),some (.box (FQ x23)),some (.narr 1 (w_5.Arcs.map (nL 2 BE))),some (.narr 2 (w_5.Columns.map Ac))]⟩
def MB:Ad->Ex->St->Prop:=xX 0 4 (λ (y:Ad)=>Jbn p0_ r30 y27 x_11 y)
def HP:(Ad×Int)->St:=(λ (x:(Ad×Int))=>Jbm p0_ r30 y27 x_11 x23 x.1 x.2)
def MC:Ad->Ex->St->Prop:=xX 0 2 (λ (y:Ad)=>Jbl y)
def HQ:(Ad×Int)->St:=(λ (x:(Ad×Int))=>Jbk p0_ r30 y27 x.1 x.2)
variable {p0_ p1_ x_9 r30 l9 number_6 x_10 number_7 y27 w_1 x_11 w_2 x23 w_3 x_12 w_4 w_5}
theorem LO (x:((List (Aa×Int))×Int)) (z:(((List (Aa×Int))×Int)⊕(List (Aa×Int)))) (H:BY n p0_ p1_ r30 l9 x.1 x.2=some z):WP (cxk 100 0) (Az Try.f36) [1,1,1,0,1,0,0] (AA 0 (HO p0_ p1_ r30 l9) (MA p0_ p1_ r30 l9) z) (HO p0_ p1_ r30 l9 x):=by
 obtain ⟨number_6,x_10⟩:=x
 refine sr (ck 1 (en (sq (cn H (λ H=>?_) (λ H=>?_)))))
 ·exact sk (qz (sq (bk 1 (sr (ck 1 (bx H λ x22 h81 H=>sp (Ar Ah h81) (ck 4 (en (rz (ck 3 (sp (T1 (enc:=Af) (encK:=Ah) (k:=2) (e1:=λ x=>.int .i64 x) (m:=number_6) (l:=[.d (.int .i64 x22.Mode),.d (.int .i64 x22.Last),.d (.int .u8 x22.Need)]) (key:=x22) (y:=x_10) (v:=.d (.int .i64 x_10)) (vz:=[.int .i64 0]) VZ) (ae (qN (qz (rz (ck 2 (ae (by cases H;exact og (gP [2,5,6,33,34,35] [0,1,2,3,4] (po1 (po1 (po1 (po1 (pn1 Ac l9 (Pl.z)))))))))))))))))))))))))
 ·exact ex 0 (qx (by cases H;exact xo rfl (gP [2,5,6] [0,1,2,3,4] (po1 (po1 (po1 (po1 (pn1 Ac l9 (Pl.z)))))))))
theorem LP (x:(Ad×Int)) (z:((Ad×Int)⊕Ad)) (H:BZ n p0_ r30 y27 x_11 x23 x.1 x.2=some z):WP (cxk 100 0) (Az Try.f36) [1,1,1,1,1,0,1,0,0,1,1,0,0,1,1,0,0] (AA 0 (HP p0_ r30 y27 x_11 x23) (MB p0_ r30 y27 x_11) z) (HP p0_ r30 y27 x_11 x23 x):=by
 obtain ⟨w_3,x_12⟩:=x
 refine sr (ck 1 (en (sq (cn H (λ H=>?_) (λ H=>?_)))))
 ·refine sk (qz (sj (λ (x:Ad)=>Jbo p0_ r30 y27 x_11 x23 x_12 x) (λ (x:Ad)=>Cm n x_12 x) z ?_ (λ hFTr_newWriter_J1=>?_)))
  ·intro w_5 H
   exact rz (ck 2 (ae (by cases H;exact og (gP [2,5,6,9,10,56,57,58,65,66] [0,1,2,3,4,5] (po1 (po1 (po1 (po1 (pn1 (nL 2 BE) w_5.Arcs (pn1 Ac w_5.Columns (Pl.z)))))))))))
  refine bk 5 (sr (ck 2 (en (sr (ck 3 (bx H λ r31 h85 H=>ca false (Pr h85) (ck 6 (en (sr (ck 1 (en (cn H (λ H=>?_) (λ H=>?_)))))))))))))
  ·exact bx H λ x24 h86 H=>rg (tr (so1 (encN:=(nL 2 BE)) 4 1 h86) (sno (encN:=(nL 2 BE)) (enc:=BE) h86 [.own 2 (x24.map BE)] x24 1 4 0 2)) (ck 10 (sp (Ax 4 1 h86) (sp (Ca (encN:=(nL 2 BE)) (row:=[.osl 7 2 0 (x24.length)]) (k:=4) (sz:=1) (off:=0) (t:=ty 143) (v:=.osl 7 2 0 (x24.length)) h86) (ck 3 (sp (VS (enc:=Af) (encK:=Ah) (k:=2) (e1:=λ x=>.int .i64 x) (m:=y27) (l:=[.d (.int .i64 r31.1.Mode),.d (.int .i64 r31.1.Last),.d (.int .u8 r31.1.Need)]) (key:=r31.1) (z:=0) (vz:=[.int .i64 0]) VZ false) (ck 2 (bx H λ l11 h87 H=>sp (BP BE 7 2 h87) (sp (Ax 4 1 h86) (sp (Mw (encN:=(nL 2 BE)) (row:=[.osl 7 2 0 (x24.length)]) (row':=[.osl 9 2 0 (l11.length)]) (k:=4) (sz:=1) (off:=0) (t:=ty 143) (v:=.osl 9 2 0 (l11.length)) h86) (ae (qN (qs (tr (tr (tr (tr (tr (sni (encN:=(nL 2 BE)) (xs:=w_3.Arcs) (n:=x_11) (enc:=BE) [.osl 9 2 0 (l11.length)] l11 1 4 0 9 2) (scl (encN:=(nL 2 BE)) (xss:=w_3.Arcs) x_11 [.own 2 (l11.map BE)] 1 4 l11)) (sn 80 4 1 (lsS w_3.Arcs x_11.toNat l11))) (sn 85 4 1 (lsS w_3.Arcs x_11.toNat l11))) (snc 1 5 4 1 (lsS w_3.Arcs x_11.toNat l11))) (gP [2,5,6,9,10,56,57,58,65,66] [0,1,2,3,4,5] (po1 (po1 (po1 (po1 (pn1 (nL 2 BE) (List.set w_3.Arcs x_11.toNat l11) (pn1 Ac w_3.Columns (Pl.z))))))))) (hFTr_newWriter_J1 ({ T:=w_3.T,S:=w_3.S,States:=w_3.States,Arcs:=List.set w_3.Arcs x_11.toNat l11,Columns:=w_3.Columns,Last:=w_3.Last }:Ad) H)))))))))))))
  ·exact sk (qN (qs (gP [2,5,6,9,10,56,57,58,65,66] [0,1,2,3,4,5] (po1 (po1 (po1 (po1 (pn1 (nL 2 BE) w_3.Arcs (pn1 Ac w_3.Columns (Pl.z)))))))) (hFTr_newWriter_J1 w_3 H)))
 ·exact ex 4 (qx (by cases H;exact xo rfl (gP [2,5,6,56,57,58] [0,1,2,4,5] (po1 (po1 (po1 (pn1 (nL 2 BE) w_3.Arcs (pn1 Ac w_3.Columns (Pl.z)))))))))
theorem LQ (x:(Ad×Int)) (z:((Ad×Int)⊕Ad)) (H:Cn n p0_ r30 y27 x.1 x.2=some z):WP (cxk 100 0) (Az Try.f36) [1,1,1,1,1,0,1,0,0] (AA 0 (HQ p0_ r30 y27) (MC) z) (HQ p0_ r30 y27 x):=by
 obtain ⟨w_1,x_11⟩:=x
 refine sr (ck 1 (en (sq (cn H (λ H=>?_) (λ H=>?_)))))
 ·exact sk (qz (sq (bk 3 (sr (ck 1 (bx H λ x23 h84 H=>sp (Ar Ah h84) (ck 4 (en (sr (ck 2 (sp (AL Al p0_.Rules) (ck 1 (en (bk 4 (bx H λ y28 h88 H=>lX LP h88 (gP [2,5,6,9,10,56,57,58,65,66] [0,1,2,5,3,4] (po1 (po1 (po1 (po1 (pn1 (nL 2 BE) w_1.Arcs (pn1 Ac w_1.Columns (Pl.z)))))))) rfl λ s hE21=>qH (qN (qs (hE21) (rz (ck 2 (ae (by cases H;exact og (gP [2,5,6,56,57,58] [0,1,2,3,4] (po1 (po1 (po1 (pn1 (nL 2 BE) y28.Arcs (pn1 Ac y28.Columns (Pl.z))))))))))))))))))))))))))))
 ·exact ex 2 (qx (by cases H;exact xo rfl (gP [5] [1,3,4] (po1 (pn1 (nL 2 BE) w_1.Arcs (pn1 Ac w_1.Columns (Pl.z)))))))
theorem OB {z} (H:DR n p0_ p1_=some z):Cu Try.prog 36 [.agg (Am p0_),.d (.str p1_)] [] 0 (.ptr 0 0) [some (.box (An z (.osl 1 2 0 (z.Columns.length)))),some (.narr 2 (z.Columns.map Ac))]:=by
 exact fL 100 0 (Jbg p0_ p1_) Try.func36 (sr (ck 2 (en (sr (ck 3 (bx H λ r30 h79 H=>ca false (Sq h79) (ck 3 (bx H λ l9 h80 H=>sp (T3 2 (ez:=[.nil,.nil]) h80) (ck 3 (en (sq (rg (tr (tr (T0 (encN:=Ac) (sz:=2) (z:=[.nil,.nil]) (n:=(Ay .i64 ((p1_.length:Nat):Int) 1)) 1 (Nk h80) (by kernel_rfl) (by kernel_rfl)) (sn 21 1 2 (Id h80))) (snc 2 6 1 2 (Id h80))) (ck 4 (sp (AL Ah r30) (ck 2 (en (sq (sr (ck 4 (sp (AL Ah r30) (ck 1 (en (bk 0 (bx H λ y27 h82 H=>lX LO h82 (tr (B8 2 5 1 (by kernel_rfl)) (gP [2,5,6,33,34,35] [0,2,3,4,1] (po1 (po1 (po1 (po1 (pn1 Ac l9 (Pl.z)))))))) rfl λ s hE20=>qH (qs (hE20) (sr (ck 5 (sp (AL Ah r30) (bx H λ l10 h83 H=>sp (T3 1 (ez:=[.nil]) h83) (ck 3 (en (sq (sq (rg (tr (tr (T0 (encN:=(nL 2 BE)) (sz:=1) (z:=[.nil]) (n:=((r30.length:Nat):Int)) 5 (Nk h83) (by kernel_rfl) (by kernel_rfl)) (sn 50 5 1 (Id h83))) (snc 1 5 5 1 (Id h83))) (ck 4 (sp (AL Ah r30) (ck 1 (en (bk 2 (bx H λ y29 h89 H=>lX LQ h89 (gP [2,5,6,56,57,58] [0,1,2,5,4] (po1 (po1 (po1 (pn1 (nL 2 BE) l10 (pn1 Ac l9 (Pl.z))))))) rfl λ s hE22=>qH (qs (hE22) (sr (ck 2 (en (re (by cases H;exact pL (rl (s':=Jbh z) (tr (JaK (encN:=(nL 2 BE)) (encD:=(eL BE)) (xss:=z.Arcs) (sz:=1) 0 5 1 (by kernel_rfl) (by kernel_rfl) (λ _=>rfl) (λ _=>rfl)) (gP [4] [0,2] (po1 (pn1 Ac z.Columns (Pl.z))))))))))))))))))))))))))))))))))))))))))))))))))))
end
section
variable (p0_:Int) (p1_:Int) (b2_:Ad) (o0_:(List (List Bool))) (x_13:Ad) (x_14:(List (List Bool)))
def Jbp:St:=⟨(0,.d (.int .i64 p0_))::(1,.d (.int .i64 p1_))::(2,.eptr 0 1 0 0)::(3,.ptr 1 0)::[],[some (.narr 1 (o0_.map (nL 1 eB))),some (.box [.ptr 2 0]),some (.box (An b2_ (.osl 3 2 0 (b2_.Columns.length)))),some (.narr 2 (b2_.Columns.map Ac))]⟩
def V0:St:=⟨[],[some (.narr 1 (x_14.map (nL 1 eB))),some (.box [.ptr 2 0]),some (.box (An x_13 (.osl 3 2 0 (x_13.Columns.length)))),some (.narr 2 (x_13.Columns.map Ac))]⟩
variable {p0_ p1_ b2_ o0_ x_13 x_14}
theorem F5 {z} (H:BV n p0_ p1_ b2_ o0_=some z):Cu Try.prog 58 [.d (.int .i64 p0_),.d (.int .i64 p1_),.eptr 0 1 0 0,.ptr 1 0] [some (.narr 1 (o0_.map (nL 1 eB))),some (.box [.ptr 2 0]),some (.box (An b2_ (.osl 3 2 0 (b2_.Columns.length)))),some (.narr 2 (b2_.Columns.map Ac))] 4 (.tup []) [some (.narr 1 (z.2.map (nL 1 eB))),some (.box [.ptr 2 0]),some (.box (An z.1 (.osl 3 2 0 (z.1.Columns.length)))),some (.narr 2 (z.1.Columns.map Ac))]:=by
 refine fL 37 4 (Jbp p0_ p1_ b2_ o0_) Try.func58 (sq (bx H λ x25 h90 H=>rg (tr (so1 (encN:=(nL 1 eB)) 0 1 h90) (sno (encN:=(nL 1 eB)) (enc:=eB) h90 [.own 1 (x25.map eB)] x25 1 0 0 1)) (ck 2 (bx H λ gd3 h91 H=>sp (T4 0 1 0 5 (j:=0) h91) (sp (Ca (encN:=(nL 1 eB)) (row:=[.osl 4 1 0 (x25.length)]) (k:=0) (sz:=1) (off:=0) (t:=ty 46) (v:=.osl 4 1 0 (x25.length)) h90) (ck 1 (en (sr (ck 2 (bx H λ x26 h92 H=>sp (Ax 4 1 h92) (sp (B9 eB 4 0 (ty 4) h92) (ck 1 (en (cn H (λ H=>?_) (λ H=>?_)))))))))))))))
 ·exact sr (ck 2 (bx H λ x27 h93 H=>sp (Ax 4 1 h93) (bx H λ l12 h94 H=>stA eB 4 0 (ty 4) h93 h94 (en (bx H λ x28 h95 H=>rg (tr (tr (tr (tr (tr (tr (tr (tr (sn 10 4 1 (Bp h94)) (sn 6 4 1 (Bp h94))) (sn 11 4 1 (Bp h94))) (sn 16 4 1 (Bp h94))) (snr (encN:=(nL 1 eB)) (xs:=o0_) (n:=Bz p0_ 5) [.osl 4 1 0 (x25.length)] 1 0 0 4 1 (Bp h94))) (sni (encN:=(nL 1 eB)) (xs:=o0_) (n:=Bz p0_ 5) (enc:=eB) [.osl 4 1 0 (l12.length)] l12 1 0 0 4 1)) (scl (encN:=(nL 1 eB)) (xss:=o0_) (Bz p0_ 5) [.own 1 (l12.map eB)] 1 0 l12)) (so1 (encN:=Ac) 3 2 h95)) (sno (encN:=Ac) (enc:=Af) h95 [.own 1 (x28.States.map Af),.own 1 (x28.Costs.map Af)] x28.States 2 3 0 1)) (ck 10 (sp (Ax 3 2 h95) (ck 1 (sp (Ca (encN:=Ac) (row:=[.osl 5 1 0 (x28.States.length),.own 1 (x28.Costs.map Af)]) (k:=3) (sz:=2) (off:=0) (t:=ty 40) (v:=.osl 5 1 0 (x28.States.length)) h95) (ck 2 (bx H λ l13 h96 H=>sp (BP Af 5 1 h96) (sp (Ax 3 2 h95) (ck 1 (sp (Mw (encN:=Ac) (row:=[.osl 5 1 0 (x28.States.length),.own 1 (x28.Costs.map Af)]) (row':=[.osl 7 1 0 (l13.length),.own 1 (x28.Costs.map Af)]) (k:=3) (sz:=2) (off:=0) (t:=ty 40) (v:=.osl 7 1 0 (l13.length)) h95) (ae (by cases H;exact pL' (rl (s':=V0 ({ T:=b2_.T,S:=b2_.S,States:=b2_.States,Arcs:=b2_.Arcs,Columns:=List.set b2_.Columns p0_.toNat ({ States:=l13,Costs:=x28.Costs }:AB),Last:=b2_.Last }:Ad) (List.set o0_ (Int.toNat (Bz p0_ 5)) l12)) (tr (tr (tr (tr (tr (sni (encN:=Ac) (xs:=b2_.Columns) (n:=p0_) (enc:=Af) [.osl 7 1 0 (l13.length),.own 1 (x28.Costs.map Af)] l13 2 3 0 7 1) (scl (encN:=Ac) (xss:=b2_.Columns) p0_ [.own 1 (l13.map Af),.own 1 (x28.Costs.map Af)] 2 3 ({ States:=l13,Costs:=x28.Costs }:AB))) (sn 22 3 2 (lsS b2_.Columns p0_.toNat ({ States:=l13,Costs:=x28.Costs }:AB)))) (sn 27 3 2 (lsS b2_.Columns p0_.toNat ({ States:=l13,Costs:=x28.Costs }:AB)))) (snc 2 6 3 2 (lsS b2_.Columns p0_.toNat ({ States:=l13,Costs:=x28.Costs }:AB)))) (gP [] [0,1,2,3] (pn1 (nL 1 eB) (List.set o0_ (Int.toNat (Bz p0_ 5)) l12) (po1 (po1 (pn1 Ac (List.set b2_.Columns p0_.toNat ({ States:=l13,Costs:=x28.Costs }:AB)) (Pl.z))))))))))))))))))))))))
 ·exact sk (by cases H;exact pL' (rl (s':=V0 b2_ (List.set o0_ (Int.toNat (Bz p0_ 5)) x25)) (tr (tr (sni (encN:=(nL 1 eB)) (xs:=o0_) (n:=Bz p0_ 5) (enc:=eB) [.osl 4 1 0 (x25.length)] x25 1 0 0 4 1) (scl (encN:=(nL 1 eB)) (xss:=o0_) (Bz p0_ 5) [.own 1 (x25.map eB)] 1 0 x25)) (gP [] [0,1,2,3] (pn1 (nL 1 eB) (List.set o0_ (Int.toNat (Bz p0_ 5)) x25) (po1 (po1 (pn1 Ac b2_.Columns (Pl.z)))))))))
end
section
variable (p1_:Int) (p2_:Int) (b0_:Ad) (x_15:Int) (x_16:Bool)
def Jbq:St:=⟨(0,.ptr 0 0)::(1,.d (.int .i64 p1_))::(2,.d (.int .i64 p2_))::[],[some (.box (An b0_ (.osl 1 2 0 (b0_.Columns.length)))),some (.narr 2 (b0_.Columns.map Ac))]⟩
def Jbr:St:=⟨(6,.d (.int .i64 x_15))::(7,.d (.bool x_16))::[],[some (.box (An b0_ (.osl 1 2 0 (b0_.Columns.length)))),some (.narr 2 (b0_.Columns.map Ac))]⟩
variable {p1_ p2_ b0_ x_15 x_16}
theorem DZ {z} (H:Bw n p1_ p2_ b0_=some z):Cu Try.prog 60 [.ptr 0 0,.d (.int .i64 p1_),.d (.int .i64 p2_)] [some (.box (An b0_ (.osl 1 2 0 (b0_.Columns.length)))),some (.narr 2 (b0_.Columns.map Ac))] 2 (.tup [.d (.int .i64 z.1),.d (.bool z.2)]) [some (.box (An b0_ (.osl 1 2 0 (b0_.Columns.length)))),some (.narr 2 (b0_.Columns.map Ac))]:=by
 exact fL 30 2 (Jbq p1_ p2_ b0_) Try.func60 (sr (ck 2 (en (sr (ck 6 (bx H λ x29 h97 H=>sp (Ar Al h97) (ck 3 (en (sr (ck 9 (bx H λ s3 h98 H=>sp (P8 h98) (ck 1 (bx H λ r32 h99 H=>ca true (Oy h99) (ck 2 (en (re (by cases H;exact pL (rl (s':=Jbr b0_ (Ay .i64 p1_ ((x29.Print.length:Nat):Int)) r32) (gP [6,7] [0,1] (po1 (pn1 Ac b0_.Columns (Pl.z))))))))))))))))))))))
end
theorem Jbs {n:Nat} {o0_:List Int} {z:List Int} (H:Te n o0_=some z):Cu Try.prog 61 [.osl 0 1 0 (o0_.length)] [some (.arr 1 (o0_.map Af))] 1 (.tup []) [some (.arr 1 (z.map Af))]:=Y8 Try.laysSort ⟨_,_,Try.func61,rfl,rfl⟩ H
section
variable (b0_:Ad) (x_17:Ad) (known_1:(List (List Bool))) (x_18:Int) (known_2:(List (List Bool))) (r33:(Ad×(List (List Bool)))) (w_6:Ad) (known_3:(List (List Bool))) (x_19:Int) (x_20:Ad) (class_1:Int) (w_7:Ad) (known_4:(List (List Bool))) (i_4:Int) (w_8:Ad) (known_5:(List (List Bool))) (x33:Int) (w_9:Ad) (x34:(List FJ)) (w_10:Ad) (known_6:(List (List Bool))) (x_21:Int) (w_11:Ad) (known_7:(List (List Bool))) (w_12:Ad) (known_8:(List (List Bool)))
def Jbt:St:=⟨(0,.ptr 0 0)::[],[some (.box (An b0_ (.osl 1 2 0 (b0_.Columns.length)))),some (.narr 2 (b0_.Columns.map Ac))]⟩
def Jbu:St:=⟨[],[some (.box (An x_17 (.osl 1 2 0 (x_17.Columns.length)))),some (.narr 2 (x_17.Columns.map Ac))]⟩
def Jbv:St:=⟨(1,.ptr 2 0)::(2,.eptr 3 1 0 0)::(13,.d (.int .i64 x_18))::[],[some (.box (An b0_ (.osl 1 2 0 (b0_.Columns.length)))),some (.narr 2 (b0_.Columns.map Ac)),some (.box [.ptr 0 0]),some (.narr 1 (known_1.map (nL 1 eB)))]⟩
def Jbw:St:=⟨(1,.ptr 2 0)::(2,.eptr 3 1 0 0)::[],[some (.box (An b0_ (.osl 1 2 0 (b0_.Columns.length)))),some (.narr 2 (b0_.Columns.map Ac)),some (.box [.ptr 0 0]),some (.narr 1 (known_2.map (nL 1 eB)))]⟩
def Kz:(List (List Bool))->Ex->St->Prop:=xX 2 0 (λ (y:(List (List Bool)))=>Jbw b0_ y)
def F6:((List (List Bool))×Int)->St:=(λ (x:((List (List Bool))×Int))=>Jbv b0_ x.1 x.2)
def Jbx:St:=⟨(1,.ptr 2 0)::(2,.eptr 3 1 0 0)::(4,.clo 58 [.eptr 3 1 0 0,.ptr 2 0])::(32,.d (.int .i64 ((r33.1.Columns.length:Nat):Int)))::(33,.d (.int .i64 x_19))::[],[some (.box (An w_6 (.osl 1 2 0 (w_6.Columns.length)))),some (.narr 2 (w_6.Columns.map Ac)),some (.box [.ptr 0 0]),some (.narr 1 (known_3.map (nL 1 eB)))]⟩
def Jby:St:=⟨[],[some (.box (An x_20 (.osl 1 2 0 (x_20.Columns.length)))),some (.narr 2 (x_20.Columns.map Ac))]⟩
def Jbz:St:=⟨(1,.ptr 2 0)::(2,.eptr 3 1 0 0)::(4,.clo 58 [.eptr 3 1 0 0,.ptr 2 0])::(5,.d (.int .i64 x_19))::(6,.d (.int .i64 class_1))::(32,.d (.int .i64 ((r33.1.Columns.length:Nat):Int)))::(33,.d (.int .i64 x_19))::[],[some (.box (An w_6 (.osl 1 2 0 (w_6.Columns.length)))),some (.narr 2 (w_6.Columns.map Ac)),some (.box [.ptr 0 0]),some (.narr 1 (known_3.map (nL 1 eB)))]⟩
def JbA:St:=⟨(1,.ptr 2 0)::(2,.eptr 3 1 0 0)::(4,.clo 58 [.eptr 3 1 0 0,.ptr 2 0])::(5,.d (.int .i64 x_19))::(6,.d (.int .i64 class_1))::(7,.d (.int .i64 i_4))::(32,.d (.int .i64 ((r33.1.Columns.length:Nat):Int)))::(33,.d (.int .i64 x_19))::[],[some (.box (An w_7 (.osl 1 2 0 (w_7.Columns.length)))),some (.narr 2 (w_7.Columns.map Ac)),some (.box [.ptr 0 0]),some (.narr 1 (known_4.map (nL 1 eB)))]⟩
def JbB:St:=⟨(1,.ptr 2 0)::(2,.eptr 3 1 0 0)::(4,.clo 58 [.eptr 3 1 0 0,.ptr 2 0])::(5,.d (.int .i64 x_19))::(32,.d (.int .i64 ((r33.1.Columns.length:Nat):Int)))::(33,.d (.int .i64 x_19))::[],[some (.box (An w_8 (.osl 1 2 0 (w_8.Columns.length)))),some (.narr 2 (w_8.Columns.map Ac)),some (.box [.ptr 0 0]),some (.narr 1 (known_5.map (nL 1 eB)))]⟩
def Za:St:=⟨(1,.ptr 2 0)::(2,.eptr 3 1 0 0)::(4,.clo 58 [.eptr 3 1 0 0,.ptr 2 0])::(5,.d (.int .i64 x_19))::(6,.d (.int .i64 class_1))::(7,.d (.int .i64 i_4))::(8,.d (.int .i64 x33))::(32,.d (.int .i64 ((r33.1.Columns.length:Nat):Int)))::(33,.d (.int .i64 x_19))::[],[some (.box (An w_9 (.osl 1 2 0 (w_9.Columns.length)))),some (.narr 2 (w_9.Columns.map Ac)),some (.box [.ptr 0 0]),some (.narr 1 (known_4.map (nL 1 eB)))]⟩
def Zb:St:=⟨(1,.ptr 2 0)::(2,.eptr 3 1 0 0)::(4,.clo 58 [.eptr 3 1 0 0,.ptr 2 0])::(5,.d (.int .i64 x_19))::(6,.d (.int .i64 class_1))::(7,.d (.int .i64 i_4))::(32,.d (.int .i64 ((r33.1.Columns.length:Nat):Int)))::(33,.d (.int .i64 x_19))::(96,.d (.sl (x34.map BE)))::(97,.d (.int .i64 ((x34.length:Nat):Int)))::(98,.d (.int .i64 x_21))::[],[some (.box (An w_10 (.osl 1 2 0 (w_10.Columns.length)))),some (.narr 2 (w_10.Columns.map Ac)),some (.box [.ptr 0 0]),some (.narr 1 (known_6.map (nL 1 eB)))]⟩
def Zc:St:=⟨(1,.ptr 2 0)::(2,.eptr 3 1 0 0)::(4,.clo 58 [.eptr 3 1 0 0,.ptr 2 0])::(5,.d (.int .i64 x_19))::(6,.d (.int .i64 class_1))::(7,.d (.int .i64 i_4))::(32,.d (.int .i64 ((r33.1.Columns.length:Nat):Int)))::(33,.d (.int .i64 x_19))::[],[some (.box (An w_11 (.osl 1 2 0 (w_11.Columns.length)))),some (.narr 2 (w_11.Columns.map Ac)),some (.box [.ptr 0 0]),some (.narr 1 (known_7.map (nL 1 eB)))]⟩
def Zd:St:=⟨(1,.ptr 2 0)::(2,.eptr 3 1 0 0)::(4,.clo 58 [.eptr 3 1 0 0,.ptr 2 0])::(5,.d (.int .i64 x_19))::(6,.d (.int .i64 class_1))::(7,.d (.int .i64 i_4))::(32,.d (.int .i64 ((r33.1.Columns.length:Nat):Int)))::(33,.d (.int .i64 x_19))::(96,.d (.sl (x34.map BE)))::(97,.d (.int .i64 ((x34.length:Nat):Int)))::(98,.d (.int .i64 x_21))::[],[some (.box (An w_12 (.osl 1 2 0 (w_12.Columns.length)))),some (.narr 2 (w_12.Columns.map Ac)),some (.box [.ptr 0 0]),some (.narr 1 (known_8.map (nL 1 eB)))]⟩
def KA:(Ad×(List (List Bool)))->Ex->St->Prop:=xX 2 6 (λ (y:(Ad×(List (List Bool))))=>Zc r33 x_19 class_1 i_4 y.1 y.2)
def F7:(Ad×(List (List Bool))×Int)->St:=(λ (x:(Ad×(List (List Bool))×Int))=>Zb r33 x_19 class_1 i_4 x34 x.1 x.2.1 x.2.2)
def KB:(Ad×(List (List Bool)))->Ex->St->Prop:=xX 2 4 (λ (y:(Ad×(List (List Bool))))=>JbB r33 x_19 y.1 y.2)
def F8:(Ad×(List (List Bool))×Int)->St:=(λ (x:(Ad×(List (List Bool))×Int))=>JbA r33 x_19 class_1 x.1 x.2.1 x.2.2)
def KC:Ad->Ex->St->Prop:=xX 2 2 (λ (y:Ad)=>Jby y)
def F9:(Ad×(List (List Bool))×Int)->St:=(λ (x:(Ad×(List (List Bool))×Int))=>Jbx r33 x.1 x.2.1 x.2.2)
variable {b0_ x_17 known_1 x_18 known_2 r33 w_6 known_3 x_19 x_20 class_1 w_7 known_4 i_4 w_8 known_5 x33 w_9 x34 w_10 known_6 x_21 w_11 known_7 w_12 known_8}
theorem JN (x:((List (List Bool))×Int)) (z:(((List (List Bool))×Int)⊕(List (List Bool)))) (H:BG n b0_ x.1 x.2=some z):WP (cxk 131 2) (Az Try.f37) [1,1,0,1,0,0] (AA 2 (F6 b0_) (Kz b0_) z) (F6 b0_ x):=by
 obtain ⟨known_1,x_18⟩:=x
 refine sr (ck 1 (en (sq (cn H (λ H=>?_) (λ H=>?_)))))
 ·exact sk (qz (sq (bk 1 (sr (ck 2 (en (bx H λ x30 h100 H=>rg (so1 (encN:=(nL 1 eB)) 3 1 h100) (ck 5 (sp (AL Ah b0_.States) (bx H λ l14 h101 H=>sp (VR eB 1 h101) (bx H λ gd4 h102 H=>sp (T4 3 1 0 5 (j:=0) h102) (sp (Mw (encN:=(nL 1 eB)) (row:=[.own 1 (x30.map eB)]) (row':=[.osl 4 1 0 (l14.length)]) (k:=3) (sz:=1) (off:=0) (t:=ty 46) (v:=.osl 4 1 0 (l14.length)) h100) (ae (qN (qz (rg (tr (sni (encN:=(nL 1 eB)) (xs:=known_1) (n:=x_18) (enc:=eB) [.osl 4 1 0 (l14.length)] l14 1 3 0 4 1) (scl (encN:=(nL 1 eB)) (xss:=known_1) x_18 [.own 1 (l14.map eB)] 1 3 l14)) (ck 2 (ae (by cases H;exact og (gP [1,2,13] [0,1,2,3] (po1 (pn1 Ac b0_.Columns (po1 (pn1 (nL 1 eB) (List.set known_1 x_18.toNat l14) (Pl.z)))))))))))))))))))))))))
 ·exact ex 0 (qx (by cases H;exact xo rfl (gP [1,2] [0,1,2,3] (po1 (pn1 Ac b0_.Columns (po1 (pn1 (nL 1 eB) known_1 (Pl.z))))))))
theorem JO (x:(Ad×(List (List Bool))×Int)) (z:((Ad×(List (List Bool))×Int)⊕(Ad×(List (List Bool))))) (H:Bk n r33 x_19 class_1 i_4 x34 x.1 x.2.1 x.2.2=some z):WP (cxk 131 2) (Az Try.f37) [1,1,1,1,1,1,0,0,1,1,0,0,1,1,1,0,1,0,0,1,0,0,1,1,1,0,0] (AA 2 (F7 r33 x_19 class_1 i_4 x34) (KA r33 x_19 class_1 i_4) z) (F7 r33 x_19 class_1 i_4 x34 x):=by
 obtain ⟨w_10,known_6,x_21⟩:=x
 refine sr (ck 1 (en (sq (cn H (λ H=>?_) (λ H=>?_)))))
 ·refine sk (qz (sj (λ (x:(Ad×(List (List Bool))))=>Zd r33 x_19 class_1 i_4 x34 x_21 x.1 x.2) (λ (x:(Ad×(List (List Bool))))=>BH n x_21 x.1 x.2) z ?_ (λ hFTr_writer_reach_J3=>?_)))
  ·rintro ⟨w_12,known_8⟩ H
   exact rz (ck 2 (ae (by cases H;exact og (gP [1,2,4,5,6,7,32,33,96,97,98] [0,1,2,3] (po1 (pn1 Ac w_12.Columns (po1 (pn1 (nL 1 eB) known_8 (Pl.z)))))))))
  refine bk 7 (sr (bx H λ x35 h109 H=>sp (Ar BE h109) (ck 3 (en (sr (ck 4 (bx H λ r34 h110 H=>ltP [0,1] (DZ h110) (po1 (pn1 Ac w_10.Columns (Pl.z))) (tb (f:=D9 (CW [0,1] 5 2)) [some (.box (An w_10 (.osl 1 2 0 (w_10.Columns.length)))),some (.narr 2 (w_10.Columns.map Ac)),some (.box [.ptr 0 0]),some (.narr 1 (known_6.map (nL 1 eB))),some (.box [.d (.int .i64 x35.Rule),.d (.int .i64 x35.To)])] (po1 (pn1 Ac w_10.Columns (po1 (po1 (po1 (Pl.z)))))) (ck 5 (en (sr (ck 1 (en (cn H (λ H=>?_) (λ H=>?_)))))))))))))))
  ·exact rz (ck 4 (bx H λ r35 h111 H=>xcP (xok _ _) [3,2,0,1] (F5 h111) (pn1 (nL 1 eB) known_6 (po1 (po1 (pn1 Ac w_10.Columns (Pl.z))))) (tb (f:=D9 (CW [3,2,0,1] 5 4)) [some (.box (An r35.1 (.osl 1 2 0 (r35.1.Columns.length)))),some (.narr 2 (r35.1.Columns.map Ac)),some (.box [.ptr 0 0]),some (.narr 1 (r35.2.map (nL 1 eB))),some (.box [.d (.int .i64 x35.Rule),.d (.int .i64 x35.To)])] (po1 (pn1 Ac r35.1.Columns (po1 (pn1 (nL 1 eB) r35.2 (po1 (Pl.z)))))) (ae (qN (qs (gP [1,2,4,5,6,7,32,33,96,97,98] [0,1,2,3] (po1 (pn1 Ac r35.1.Columns (po1 (pn1 (nL 1 eB) r35.2 (Pl.z)))))) (hFTr_writer_reach_J3 (r35.1,r35.2) H)))))))
  ·exact sk (qN (qs (gP [1,2,4,5,6,7,32,33,96,97,98] [0,1,2,3] (po1 (pn1 Ac w_10.Columns (po1 (pn1 (nL 1 eB) known_6 (Pl.z)))))) (hFTr_writer_reach_J3 (w_10,known_6) H)))
 ·exact ex 6 (qx (by cases H;exact xo rfl (gP [1,2,4,5,6,7,32,33] [0,1,2,3] (po1 (pn1 Ac w_10.Columns (po1 (pn1 (nL 1 eB) known_6 (Pl.z))))))))
theorem JP (x:(Ad×(List (List Bool))×Int)) (z:((Ad×(List (List Bool))×Int)⊕(Ad×(List (List Bool))))) (H:BJ n r33 x_19 class_1 x.1 x.2.1 x.2.2=some z):WP (cxk 131 2) (Az Try.f37) [1,1,1,1,1,1,0,0,1,1,0,0,1,1,1,0,1,0,0] (AA 2 (F8 r33 x_19 class_1) (KB r33 x_19) z) (F8 r33 x_19 class_1 x):=by
 obtain ⟨w_7,known_4,i_4⟩:=x
 refine sq (sq (bx H λ x31 h105 H=>rg (tr (so1 (encN:=Ac) 1 2 h105) (sno (encN:=Ac) (enc:=Af) h105 [.own 1 (x31.States.map Af),.own 1 (x31.Costs.map Af)] x31.States 2 1 0 1)) (ck 6 (sp (Ax 1 2 h105) (ck 1 (sp (Ca (encN:=Ac) (row:=[.osl 4 1 0 (x31.States.length),.own 1 (x31.Costs.map Af)]) (k:=1) (sz:=2) (off:=0) (t:=ty 40) (v:=.osl 4 1 0 (x31.States.length)) h105) (ck 2 (en (cn H (λ H=>?_) (λ H=>?_))))))))))
 ·refine sk (qz (sq (bk 5 (sq (bx H λ x32 h106 H=>rg (tr (tr (tr (tr (tr (sni (encN:=Ac) (xs:=w_7.Columns) (n:=x_19) (enc:=Af) [.osl 4 1 0 (x31.States.length),.own 1 (x31.Costs.map Af)] x31.States 2 1 0 4 1) (scl (encN:=Ac) (xss:=w_7.Columns) x_19 [.own 1 (x31.States.map Af),.own 1 (x31.Costs.map Af)] 2 1 x31)) (sn 54 1 2 (lsS w_7.Columns x_19.toNat x31))) (snc 0 6 1 2 (lsS w_7.Columns x_19.toNat x31))) (so1 (encN:=Ac) 1 2 h106)) (sno (encN:=Ac) (enc:=Af) h106 [.own 1 (x32.States.map Af),.own 1 (x32.Costs.map Af)] x32.States 2 1 0 1)) (ck 5 (sp (Ax 1 2 h106) (ck 1 (sp (Ca (encN:=Ac) (row:=[.osl 5 1 0 (x32.States.length),.own 1 (x32.Costs.map Af)]) (k:=1) (sz:=2) (off:=0) (t:=ty 40) (v:=.osl 5 1 0 (x32.States.length)) h106) (ck 1 (bx H λ x33 h107 H=>sp (Ax 5 1 h107) (sp (B9 Af 5 0 (ty 3) h107) (ck 1 (en (sj (λ (x:Ad)=>Za r33 x_19 class_1 known_4 i_4 x33 x) (λ (x:Ad)=>BI n r33 x_19 class_1 known_4 i_4 x33 x) z ?_ (λ hFTr_writer_reach_J2=>?_))))))))))))))))
  ·intro w_9 H
   exact sr (ck 5 (bx H λ x34 h108 H=>sp (Ar (eL BE) h108) (ck 1 (sp (AL BE x34) (ck 1 (en (bk 6 (bx H λ y31 h112 H=>lX JO h112 (gP [1,2,4,5,6,7,32,33,96,97,98] [0,1,2,3] (po1 (pn1 Ac w_9.Columns (po1 (pn1 (nL 1 eB) known_4 (Pl.z)))))) rfl λ s hE24=>qH (qN (qs (hE24) (rz (ck 3 (ae (by cases H;exact og (gP [1,2,4,5,6,7,32,33] [0,1,2,3] (po1 (pn1 Ac y31.1.Columns (po1 (pn1 (nL 1 eB) y31.2 (Pl.z))))))))))))))))))))
  refine sq (rg (tr (tr (tr (tr (sni (encN:=Ac) (xs:=List.set w_7.Columns x_19.toNat x31) (n:=x_19) (enc:=Af) [.osl 5 1 0 (x32.States.length),.own 1 (x32.Costs.map Af)] x32.States 2 1 0 5 1) (scl (encN:=Ac) (xss:=List.set w_7.Columns x_19.toNat x31) x_19 [.own 1 (x32.States.map Af),.own 1 (x32.Costs.map Af)] 2 1 x32)) (sn 54 1 2 (lsS (List.set w_7.Columns x_19.toNat x31) x_19.toNat x32))) (sn 66 1 2 (lsS (List.set w_7.Columns x_19.toNat x31) x_19.toNat x32))) (snc 0 6 1 2 (lsS (List.set w_7.Columns x_19.toNat x31) x_19.toNat x32))) (ck 5 (bx H λ x36 h113 H=>sp (Ar Ah h113) (ck 3 (bx H λ gd5 h114 H=>so (HG h114) (ck 2 (en (cn H (λ H=>?_) (λ H=>?_)))))))))
  ·exact rz (ck 5 (ae (qs (gP [1,2,4,5,6,7,8,32,33] [0,1,2,3] (po1 (pn1 Ac (List.set (List.set w_7.Columns x_19.toNat x31) x_19.toNat x32) (po1 (pn1 (nL 1 eB) known_4 (Pl.z)))))) (hFTr_writer_reach_J2 ({ T:=w_7.T,S:=w_7.S,States:=w_7.States,Arcs:=w_7.Arcs,Columns:=List.set (List.set w_7.Columns x_19.toNat x31) x_19.toNat x32,Last:=x_19 }:Ad) H))))
  ·exact sk (qs (gP [1,2,4,5,6,7,8,32,33] [0,1,2,3] (po1 (pn1 Ac (List.set (List.set w_7.Columns x_19.toNat x31) x_19.toNat x32) (po1 (pn1 (nL 1 eB) known_4 (Pl.z)))))) (hFTr_writer_reach_J2 ({ T:=w_7.T,S:=w_7.S,States:=w_7.States,Arcs:=w_7.Arcs,Columns:=List.set (List.set w_7.Columns x_19.toNat x31) x_19.toNat x32,Last:=w_7.Last }:Ad) H))
 ·exact ex 4 (qx (by cases H;exact xo rfl (tr (tr (tr (tr (sni (encN:=Ac) (xs:=w_7.Columns) (n:=x_19) (enc:=Af) [.osl 4 1 0 (x31.States.length),.own 1 (x31.Costs.map Af)] x31.States 2 1 0 4 1) (scl (encN:=Ac) (xss:=w_7.Columns) x_19 [.own 1 (x31.States.map Af),.own 1 (x31.Costs.map Af)] 2 1 x31)) (sn 54 1 2 (lsS w_7.Columns x_19.toNat x31))) (snc 0 6 1 2 (lsS w_7.Columns x_19.toNat x31))) (gP [1,2,4,5,32,33] [0,1,2,3] (po1 (pn1 Ac (List.set w_7.Columns x_19.toNat x31) (po1 (pn1 (nL 1 eB) known_4 (Pl.z)))))))))
theorem JR (x:(Ad×(List (List Bool))×Int)) (z:((Ad×(List (List Bool))×Int)⊕Ad)) (H:BK n r33 x.1 x.2.1 x.2.2=some z):WP (cxk 131 2) (Az Try.f37) [1,1,1,1,1,1,0,0] (AA 2 (F9 r33) (KC) z) (F9 r33 x):=by
 obtain ⟨w_6,known_3,x_19⟩:=x
 refine sr (ck 1 (en (sq (cn H (λ H=>?_) (λ H=>?_)))))
 ·refine sk (qz (sq (bk 3 (sr (ck 2 (en (sr (ck 1 (en (sj (λ (x:Int)=>Jbz r33 w_6 known_3 x_19 x) (λ (x:Int)=>Bl n r33 w_6 known_3 x_19 x) z ?_ (λ hFTr_writer_reach_J1=>?_)))))))))))
  ·intro class_1 H
   exact sq (sr (ck 1 (en (bk 4 (bx H λ y32 h115 H=>lX JP h115 (gP [1,2,4,5,6,7,32,33] [0,1,2,3] (po1 (pn1 Ac w_6.Columns (po1 (pn1 (nL 1 eB) known_3 (Pl.z)))))) rfl λ s hE25=>qH (qs (hE25) (sq (bx H λ x37 h116 H=>rg (tr (so1 (encN:=Ac) 1 2 h116) (sno (encN:=Ac) (enc:=Af) h116 [.own 1 (x37.States.map Af),.own 1 (x37.Costs.map Af)] x37.States 2 1 0 1)) (ck 5 (sp (Ax 1 2 h116) (ck 1 (sp (Ca (encN:=Ac) (row:=[.osl 4 1 0 (x37.States.length),.own 1 (x37.Costs.map Af)]) (k:=1) (sz:=2) (off:=0) (t:=ty 40) (v:=.osl 4 1 0 (x37.States.length)) h116) (bx H λ r36 h117 H=>lt [4] (Jbs h117) (bx H λ _ h118 H=>en (bx H λ x38 h119 H=>rg (tr (tr (tr (tr (tr (tr (tr (sn 124 4 1 (Tb h118)) (snr (encN:=Ac) (xs:=y32.1.Columns) (n:=x_19) [.osl 4 1 0 (x37.States.length),.own 1 (x37.Costs.map Af)] 2 1 0 4 1 (Tb h118))) (sni (encN:=Ac) (xs:=y32.1.Columns) (n:=x_19) (enc:=Af) [.osl 4 1 0 (r36.length),.own 1 (x37.Costs.map Af)] r36 2 1 0 4 1)) (scl (encN:=Ac) (xss:=y32.1.Columns) x_19 [.own 1 (r36.map Af),.own 1 (x37.Costs.map Af)] 2 1 ({ States:=r36,Costs:=x37.Costs }:AB))) (sn 120 1 2 (lsS y32.1.Columns x_19.toNat ({ States:=r36,Costs:=x37.Costs }:AB)))) (snc 0 6 1 2 (lsS y32.1.Columns x_19.toNat ({ States:=r36,Costs:=x37.Costs }:AB)))) (so1 (encN:=(nL 1 eB)) 3 1 h119)) (sno (encN:=(nL 1 eB)) (enc:=eB) h119 [.own 1 (x38.map eB)] x38 1 3 0 1)) (ck 2 (bx H λ gd6 h120 H=>sp (T4 3 1 0 5 (j:=0) h120) (sp (Ca (encN:=(nL 1 eB)) (row:=[.osl 5 1 0 (x38.length)]) (k:=3) (sz:=1) (off:=0) (t:=ty 46) (v:=.osl 5 1 0 (x38.length)) h119) (xz (xok _ _) (xs:=x38) eB (false:Bool) 5 1 (ae (qN (qz (rg (tr (tr (tr (sn 129 5 1 (lrS (x38.length) (false:Bool))) (snr (encN:=(nL 1 eB)) (xs:=y32.2) (n:=Bz x_19 5) [.osl 5 1 0 (x38.length)] 1 3 0 5 1 (lrS (x38.length) (false:Bool)))) (sni (encN:=(nL 1 eB)) (xs:=y32.2) (n:=Bz x_19 5) (enc:=eB) [.osl 5 1 0 (List.length (List.replicate (x38.length) (false:Bool)))] (List.replicate (x38.length) (false:Bool)) 1 3 0 5 1)) (scl (encN:=(nL 1 eB)) (xss:=y32.2) (Bz x_19 5) [.own 1 (List.map eB (List.replicate (x38.length) (false:Bool)))] 1 3 (List.replicate (x38.length) (false:Bool)))) (ck 2 (ae (by cases H;exact og (gP [1,2,4,32,33] [0,1,2,3] (po1 (pn1 Ac (List.set y32.1.Columns x_19.toNat ({ States:=r36,Costs:=x37.Costs }:AB)) (po1 (pn1 (nL 1 eB) (List.set y32.2 (Int.toNat (Bz x_19 5)) (List.replicate (x38.length) (false:Bool))) (Pl.z))))))))))))))))))))))))))))))))
  refine sr (ck 7 (en (cn H (λ H=>?_) (λ H=>?_))))
  ·exact rz (ck 5 (bx H λ b5 h121 H=>sp (GE h121) (bx H λ r37 h122 H=>ca false (Hm h122) (ck 1 (ae (qs (gP [1,2,4,5,6,32,33] [0,1,2,3] (po1 (pn1 Ac w_6.Columns (po1 (pn1 (nL 1 eB) known_3 (Pl.z)))))) (hFTr_writer_reach_J1 r37 H)))))))
  ·exact sk (qs (gP [1,2,4,5,6,32,33] [0,1,2,3] (po1 (pn1 Ac w_6.Columns (po1 (pn1 (nL 1 eB) known_3 (Pl.z)))))) (hFTr_writer_reach_J1 0 H))
 ·exact ex 2 (qx (by cases H;exact xo rfl (gP [] [0,1] (po1 (pn1 Ac w_6.Columns (Pl.z))))))
theorem LR {z} (H:CN n b0_=some z):Cu Try.prog 37 [.ptr 0 0] [some (.box (An b0_ (.osl 1 2 0 (b0_.Columns.length)))),some (.narr 2 (b0_.Columns.map Ac))] 2 (.tup []) [some (.box (An z (.osl 1 2 0 (z.Columns.length)))),some (.narr 2 (z.Columns.map Ac))]:=by
 exact fL 131 2 (Jbt b0_) Try.func37 (sr (ck 1 (en (sr (ck 1 (en (sq (sq (rg (tr (tr (Jdy 3 [.nil,.nil,.nil,.nil,.nil] (by kernel_rfl)) (JaI (sz:=1) (es:=[[.nil],[.nil],[.nil],[.nil],[.nil]]) 3 (List.map (nL 1 eB) ([[],[],[],[],[]]:List (List Bool))) (by kernel_rfl) (by kernel_rfl))) (JiN 2 3 1 (by kernel_rfl))) (ck 1 (en (bk 0 (bx H λ y30 h103 H=>lX JN h103 (gP [1,2,13] [0,1,2,3] (po1 (pn1 Ac b0_.Columns (po1 (pn1 (nL 1 eB) ([[],[],[],[],[]]:List (List Bool)) (Pl.z)))))) rfl λ s hE23=>qH (qs (hE23) (sr (xm (xok _ _) (ck 1 (en (sr (ck 1 (bx H λ r33 h104 H=>xcP (xok _ _) [3,2,0,1] (F5 h104) (pn1 (nL 1 eB) y30 (po1 (po1 (pn1 Ac b0_.Columns (Pl.z))))) (tb (f:=D9 (CW [3,2,0,1] 4 4)) [some (.box (An r33.1 (.osl 1 2 0 (r33.1.Columns.length)))),some (.narr 2 (r33.1.Columns.map Ac)),some (.box [.ptr 0 0]),some (.narr 1 (r33.2.map (nL 1 eB)))] (po1 (pn1 Ac r33.1.Columns (po1 (pn1 (nL 1 eB) r33.2 (Pl.z))))) (en (sr (ck 6 (en (bk 2 (bx H λ y33 h123 H=>lX JR h123 (gP [1,2,4,32,33] [0,1,2,3] (po1 (pn1 Ac r33.1.Columns (po1 (pn1 (nL 1 eB) r33.2 (Pl.z)))))) rfl λ s hE26=>qH (by cases H;exact pL' (rl (s':=Jbu z) (tr (hE26) (gP [] [0,1] (po1 (pn1 Ac z.Columns (Pl.z)))))))))))))))))))))))))))))))))))
end
end Go.AI
end
