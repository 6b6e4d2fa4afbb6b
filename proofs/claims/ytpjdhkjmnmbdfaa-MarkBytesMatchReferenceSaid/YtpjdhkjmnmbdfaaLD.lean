/- Part 4 of 6 of the proof: lemmas about the model and the program's functions, with no condition beyond those that each states. -/
import Derived.Test.YtpjdhkjmnmbdfaaLC
import Derived.RecoverIn
import Derived.TacticsInMore
import Derived.Shelf.Sort.Plain
import Derived.Shelf.Slices.In.SortNone
import Derived.Test.YtpjdhkjmnmbdfaaProg
import Derived.Shelf.Lays
import Derived.KernelRfl
section
namespace Go.AI
variable {P:Program} {Γ:Cx} {C:Code} {p:List Nat} {Q:Ex->St->Prop} {s s':St} {K:St->Prop} {i nk:Nat}
variable {α β ζ:Type}
def lpd (C:Code) (p:List Nat) (n:Nat) (ps:List Nat) (js:List Code):Of:=⟨n,ps,nav (p++[0]) C,nav (p++[1]) C,js⟩
structure JQ (Q:Ex->St->Prop) (js:List Code) (j:Nat) (s:St):Prop where
 out:YL Q js j s
theorem jz {js:List Code} (h:PQ Q .normal s):JQ Q js 0 s:=⟨h.out⟩
theorem jn {js:List Code} {j:Nat} {x y:Option ζ} {r:ζ} (H:(if Nat.beq j 0=true then x else y)=some r) (h1:x=some r->PQ Q .normal s) (h2:y=some r->JQ Q js j s):JQ Q js j s:=by
 split at H
 ·rename_i h;have:=Ji6 h;subst this;exact jz (h1 H)
 ·exact h2 H
theorem jx {js:List Code} {j:Nat} (k e:Nat) {x y:Option ζ} {r:ζ} (H:(if Nat.beq j (k+2)=true then x else y)=some r) (h1:x=some r->PQ Q (.exit e) s) (h2:y=some r->JQ Q js j s) (h:js[k]? = some (.exit e):=by kernel_rfl):JQ Q js j s:=by
 split at H
 ·rename_i hj
  have:=Ji6 hj
  subst this
  refine ⟨?_⟩
  simp only [YL,h]
  exact (h1 H).out
 ·exact h2 H
def rgV (Γ:Cx) (c:Code) (js:List Code) (ts:List Nat) (s:St):Option (FuncId×List AV×List (Option Ob)×List Nat):=
 match c with
 | .rangeFunc g ps asg body=>match Ai s.env g with
  | .clo f caps=>some (f,.yld s.objs.length::caps,rgO Γ ps asg body js ts s,AN (rgO Γ ps asg body js ts s) (.yld s.objs.length::caps))
  | _=>none
 | _=>none
def rgB (Γ:Cx) (ord:List Nat) (nb:Nat) (O O1:List (Option Ob)):Bool:=!Γ.rd&&Nat.ble nb ord.length&&Nat.ble nb O1.length&&ord.all (λ k=>Nat.blt k O.length)
theorem rf (js:List Code) (ts ord:List Nat) (j:Nat) {f:FuncId} {ys:List AV} {O0 O1 raw0:List (Option Ob)} {nb:Nat} {r:AV} (hr:Γ.lent f ys O0 nb r O1) (hp0:raw0=O0) (hk:JQ Q js j ⟨s.env,(DV ((rgV Γ (nav p C) js ts s).getD (0,[],[],[])).2.2.1 ord nb O1).set s.objs.length none⟩)
  (hc:rgV Γ (nav p C) js ts s=some (f,((rgV Γ (nav p C) js ts s).getD (0,[],[],[])).2.1,((rgV Γ (nav p C) js ts s).getD (0,[],[],[])).2.2.1,ord):=by kernel_rfl)
  (hxs:((rgV Γ (nav p C) js ts s).getD (0,[],[],[])).2.1.map (I5 ord)=ys:=by kernel_rfl) (hO:E0 ((rgV Γ (nav p C) js ts s).getD (0,[],[],[])).2.2.1 ord=raw0:=by kernel_rfl)
  (hb:rgB Γ ord nb ((rgV Γ (nav p C) js ts s).getD (0,[],[],[])).2.2.1 O1=true:=by kernel_rfl) (hj:lpJ (DV ((rgV Γ (nav p C) js ts s).getD (0,[],[],[])).2.2.1 ord nb O1) s.objs.length=some (js,j):=by kernel_rfl):WP Γ C p Q s:=by
 generalize ((rgV Γ (nav p C) js ts s).getD (0,[],[],[])).2.1=xs at hc hxs
 generalize ((rgV Γ (nav p C) js ts s).getD (0,[],[],[])).2.2.1=Ot at *
 subst hp0
 refine ⟨?_⟩
 have hk:=hk.out
 unfold rgV at hc
 split at hc
 ·rename_i g ps asg body he
  split at hc
  ·rename_i f' caps hg
   simp only [Jja,Prod.mk.injEq] at hc
   obtain ⟨rfl,rfl,rfl,rfl⟩:=hc
   unfold rgB at hb
   simp only [Ji0,Bool.not_eq_true'] at hb
   obtain ⟨⟨⟨b1,b2⟩,b3⟩,b4⟩:=hb
   rw [he]
   refine ⟨s,.refl s,?_⟩
   unfold PC
   rw [hg]
   refine ⟨js,ts,nb,r,O1,j,b1,?_,Jjf b2,Jjf b3,λ k hk=>?_,hj,hk⟩
   ·rw [hxs,hO];exact hr
   ·have:=Jjf (List.all_eq_true.1 b4 k hk)
    omega
  ·cases hc
 ·cases hc
def ZU (c:Code) (i:Nat) (s:St):Option (Nat×List AV×List Nat):=
 match (Bg c)[i]? with
 | some o=>match o.op with
  | .call ⟨.value x,args,_⟩=>match unG (Ai s.env x) with
   | .yld k=>some (k,args.toList.map (λ y=>unG (Ai s.env y)),AN s.objs (.yld k::args.toList.map (λ y=>unG (Ai s.env y))))
   | _=>none
  | _=>none
 | none=>none
def Jee (Γ:Cx) (c:Code) (o:Oper):Bool:=!Qf c&&B1 Γ.nt o.dst&&ndB o.op
def nxY (Γ:Cx) (c:Code) (i:Nat) (g:Bool) (ord:List Nat) (nb j:Nat) (O1:List (Option Ob)) (s:St):Option St:=
 match (Bg c)[i]? with
 | some o=>bif Jee Γ c o&&Nat.ble nb ord.length&&Nat.ble nb O1.length&&ord.all (λ k=>Nat.blt k s.objs.length) then
   some ⟨putA o.dst o.guard.isSome g (.d (.bool (Nat.beq j 0))) s.env,DV s.objs ord nb O1⟩ else none
 | none=>none
def gY (c:Code) (i:Nat) (s:St):Option Bool:=match (Bg c)[i]? with
 | some o=>BN (Bg c) s.env o.guard
 | none=>none
theorem X0 (hX:XOK P Γ) {o:Oper} {g:Bool} (ho:(Bg (nav p C))[i]? = some o) (h0:Jee Γ (nav p C) o=true) (hg:gY (nav p C) i s=some g) (hgt:g=true) (hx:LA P Γ.nt o g s s') (hk:RF Γ C p (i+1) Q s'):RF Γ C p i Q s:=by
 refine ⟨?_⟩
 have hk:=hk.out
 unfold A0 at hk ⊢
 simp only [Jee,Ji0,Bool.not_eq_true'] at h0
 obtain ⟨⟨h1,h3⟩,h4⟩:=h0
 rw [CH ho]
 show AW _ _ _ _ _ _
 unfold AW
 have hga:BN (Bg (nav p C)) s.env o.guard=some g:=by
  unfold gY at hg
  rw [ho] at hg
  exact hg
 rw [hga]
 simp only [h3,Bool.not_true,cond_false]
 exact ⟨λ _=>.inr (.inr ⟨h1,.inl ⟨s',by rw [hX.ext];exact hx,hk⟩⟩),λ h=>by rw [hgt] at h;cases h⟩
theorem ZV {nt:Slt} {o:Oper} {st:St} {v:AV} {O1:List (Option Ob)} {g:Bool} (h:LA P nt o true st ⟨putA o.dst false true v st.env,O1⟩):LA P nt o g st ⟨putA o.dst o.guard.isSome g v st.env,O1⟩:=by
 intro N H0 F0 w0 a w hg hI hdst rd n K Qw hqr hK
 subst hg
 refine h N H0 F0 w0 a w rfl hI hdst rd n K Qw hqr λ a' w' hI'=>hK a' w' ?_
 obtain ⟨F,ρ,hS,hSl,hrest⟩:=hI'
 refine ⟨F,ρ,hS,?_,hrest⟩
 cases hgs:o.guard.isSome with
 | false=>exact hSl
 | true=>
  cases hd:o.dst with
  | none=>rw [hd] at hSl;exact hSl
  | some d=>
   rw [hd] at hSl
   intro t
   have:=hSl t
   simp only [putA,cond_true,cond_false,Bj] at this ⊢
   split
   ·rename_i e;rw [if_pos e] at this;exact .gvT _ _ this
   ·rename_i e;rw [if_neg e] at this;exact this
theorem xy (hX:XOK P Γ) {g:Bool} (hgt:g=true) {gs:List Bool} (hi:Ft g gs) (ord:List Nat) {ys:List AV} {O0 O1 raw0:List (Option Ob)} {nb j:Nat} (hr:UX P ys O0 nb j O1) (hp0:raw0=O0) (hk:RF Γ C p (i+1) Q ((nxY Γ (nav p C) i g ord nb j O1 s).getD s)) (hg:gY (nav p C) i s=some g:=by kernel_rfl) (hgs:GJ (nav p C) i s=gs:=by kernel_rfl)
  (hc:ZU (nav p C) i s=some (ord.headD 0,((ZU (nav p C) i s).getD (0,[],[])).2.1,ord):=by kernel_rfl) (hxs:((ZU (nav p C) i s).getD (0,[],[])).2.1.map (I5 ord)=ys:=by kernel_rfl) (hO:E0 s.objs ord=raw0:=by kernel_rfl)
  (hn:(nxY Γ (nav p C) i g ord nb j O1 s).isSome=true:=by kernel_rfl) (hl:Nat.ble 1 ord.length=true:=by kernel_rfl):RF Γ C p i Q s:=by
 generalize ((ZU (nav p C) i s).getD (0,[],[])).2.1=xs at hc hxs
 have hn:=BP (d:=s) hn
 generalize (nxY Γ (nav p C) i g ord nb j O1 s).getD s=s' at hn hk
 subst hp0
 unfold ZU at hc
 unfold nxY at hn
 split at hn
 ·rename_i o ho
  rw [ho] at hc
  simp only at hc
  obtain ⟨h0,hn⟩:=AL hn
  simp only [Ji0] at h0
  obtain ⟨⟨⟨h1,h2⟩,h3⟩,h4⟩:=h0
  cases hn
  split at hc
  ·rename_i x args ts hop
   split at hc
   ·rename_i k hx
    simp only [Jja,Prod.mk.injEq] at hc
    obtain ⟨hk0,rfl,hord⟩:=hc
    subst hxs
    subst hO
    have hgob:FH true (o.op.operands.toList.map (Ai s.env)):=by
     subst hgs
     unfold GJ at hi
     rw [ho] at hi
     rw [← hgt]
     exact MD hi
    have h00:(AN s.objs (.yld k::args.toList.map (λ y=>unG (Ai s.env y))))[0]? = some k:=by
     rw [hord,hk0]
     have:=Jjf hl
     cases ord with
     | nil=>simp at this
     | cons y l=>rfl
    refine X0 hX ho h1 hg hgt (hord▸ZV (Jcz hop hgob hx (by rw [hord];exact hr) h00 (by rw [hord];exact Jjf h2) (Jjf h3) λ k hk=>?_)) hk
    rw [hord] at hk
    have:=Jjf (List.all_eq_true.1 h4 k hk)
    omega
   ·cases hc
  ·cases hc
 ·cases hn
theorem cnh {c:Bool} {x y:Option ζ} {r:ζ} (H:(if c=true then x else y)=some r) (h1:c=true->x=some r->WP Γ C (p++[0]) Q s) (h2:c=false->y=some r->WP Γ C (p++[1]) Q s) (h:Wi (nav p C)=true:=by kernel_rfl) (hc:Ai s.env (Qg (nav p C))=.d (.bool c):=by kernel_rfl):WP Γ C p Q s:=by
 refine ⟨?_⟩
 rw [UV h]
 show TZ _ _ _
 rw [hc]
 refine ⟨λ e=>?_,λ e=>?_⟩
 ·subst e;exact (h1 rfl (by simpa using H)).out
 ·subst e;exact (h2 rfl (by simpa using H)).out
def jAt (objs:List (Option Ob)) (k:Nat):Option Nat:=match obA objs k with
 | some (.lp _ _ _ j)=>some j
 | _=>none
def Jef (objs:List (Option Ob)) (k j:Nat):List (Option Ob):=match obA objs k with
 | some (.lp d ts vs _)=>objs.set k (some (.lp d ts vs j))
 | _=>objs
theorem Jhc (k:Nat) {j:Nat} (hj:Nat.beq j 0=true) (h:jAt s.objs k=some j:=by kernel_rfl):AA nk s ⟨s.env,Jef s.objs k 0⟩:=by
 have:=Ji6 hj
 subst this
 have e:Jef s.objs k 0=s.objs:=by
  unfold jAt at h
  unfold Jef
  split at h
  ·rename_i d ts vs j ho
   cases h
   apply List.ext_getElem?
   intro i
   rw [List.getElem?_set]
   split
   ·rename_i e
    subst e
    split
    ·unfold obA at ho
     split at ho
     ·rename_i he;rw [he,ho]
     ·cases ho
    ·rename_i hl;rw [Jjl (by omega)]
   ·rfl
  ·cases h
 rw [e]
 exact .refl s
theorem jb2 {b:Bool} (h:(!b)=false):b=true:=by simpa using h
def LU:Code->Code
 | .region id ops _=>.region id ops.toList.dropLast.toArray false
 | c=>c
def Jio:Code->Code
 | .region id ops _=>.region id ops false
 | c=>c
def Jip (Γ:Cx) (c:Code) (x:Nat) (s0:St) (Q:Ex->St->Prop):Ex->St->Prop:=λ _ s=>JdB Γ.ty (E5 c) x s0.env s.env s0.objs s.objs/\∃ F,(E5 c)[(E5 c).size-1]? = some F/\AW Γ false (E5 c).toList F (Q .normal) s
theorem mx {c:Code} {x:Nat} {s0:St} (m:Nat) (hk:RF Γ (Jio c) [] m Q s) (hi:Nat.ble (Bg (LU c)).length i=true:=by kernel_rfl) (hm:Nat.beq (E5 c).size (m+1)=true:=by kernel_rfl) (h:Sa c=true:=by kernel_rfl)
  (h1:ldL Γ.ty (E5 c) x s0.env s.env s0.objs=ldL Γ.ty (E5 c) x s0.env s.env s.objs:=by kernel_rfl) (h2:(ldL Γ.ty (E5 c) x s0.env s.env s0.objs).all Option.isSome=true:=by kernel_rfl):RF (cxX Γ (E5 c) x) (LU c) [] i (Jip Γ c x s0 Q) s:=by
 refine ⟨Wc i hi ⟨⟨h1,h2⟩,?_⟩⟩
 have hk:=hk.out
 have hm:=Ji6 hm
 cases c with
 | region id ops d=>
  simp only [E5] at hm ⊢
  have hg:=Ji4 (show m<ops.size by omega)
  refine ⟨ops[m],by rw [show ops.size-1=m by omega];exact hg,?_⟩
  have hk:Mj Γ false ops.toList (ops.toList.drop m) (Q .normal) s:=hk
  rw [show ops.toList.drop m=[ops[m]] by
   rw [List.drop_eq_getElem_cons (by simp;omega)]
   simp
   omega] at hk
  exact hk
 | _=>cases h
def HL (ev:Operand->AV):Op->Option FuncId×List AV
 | .call ⟨.value (.func f),args,_⟩=>(some f,args.toList.map ev)
 | .call ⟨.value x,args,_⟩=>match ev x with
  | .clo f l=>(some f,args.toList.map ev++l)
  | _=>(none,[])
 | _=>(none,[])
theorem Rt {ev ev':Operand->AV} {op:Op} (h:∀ y∈op.operands.toList,ev y=ev' y):HL ev op=HL ev' op:=by
 cases op with
 | call c=>
  obtain ⟨callee,args,ts⟩:=c
  cases callee with
  | value x=>
   have ha:args.toList.map ev=args.toList.map ev':=List.map_congr_left λ y hy=>h y (by simp [Op.operands,Call.operands];exact .inr (by simpa using hy))
   have hx:=h x (by simp [Op.operands,Call.operands])
   cases x<;>simp only [HL,ha,hx]
  | _=>rfl
 | _=>rfl
theorem X1 {nt:Slt} {o:Oper} {st:St} {f:FuncId} {xs:List AV} {nb:Nat} {r:AV} {O1:List (Option Ob)} (hgob:FH true (o.op.operands.toList.map (Ai st.env))) (hc:HL (λ y=>unG (Ai st.env y)) o.op=(some f,xs))
  (hcall:Co P f (xs.map (I5 (AN st.objs xs))) (E0 st.objs (AN st.objs xs)) nb r O1) (hnb:nb<=(AN st.objs xs).length) (hnb1:nb<=O1.length) (hord:∀ k∈AN st.objs xs,k<st.objs.length) :
  Uv P nt o true st ⟨putA o.dst false true (OW (CU (AN st.objs xs) st.objs.length nb) r) st.env,DV st.objs (AN st.objs xs) nb O1⟩:=by
 intro N H0 F0 w0 a w _ hI hdst K Qw hK
 obtain ⟨F,ρ,hS,hSl,hn,hdf⟩:=hI
 have hk:∀ v w' F' ρ'',FLe F F'->RLe ρ ρ''->Sim N H0 F0 F' ρ'' (DV st.objs (AN st.objs xs) nb O1) w'.heap->Ah F' ρ'' (OW (CU (AN st.objs xs) st.objs.length nb) r) v->Mu w w'->K (a.put o.dst v) w':=
  λ v w' F' ρ'' hF hρ hS' hv hmu=>hK _ _ ⟨F',ρ'',hS',(hSl.mono hF hρ).putA hn hdst hv,hn.put hdst,by rw [BC];exact ⟨hdf.1.mono hF,hdf.2.1.trans hmu,hdf.2.2.mono hρ⟩⟩
 have hev:∀ y∈o.op.operands.toList,Ah F ρ (unG (Ai st.env y)) (a.eval y):=λ y hy=>B4 rfl _ hgob _ (List.mem_map_of_mem hy) _ (A1 hSl y)
 unfold HL at hc
 split at hc
 ·rename_i f' args ts hop
  cases hc
  exact Uu (ev:=λ y=>unG (Ai st.env y)) hop hS (λ y hy=>hev y (by rw [hop];simp [Op.operands,Call.operands];exact .inr (by simpa using hy))) hcall hnb hnb1 hord hk
 ·rename_i x args ts _ hop
  split at hc
  ·rename_i f' l hx
   have hx:unG (Ai st.env x)=.clo f' l:=hx
   cases hc
   have hxr:=hev x (by rw [hop];simp [Op.operands,Call.operands])
   rw [hx] at hxr
   generalize hxv:a.eval x=xv at hxr
   cases hxr with
   | clo _ _ vs hl hr=>
    have hcr0:=Iw (args:=args) (a:=a) (ev:=λ y=>unG (Ai st.env y)) (λ y hy=>hev y (by rw [hop];simp [Op.operands,Call.operands];exact .inr (by simpa using hy)))
    refine Je (vs:=args.map a.eval++vs) (λ fn c hf hb hnm=>?_) hS ⟨by simp [hl],λ i y v hy hv=>?_⟩ hcall hnb hnb1 hord hk
    ·simp only [execOp,hop,resolve,hxv,Deferred.ofValue,Sem.run_bind,Sem.run_pure,Result.andThen_ok,invoke,callFunc,run_program,hf,hnm,hb,Jjc,if_false,Option.isNone_some,Array.empty_append,Array.append_empty]
    ·rw [Array.toList_append] at hv
     have hl0:=hcr0.1
     by_cases hi:i<(args.toList.map (λ y=>unG (Ai st.env y))).length
     ·rw [Ji7 hi] at hy
      rw [Ji7 (by omega)] at hv
      exact hcr0.2 i y v hy hv
     ·rw [Jji (by omega)] at hy
      rw [Jji (by omega)] at hv
      rw [← hl0] at hv
      exact hr _ y v hy (by simpa using hv)
  ·cases hc
 ·cases hc
def ZW (c:Code) (i:Nat) (s:St):Option ((Option FuncId×List AV)×List Nat):=
 match (Bg c)[i]? with
 | some o=>some (HL (λ y=>unG (Ai s.env y)) o.op,AN s.objs (HL (λ y=>unG (Ai s.env y)) o.op).2)
 | none=>none
def nxS (Γ:Cx) (ops:Array Oper) (x:Nat) (c:Code) (i:Nat) (g:Bool) (ord:List Nat) (nb:Nat) (r:AV) (O1:List (Option Ob)) (s:St):Option St:=
 match (Bg c)[i]? with
 | some o=>bif !Qf c&&Nat.beq i x&&Nat.blt x ops.size.pred&&B1 Γ.nt o.dst&&Nat.ble nb ord.length&&Nat.ble nb O1.length&&ord.all (λ k=>Nat.blt k s.objs.length) then
   some ⟨putA o.dst o.guard.isSome g (OW (CU ord s.objs.length nb) r) s.env,DV s.objs ord nb O1⟩ else none
 | none=>none
theorem xs {c:Code} {x:Nat} (hX:XOK P Γ) {g:Bool} (hgt:g=true) {gs:List Bool} (hi:Ft g gs) (ord:List Nat) {f:FuncId} {ys:List AV} {O0 O1 raw0:List (Option Ob)} {nb:Nat} {r:AV} (hr:Co P f ys O0 nb r O1) (hp0:raw0=O0)
  (hk:RF (cxX Γ (E5 c) x) (LU c) [] (i+1) Q ((nxS Γ (E5 c) x (LU c) i g ord nb r O1 s).getD s)) (hreg:Sa c=true:=by kernel_rfl) (hg:gY (LU c) i s=some g:=by kernel_rfl) (hgs:GJ (LU c) i s=gs:=by kernel_rfl)
  (hc:ZW (LU c) i s=some ((some f,((ZW (LU c) i s).getD ((none,[]),[])).1.2),ord):=by kernel_rfl) (hxs:((ZW (LU c) i s).getD ((none,[]),[])).1.2.map (I5 ord)=ys:=by kernel_rfl) (hO:E0 s.objs ord=raw0:=by kernel_rfl)
  (hn:(nxS Γ (E5 c) x (LU c) i g ord nb r O1 s).isSome=true:=by kernel_rfl):RF (cxX Γ (E5 c) x) (LU c) [] i Q s:=by
 generalize ((ZW (LU c) i s).getD ((none,[]),[])).1.2=zs at hc hxs
 have hn:=BP (d:=s) hn
 generalize (nxS Γ (E5 c) x (LU c) i g ord nb r O1 s).getD s=s' at hn hk
 subst hp0
 unfold ZW at hc
 unfold nxS at hn
 split at hn
 ·rename_i o ho
  rw [ho] at hc
  simp only [Jja,Prod.mk.injEq] at hc
  obtain ⟨hc,hord⟩:=hc
  rw [hc] at hord
  simp only at hord
  obtain ⟨h0,hn⟩:=AL hn
  simp only [Ji0] at h0
  obtain ⟨⟨⟨⟨⟨⟨h1,h2⟩,h3⟩,h4⟩,h5⟩,h6⟩,h7⟩:=h0
  cases hn
  subst hord
  subst hxs
  subst hO
  have hix:=Ji6 h2
  subst hix
  have hox:(E5 c)[i]? = some o:=by
   cases c with
   | region id ops d=>
    simp only [LU,Bg,List.getElem?_dropLast] at ho
    split at ho
    ·show ops[i]? = some o
     simpa using ho
    ·cases ho
   | _=>cases hreg
  have hgob:FH true (o.op.operands.toList.map (Ai s.env)):=by
   subst hgs
   unfold GJ at hi
   rw [ho] at hi
   rw [← hgt]
   exact MD hi
  refine ⟨?_⟩
  have hk:=hk.out
  unfold A0 at hk ⊢
  simp only [nav] at hk ⊢
  rw [CH ho]
  show AW _ _ _ _ _ _
  unfold AW
  have hga:BN (Bg (LU c)) s.env o.guard=some g:=by
   unfold gY at hg
   rw [ho] at hg
   exact hg
  rw [hga]
  have h4:B1 (cxX Γ (E5 c) i).nt o.dst=true:=h4
  simp only [h4,Bool.not_true,cond_false]
  refine ⟨λ _=>.inr (.inr ⟨by simpa using h1,.inl ⟨_,⟨hox,_,_,rfl,λ env he=>?_⟩,hk⟩⟩),λ h=>by rw [hgt] at h;cases h⟩
  rw [hX.ext]
  have hgob':FH true (o.op.operands.toList.map (Ai env)):=by
   rw [List.map_congr_left he];exact hgob
  have hc':HL (λ y=>unG (Ai env y)) o.op=(some f,zs):=by
   rw [Rt (ev':=λ y=>unG (Ai s.env y)) λ y hy=>by rw [he y hy]]
   exact hc
  have hnd:ndB o.op=true:=by
   cases hop:o.op with
   | defer d=>rw [hop] at hc;cases hc
   | _=>rfl
  exact ZV (st:=⟨env,s.objs⟩) ((X1 (st:=⟨env,s.objs⟩) hgob' hc' hr (Jjf h5) (Jjf h6) λ k hk=>by
   exact Jjf (List.all_eq_true.1 h7 k hk)).ok hnd)
 ·cases hn
theorem aq {js:List Code} (hk:WP Γ C (p++[1]) Q ⟨s.env,(Wk s.objs 1).getD []⟩) (h1:lpJ s.objs 0=some (js,0):=by kernel_rfl) (h2:(Wk s.objs 1).isSome=true:=by kernel_rfl):PQ (Jeb Γ (nav (p++[1]) C) nk Q) .normal s:=⟨⟨s,_,js,.refl s,h1,BP (d:=[]) h2,hk.out⟩⟩
theorem rq {js:List Code} {j:Nat} {O1:List (Option Ob)} {e:Ex} (sh:AA nk s s') (h:exJ js e j:=by first|exact trivial|exact rfl) (h1:lpJ s'.objs 0=some (js,1):=by kernel_rfl) (h2:Wk s'.objs j=some O1:=by kernel_rfl):PQ (Jec nk js j O1) e s:=⟨⟨h,s',sh,h1,h2⟩⟩
def Jhd (objs:List (Option Ob)):Option (Of×List Nat×List AV×Nat):=match obA objs 0 with
 | some (.lp d ts vs j)=>some (d,ts,vs,j)
 | _=>none
theorem fk (n:Nat) (ps:List Nat) (js:List Code) {ts:List Nat} {vs args:List AV} {nb j:Nat} {O0 O1:List (Option Ob)} (s:St) (hfol:P.follows .mixedOrders=true) (hΓ:Ha P Γ) (h:WP Γ C (p++[0]) (Jeb Γ (nav (p++[1]) C) nb (Jec nb js j O1)) s)
  (h0:Jhd O0=some (lpd C p n ps js,ts,vs,0):=by kernel_rfl) (hlen:Nat.beq args.length ps.length=true:=by kernel_rfl) (hps:(ps.all λ q=>Nat.blt q n)=true:=by kernel_rfl) (hnb:Nat.ble 1 nb=true:=by kernel_rfl) (hnt:Γ.nt=⟨n,[],nb,Γ.nt.qf⟩:=by kernel_rfl) (hrd:Γ.rd=true:=by kernel_rfl)
  (hs:(⟨Jed ps args (ts.zip vs),O0⟩:St)=s:=by kernel_rfl):UX P args O0 nb j O1:=by
 have ho:obA O0 0=some (.lp (lpd C p n ps js) ts vs 0):=by
  unfold Jhd at h0
  split at h0
  ·rename_i he;cases h0;exact he
  ·cases h0
 exact ZT (d:=lpd C p n ps js) hfol hΓ hrd ho (Ji6 hlen) hps hnb hnt (by
  show wpA Γ (nav (p++[0]) C) _ _
  rw [← hs] at h
  exact h.out)
end Go.AI
end
section
namespace Go.AI
variable {P:Program}
theorem Ru {f:FuncId} {fn:Func} {id:Nat} {o0 o1:Oper} {a b:Nat} {X:Code} {t u:TypeId} {caps:Array Value} (hf:P.funcs[f]? = some fn) (hb:fn.body=some (.seq (.region id #[o0,o1] false) (.cond (.tmp b) X .skip)))
  (h0:o0.op=.call ⟨.builtin .recover,#[],#[]⟩) (g0:o0.guard=none) (d0:o0.dst=some a) (h1:o1.op=.binOp .neq t (.tmp a) (.const .nilIface) u) (g1:o1.guard=none) (d1:o1.dst=some b) (he1:∀ w,(eqGuard .neq t (.tmp a) (.const .nilIface) .nilIface .nilIface).run P w=.ok () w) (he2:∀ w,(binOp .neq t .nilIface .nilIface).run P w=.ok (.bool false) w)
  (hr:fn.results=#[]) (hnm:(fn.name == "runtime.NumGoroutine")=false) (ha:a<fn.ntmps) (hbn:b<fn.ntmps) (hc:caps.size<=fn.ntmps):QD P (JW f caps):=by
 refine ⟨_,caps,f,caps,rfl,λ w=>?_,λ w=>?_⟩
 ·simp only [JW,invoke,callFunc,Sem.run_bind,run_program,Result.andThen_ok,hf,hb,hnm,if_false,Option.isNone_some,Jjc,Sem.run_pure,Array.empty_append]
 ·refine callsDIn_of_wpSIn hf hb trivial λ c₀ cs hu0=>?_
  apply wpSIn_seq
  apply wpSIn_region
  simp [wpOpsSIn,go_sem,recoverD,hu0,Exit.thenS,h0,h1,g0,g1,d0,d1,Region.wanted]
  have e:a<caps.size+(fn.ntmps-caps.size):=by omega
  rw [if_pos e]
  simp only [he1,he2,Result.andThen_ok]
  refine wpSIn_cond (t:=false) (by simp [Act.eval];omega) ?_
  simp only [Jjc,if_false]
  refine wpSIn_of_wpIn rfl (wpIn_skip ?_)
  cases c₀
  simp_all [bodyPostS,results,settle,Mu]
theorem Wm {t:TypeId} {ms:Array (String×TypeId)} (hu:P.underlying t=some (.interface ms)) (d:Nat) (w:World):(Op.equalIn (d+1) t .nilIface .nilIface).run P w=.ok true w:=by
 simp [Op.equalIn,go_sem,run_underlying hu]
theorem Si {t:TypeId} {a:Nat} {ms:Array (String×TypeId)} (hu:P.underlying t=some (.interface ms)) (w:World):(eqGuard .neq t (.tmp a) (.const .nilIface) .nilIface .nilIface).run P w=.ok () w/\(binOp .neq t .nilIface .nilIface).run P w=.ok (.bool false) w:=by
 constructor
 ·simp [eqGuard,go_sem]
 ·have e:Op.equal t .nilIface .nilIface=Op.equalIn (9999+1) t .nilIface .nilIface:=rfl
  simp only [binOp,e,Sem.run_bind,Wm hu,Result.andThen_ok,Sem.run_pure,Bool.not_true]
theorem X2 {nt:Slt} {o:Oper} {st:St} {x:Operand} {tys:Array TypeId} {f:FuncId} {caps:List AV} (hop:o.op=.defer ⟨.value x,#[],tys⟩) (hgob:FH true (o.op.operands.toList.map (Ai st.env))) (hx:unG (Ai st.env x)=.clo f caps) (hd:o.dst=none) (hQ:(f,caps.length)∈nt.qf):LA P nt o true st st:=by
 intro N H0 F0 w0 a w _ hI hdst rd n K Qw hqr hK
 have hrd:rd=none:=hqr (List.ne_nil_of_mem hQ)
 subst hrd
 obtain ⟨F,ρ,hS,hSl,hn,hdf,hmu,hrk⟩:=hI
 have hxr:Ah F ρ (unG (Ai st.env x)) (a.eval x):=B4 rfl _ hgob _ (List.mem_map_of_mem (by rw [hop];simp [Op.operands,Call.operands])) _ (A1 hSl x)
 rw [hx] at hxr
 generalize hxv:a.eval x=xv at hxr
 cases hxr with
 | clo _ _ vs hl hr=>
  have hex:(execOp a.eval o).run P w=.ok (.defer (JW f vs)) w:=by
   simp only [execOp,hop,resolve,hxv,Deferred.ofValue,Sem.run_bind,Sem.run_pure,Result.andThen_ok,JW]
   simp
  obtain ⟨l,q1,q2,q3⟩:=hdf
  refine ⟨λ _ _=>trivial,?_⟩
  show Oper.uponIn _ _ _ _ _ _ _ ((execOp a.eval o).run P w)
  rw [hex,Oper.uponIn_defer,hd]
  exact hK _ _ ⟨F,ρ,hS,hSl,hn,⟨l,.quiet (by rw [← hl];exact hQ) q1,q2,q3⟩,hmu,hrk⟩
end Go.AI
end
section
namespace Go.AI
variable {P:Program} {Γ:Cx} {C:Code} {p:List Nat} {Q:Ex->St->Prop} {s s':St} {i:Nat}
def dfB (nt:Slt) (c:Code) (i:Nat) (s:St):Bool:=match (Bg c)[i]? with
 | some o=>!Qf c&&o.guard.isNone&&o.dst.isNone&&(match o.op with
  | .defer ⟨.value x,args,_⟩=>args.isEmpty&&(match Ai s.env x with
   | .clo f caps=>nt.qf.any λ q=>Nat.beq q.1 f&&Nat.beq q.2 caps.length
   | _=>false)
  | _=>false)
 | none=>false
theorem xd (hX:XOK P Γ) (hk:RF Γ C p (i+1) Q s) (h:dfB Γ.nt (nav p C) i s=true:=by kernel_rfl):RF Γ C p i Q s:=by
 unfold dfB at h
 split at h
 ·rename_i o ho
  simp only [Ji0,Bool.not_eq_true'] at h
  obtain ⟨⟨⟨h1,h2⟩,h3⟩,h4⟩:=h
  split at h4
  ·rename_i x args tys hop
   simp only [Ji0] at h4
   obtain ⟨ha,h4⟩:=h4
   have hae:args=#[]:=by simpa using ha
   subst hae
   split at h4
   ·rename_i f caps hx
    obtain ⟨q,hq,hq2⟩:=List.any_eq_true.mp h4
    simp only [Ji0] at hq2
    have e1:=Ji6 hq2.1
    have e2:=Ji6 hq2.2
    have hQ:(f,caps.length)∈Γ.nt.qf:=by rw [← e1,← e2];exact hq
    have hgN:o.guard=none:=by simpa using h2
    have hdN:o.dst=none:=by simpa using h3
    refine ⟨?_⟩
    have hk:=hk.out
    unfold A0 at hk ⊢
    rw [CH ho]
    show AW _ _ _ _ _ _
    unfold AW
    rw [hgN]
    simp only [BN,hdN,B1,Bool.not_true,cond_false]
    refine ⟨λ _=>.inr (.inr ⟨h1,.inl ⟨s,?_,hk⟩⟩),λ h=>by cases h⟩
    rw [hX.ext]
    refine X2 hop ?_ (by rw [hx];rfl) hdN hQ
    rw [hop]
    simp [Op.operands,Call.operands,hx,FH]
   ·cases h4
  ·cases h4
 ·cases h
end Go.AI
end
section
namespace Go.AI
variable {Γ:Cx} {C:Code} {p:List Nat} {Q:Ex->St->Prop} {s s':St} {K:St->Prop} {i:Nat} {nk:Nat}
variable {α β ζ:Type}
def xX {σ:Type} (nk k:Nat) (st:σ->St):σ->Ex->St->Prop:=λ y e s=>e=Ex.exit k/\AA nk s (st y)
def xR {σ:Type} (ty:Nat->Ty) (fn:Func) (r:σ->AV):σ->Ex->St->Prop:=λ y e s=>e=Ex.ret/\RA ty fn.results.toList (r y) s
def xL {σ:Type} (nk:Nat) (ty:Nat->Ty) (fn:Func) (r:σ->AV) (O:σ->List (Option Ob)):σ->Ex->St->Prop:=λ y e s=>e=Ex.ret/\RL nk ty fn.results.toList (r y) (O y) s
def xS {σ τ:Type} (a:σ->Ex->St->Prop) (b:τ->Ex->St->Prop):σ⊕τ->Ex->St->Prop
 | .inl y=>a y
 | .inr y=>b y
variable {σ ρ τ:Type} {st:σ->St} {E:ρ->Ex->St->Prop}
theorem xo {r:ρ} {k nk':Nat} {st':τ->St} {y:τ} (hE:E r=xX nk' k st' y) (h:AA nk' s (st' y)):PQ (AJ nk st E (.inr r)) (.exit k) s:=oe (by rw [hE];exact ⟨rfl,h⟩)
theorem ro {r:ρ} {ty:Nat->Ty} {fn:Func} {f:τ->AV} {y:τ} (hE:E r=xR ty fn f y) (h:RA ty fn.results.toList (f y) s):PQ (AJ nk st E (.inr r)) .ret s:=or (by rw [hE];exact ⟨rfl,h⟩)
theorem lo {r:ρ} {nk':Nat} {ty:Nat->Ty} {fn:Func} {f:τ->AV} {O:τ->List (Option Ob)} {y:τ} (hE:E r=xL nk' ty fn f O y) (h:RL nk' ty fn.results.toList (f y) (O y) s):PQ (AJ nk st E (.inr r)) .ret s:=or (by rw [hE];exact ⟨rfl,h⟩)
theorem lX {body:σ->Option (σ⊕ρ)} {n:Nat} {x:σ} {r:ρ} {k nk':Nat} {st':τ->St} {y:τ} (hb:∀ x z,body x=some z->WP Γ C (p++[0]) (AJ nk' st E z) (st x)) (hr:whl body n x=some r) (hs:AA nk' s (st x)) (hE:E r=xX nk' k st' y)
  (hk:∀ s,AA nk' s (st' y)->PQ Q (.exit k) s) (hn:Γ.nt.nk=nk':=by rfl) (h:Qs (nav p C)=true:=by kernel_rfl):WP Γ C p Q s:=by
 subst hn
 exact lp st E hr hs hb (λ e s he=>by rw [hE] at he;obtain ⟨rfl,he⟩:=he;exact hk s he) h
theorem lR {body:σ->Option (σ⊕ρ)} {n:Nat} {x:σ} {r:ρ} {nk':Nat} {ty:Nat->Ty} {fn:Func} {f:τ->AV} {y:τ} (hb:∀ x z,body x=some z->WP Γ C (p++[0]) (AJ nk' st E z) (st x)) (hr:whl body n x=some r) (hs:AA nk' s (st x)) (hE:E r=xR ty fn f y)
  (hk:∀ s,RA ty fn.results.toList (f y) s->PQ Q .ret s) (hn:Γ.nt.nk=nk':=by rfl) (h:Qs (nav p C)=true:=by kernel_rfl):WP Γ C p Q s:=by
 subst hn
 exact lp st E hr hs hb (λ e s he=>by rw [hE] at he;obtain ⟨rfl,he⟩:=he;exact hk s he) h
theorem lL {body:σ->Option (σ⊕ρ)} {n:Nat} {x:σ} {r:ρ} {nk' nk2:Nat} {ty:Nat->Ty} {fn:Func} {f:τ->AV} {O:τ->List (Option Ob)} {y:τ} (hb:∀ x z,body x=some z->WP Γ C (p++[0]) (AJ nk' st E z) (st x)) (hr:whl body n x=some r) (hs:AA nk' s (st x)) (hE:E r=xL nk2 ty fn f O y)
  (hk:∀ s,RL nk2 ty fn.results.toList (f y) (O y) s->PQ Q .ret s) (hn:Γ.nt.nk=nk':=by rfl) (h:Qs (nav p C)=true:=by kernel_rfl):WP Γ C p Q s:=by
 subst hn
 exact lp st E hr hs hb (λ e s he=>by rw [hE] at he;obtain ⟨rfl,he⟩:=he;exact hk s he) h
def g0 (c:Code) (i:Nat) (s:St):Bool:=(gAt c i s).getD false
theorem sE {g:Bool} {v:AV} {obs:List Ob} {x:Option Eff} (ho:g=true->Hz s x v obs [] none) (hk:RF Γ C p (i+1) Q ((Kx Γ (nav p C) i g v obs s).getD s)) (hg:gAt (nav p C) i s=some g:=by kernel_rfl) (hx:NC Γ (nav p C) i s=x:=by kernel_rfl) (hgs:GJ (nav p C) i s=List.replicate (GJ (nav p C) i s).length g:=by kernel_rfl) (hn:(Kx Γ (nav p C) i g v obs s).isSome=true:=by kernel_rfl):RF Γ C p i Q s:=
 sG (gs:=GJ (nav p C) i s) ho (Sg λ b hb=>by rw [hgs] at hb;exact List.eq_of_mem_replicate hb) hk hg hx rfl hn
theorem oi {a z:ζ} (h:some a=some z):a=z:=Option.some.inj h
theorem lsS (xs:List α) (n:Nat) (y:α):xs.length=(xs.set n y).length:=List.length_set.symm
theorem lrS (n:Nat) (z:α):n=(List.replicate n z).length:=List.length_replicate.symm
theorem tr {s1 s2 s3:St} (h:AA nk s1 s2) (h':AA nk s2 s3):AA nk s1 s3:=AA.trans h h'
theorem sg (ts:List Nat) (h:gcA nk ts s=s':=by kernel_rfl):AA nk s s':=Jdc ts h
theorem gP (ts ord:List Nat) {raw:List (Option Ob)} (hp:Pl (Mi ord) raw s'.objs) (h:gcA nk ts s=⟨s'.env,raw⟩:=by kernel_rfl):AA nk s s':=Jd4 ts ord hp h
theorem sn (t k sz:Nat) {n m:Nat} (e:n=m) (h:lkA s.env t=.osl k sz 0 n:=by kernel_rfl):AA nk s ⟨(t,.osl k sz 0 m)::s.env,s.objs⟩:=JdR t k sz 0 n m h e
theorem snc (b i k sz:Nat) {n m:Nat} (e:n=m) (h:(Qm s b,(Iz s b)[i]?)=(true,some (.osl k sz 0 n)):=by kernel_rfl):AA nk s ⟨s.env,s.objs.set b (some (.box ((Iz s b).set i (.osl k sz 0 m))))⟩:=Jcr b i k sz n m h e
theorem so1 {encN:α->List AV} (k sz:Nat) {xss:List α} {x:α} {n:Int} (hx:idx xss n=some x) (h:D5 s k=some (sz,xss.map encN):=by kernel_rfl):AA nk s ⟨s.env,s.objs.set k (some (.narr sz ((xss.map encN).set n.toNat (encN x))))⟩:=Jg6 k h hx
theorem snr {encN:α->List AV} {xs:List α} {n:Int} (row:List AV) (sz k j m isz:Nat) {n1 n2:Nat} (e:n1=n2) (h:D5 s k=some (sz,(xs.map encN).set n.toNat row):=by kernel_rfl) (hj:row[j]? = some (.osl m isz 0 n1):=by kernel_rfl):AA nk s ⟨s.env,s.objs.set k (some (.narr sz ((xs.map encN).set n.toNat (row.set j (.osl m isz 0 n2)))))⟩:=Jcs k j m isz n1 n2 _ h hj e rfl
theorem sni {encN:α->List AV} {xs:List α} {n:Int} {enc:β->List D} (row:List AV) (zs:List β) (sz k j m isz:Nat) (h:(D5 s k,Qo s m)=(some (sz,(xs.map encN).set n.toNat row),some (isz,zs.map enc)):=by kernel_rfl) (hj:row[j]? = some (.osl m isz 0 zs.length):=by kernel_rfl) :
  AA nk s ⟨s.env,(s.objs.set m none).set k (some (.narr sz ((xs.map encN).set n.toNat (row.set j (.own isz (zs.map enc))))))⟩:=Jcq k j m isz _ h hj rfl
theorem sno {encN:α->List AV} {xss:List α} {x:α} {n:Int} {enc:β->List D} (hx:idx xss n=some x) (row:List AV) (ys:List β) (sz k j isz:Nat) (h:D5 s k=some (sz,(xss.map encN).set n.toNat row):=by kernel_rfl) (hj:row[j]? = some (.own isz (ys.map enc)):=by kernel_rfl) :
  AA nk s ⟨s.env,s.objs.set k (some (.narr sz ((xss.map encN).set n.toNat (row.set j (.osl s.objs.length isz 0 ys.length)))))++[some (.arr isz (ys.map enc))]⟩:=W3 k j isz _ (ltN hx) h hj rfl
theorem scl {encN:α->List AV} {xss:List α} (n:Int) (row:List AV) (sz k:Nat) (y:α) (h:D5 s k=some (sz,(xss.map encN).set n.toNat row):=by kernel_rfl) (hy:row=encN y:=by kernel_rfl):AA nk s ⟨s.env,s.objs.set k (some (.narr sz ((xss.set n.toNat y).map encN)))⟩:=Jd5 k y h hy
theorem so0 {encN:α->List AV} {xss:List α} (k sz:Nat) (n:Int) (d:α) (h:D5 s k=some (sz,xss.map encN):=by kernel_rfl):AA nk s ⟨s.env,s.objs.set k (some (.narr sz ((xss.map encN).set n.toNat (encN (xss.getD n.toNat d)))))⟩:=by
 have ho:=DF h
 have e:(xss.map encN).set n.toNat (encN (xss.getD n.toNat d))=xss.map encN:=by
  apply List.ext_getElem?
  intro i
  rw [List.getElem?_set]
  split
  ·rename_i e;subst e
   split
   ·rename_i hl
    rw [List.length_map] at hl
    rw [Ji3,Ji8,JiZ hl];rfl
   ·rename_i hl;rw [Jjl (by simpa using hl)]
  ·rfl
 rw [e,Hd ho]
 exact AA.sem λ _ _ _ _ _ _ _ _ h=>h
theorem snT {encN:α->List AV} {xss:List α} {n:Int} {d:α} {enc:β->List D} (f:α->List β) (row:List AV) (sz k j isz:Nat) (hd:f d=[]:=by rfl) (h:D5 s k=some (sz,(xss.map encN).set n.toNat row):=by kernel_rfl) (hj:row[j]? = some (.own isz ((f (xss.getD n.toNat d)).map enc)):=by kernel_rfl) :
  AA nk s ⟨s.env,s.objs.set k (some (.narr sz ((xss.map encN).set n.toNat (row.set j (.osl s.objs.length isz 0 (f (xss.getD n.toNat d)).length)))))++[some (.arr isz ((f (xss.getD n.toNat d)).map enc))]⟩:=by
 rcases Nat.lt_or_ge n.toNat (xss.map encN).length with hl|hl
 ·exact W3 k j isz _ hl h hj rfl
 ·have ho:=DF h
  have e0:∀ r,(xss.map encN).set n.toNat r=xss.map encN:=λ r=>List.set_eq_of_length_le hl
  have e1:xss.getD n.toNat d=d:=by rw [Ji8,Jjl (by simpa using hl)];rfl
  rw [e0] at ho
  rw [e0,e1,hd,Hd ho]
  refine AA.sem λ _ _ _ _ _ _ _ _ hI=>?_
  obtain ⟨F,ρ,hS,hSl,hn,hdf⟩:=hI
  refine ⟨F,ρ,hS.table (by simp) λ i L ob hi hob=>?_,hSl,hn,hdf⟩
  have:=hS.dom i L hi
  rw [AK,if_pos this] at hob;exact hob
theorem po1 {f:AV->AV} {o:Option Ob} {l m:List (Option Ob)} (h:Pl f l m):Pl f (o::l) (o::m):=Pl.o o h
theorem pn1 {f:AV->AV} (encN:α->List AV) (xss:List α) {sz:Nat} {l m:List (Option Ob)} (h:Pl f l m) (hc:∀ x,(encN x).map f=encN x:=by intro _;rfl):Pl f (some (.narr sz ((xss.map encN).map λ e=>e.map f))::l) (some (.narr sz (xss.map encN))::m):=Pl.n sz (nrM hc) h
attribute [irreducible] xL
end Go.AI
end
section
namespace Go.AI
theorem NE (x:Int):∀ l:List Int,(Wa x l).Perm (x::l)
 | []=>.refl _
 | y::l=>by
  unfold Wa
  split
  ·exact .refl _
  ·exact ((NE x l).cons y).trans (.swap x y l)
theorem KA:∀ l:List Int,(Jl l).Perm l
 | []=>.refl _
 | x::l=>(NE x _).trans ((KA l).cons x)
theorem OF {x:Int}:∀ {l:List Int},l.Pairwise (·<=·)->(Wa x l).Pairwise (·<=·)
 | [],_=>by simp [Wa]
 | y::l,h=>by
  unfold Wa
  rw [List.pairwise_cons] at h
  split
  ·rename_i hxy
   refine List.pairwise_cons.2 ⟨λ z hz=>?_,List.pairwise_cons.2 h⟩
   rcases List.mem_cons.1 hz with rfl|hz
   ·exact hxy
   ·have:=h.1 z hz;omega
  ·rename_i hxy
   refine List.pairwise_cons.2 ⟨λ z hz=>?_,OF h.2⟩
   rcases List.mem_cons.1 ((NE x l).mem_iff.1 hz) with rfl|hz
   ·omega
   ·exact h.1 z hz
theorem Ie:∀ l:List Int,(Jl l).Pairwise (·<=·)
 | []=>.nil
 | x::l=>OF (Ie l)
theorem Ta (l:List Int):Jl l=l.mergeSort λ x y=>decide (x<=y):=by
 refine List.Perm.eq_of_pairwise (le:=(·<=·)) (λ a b _ _ h1 h2=>by omega) (Ie l) ?_ ((KA l).trans (List.mergeSort_perm _ _).symm)
 have:=List.pairwise_mergeSort (le:=λ x y:Int=>decide (x<=y)) (λ a b c h1 h2=>by simp at *;omega) (λ a b=>by simp;omega) l
 exact this.imp λ h=>by simpa using h
end Go.AI
end
section
namespace Go.AI
open Go.Sort Go.Shelf Go.Proofs
variable {P:Program} {ρs:Ren}
theorem Sim.more {N:Nat->Prop} {H0 F0 F:Nat->Option Obj} {ρ:Nat->Option Loc} {O:List (Option Ob)} {h:Array Obj} (hS:Sim N H0 F0 F ρ O h) (os:Array Obj):Sim N H0 F0 F ρ O (h++os):=by
 have hl:∀ b,b<h.size->(h++os)[b]? = h[b]? := λ b hb=>Array.getElem?_append_left hb
 have hg:∀ b o,h[b]? = some o->(h++os)[b]? = some o:=λ b o hb=>by rw [hl b (Ao hb)];exact hb
 obtain ⟨σ,hσ⟩:=hS.inn
 have hM:∀ k c M,σ k c=some M->(h++os)[M.b]? = h[M.b]? := λ k c M hM=>hl _ (hσ.new k c M hM).2.1
 refine { hS with size:=λ b hb=>hS.size b (by simp at hb;omega),old:=λ b hb=>?_,frz:=λ b o hb=>hg b o (hS.frz b o hb),loc:=λ k L hk=>?_,obj:=λ k L ob hk ho=>?_,inn:=⟨σ,λ k c M hM=>?_,hσ.obj,hσ.sep,λ k L sz es hk ho i e j isz xs hi hj cs t fr v hb hv=>?_⟩ }
 ·have:b<h.size:=by
   apply Classical.byContradiction;intro hn
   exact hb (hS.size b (by omega))
  rw [hl b this];exact hS.old b hb
 ·have:=hS.loc k L hk;simp;omega
 ·obtain ⟨g1,g2,g3⟩:=hS.obj k L ob hk ho
  exact ⟨g1.mono (FLe.refl _) (RLe.refl _) (hl _ (hS.loc k L hk)),g2,g3⟩
 ·obtain ⟨g1,g2,g3⟩:=hσ.new k c M hM
  exact ⟨g1,by simp;omega,g3⟩
 ·rw [hl _ (hS.loc k L hk)] at hb
  exact (hσ.rep k L sz es hk ho i e j isz xs hi hj cs t fr v hb hv).mono (FLe.refl _) λ L' hL'=>hM _ _ _ hL'
theorem X3 (L:Lays.n189 P ρs) (hf:∃ fn c,P.funcs[ρs.f 189]? = some fn/\fn.body=some c/\(fn.name == "runtime.NumGoroutine")=false) {xs zs:List Int} (h:WW xs=some zs) :
  Co P (ρs.f 189) [.osl 0 1 0 xs.length] [some (.arr 1 (xs.map Ag))] 1 (.tup []) [some (.arr 1 (zs.map Ag))]:=by
 have hz:xs.length<4611686018427387904/\zs=xs.mergeSort λ x y=>decide (x<=y):=by
  unfold WW at h
  split at h
  ·rename_i h1;exact ⟨h1,by rw [← Ta];exact (Option.some.inj h).symm⟩
  ·cases h
 obtain ⟨hlt,hzs⟩:=hz
 refine ⟨hf,λ N F ρ w vs hS hcr=>?_⟩
 obtain ⟨v,rfl⟩:∃ v,vs=#[v]:=by
  have:=hcr.1
  have h1:vs.size=1:=by simpa using this.symm
  exact ⟨vs[0],by apply Array.ext;simp [h1];intro i h1' h2;simp at h2;subst h2;rfl⟩
 have hv:=hcr.2 0 _ v rfl rfl
 have hlen:zs.length=xs.length:=by rw [hzs];exact List.length_mergeSort _
 have htup:∀ F' ρ',Ah F' ρ' (.tup []) (.tuple #[]):=λ F' ρ'=>.tup [] #[] rfl λ i a v h=>by simp at h
 generalize hn:xs.length=n at hv
 cases hv with
 | osl0 _ _ _ a=>
  have hx:xs=[]:=List.length_eq_zero_iff.1 hn
  have hz0:zs=[]:=List.length_eq_zero_iff.1 (by omega)
  refine (Any.slices_Sort_int_none L a 0 w).mono λ e w' he=>?_
  obtain ⟨rfl,rfl⟩:=he
  subst hx;subst hz0
  exact ⟨_,F,ρ,rfl,hS,λ j _ L h=>h,htup _ _,Mu.refl _⟩
 | osl _ _ _ _ cap Lo hL hc hs hz=>
  obtain ⟨⟨g1,g2,cs,t,fr,g3,g4,g5,g6⟩,gN,gF⟩:=hS.obj 0 Lo _ hL rfl
  simp only [List.length_map,Nat.mul_one] at g2
  have hcell:∀ j,j<xs.length->cs[Lo.base+j]? = some (.int .i64 (xs.toArray[j]!)):=λ j hj=>by
   obtain ⟨u,hu,hd⟩:=g6 j (Ag xs[j]) (by rw [Ji3,JiZ hj];rfl) 0 (.int .i64 xs[j]) rfl
   cases hd
   have e:xs.toArray[j]! = xs[j]:=by rw [getElem!_pos _ j (by simpa using hj)];simp
   rw [e]
   simpa using hu
  have hH:Holds (Value.int .i64) w Lo.b (Lo.base+0*1) xs.toArray:=λ j hj=>by
   have hj:j<xs.length:=by simpa using hj
   have:=hcell j hj
   refine ⟨by simp only [World.cell?,g3,Option.isSome_none,Jjc,if_false,Nat.zero_mul,Nat.add_zero];exact this,PD g3 (g5 _ (by simp;omega))⟩
  refine ((hn▸Any.slices_Sort_int L Lo.b (Lo.base+0*1) cap xs w hH (Ao g3) hlt)).mono λ e w' he=>?_
  obtain ⟨rfl,m,os,rfl⟩:=he
  rw [← hzs]
  have hheap:(grow (putRow (Value.int .i64) (Sort.ahead w m) Lo.b (Lo.base+0*1) zs.toArray) os).heap=w.heap.setIfInBounds Lo.b (.cells (putCells (Value.int .i64) Lo.base zs.toArray cs) t fr)++os:=by
   simp only [grow,putRow,mapBlock,Sort.ahead,Nat.zero_mul,Nat.add_zero]
   congr 1
   apply Array.ext_getElem?
   intro i
   rw [Array.getElem?_modify,Array.getElem?_setIfInBounds]
   split
   ·rename_i e;subst e
    rw [if_pos (Ao g3),g3];rfl
   ·rfl
  have hS1:=hS.rewrite (k':=0) (L':=Lo) (x:=.cells (putCells (Value.int .i64) Lo.base zs.toArray cs) t fr) (O':=[some (.arr 1 (zs.map Ag))]) hL rfl (by rw [Cg hL];exact RLe.refl _) rfl (λ j ob' hj hob'=>by
    have:=AT hob';simp at this;omega) (by simp) (by simp) (λ ob' hob'=>by
    cases hob'
    refine ⟨λ e he=>?_,by simp;omega,_,t,fr,by rw [Array.getElem?_setIfInBounds_self_of_lt (Ao g3)],by simp [putCells,g4],g5,λ i e hi j x hx=>?_⟩
    ·simp only [List.mem_map] at he;obtain ⟨y,_,rfl⟩:=he;rfl
    ·simp only [Ji3,Ji2] at hi
     obtain ⟨y,hy,rfl⟩:=hi
     have hj:j=0:=by have:=Af hx;simpa [Ag] using this
     subst hj
     have hx:x=.int .i64 y:=by simpa [Ag] using hx.symm
     subst hx
     have hil:=Af hy
     refine ⟨.int .i64 y,?_,.int _ _⟩
     have hin:Lo.base+i<cs.size:=by omega
     have e:zs.toArray[i]! = y:=by
      rw [getElem!_pos _ i (by simpa using hil)]
      simpa [JiZ hil] using hy
     simp only [putCells,Array.getElem?_mapIdx,Nat.mul_one,Nat.add_zero,Ji4 hin,Option.map_some]
     rw [if_pos ⟨by omega,by simp;omega⟩,show Lo.base+i-Lo.base=i by omega,e]) (λ ob' hob'=>by cases hob';rfl)
  rw [Cg hL] at hS1
  refine ⟨_,F,ρ,rfl,by rw [hheap];exact hS1.more os,λ j _ L h=>h,htup _ _,rfl,rfl,by rw [hheap];simp⟩
end Go.AI
end
section
namespace Go.Proofs
open Go.Shelf
def Try.laysSort_ren:Go.Shelf.Ren:=⟨λ|189=>61|125=>74|257=>73|128=>90|129=>91|294=>81|295=>82|296=>83|297=>84|298=>85|299=>86|216=>87|300=>88|301=>89|328=>93|329=>94|330=>95|331=>96|332=>97|215=>98|343=>99|n=>n,λ|28=>40|3=>3|46=>161|0=>0|51=>172|53=>174|4=>4|183=>166|182=>165|131=>148|5=>5|9=>9|218=>176|222=>180|228=>182|229=>183|n=>n,λ|n=>n⟩
theorem Try.laysSort:Go.Proofs.Lays.n189 Try.prog Try.laysSort_ren:={
 mixed:=by kernel_rfl
 f125:=Try.func74.trans (congrArg some (by kernel_rfl))
 f128:=Try.func90.trans (congrArg some (by kernel_rfl))
 f129:=Try.func91.trans (congrArg some (by kernel_rfl))
 f189:=Try.func61.trans (congrArg some (by kernel_rfl))
 f215:=Try.func98.trans (congrArg some (by kernel_rfl))
 f216:=Try.func87.trans (congrArg some (by kernel_rfl))
 f257:=Try.func73.trans (congrArg some (by kernel_rfl))
 f294:=Try.func81.trans (congrArg some (by kernel_rfl))
 f295:=Try.func82.trans (congrArg some (by kernel_rfl))
 f296:=Try.func83.trans (congrArg some (by kernel_rfl))
 f297:=Try.func84.trans (congrArg some (by kernel_rfl))
 f298:=Try.func85.trans (congrArg some (by kernel_rfl))
 f299:=Try.func86.trans (congrArg some (by kernel_rfl))
 f300:=Try.func88.trans (congrArg some (by kernel_rfl))
 f301:=Try.func89.trans (congrArg some (by kernel_rfl))
 f328:=Try.func93.trans (congrArg some (by kernel_rfl))
 f329:=Try.func94.trans (congrArg some (by kernel_rfl))
 f330:=Try.func95.trans (congrArg some (by kernel_rfl))
 f331:=Try.func96.trans (congrArg some (by kernel_rfl))
 f332:=Try.func97.trans (congrArg some (by kernel_rfl))
 f343:=Try.func99.trans (congrArg some (by kernel_rfl))
 t0:=Try.underlying0
 a0:=Try.isAgg0
 z0:=Try.sizeOf0
 v0:=Try.zeroValue0
 t3:=Try.underlying3
 a3:=Try.isAgg3
 z3:=Try.sizeOf3
 v3:=Try.zeroValue3
 t4:=Try.underlying4
 a4:=Try.isAgg4
 z4:=Try.sizeOf4
 v4:=Try.zeroValue4
 t5:=Try.underlying5
 a5:=Try.isAgg5
 z5:=Try.sizeOf5
 v5:=Try.zeroValue5
 t9:=Try.underlying9
 a9:=Try.isAgg9
 z9:=Try.sizeOf9
 v9:=Try.zeroValue9
 t28:=Try.underlying40
 a28:=Try.isAgg40
 z28:=Try.sizeOf40
 v28:=Try.zeroValue40
 t46:=Try.underlying161
 a46:=Try.isAgg161
 z46:=Try.sizeOf161
 v46:=Try.zeroValue161
 t51:=Try.underlying172
 a51:=Try.isAgg172
 z51:=Try.sizeOf172
 v51:=Try.zeroValue172
 t53:=Try.underlying174
 a53:=Try.isAgg174
 z53:=Try.sizeOf174
 v53:=Try.zeroValue174
 t131:=Try.underlying148
 a131:=Try.isAgg148
 z131:=Try.sizeOf148
 v131:=Try.zeroValue148
 t182:=Try.underlying165
 a182:=Try.isAgg165
 z182:=Try.sizeOf165
 v182:=Try.zeroValue165
 t183:=Try.underlying166
 a183:=Try.isAgg166
 z183:=Try.sizeOf166
 v183:=Try.zeroValue166
 t218:=Try.underlying176
 a218:=Try.isAgg176
 z218:=Try.sizeOf176
 v218:=Try.zeroValue176
 t222:=Try.underlying180
 a222:=Try.isAgg180
 z222:=Try.sizeOf180
 v222:=Try.zeroValue180
 t228:=Try.underlying182
 a228:=Try.isAgg182
 z228:=Try.sizeOf182
 v228:=Try.zeroValue182
 t229:=Try.underlying183
 a229:=Try.isAgg183
 z229:=Try.sizeOf183
 v229:=Try.zeroValue183 }
end Go.Proofs
end
section
namespace Go.AI
open Go.Proofs
set_option maxRecDepth 100000
theorem DQ:Inf Try.prog 3 1 8 (.int .i64 0):=AE (by kernel_rfl)
theorem JcA:Inf Try.prog 4 1 1 (.bool false):=AE (by kernel_rfl)
theorem Qu:Inf Try.prog 5 1 1 (.int .u8 0):=AE (by kernel_rfl)
theorem Tb:Inf Try.prog 9 1 16 (.string ⟨#[]⟩):=AE (by kernel_rfl)
theorem Jdh:Inf Try.prog 22 1 24 (.slice none 0 0):=AE (by kernel_rfl)
theorem Jhe:Inf Try.prog 24 3 32 (.agg #[.int .u8 0,.int .u8 0,.slice none 0 0]):=AE (by kernel_rfl)
theorem ZX:Inf Try.prog 25 1 24 (.slice none 0 0):=AE (by kernel_rfl)
theorem Jdi:Inf Try.prog 27 1 24 (.slice none 0 0):=AE (by kernel_rfl)
theorem Jdj:Inf Try.prog 29 3 40 (.agg #[.int .i64 0,.int .u8 0,.slice none 0 0]):=AE (by kernel_rfl)
theorem Jhf:Inf Try.prog 32 1 24 (.slice none 0 0):=AE (by kernel_rfl)
theorem Jdk:Inf Try.prog 33 1 8 (.int .i64 0):=AE (by kernel_rfl)
theorem UY:Inf Try.prog 39 1 24 (.slice none 0 0):=AE (by kernel_rfl)
theorem Sj:Inf Try.prog 40 1 24 (.slice none 0 0):=AE (by kernel_rfl)
theorem Jdl:Inf Try.prog 42 2 48 (.agg #[.slice none 0 0,.slice none 0 0]):=AE (by kernel_rfl)
theorem Jhg:Inf Try.prog 44 4 64 (.agg #[.slice none 0 0,.slice none 0 0,.int .i64 0,.int .i64 0]):=AE (by kernel_rfl)
theorem ZY:Inf Try.prog 46 1 24 (.slice none 0 0):=AE (by kernel_rfl)
theorem Jdm:Inf Try.prog 48 6 64 (.agg #[.string ⟨#[]⟩,.slice none 0 0,.int .u8 0,.int .u8 0,.int .i64 0,.int .i64 0]):=AE (by kernel_rfl)
theorem Jhh:Inf Try.prog 52 4 40 (.agg #[.int .i64 0,.int .i64 0,.int .i64 0,.string ⟨#[]⟩]):=AE (by kernel_rfl)
theorem Jhi:Inf Try.prog 56 1 24 (.slice none 0 0):=AE (by kernel_rfl)
theorem Jdn:Inf Try.prog 58 3 24 (.agg #[.int .i64 0,.int .i64 0,.int .i64 0]):=AE (by kernel_rfl)
theorem Jdo:Inf Try.prog 59 1 24 (.slice none 0 0):=AE (by kernel_rfl)
theorem Jhj:Inf Try.prog 61 4 48 (.agg #[.int .i64 0,.int .i64 0,.int .i64 0,.slice none 0 0]):=AE (by kernel_rfl)
theorem Jdp:Inf Try.prog 63 5 40 (.agg #[.int .i64 0,.int .i64 0,.int .i64 0,.int .i64 0,.int .i64 0]):=AE (by kernel_rfl)
theorem Jhk:Inf Try.prog 65 9 80 (.agg #[.int .i64 0,.int .i64 0,.int .i64 0,.int .i64 0,.int .i64 0,.int .i64 0,.int .i64 0,.int .i64 0,.string ⟨#[]⟩]):=AE (by kernel_rfl)
theorem Jdq:Inf Try.prog 68 2 2 (.agg #[.int .u8 0,.int .u8 0]):=AE (by kernel_rfl)
theorem Jdr:Inf Try.prog 70 6 56 (.agg #[.slice none 0 0,.slice none 0 0,.int .u8 0,.int .u8 0,.int .u8 0,.int .u8 0]):=AE (by kernel_rfl)
theorem W8:Inf Try.prog 80 3 24 (.agg #[.int .i64 0,.int .i64 0,.int .u8 0]):=AE (by kernel_rfl)
theorem Jhl:Inf Try.prog 82 7 80 (.agg #[.string ⟨#[]⟩,.slice none 0 0,.int .i64 0,.int .i64 0,.int .i64 0,.int .u8 0,.bool false]):=AE (by kernel_rfl)
theorem Jhm:Inf Try.prog 85 1 24 (.slice none 0 0):=AE (by kernel_rfl)
theorem ZZ:Inf Try.prog 88 1 24 (.slice none 0 0):=AE (by kernel_rfl)
theorem Jhn:Inf Try.prog 92 6 72 (.agg #[.string ⟨#[]⟩,.int .i64 0,.int .i64 0,.int .i64 0,.int .u8 0,.slice none 0 0]):=AE (by kernel_rfl)
theorem Jds:Inf Try.prog 97 1 1 (.int .u8 0):=AE (by kernel_rfl)
theorem Jeg:Inf Try.prog 100 1 24 (.slice none 0 0):=AE (by kernel_rfl)
theorem Jeh:Inf Try.prog 102 1 24 (.slice none 0 0):=AE (by kernel_rfl)
theorem Jei:Inf Try.prog 105 4 48 (.agg #[.int .i64 0,.int .i64 0,.int .i64 0,.slice none 0 0]):=AE (by kernel_rfl)
theorem Z0:Inf Try.prog 107 10 136 (.agg #[.int .i64 0,.int .i64 0,.string ⟨#[]⟩,.slice none 0 0,.slice none 0 0,.int .i64 0,.int .i64 0,.int .i64 0,.slice none 0 0,.int .i64 0]):=AE (by kernel_rfl)
theorem Jej:Inf Try.prog 109 2 16 (.agg #[.int .i64 0,.int .i64 0]):=AE (by kernel_rfl)
theorem Jek:Inf Try.prog 113 1 8 (.pointer none):=AE (by kernel_rfl)
theorem Z1:Inf Try.prog 116 2 48 (.agg #[.slice none 0 0,.slice none 0 0]):=AE (by kernel_rfl)
theorem Z2:Inf Try.prog 117 1 24 (.slice none 0 0):=AE (by kernel_rfl)
theorem Z3:Inf Try.prog 118 1 24 (.slice none 0 0):=AE (by kernel_rfl)
theorem Jel:Inf Try.prog 120 8 136 (.agg #[.int .i64 0,.int .u8 0,.slice none 0 0,.string ⟨#[]⟩,.slice none 0 0,.slice none 0 0,.slice none 0 0,.int .i64 0]):=AE (by kernel_rfl)
theorem Jem:Inf Try.prog 128 1 24 (.slice none 0 0):=AE (by kernel_rfl)
theorem Z4:Inf Try.prog 132 1 24 (.slice none 0 0):=AE (by kernel_rfl)
theorem Z5:Inf Try.prog 133 1 24 (.slice none 0 0):=AE (by kernel_rfl)
theorem Z6:Inf Try.prog 135 5 88 (.agg #[.int .i64 0,.int .i64 0,.slice none 0 0,.slice none 0 0,.slice none 0 0]):=AE (by kernel_rfl)
theorem Z7:Inf Try.prog 138 5 56 (.agg #[.slice none 0 0,.bool false,.int .i64 0,.int .i64 0,.int .i64 0]):=AE (by kernel_rfl)
theorem Jen:Inf Try.prog 142 1 8 (.map none):=AE (by kernel_rfl)
theorem Z8:Inf Try.prog 143 1 24 (.slice none 0 0):=AE (by kernel_rfl)
theorem Z9:Inf Try.prog 145 2 16 (.agg #[.int .i64 0,.int .i64 0]):=AE (by kernel_rfl)
theorem Jeo:Inf Try.prog 146 5 120 (.agg #[.slice none 0 0,.slice none 0 0,.slice none 0 0,.slice none 0 0,.slice none 0 0]):=AE (by kernel_rfl)
theorem Jep:Inf Try.prog 151 1 8 (.pointer none):=AE (by kernel_rfl)
theorem Jeq:Inf Try.prog 161 1 8 (.int .u64 0):=AE (by kernel_rfl)
theorem Jer:Inf Try.prog 165 1 8 (.int .i64 0):=AE (by kernel_rfl)
theorem Jes:Inf Try.prog 172 1 4 (.int .u32 0):=AE (by kernel_rfl)
theorem Jet:Inf Try.prog 174 1 8 (.int .u64 0):=AE (by kernel_rfl)
theorem Jeu:Inf Try.prog 176 1 8 (.int .u64 0):=AE (by kernel_rfl)
theorem Jev:Inf Try.prog 180 1 8 (.pointer none):=AE (by kernel_rfl)
theorem Jew:Inf Try.prog 206 2 16 (.agg #[.int .i64 0,.int .i64 0]):=AE (by kernel_rfl)
def ty:Nat->Ty
 | 3=>⟨true,[],1,false,[.int .i64 0],.int .i64⟩
 | 4=>⟨true,[],1,false,[.bool false],.bool⟩
 | 5=>⟨true,[],1,false,[.int .u8 0],.int .u8⟩
 | 9=>⟨true,[],1,false,[.str []],.string⟩
 | 22=>⟨true,[],1,false,[.nil],.slice 6 56 [.nil,.nil,.int .u8 0,.int .u8 0,.int .u8 0,.int .u8 0]⟩
 | 24=>⟨true,[],3,true,[.int .u8 0,.int .u8 0,.nil],.struct [(0,1),(1,1),(2,1)]⟩
 | 25=>⟨true,[],1,false,[.nil],.slice 1 1 [.int .u8 0]⟩
 | 27=>⟨true,[],1,false,[.nil],.slice 6 64 [.str [],.nil,.int .u8 0,.int .u8 0,.int .i64 0,.int .i64 0]⟩
 | 29=>⟨true,[],3,true,[.int .i64 0,.int .u8 0,.nil],.struct [(0,1),(1,1),(2,1)]⟩
 | 32=>⟨true,[],1,false,[.nil],.slice 1 16 [.str []]⟩
 | 33=>⟨true,[],1,false,[.int .i64 0],.int .i64⟩
 | 39=>⟨true,[],1,false,[.nil],.slice 1 1 [.int .u8 0]⟩
 | 40=>⟨true,[],1,false,[.nil],.slice 1 8 [.int .i64 0]⟩
 | 42=>⟨true,[],2,true,[.nil,.nil],.struct [(0,1),(1,1)]⟩
 | 44=>⟨true,[],4,true,[.nil,.nil,.int .i64 0,.int .i64 0],.struct [(0,2),(2,1),(3,1)]⟩
 | 46=>⟨true,[],1,false,[.nil],.slice 1 1 [.bool false]⟩
 | 48=>⟨true,[],6,true,[.str [],.nil,.int .u8 0,.int .u8 0,.int .i64 0,.int .i64 0],.struct [(0,1),(1,1),(2,1),(3,1),(4,1),(5,1)]⟩
 | 52=>⟨true,[.int .i64,.int .i64,.int .i64,.string],4,true,[.int .i64 0,.int .i64 0,.int .i64 0,.str []],.struct [(0,1),(1,1),(2,1),(3,1)]⟩
 | 56=>⟨true,[],1,false,[.nil],.slice 10 136 [.int .i64 0,.int .i64 0,.str [],.nil,.nil,.int .i64 0,.int .i64 0,.int .i64 0,.nil,.int .i64 0]⟩
 | 58=>⟨true,[.int .i64,.int .i64,.int .i64],3,true,[.int .i64 0,.int .i64 0,.int .i64 0],.struct [(0,1),(1,1),(2,1)]⟩
 | 59=>⟨true,[],1,false,[.nil],.slice 5 88 [.int .i64 0,.int .i64 0,.nil,.nil,.nil]⟩
 | 61=>⟨true,[],4,true,[.int .i64 0,.int .i64 0,.int .i64 0,.nil],.struct [(0,3),(3,1)]⟩
 | 63=>⟨true,[.int .i64,.int .i64,.int .i64,.int .i64,.int .i64],5,true,[.int .i64 0,.int .i64 0,.int .i64 0,.int .i64 0,.int .i64 0],.struct [(0,1),(1,1),(2,1),(3,1),(4,1)]⟩
 | 65=>⟨true,[],9,true,[.int .i64 0,.int .i64 0,.int .i64 0,.int .i64 0,.int .i64 0,.int .i64 0,.int .i64 0,.int .i64 0,.str []],.struct [(0,1),(1,1),(2,5),(7,1),(8,1)]⟩
 | 68=>⟨true,[],2,true,[.int .u8 0,.int .u8 0],.array 2 1⟩
 | 70=>⟨true,[],6,true,[.nil,.nil,.int .u8 0,.int .u8 0,.int .u8 0,.int .u8 0],.struct [(0,1),(1,1),(2,1),(3,1),(4,2)]⟩
 | 80=>⟨true,[.int .i64,.int .i64,.int .u8],3,true,[.int .i64 0,.int .i64 0,.int .u8 0],.struct [(0,1),(1,1),(2,1)]⟩
 | 82=>⟨true,[],7,true,[.str [],.nil,.int .i64 0,.int .i64 0,.int .i64 0,.int .u8 0,.bool false],.struct [(0,1),(1,1),(2,1),(3,3),(6,1)]⟩
 | 85=>⟨true,[],1,false,[.nil],.slice 1 24 [.nil]⟩
 | 88=>⟨true,[],1,false,[.nil],.slice 3 24 [.int .i64 0,.int .i64 0,.int .u8 0]⟩
 | 92=>⟨true,[],6,true,[.str [],.int .i64 0,.int .i64 0,.int .i64 0,.int .u8 0,.nil],.struct [(0,1),(1,1),(2,3),(5,1)]⟩
 | 97=>⟨true,[],1,false,[.int .u8 0],.int .u8⟩
 | 107=>⟨true,[],10,true,[.int .i64 0,.int .i64 0,.str [],.nil,.nil,.int .i64 0,.int .i64 0,.int .i64 0,.nil,.int .i64 0],.struct [(0,1),(1,1),(2,1),(3,1),(4,1),(5,4),(9,1)]⟩
 | 109=>⟨true,[],2,true,[.int .i64 0,.int .i64 0],.array 2 1⟩
 | 113=>⟨true,[],1,false,[.nilp],.other⟩
 | 116=>⟨true,[],2,true,[.nil,.nil],.struct [(0,1),(1,1)]⟩
 | 117=>⟨true,[],1,false,[.nil],.slice 1 24 [.nil]⟩
 | 118=>⟨true,[],1,false,[.nil],.slice 2 48 [.nil,.nil]⟩
 | 120=>⟨true,[],8,true,[.int .i64 0,.int .u8 0,.nil,.str [],.nil,.nil,.nil,.int .i64 0],.struct [(0,3),(3,1),(4,1),(5,1),(6,1),(7,1)]⟩
 | 128=>⟨true,[],1,false,[.nil],.slice 1 24 [.nil]⟩
 | 132=>⟨true,[],1,false,[.nil],.slice 5 56 [.nil,.bool false,.int .i64 0,.int .i64 0,.int .i64 0]⟩
 | 133=>⟨true,[],1,false,[.nil],.slice 2 16 [.int .i64 0,.int .i64 0]⟩
 | 135=>⟨true,[],5,true,[.int .i64 0,.int .i64 0,.nil,.nil,.nil],.struct [(0,1),(1,1),(2,1),(3,1),(4,1)]⟩
 | 138=>⟨true,[],5,true,[.nil,.bool false,.int .i64 0,.int .i64 0,.int .i64 0],.struct [(0,1),(1,1),(2,1),(3,1),(4,1)]⟩
 | 142=>⟨true,[],1,false,[.nilm],.map [.int .i64,.int .i64,.int .u8] true false [.int .i64 0]⟩
 | 143=>⟨true,[],1,false,[.nil],.slice 2 16 [.int .i64 0,.int .i64 0]⟩
 | 145=>⟨true,[.int .i64,.int .i64],2,true,[.int .i64 0,.int .i64 0],.struct [(0,1),(1,1)]⟩
 | 146=>⟨true,[],5,true,[.nil,.nil,.nil,.nil,.nil],.array 5 1⟩
 | 151=>⟨true,[],1,false,[.nilp],.other⟩
 | 161=>⟨true,[],1,false,[.int .u64 0],.int .u64⟩
 | 165=>⟨true,[],1,false,[.int .i64 0],.int .i64⟩
 | 172=>⟨true,[],1,false,[.int .u32 0],.int .u32⟩
 | 174=>⟨true,[],1,false,[.int .u64 0],.int .u64⟩
 | 176=>⟨true,[],1,false,[.int .u64 0],.int .u64⟩
 | 180=>⟨true,[],1,false,[.nilp],.other⟩
 | _=>⟨false,[],0,false,[],.other⟩
theorem tf3:Ar Try.prog 3 (ty 3):=tfM DQ Try.underlying3 rfl
theorem tf4:Ar Try.prog 4 (ty 4):=tfM JcA Try.underlying4 rfl
theorem tf5:Ar Try.prog 5 (ty 5):=tfM Qu Try.underlying5 rfl
theorem tf9:Ar Try.prog 9 (ty 9):=tfM Tb Try.underlying9 rfl
theorem Jiq:Ar Try.prog 22 (ty 22):=tfM Jdh Try.underlying22 (slK Jdr)
theorem Jir:Ar Try.prog 24 (ty 24):=tfM Jhe Try.underlying24 (stF (Ax (Bf Qu Try.underlying5) (Ax (Bf Qu Try.underlying5) (Ax (Bf Jdh Try.underlying22) E4))))
theorem Jis:Ar Try.prog 25 (ty 25):=tfM ZX Try.underlying25 (slK Qu (λ _=>Try.underlying5))
theorem Jit:Ar Try.prog 27 (ty 27):=tfM Jdi Try.underlying27 (slK Jdm)
theorem Jiu:Ar Try.prog 29 (ty 29):=tfM Jdj Try.underlying29 (stF (Ax (Bf DQ Try.underlying3) (Ax (Bf Qu Try.underlying5) (Ax (Bf Jdi Try.underlying27) E4))))
theorem Jiv:Ar Try.prog 32 (ty 32):=tfM Jhf Try.underlying32 (slK Tb)
theorem Jiw:Ar Try.prog 33 (ty 33):=tfM Jdk Try.underlying33 rfl
theorem Jix:Ar Try.prog 39 (ty 39):=tfM UY Try.underlying39 (slK Jds (λ _=>Try.underlying97))
theorem Jiy:Ar Try.prog 40 (ty 40):=tfM Sj Try.underlying40 (slK DQ)
theorem Jiz:Ar Try.prog 42 (ty 42):=tfM Jdl Try.underlying42 (stF (Ax (Bf UY Try.underlying39) (Ax (Bf Sj Try.underlying40) E4)))
theorem JiA:Ar Try.prog 44 (ty 44):=tfM Jhg Try.underlying44 (stF (Ax (Bf Jdl Try.underlying42) (Ax (Bf DQ Try.underlying3) (Ax (Bf Jdk Try.underlying33) E4))))
theorem JiB:Ar Try.prog 46 (ty 46):=tfM ZY Try.underlying46 (slK JcA)
theorem JiC:Ar Try.prog 48 (ty 48):=tfM Jdm Try.underlying48 (stF (Ax (Bf Tb Try.underlying9) (Ax (Bf UY Try.underlying39) (Ax (Bf Qu Try.underlying5) (Ax (Bf Qu Try.underlying5) (Ax (Bf DQ Try.underlying3) (Ax (Bf DQ Try.underlying3) E4)))))))
theorem JiD:Ar Try.prog 52 (ty 52):=tfM Jhh Try.underlying52 (stF (Ax (Bf DQ Try.underlying3) (Ax (Bf DQ Try.underlying3) (Ax (Bf DQ Try.underlying3) (Ax (Bf Tb Try.underlying9) E4))))) (λ _=>MB Try.underlying52 (by kernel_rfl) (by kernel_rfl) rfl λ j f k h1 h2=>match j,h1,h2 with|0,h1,h2=>(by cases h1;cases h2;exact ⟨by decide,rfl,⟨_,Try.underlying3⟩⟩)|1,h1,h2=>(by cases h1;cases h2;exact ⟨by decide,rfl,⟨_,Try.underlying3⟩⟩)|2,h1,h2=>(by cases h1;cases h2;exact ⟨by decide,rfl,⟨_,Try.underlying3⟩⟩)|3,h1,h2=>(by cases h1;cases h2;exact ⟨by decide,rfl,Try.underlying9⟩)|n+4,h1,_=>by simp at h1)
theorem JiE:Ar Try.prog 56 (ty 56):=tfM Jhi Try.underlying56 (slK Z0)
theorem JiF:Ar Try.prog 58 (ty 58):=tfM Jdn Try.underlying58 (stF (Ax (Bf DQ Try.underlying3) (Ax (Bf DQ Try.underlying3) (Ax (Bf DQ Try.underlying3) E4)))) (λ _=>MB Try.underlying58 (by kernel_rfl) (by kernel_rfl) rfl λ j f k h1 h2=>match j,h1,h2 with|0,h1,h2=>(by cases h1;cases h2;exact ⟨by decide,rfl,⟨_,Try.underlying3⟩⟩)|1,h1,h2=>(by cases h1;cases h2;exact ⟨by decide,rfl,⟨_,Try.underlying3⟩⟩)|2,h1,h2=>(by cases h1;cases h2;exact ⟨by decide,rfl,⟨_,Try.underlying3⟩⟩)|n+3,h1,_=>by simp at h1)
theorem JiG:Ar Try.prog 59 (ty 59):=tfM Jdo Try.underlying59 (slK Z6)
theorem JiH:Ar Try.prog 61 (ty 61):=tfM Jhj Try.underlying61 (stF (Ax (Bf Jdn Try.underlying58) (Ax (Bf Jdo Try.underlying59) E4)))
theorem JiI:Ar Try.prog 63 (ty 63):=tfM Jdp Try.underlying63 (stF (Ax (Bf DQ Try.underlying3) (Ax (Bf DQ Try.underlying3) (Ax (Bf DQ Try.underlying3) (Ax (Bf DQ Try.underlying3) (Ax (Bf DQ Try.underlying3) E4)))))) (λ _=>MB Try.underlying63 (by kernel_rfl) (by kernel_rfl) rfl λ j f k h1 h2=>match j,h1,h2 with|0,h1,h2=>(by cases h1;cases h2;exact ⟨by decide,rfl,⟨_,Try.underlying3⟩⟩)|1,h1,h2=>(by cases h1;cases h2;exact ⟨by decide,rfl,⟨_,Try.underlying3⟩⟩)|2,h1,h2=>(by cases h1;cases h2;exact ⟨by decide,rfl,⟨_,Try.underlying3⟩⟩)|3,h1,h2=>(by cases h1;cases h2;exact ⟨by decide,rfl,⟨_,Try.underlying3⟩⟩)|4,h1,h2=>(by cases h1;cases h2;exact ⟨by decide,rfl,⟨_,Try.underlying3⟩⟩)|n+5,h1,_=>by simp at h1)
theorem JiJ:Ar Try.prog 65 (ty 65):=tfM Jhk Try.underlying65 (stF (Ax (Bf DQ Try.underlying3) (Ax (Bf DQ Try.underlying3) (Ax (Bf Jdp Try.underlying63) (Ax (Bf DQ Try.underlying3) (Ax (Bf Tb Try.underlying9) E4))))))
theorem JiK:Ar Try.prog 68 (ty 68):=tfM Jdq Try.underlying68 (arK Qu)
theorem JiL:Ar Try.prog 70 (ty 70):=tfM Jdr Try.underlying70 (stF (Ax (Bf ZX Try.underlying25) (Ax (Bf ZX Try.underlying25) (Ax (Bf Qu Try.underlying5) (Ax (Bf Qu Try.underlying5) (Ax (Bf Jdq Try.underlying68) E4))))))
theorem JiM:Ar Try.prog 80 (ty 80):=tfM W8 Try.underlying80 (stF (Ax (Bf DQ Try.underlying3) (Ax (Bf DQ Try.underlying3) (Ax (Bf Qu Try.underlying5) E4)))) (λ _=>MB Try.underlying80 (by kernel_rfl) (by kernel_rfl) rfl λ j f k h1 h2=>match j,h1,h2 with|0,h1,h2=>(by cases h1;cases h2;exact ⟨by decide,rfl,⟨_,Try.underlying3⟩⟩)|1,h1,h2=>(by cases h1;cases h2;exact ⟨by decide,rfl,⟨_,Try.underlying3⟩⟩)|2,h1,h2=>(by cases h1;cases h2;exact ⟨by decide,rfl,⟨_,Try.underlying5⟩⟩)|n+3,h1,_=>by simp at h1)
theorem JiN:Ar Try.prog 82 (ty 82):=tfM Jhl Try.underlying82 (stF (Ax (Bf Tb Try.underlying9) (Ax (Bf UY Try.underlying39) (Ax (Bf DQ Try.underlying3) (Ax (Bf W8 Try.underlying80) (Ax (Bf JcA Try.underlying4) E4))))))
theorem JiO:Ar Try.prog 85 (ty 85):=tfM Jhm Try.underlying85 (slK Sj)
theorem JiP:Ar Try.prog 88 (ty 88):=tfM ZZ Try.underlying88 (slK W8)
theorem JiQ:Ar Try.prog 92 (ty 92):=tfM Jhn Try.underlying92 (stF (Ax (Bf Tb Try.underlying9) (Ax (Bf DQ Try.underlying3) (Ax (Bf W8 Try.underlying80) (Ax (Bf ZZ Try.underlying88) E4)))))
theorem JiR:Ar Try.prog 97 (ty 97):=tfM Jds Try.underlying97 rfl
theorem Jho:Ar Try.prog 107 (ty 107):=tfM Z0 Try.underlying107 (stF (Ax (Bf DQ Try.underlying3) (Ax (Bf DQ Try.underlying3) (Ax (Bf Tb Try.underlying9) (Ax (Bf Jeg Try.underlying100) (Ax (Bf Jeh Try.underlying102) (Ax (Bf Jei Try.underlying105) (Ax (Bf DQ Try.underlying3) E4))))))))
theorem Jhp:Ar Try.prog 109 (ty 109):=tfM Jej Try.underlying109 (arK DQ)
theorem Jhq:Ar Try.prog 113 (ty 113):=tfM Jek Try.underlying113 trivial
theorem Jhr:Ar Try.prog 116 (ty 116):=tfM Z1 Try.underlying116 (stF (Ax (Bf Sj Try.underlying40) (Ax (Bf Sj Try.underlying40) E4)))
theorem Jhs:Ar Try.prog 117 (ty 117):=tfM Z2 Try.underlying117 (slK Z8)
theorem Jht:Ar Try.prog 118 (ty 118):=tfM Z3 Try.underlying118 (slK Z1)
theorem Jhu:Ar Try.prog 120 (ty 120):=tfM Jel Try.underlying120 (stF (Ax (Bf Jdj Try.underlying29) (Ax (Bf Tb Try.underlying9) (Ax (Bf ZZ Try.underlying88) (Ax (Bf Z2 Try.underlying117) (Ax (Bf Z3 Try.underlying118) (Ax (Bf DQ Try.underlying3) E4)))))))
theorem Jhv:Ar Try.prog 128 (ty 128):=tfM Jem Try.underlying128 (slK ZY)
theorem Jhw:Ar Try.prog 132 (ty 132):=tfM Z4 Try.underlying132 (slK Z7)
theorem Jhx:Ar Try.prog 133 (ty 133):=tfM Z5 Try.underlying133 (slK Jew)
theorem Jhy:Ar Try.prog 135 (ty 135):=tfM Z6 Try.underlying135 (stF (Ax (Bf DQ Try.underlying3) (Ax (Bf DQ Try.underlying3) (Ax (Bf Z4 Try.underlying132) (Ax (Bf Sj Try.underlying40) (Ax (Bf Z5 Try.underlying133) E4))))))
theorem Jhz:Ar Try.prog 138 (ty 138):=tfM Z7 Try.underlying138 (stF (Ax (Bf UY Try.underlying39) (Ax (Bf JcA Try.underlying4) (Ax (Bf DQ Try.underlying3) (Ax (Bf DQ Try.underlying3) (Ax (Bf DQ Try.underlying3) E4))))))
theorem JhA:Ar Try.prog 142 (ty 142):=tfM Jen Try.underlying142 (by obtain ⟨j,h1,h2,h3,h4⟩:=DQ;exact ⟨_,_,j,_,rfl,(Rr Try.underlying80 (by kernel_rfl) rfl λ j f k h1 h2=>match j,h1,h2 with|0,h1,h2=>(by cases h1;cases h2;exact ⟨by decide,rfl,⟨_,Try.underlying3⟩⟩)|1,h1,h2=>(by cases h1;cases h2;exact ⟨by decide,rfl,⟨_,Try.underlying3⟩⟩)|2,h1,h2=>(by cases h1;cases h2;exact ⟨by decide,rfl,⟨_,Try.underlying5⟩⟩)|n+3,h1,_=>by simp at h1),h1,h4,rfl,(λ h=>by cases h),(λ _=>⟨_,rfl,rfl⟩)⟩)
theorem JhB:Ar Try.prog 143 (ty 143):=tfM Z8 Try.underlying143 (slK Z9)
theorem JhC:Ar Try.prog 145 (ty 145):=tfM Z9 Try.underlying145 (stF (Ax (Bf DQ Try.underlying3) (Ax (Bf DQ Try.underlying3) E4))) (λ _=>MB Try.underlying145 (by kernel_rfl) (by kernel_rfl) rfl λ j f k h1 h2=>match j,h1,h2 with|0,h1,h2=>(by cases h1;cases h2;exact ⟨by decide,rfl,⟨_,Try.underlying3⟩⟩)|1,h1,h2=>(by cases h1;cases h2;exact ⟨by decide,rfl,⟨_,Try.underlying3⟩⟩)|n+2,h1,_=>by simp at h1)
theorem JhD:Ar Try.prog 146 (ty 146):=tfM Jeo Try.underlying146 (arK ZY)
theorem JhE:Ar Try.prog 151 (ty 151):=tfM Jep Try.underlying151 trivial
theorem JhF:Ar Try.prog 161 (ty 161):=tfM Jeq Try.underlying161 rfl
theorem JhG:Ar Try.prog 165 (ty 165):=tfM Jer Try.underlying165 rfl
theorem JhH:Ar Try.prog 172 (ty 172):=tfM Jes Try.underlying172 rfl
theorem JhI:Ar Try.prog 174 (ty 174):=tfM Jet Try.underlying174 rfl
theorem JhJ:Ar Try.prog 176 (ty 176):=tfM Jeu Try.underlying176 rfl
theorem JhK:Ar Try.prog 180 (ty 180):=tfM Jev Try.underlying180 trivial
theorem tyOK:Kb Try.prog ty:=by
 intro t h
 unfold ty at h
 split at h
 ·exact tf3
 ·exact tf4
 ·exact tf5
 ·exact tf9
 ·exact Jiq
 ·exact Jir
 ·exact Jis
 ·exact Jit
 ·exact Jiu
 ·exact Jiv
 ·exact Jiw
 ·exact Jix
 ·exact Jiy
 ·exact Jiz
 ·exact JiA
 ·exact JiB
 ·exact JiC
 ·exact JiD
 ·exact JiE
 ·exact JiF
 ·exact JiG
 ·exact JiH
 ·exact JiI
 ·exact JiJ
 ·exact JiK
 ·exact JiL
 ·exact JiM
 ·exact JiN
 ·exact JiO
 ·exact JiP
 ·exact JiQ
 ·exact JiR
 ·exact Jho
 ·exact Jhp
 ·exact Jhq
 ·exact Jhr
 ·exact Jhs
 ·exact Jht
 ·exact Jhu
 ·exact Jhv
 ·exact Jhw
 ·exact Jhx
 ·exact Jhy
 ·exact Jhz
 ·exact JhA
 ·exact JhB
 ·exact JhC
 ·exact JhD
 ·exact JhE
 ·exact JhF
 ·exact JhG
 ·exact JhH
 ·exact JhI
 ·exact JhJ
 ·exact JhK
 ·cases h
theorem follows:Try.prog.follows .mixedOrders=true:=by kernel_rfl
def qfT:List (Nat×Nat):=[(49,3)]
theorem JiS (vs:Array Value) (h:vs.size=3):QD Try.prog (JW 49 vs):=Ru Try.func49 rfl rfl rfl rfl rfl rfl rfl (λ w=>(Si Try.underlying20 w).1) (λ w=>(Si (a:=0) Try.underlying20 w).2) rfl (by kernel_rfl) (by decide) (by decide) (by rw [h];decide)
theorem JiT:∀ f k,(f,k)∈qfT->∀ vs:Array Value,vs.size=k->QD Try.prog (JW f vs):=λ _ _ h vs hs=>by
 simp only [qfT,List.mem_cons,List.not_mem_nil,or_false,Prod.mk.injEq] at h
 rcases h with ⟨rfl,rfl⟩
 ·exact JiS vs hs
def cxk (n nk:Nat):Cx:=⟨ty,⟨n,[],nk,qfT⟩,AG Try.prog,Co Try.prog,LA Try.prog,false⟩
def cxr (n nk:Nat):Cx:=⟨ty,⟨n,[],nk,[]⟩,AG Try.prog,Co Try.prog,LA Try.prog,true⟩
def cx (n:Nat):Cx:=cxk n 0
theorem Jdt (n nk:Nat):Ha Try.prog (cxk n nk):=⟨tyOK,λ _ _ _ h=>h,λ _ _ _ _ _ _ h=>h,λ _ _ _ _ _ h=>h,JiT,λ h=>by cases h⟩
theorem JhL (n nk:Nat):Ha Try.prog (cxr n nk):=⟨tyOK,λ _ _ _ h=>h,λ _ _ _ _ _ _ h=>h,λ _ _ _ _ _ h=>h,λ _ _ h=>(by cases h),λ _=>rfl⟩
end Go.AI
end
section
namespace Go.AI
structure Av where
 Print:(List UInt8)
 Cells:(List Int)
 Left:Int
 Right:Int
 From:Int
 To:Int
 deriving DecidableEq,Inhabited
structure Ac where
 Modes:Int
 Accept:Int
 Rules:(List Av)
 deriving DecidableEq,Inhabited
structure Aa where
 Mode:Int
 Last:Int
 Need:Int
 deriving DecidableEq,Inhabited
structure Aw where
 States:(List Int)
 Costs:(List Int)
 deriving DecidableEq,Inhabited
structure Fu where
 Rule:Int
 To:Int
 deriving DecidableEq,Inhabited
structure Ad where
 T:Ac
 S:(List UInt8)
 States:(List Aa)
 Arcs:(List (List Fu))
 Columns:(List Aw)
 Last:Int
 deriving DecidableEq,Inhabited
structure AS where
 Cells:(List Int)
 Path:(List Int)
 deriving DecidableEq,Inhabited
structure JhM where
 Line:(List Int)
 Keep:Bool
 Ink:Int
 Block:Int
 At:Int
 deriving DecidableEq,Inhabited
structure Jaa where
 N:Int
 K:Int
 deriving DecidableEq,Inhabited
structure Qv where
 First:Int
 End:Int
 Rows:(List JhM)
 Ends:(List Int)
 Labels:(List Jaa)
 deriving DecidableEq,Inhabited
structure W9 where
 Width:Int
 Height:Int
 Binding:Int
 deriving DecidableEq,Inhabited
structure IA where
 Format:W9
 Volumes:(List Qv)
 deriving DecidableEq,Inhabited
structure Qx where
 Volume:Int
 Leaf:Int
 Side:Int
 Line:Int
 Cell:Int
 deriving DecidableEq,Inhabited
structure Jdu where
 Op:Int
 N:Int
 deriving DecidableEq,Inhabited
structure Jab where
 X:Int
 Y:Int
 deriving DecidableEq,Inhabited
structure UZ where
 Kind:Int
 Texture:Int
 P:(List Jab)
 deriving DecidableEq,Inhabited
structure Jac where
 W:Int
 H:Int
 Gap:Int
 F:(List UZ)
 deriving DecidableEq,Inhabited
structure LV where
 Kind:Int
 Level:Int
 Text:(List UInt8)
 Rows:(List (List (List UInt8)))
 F:(List Jdu)
 Pic:Jac
 Page:Int
 deriving DecidableEq,Inhabited
structure U0 where
 Reader:Int
 Version:Int
 At:Qx
 Cut:Int
 Put:(List UInt8)
 deriving DecidableEq,Inhabited
structure Jm where
 Block:Int
 At:Int
 Cut:Int
 Put:(List UInt8)
 deriving DecidableEq,Inhabited
structure Fl (α:Type) where
 a0:α
 a1:α
 deriving DecidableEq,Inhabited
structure Dc where
 P:(List Int)
 C:(List Int)
 L:Int
 R:Int
 W:(Fl Int)
 deriving DecidableEq,Inhabited
structure KB where
 Base:Int
 Drop:Int
 More:(List Dc)
 deriving DecidableEq,Inhabited
structure AO where
 S:(List UInt8)
 I:Int
 State:Aa
 L:(List Aa)
 deriving DecidableEq,Inhabited
structure BM where
 W:AS
 At:Int
 E:Int
 deriving DecidableEq,Inhabited
structure Jex where
 Text:(List UInt8)
 Cells:(List Int)
 At:Int
 End:Aa
 Ok:Bool
 deriving DecidableEq,Inhabited
def Fv (_:Nat) (t_1:Ac) (i_1:Int):Option ((Ac×Int)⊕Ac):=
 if decide (i_1<4)=true then
  (idx ([[97],[98],[97,98],[]]) i_1).bind λ x1=>
  (idx [1,3,7,32] i_1).bind λ x2=>
  (app 64 t_1.Rules ([({ Print:=x1,Cells:=[x2],Left:=63,Right:=63,From:=0,To:=Ze .i64 i_1 3 }:Av)])).bind λ l1=>
  some (.inl (({ Modes:=t_1.Modes,Accept:=t_1.Accept,Rules:=l1 }:Ac),(Az .i64 i_1 1)))
 else
  some (.inr t_1)
def HM (n:Nat) :Option Ac:=
 (whl (λ (x:(Ac×Int))=>Fv n x.1 x.2) n (({ Modes:=2,Accept:=1,Rules:=([]:List Av) }:Ac),0)).bind λ y1=>
 (app 64 y1.Rules ([({ Print:=[65],Cells:=[1],Left:=63,Right:=63,From:=1,To:=0 }:Av)])).bind λ l2=>
 some ({ Modes:=y1.Modes,Accept:=y1.Accept,Rules:=l2 }:Ac)
def Dx (_:Nat) (p0_:Int):Option Bool:=
 some ((decide (32<=Cm .u8 p0_ 127))&&(decide (Cm .u8 p0_ 127<=126)))
def E7 (n:Nat) (p0_:(List UInt8)) (x_1:Int):Option (Int⊕(Unit⊕(Int×Int))):=
 if decide (x_1<((p0_.length:Nat):Int))=true then
  (Lk p0_ x_1).bind λ b1=>
  (Dx n b1).bind λ r1=>
  if (!r1)=true then
   some (.inr (.inr (x_1,60)))
  else
   some (.inl (Az .i64 x_1 1))
 else
  some (.inr (.inl ()))
def Hf (n:Nat) (p0_:(List UInt8)):Option (Int×Int):=
 (whl (λ (x:Int)=>E7 n p0_ x) n 0).bind λ y2=>
 match y2 with
 | Sum.inl _=>
  some (((p0_.length:Nat):Int),0)
 | Sum.inr y4=>
  some y4
def Eg (_:Nat) (p0_:Int):Option Int:=
 if ((decide (97<=Cm .u8 p0_ 127))&&(decide (Cm .u8 p0_ 127<=122)))=true then
  some 1
 else
  if ((decide (65<=Cm .u8 p0_ 127))&&(decide (Cm .u8 p0_ 127<=90)))=true then
   some 2
  else
   if ((decide (48<=Cm .u8 p0_ 127))&&(decide (Cm .u8 p0_ 127<=57)))=true then
    some 3
   else
    if ((Cm .u8 p0_ 127)==32)=true then
     some 4
    else
     some 5
def CY (n:Nat) (p0_:(List UInt8)) (x_2:Int):Option (Int⊕(Unit⊕Bool)):=
 if decide (x_2<((p0_.length:Nat):Int))=true then
  (Lk p0_ x_2).bind λ b2=>
  (Eg n b2).bind λ r2=>
  if (r2==4)=true then
   some (.inr (.inr true))
  else
   some (.inl (Az .i64 x_2 1))
 else
  some (.inr (.inl ()))
def Eh (n:Nat) (p0_:(List UInt8)):Option Bool:=
 (whl (λ (x:Int)=>CY n p0_ x) n 0).bind λ y5=>
 match y5 with
 | Sum.inl _=>
  some false
 | Sum.inr y7=>
  some y7
def IB (_:Nat) (p0_:Int):Option Bool:=
 some (decide (p0_<64))
def Ei (n:Nat) (p0_:Av) (x_3:Int):Option (Int⊕(Unit⊕Bool)):=
 if decide (x_3<((p0_.Cells.length:Nat):Int))=true then
  (idx p0_.Cells x_3).bind λ x4=>
  (IB n x4).bind λ r5=>
  if (((!r5)||(x4==63))||(x4==0))=true then
   some (.inr (.inr false))
  else
   some (.inl (Az .i64 x_3 1))
 else
  some (.inr (.inl ()))
def G0 (n:Nat) (p0_:Av) (p1_:Int):Option Bool:=
 if (((decide (((p0_.Print.length:Nat):Int)>4))||(decide (((p0_.Cells.length:Nat):Int)<1)))||(decide (((p0_.Cells.length:Nat):Int)>4)))=true then
  some false
 else
  (Hf n p0_.Print).bind λ r3=>
  if (r3.2 != 0)=true then
   some false
  else
   if ((((decide (p0_.Left<1))||(decide (p0_.Left>63)))||(decide (p0_.Right<1)))||(decide (p0_.Right>63)))=true then
    some false
   else
    if ((((decide (p0_.From<0))||(decide (p0_.From>=p1_)))||(decide (p0_.To<0)))||(decide (p0_.To>=p1_)))=true then
     some false
    else
     (Eh n p0_.Print).bind λ r4=>
     if r4=true then
      (if ((((p0_.Print.length:Nat):Int)==1)&&(((p0_.Cells.length:Nat):Int)==1))=true then idx p0_.Cells 0 else some default).bind λ x3=>
      some (((((p0_.Print.length:Nat):Int)==1)&&(((p0_.Cells.length:Nat):Int)==1))&&(x3==0))
     else
      (whl (λ (x:Int)=>Ei n p0_ x) n 0).bind λ y8=>
      match y8 with
      | Sum.inl _=>
       some true
      | Sum.inr y10=>
       some y10
def Ej (_:Nat) (p0_:(List Int)) (p1_:(List Int)) (x_4:Int):Option (Int⊕(Unit⊕Bool)):=
 if decide (x_4<((p0_.length:Nat):Int))=true then
  (idx p0_ x_4).bind λ x5=>
  (idx p1_ x_4).bind λ x6=>
  if (x5 != x6)=true then
   some (.inr (.inr false))
  else
   some (.inl (Az .i64 x_4 1))
 else
  some (.inr (.inl ()))
def G1 (n:Nat) (p0_:(List Int)) (p1_:(List Int)):Option Bool:=
 if (((p0_.length:Nat):Int) != ((p1_.length:Nat):Int))=true then
  some false
 else
  (whl (λ (x:Int)=>Ej n p0_ p1_ x) n 0).bind λ y11=>
  match y11 with
  | Sum.inl _=>
   some true
  | Sum.inr y13=>
   some y13
def G2 (n:Nat) (p0_:Av) (p1_:Av):Option Bool:=
 (if (((((p0_.From==p1_.From)&&(p0_.To==p1_.To))&&(p0_.Left==p1_.Left))&&(p0_.Right==p1_.Right))&&(p0_.Print==p1_.Print))=true then G1 n p0_.Cells p1_.Cells else some default).bind λ r6=>
 some ((((((p0_.From==p1_.From)&&(p0_.To==p1_.To))&&(p0_.Left==p1_.Left))&&(p0_.Right==p1_.Right))&&(p0_.Print==p1_.Print))&&r6)
def Dq (n:Nat) (_:Ac) (x_5:Int) (x7:Av) (l3:(List Av)) (x_6:Int):Option (Int⊕(Unit⊕(Int×Int))):=
 if decide (x_6<((l3.length:Nat):Int))=true then
  (idx l3 x_6).bind λ x8=>
  (G2 n x8 x7).bind λ r8=>
  if r8=true then
   some (.inr (.inr (x_5,20)))
  else
   some (.inl (Az .i64 x_6 1))
 else
  some (.inr (.inl ()))
def Dr (n:Nat) (p0_:Ac) (x_5:Int):Option (Int⊕(Unit⊕(Int×Int))):=
 if decide (x_5<((p0_.Rules.length:Nat):Int))=true then
  (idx p0_.Rules x_5).bind λ x7=>
  (G0 n x7 p0_.Modes).bind λ r7=>
  if (!r7)=true then
   some (.inr (.inr (x_5,20)))
  else
   (sub p0_.Rules 0 x_5).bind λ l3=>
   (whl (λ (x:Int)=>Dq n p0_ x_5 x7 l3 x) n 0).bind λ y14=>
   match y14 with
   | Sum.inl _=>
    some (.inl (Az .i64 x_5 1))
   | Sum.inr y16=>
    some (.inr (.inr y16))
 else
  some (.inr (.inl ()))
def G3 (n:Nat) (p0_:Ac):Option (Int×Int):=
 if ((decide (p0_.Modes<1))||(decide (p0_.Modes>8)))=true then
  some ((-1),1)
 else
  (if (!(p0_.Accept==0))=true then CA (decide (0<=p0_.Modes)) else some default).bind λ _=>
  if ((p0_.Accept==0)||(decide (IntKind.i64.wrap p0_.Accept>=Qc .i64 1 p0_.Modes)))=true then
   some ((-1),1)
  else
   if ((decide (((p0_.Rules.length:Nat):Int)<1))||(decide (((p0_.Rules.length:Nat):Int)>64)))=true then
    some ((-1),1)
   else
    (whl (λ (x:Int)=>Dr n p0_ x) n 0).bind λ y17=>
    match y17 with
    | Sum.inl _=>
     some (0,0)
    | Sum.inr y19=>
     some y19
def E8 (n:Nat) (p0_:Ac):Option Bool:=
 (G3 n p0_).bind λ r9=>
 some (r9.2==0)
def IC (_:Nat) :Option Aa:=
 some ({ Mode:=0,Last:=0,Need:=63 }:Aa)
def GN (_:Nat) (p0_:Int) (p1_:Int):Option Bool:=
 (if ((decide (0<=p1_))&&(decide (p1_<8)))=true then CA (decide (0<=p1_)) else some default).bind λ _=>
 some (((decide (0<=p1_))&&(decide (p1_<8)))&&((Cm .u8 (Qd .u8 p0_ p1_) 1)==1))
def Hg (n:Nat) (p0_:Ac) (p1_:Aa) (p2_:Int):Option (Aa×Bool):=
 if ((decide (p2_<0))||(decide (p2_>=((p0_.Rules.length:Nat):Int))))=true then
  some (({ Mode:=0,Last:=0,Need:=0 }:Aa),false)
 else
  (idx p0_.Rules p2_).bind λ x9=>
  (if (!(x9.From != p1_.Mode))=true then GN n x9.Left p1_.Last else some default).bind λ r10=>
  if ((x9.From != p1_.Mode)||(!r10))=true then
   some (({ Mode:=0,Last:=0,Need:=0 }:Aa),false)
  else
   if (x9.Print==[])=true then
    if ((Cm .u8 p1_.Need x9.Right)==0)=true then
     some (({ Mode:=0,Last:=0,Need:=0 }:Aa),false)
    else
     some (({ Mode:=x9.To,Last:=p1_.Last,Need:=Cm .u8 p1_.Need x9.Right }:Aa),true)
   else
    (Lk x9.Print 0).bind λ b3=>
    (Eg n b3).bind λ r11=>
    (GN n p1_.Need r11).bind λ r12=>
    if (!r12)=true then
     some (({ Mode:=0,Last:=0,Need:=0 }:Aa),false)
    else
     (Lk x9.Print (Jk .i64 ((x9.Print.length:Nat):Int) 1)).bind λ b4=>
     (Eg n b4).bind λ r13=>
     some (({ Mode:=x9.To,Last:=r13,Need:=x9.Right }:Aa),true)
def Cp (_:Nat) (x_7:Int) (states_5:(List Aa)) (from_5:(List (List Int))) (number_4:(List (Aa×Int))):Option (((List Aa)×(List (List Int))×(List (Aa×Int))×Int)⊕((List Aa)×(List (List Int))×(List (Aa×Int)))):=
 some (.inl (states_5,from_5,number_4,(Az .i64 x_7 1)))
def CM (n:Nat) (k_1:Int) (x_7:Int) (states_6:(List Aa)) (from_6:(List (List Int))) (number_5:(List (Aa×Int))) (n_1:Int):Option (((List Aa)×(List (List Int))×(List (Aa×Int))×Int)⊕((List Aa)×(List (List Int))×(List (Aa×Int)))):=
 (idx from_6 n_1).bind λ x11=>
 (app 8 x11 [k_1]).bind λ l4=>
 Cp n x_7 states_6 (List.set from_6 n_1.toNat l4) number_5
def Bu (n:Nat) (p0_:Ac) (k_1:Int) (states_3:(List Aa)) (from_3:(List (List Int))) (number_2:(List (Aa×Int))) (x_7:Int):Option (((List Aa)×(List (List Int))×(List (Aa×Int))×Int)⊕((List Aa)×(List (List Int))×(List (Aa×Int)))):=
 if decide (x_7<((p0_.Rules.length:Nat):Int))=true then
  (idx states_3 k_1).bind λ x10=>
  (Hg n p0_ x10 x_7).bind λ r15=>
  if (!r15.2)=true then
   Cp n x_7 states_3 from_3 number_2
  else
   if (!(Option.isSome (F9 r15.1 number_2)))=true then
    (app 24 states_3 [r15.1]).bind λ l5=>
    (app 24 from_3 [([]:(List Int))]).bind λ l6=>
    CM n k_1 x_7 l5 l6 (Ll r15.1 ((states_3.length:Nat):Int) number_2) ((states_3.length:Nat):Int)
   else
    CM n k_1 x_7 states_3 from_3 number_2 (Option.getD (F9 r15.1 number_2) 0)
 else
  some (.inr (states_3,from_3,number_2))
def Cq (n:Nat) (p0_:Ac) (states_1:(List Aa)) (from_1:(List (List Int))) (number_1:(List (Aa×Int))) (k_1:Int):Option (((List Aa)×(List (List Int))×(List (Aa×Int))×Int)⊕((List Aa)×(List (List Int)))):=
 if decide (k_1<((states_1.length:Nat):Int))=true then
  (whl (λ (x:((List Aa)×(List (List Int))×(List (Aa×Int))×Int))=>Bu n p0_ k_1 x.1 x.2.1 x.2.2.1 x.2.2.2) n (states_1,from_1,number_1,0)).bind λ y20=>
  some (.inl (y20.1,y20.2.1,y20.2.2,(Az .i64 k_1 1)))
 else
  some (.inr (states_1,from_1))
def E9 (n:Nat) (p0_:Ac):Option ((List Aa)×(List (List Int))):=
 (IC n).bind λ r14=>
 (whl (λ (x:((List Aa)×(List (List Int))×(List (Aa×Int))×Int))=>Cq n p0_ x.1 x.2.1 x.2.2.1 x.2.2.2) n ([r14],([[]]:List (List Int)),(Ll r14 0 []),0)).bind λ y21=>
 some (y21.1,y21.2)
def Hh (n:Nat) (p0_:Ac):Option (List Aa):=
 (E9 n p0_).bind λ r16=>
 some r16.1
def ED (_:Nat) (p0_:(List UInt8)) (p1_:(List UInt8)):Option Bool:=
 (if decide (((p0_.length:Nat):Int)>=((p1_.length:Nat):Int))=true then sub p0_ 0 ((p1_.length:Nat):Int) else some default).bind λ s1=>
 some ((decide (((p0_.length:Nat):Int)>=((p1_.length:Nat):Int)))&&(s1==p1_))
def EE (n:Nat) (p0_:(List UInt8)) (p1_:(List UInt8)):Option Bool:=
 (ED n p0_ p1_).bind λ r17=>
 some r17
def Fa (n:Nat) (p0_:Ac) (p1_:Aa):Option Bool:=
 (if decide (p1_.Mode<p0_.Modes)=true then GN n p0_.Accept p1_.Mode else some default).bind λ r19=>
 (if ((decide (p1_.Mode<p0_.Modes))&&r19)=true then GN n p1_.Need 0 else some default).bind λ r20=>
 some (((decide (p1_.Mode<p0_.Modes))&&r19)&&r20)
def Dd (_:Nat) (p0_:Int):Option Bool:=
 some (p0_ != p0_)
def DG (n:Nat) (p0_:Int) (p1_:Int):Option Bool:=
 (Dd n p0_).bind λ r21=>
 (if r21=true then Dd n p1_ else some default).bind λ r22=>
 some ((r21&&(!r22))||(decide (p0_<p1_)))
def EF (_:Nat) (p0_:Int):Option Bool:=
 some (p0_ != p0_)
def A5 (n:Nat) (p0_:(List Int)) (p1_:Int) (i_2:Int) (j_1:Int):Option ((Int×Int)⊕Int):=
 if decide (i_2<j_1)=true then
  (idx p0_ (IntKind.i64.wrap (Qd .u64 (IntKind.u64.wrap (Az .i64 i_2 j_1)) 1))).bind λ x13=>
  (DG n x13 p1_).bind λ r23=>
  if r23=true then
   some (.inl ((Az .i64 (IntKind.i64.wrap (Qd .u64 (IntKind.u64.wrap (Az .i64 i_2 j_1)) 1)) 1),j_1))
  else
   some (.inl (i_2,(IntKind.i64.wrap (Qd .u64 (IntKind.u64.wrap (Az .i64 i_2 j_1)) 1))))
 else
  some (.inr i_2)
def Bk (n:Nat) (p0_:(List Int)) (p1_:Int):Option (Int×Bool):=
 (whl (λ (x:(Int×Int))=>A5 n p0_ p1_ x.1 x.2) n (0,((p0_.length:Nat):Int))).bind λ y22=>
 (if decide (y22<((p0_.length:Nat):Int))=true then idx p0_ y22 else some default).bind λ x14=>
 (if ((decide (y22<((p0_.length:Nat):Int)))&&!(x14==p1_))=true then idx p0_ y22 else some default).bind λ x15=>
 (if ((decide (y22<((p0_.length:Nat):Int)))&&!(x14==p1_))=true then EF n x15 else some default).bind λ r24=>
 (if (((decide (y22<((p0_.length:Nat):Int)))&&!(x14==p1_))&&r24)=true then EF n p1_ else some default).bind λ r25=>
 some (y22,((decide (y22<((p0_.length:Nat):Int)))&&((x14==p1_)||(r24&&r25))))
def Bx (n:Nat) (p0_:Aw) (p1_:Int):Option Int:=
 (Bk n p0_.States p1_).bind λ r26=>
 if (!r26.2)=true then
  some (-1)
 else
  (idx p0_.Costs r26.1).bind λ x16=>
  some x16
def BV (_:Nat) (_:Ac) (_:(List UInt8)) (r30:(List Aa)) (_:(List Aw)) (number_6:(List (Aa×Int))) (x_10:Int):Option (((List (Aa×Int))×Int)⊕(List (Aa×Int))):=
 if decide (x_10<((r30.length:Nat):Int))=true then
  (idx r30 x_10).bind λ x22=>
  some (.inl ((Ll x22 x_10 number_6),(Az .i64 x_10 1)))
 else
  some (.inr number_6)
def Cj (_:Nat) (x_12:Int) (w_5:Ad):Option ((Ad×Int)⊕Ad):=
 some (.inl (w_5,(Az .i64 x_12 1)))
def BW (n:Nat) (p0_:Ac) (_:(List Aa)) (y27:(List (Aa×Int))) (x_11:Int) (x23:Aa) (w_3:Ad) (x_12:Int):Option ((Ad×Int)⊕Ad):=
 if decide (x_12<((p0_.Rules.length:Nat):Int))=true then
  (Hg n p0_ x23 x_12).bind λ r31=>
  if r31.2=true then
   (idx w_3.Arcs x_11).bind λ x24=>
   (app 16 x24 [({ Rule:=x_12,To:=(Option.getD (F9 r31.1 y27) 0) }:Fu)]).bind λ l11=>
   Cj n x_12 ({ T:=w_3.T,S:=w_3.S,States:=w_3.States,Arcs:=List.set w_3.Arcs x_11.toNat l11,Columns:=w_3.Columns,Last:=w_3.Last }:Ad)
  else
   Cj n x_12 w_3
 else
  some (.inr w_3)
def Ck (n:Nat) (p0_:Ac) (r30:(List Aa)) (y27:(List (Aa×Int))) (w_1:Ad) (x_11:Int):Option ((Ad×Int)⊕Ad):=
 if decide (x_11<((r30.length:Nat):Int))=true then
  (idx r30 x_11).bind λ x23=>
  (whl (λ (x:(Ad×Int))=>BW n p0_ r30 y27 x_11 x23 x.1 x.2) n (w_1,0)).bind λ y28=>
  some (.inl (y28,(Az .i64 x_11 1)))
 else
  some (.inr w_1)
def DH (n:Nat) (p0_:Ac) (p1_:(List UInt8)):Option Ad:=
 (Hh n p0_).bind λ r30=>
 (mkl 48 (Az .i64 ((p1_.length:Nat):Int) 1) (⟨[],[]⟩:Aw)).bind λ l9=>
 (whl (λ (x:((List (Aa×Int))×Int))=>BV n p0_ p1_ r30 l9 x.1 x.2) n ([],0)).bind λ y27=>
 (mkl 24 ((r30.length:Nat):Int) ([]:(List Fu))).bind λ l10=>
 (whl (λ (x:(Ad×Int))=>Ck n p0_ r30 y27 x.1 x.2) n (({ T:=p0_,S:=p1_,States:=r30,Arcs:=l10,Columns:=l9,Last:=0 }:Ad),0)).bind λ y29=>
 some y29
def BS (_:Nat) (p0_:Int) (p1_:Int) (b2_:Ad) (o0_:(List (List Bool))):Option (Ad×(List (List Bool))):=
 (idx o0_ (Br p0_ 5)).bind λ x25=>
 (CA (decide (0<=Br p0_ 5/\Br p0_ 5<((5:Nat):Int)))).bind λ _=>
 (idx x25 p1_).bind λ x26=>
 if (!x26)=true then
  (idx x25 p1_).bind λ _=>
  (put x25 p1_ true).bind λ l12=>
  (idx b2_.Columns p0_).bind λ x28=>
  (app 8 x28.States [p1_]).bind λ l13=>
  some (({ T:=b2_.T,S:=b2_.S,States:=b2_.States,Arcs:=b2_.Arcs,Columns:=List.set b2_.Columns p0_.toNat ({ States:=l13,Costs:=x28.Costs }:Aw),Last:=b2_.Last }:Ad),(List.set o0_ (Int.toNat (Br p0_ 5)) l12))
 else
  some (b2_,(List.set o0_ (Int.toNat (Br p0_ 5)) x25))
def Bv (n:Nat) (p1_:Int) (p2_:Int) (b0_:Ad):Option (Int×Bool):=
 (idx b0_.T.Rules p2_).bind λ x29=>
 (sub b0_.S p1_ ((b0_.S.length:Nat):Int)).bind λ s3=>
 (EE n s3 x29.Print).bind λ r32=>
 some ((Az .i64 p1_ ((x29.Print.length:Nat):Int)),r32)
def Sk (_:Nat) (o0_:(List Int)):Option (List Int):=
 WW o0_
def BD (_:Nat) (b0_:Ad) (known_1:(List (List Bool))) (x_18:Int):Option (((List (List Bool))×Int)⊕(List (List Bool))):=
 if decide (x_18<5)=true then
  (idx known_1 x_18).bind λ _=>
  (mkl 1 ((b0_.States.length:Nat):Int) (false:Bool)).bind λ l14=>
  (CA (decide (0<=x_18/\x_18<((5:Nat):Int)))).bind λ _=>
  some (.inl ((List.set known_1 x_18.toNat l14),(Az .i64 x_18 1)))
 else
  some (.inr known_1)
def BE (_:Nat) (x_21:Int) (w_12:Ad) (known_8:(List (List Bool))):Option ((Ad×(List (List Bool))×Int)⊕(Ad×(List (List Bool)))):=
 some (.inl (w_12,known_8,(Az .i64 x_21 1)))
def Bl (n:Nat) (_:(Ad×(List (List Bool)))) (x_19:Int) (_:Int) (_:Int) (x34:(List Fu)) (w_10:Ad) (known_6:(List (List Bool))) (x_21:Int):Option ((Ad×(List (List Bool))×Int)⊕(Ad×(List (List Bool)))):=
 if decide (x_21<((x34.length:Nat):Int))=true then
  (idx x34 x_21).bind λ x35=>
  (Bv n x_19 x35.Rule w_10).bind λ r34=>
  if r34.2=true then
   (BS n r34.1 x35.To w_10 known_6).bind λ r35=>
   BE n x_21 r35.1 r35.2
  else
   BE n x_21 w_10 known_6
 else
  some (.inr (w_10,known_6))
def BF (n:Nat) (r33:(Ad×(List (List Bool)))) (x_19:Int) (class_1:Int) (known_4:(List (List Bool))) (i_4:Int) (x33:Int) (w_9:Ad):Option ((Ad×(List (List Bool))×Int)⊕(Ad×(List (List Bool)))):=
 (idx w_9.Arcs x33).bind λ x34=>
 (whl (λ (x:(Ad×(List (List Bool))×Int))=>Bl n r33 x_19 class_1 i_4 x34 x.1 x.2.1 x.2.2) n (w_9,known_4,0)).bind λ y31=>
 some (.inl (y31.1,y31.2,(Az .i64 i_4 1)))
def BG (n:Nat) (r33:(Ad×(List (List Bool)))) (x_19:Int) (class_1:Int) (w_7:Ad) (known_4:(List (List Bool))) (i_4:Int):Option ((Ad×(List (List Bool))×Int)⊕(Ad×(List (List Bool)))):=
 (idx w_7.Columns x_19).bind λ x31=>
 if decide (i_4<((x31.States.length:Nat):Int))=true then
  (idx (List.set w_7.Columns x_19.toNat x31) x_19).bind λ x32=>
  (idx x32.States i_4).bind λ x33=>
  (idx w_7.States x33).bind λ x36=>
  (CA (decide (0<=class_1))).bind λ _=>
  if ((Cm .u8 (Qd .u8 x36.Need class_1) 1)==1)=true then
   BF n r33 x_19 class_1 known_4 i_4 x33 ({ T:=w_7.T,S:=w_7.S,States:=w_7.States,Arcs:=w_7.Arcs,Columns:=List.set (List.set w_7.Columns x_19.toNat x31) x_19.toNat x32,Last:=x_19 }:Ad)
  else
   BF n r33 x_19 class_1 known_4 i_4 x33 ({ T:=w_7.T,S:=w_7.S,States:=w_7.States,Arcs:=w_7.Arcs,Columns:=List.set (List.set w_7.Columns x_19.toNat x31) x_19.toNat x32,Last:=w_7.Last }:Ad)
 else
  some (.inr (({ T:=w_7.T,S:=w_7.S,States:=w_7.States,Arcs:=w_7.Arcs,Columns:=List.set w_7.Columns x_19.toNat x31,Last:=w_7.Last }:Ad),known_4))
def Bm (n:Nat) (r33:(Ad×(List (List Bool)))) (w_6:Ad) (known_3:(List (List Bool))) (x_19:Int) (class_1:Int):Option ((Ad×(List (List Bool))×Int)⊕Ad):=
 (whl (λ (x:(Ad×(List (List Bool))×Int))=>BG n r33 x_19 class_1 x.1 x.2.1 x.2.2) n (w_6,known_3,0)).bind λ y32=>
 (idx y32.1.Columns x_19).bind λ x37=>
 (Sk n x37.States).bind λ r36=>
 (CA (decide (List.length x37.States=List.length r36))).bind λ _=>
 (idx y32.2 (Br x_19 5)).bind λ x38=>
 (CA (decide (0<=Br x_19 5/\Br x_19 5<((5:Nat):Int)))).bind λ _=>
 some (.inl (({ T:=y32.1.T,S:=y32.1.S,States:=y32.1.States,Arcs:=y32.1.Arcs,Columns:=List.set y32.1.Columns x_19.toNat ({ States:=r36,Costs:=x37.Costs }:Aw),Last:=y32.1.Last }:Ad),(List.set y32.2 (Int.toNat (Br x_19 5)) (List.replicate (x38.length) (false:Bool))),(Az .i64 x_19 1)))
def BH (n:Nat) (r33:(Ad×(List (List Bool)))) (w_6:Ad) (known_3:(List (List Bool))) (x_19:Int):Option ((Ad×(List (List Bool))×Int)⊕Ad):=
 if decide (x_19<((r33.1.Columns.length:Nat):Int))=true then
  if decide (x_19<((w_6.S.length:Nat):Int))=true then
   (Lk w_6.S x_19).bind λ b5=>
   (Eg n b5).bind λ r37=>
   Bm n r33 w_6 known_3 x_19 r37
  else
   Bm n r33 w_6 known_3 x_19 0
 else
  some (.inr w_6)
def CI (n:Nat) (b0_:Ad):Option Ad:=
 (whl (λ (x:((List (List Bool))×Int))=>BD n b0_ x.1 x.2) n (([[],[],[],[],[]]:List (List Bool)),0)).bind λ y30=>
 (BS n 0 0 b0_ y30).bind λ r33=>
 (whl (λ (x:(Ad×(List (List Bool))×Int))=>BH n r33 x.1 x.2.1 x.2.2) n (r33.1,r33.2,0)).bind λ y33=>
 some y33
def Bb (_:Nat) (x_25:Int) (x_27:Ad) (better_3:Bool):Option ((Ad×Bool×Int)⊕(Ad×Bool)):=
 some (.inl (x_27,better_3,(Az .i64 x_25 1)))
def Bc (n:Nat) (p0_:Int) (p1_:Bool) (b1_0_:Int) (b2_0_:Int) (x41:(List Fu)) (x_24:Ad) (better_1:Bool) (x_25:Int):Option ((Ad×Bool×Int)⊕(Ad×Bool)):=
 if decide (x_25<((x41.length:Nat):Int))=true then
  (idx x41 x_25).bind λ x42=>
  (Bv n b2_0_ x42.Rule x_24).bind λ r38=>
  if ((!r38.2)||(!((r38.1==b2_0_)==p1_)))=true then
   Bb n x_25 x_24 better_1
  else
   (idx x_24.Columns r38.1).bind λ x43=>
   (Bx n x43 x42.To).bind λ r39=>
   (idx x_24.T.Rules x42.Rule).bind λ x44=>
   (idx x_24.Columns b1_0_).bind λ x45=>
   (if decide (r39>=0)=true then idx x45.Costs p0_ else some default).bind λ x46=>
   (if ((decide (r39>=0))&&!(decide (x46<0)))=true then idx x45.Costs p0_ else some default).bind λ x47=>
   if ((decide (r39>=0))&&((decide (x46<0))||(decide (Az .i64 r39 ((x44.Cells.length:Nat):Int)<x47))))=true then
    (idx (List.set x_24.Columns b1_0_.toNat x45) b1_0_).bind λ x48=>
    (idx x48.Costs p0_).bind λ _=>
    (put x48.Costs p0_ (Az .i64 r39 ((x44.Cells.length:Nat):Int))).bind λ l15=>
    Bb n x_25 ({ T:=x_24.T,S:=x_24.S,States:=x_24.States,Arcs:=x_24.Arcs,Columns:=List.set (List.set x_24.Columns b1_0_.toNat x45) b1_0_.toNat ({ States:=x48.States,Costs:=l15 }:Aw),Last:=x_24.Last }:Ad) true
   else
    Bb n x_25 ({ T:=x_24.T,S:=x_24.S,States:=x_24.States,Arcs:=x_24.Arcs,Columns:=List.set x_24.Columns b1_0_.toNat x45,Last:=x_24.Last }:Ad) better_1
 else
  some (.inr (x_24,better_1))
def BT (n:Nat) (p0_:Int) (p1_:Bool) (b1_0_:Int) (b2_0_:Int) (b3_:Ad):Option (Ad×Bool):=
 (idx b3_.Columns b1_0_).bind λ x39=>
 (idx x39.States p0_).bind λ x40=>
 (idx b3_.Arcs x40).bind λ x41=>
 (whl (λ (x:(Ad×Bool×Int))=>Bc n p0_ p1_ b1_0_ b2_0_ x41 x.1 x.2.1 x.2.2) n (({ T:=b3_.T,S:=b3_.S,States:=b3_.States,Arcs:=b3_.Arcs,Columns:=List.set b3_.Columns b1_0_.toNat x39,Last:=b3_.Last }:Ad),false,0)).bind λ y34=>
 some (y34.1,y34.2)
def BI (_:Nat) (x_30:Int) (r_2:(List Int)):Option (((List Int)×Int)⊕Ad):=
 some (.inl (r_2,(Az .i64 x_30 1)))
def Bn (n:Nat) (w_13:Ad) (place_3:Int) (x51:Aw) (l16:(List Int)) (x52:Aw) (r_1:(List Int)) (x_30:Int):Option (((List Int)×Int)⊕Ad):=
 if decide (x_30<((x52.States.length:Nat):Int))=true then
  (idx x52.States x_30).bind λ x53=>
  (idx (List.set w_13.Columns place_3.toNat ({ States:=x51.States,Costs:=l16 }:Aw)) place_3).bind λ _=>
  (idx r_1 x_30).bind λ _=>
  (put r_1 x_30 (-1)).bind λ l17=>
  (if (place_3==((w_13.S.length:Nat):Int))=true then idx w_13.States x53 else some default).bind λ x56=>
  (if (place_3==((w_13.S.length:Nat):Int))=true then Fa n w_13.T x56 else some default).bind λ r40=>
  if ((place_3==((w_13.S.length:Nat):Int))&&r40)=true then
   (idx l17 x_30).bind λ _=>
   (put l17 x_30 0).bind λ l18=>
   BI n x_30 l18
  else
   BI n x_30 l17
 else
  some (.inr ({ T:=w_13.T,S:=w_13.S,States:=w_13.States,Arcs:=w_13.Arcs,Columns:=List.set (List.set w_13.Columns place_3.toNat ({ States:=x51.States,Costs:=l16 }:Aw)) place_3.toNat ({ States:=x52.States,Costs:=r_1 }:Aw),Last:=w_13.Last }:Ad))
def Bo (n:Nat) (place_3:Int) (x58:Aw) (w_15:Ad) (x_31:Int):Option ((Ad×Int)⊕Ad):=
 if decide (x_31<((x58.States.length:Nat):Int))=true then
  (BT n x_31 false place_3 place_3 w_15).bind λ r41=>
  some (.inl (r41.1,(Az .i64 x_31 1)))
 else
  some (.inr w_15)
def Bp (n:Nat) (place_3:Int) (x59:Aw) (w_19:Ad) (better_4:Bool) (x_32:Int):Option ((Ad×Bool×Int)⊕(Ad×Bool)):=
 if decide (x_32<((x59.States.length:Nat):Int))=true then
  (BT n x_32 true place_3 place_3 w_19).bind λ r42=>
  some (.inl (r42.1,(r42.2||better_4),(Az .i64 x_32 1)))
 else
  some (.inr (w_19,better_4))
def BJ (n:Nat) (place_3:Int) (w_17:Ad):Option (Ad⊕Ad):=
 (idx w_17.Columns place_3).bind λ x59=>
 (whl (λ (x:(Ad×Bool×Int))=>Bp n place_3 x59 x.1 x.2.1 x.2.2) n (({ T:=w_17.T,S:=w_17.S,States:=w_17.States,Arcs:=w_17.Arcs,Columns:=List.set w_17.Columns place_3.toNat x59,Last:=w_17.Last }:Ad),false,0)).bind λ y37=>
 if (!y37.2)=true then
  some (.inr y37.1)
 else
  some (.inl y37.1)
def B7 (n:Nat) (w_13:Ad) (place_3:Int):Option ((Ad×Int)⊕Ad):=
 if decide (place_3>=0)=true then
  (idx w_13.Columns place_3).bind λ _=>
  (idx w_13.Columns place_3).bind λ x51=>
  (mkl 8 ((x51.States.length:Nat):Int) (0:Int)).bind λ l16=>
  (idx (List.set w_13.Columns place_3.toNat ({ States:=x51.States,Costs:=l16 }:Aw)) place_3).bind λ x52=>
  (whl (λ (x:((List Int)×Int))=>Bn n w_13 place_3 x51 l16 x52 x.1 x.2) n (x52.Costs,0)).bind λ y35=>
  (idx y35.Columns place_3).bind λ x58=>
  (whl (λ (x:(Ad×Int))=>Bo n place_3 x58 x.1 x.2) n (({ T:=y35.T,S:=y35.S,States:=y35.States,Arcs:=y35.Arcs,Columns:=List.set y35.Columns place_3.toNat x58,Last:=y35.Last }:Ad),0)).bind λ y36=>
  (whl (λ (x:Ad)=>BJ n place_3 x) n y36).bind λ y38=>
  some (.inl (y38,(Jk .i64 place_3 1)))
 else
  some (.inr w_13)
def CJ (n:Nat) (b0_:Ad):Option Ad:=
 (whl (λ (x:(Ad×Int))=>B7 n x.1 x.2) n (b0_,((b0_.S.length:Nat):Int))).bind λ y39=>
 some y39
def Bh (_:Nat) (x_34:Int):Option (Int⊕((AS×Int×Int×Int)⊕Unit)):=
 some (.inl (Az .i64 x_34 1))
def Bi (n:Nat) (b0_:Ad) (result_4:AS) (place_4:Int) (cost_3:Int) (x61:(List Fu)) (x_34:Int):Option (Int⊕((AS×Int×Int×Int)⊕Unit)):=
 if decide (x_34<((x61.length:Nat):Int))=true then
  (idx x61 x_34).bind λ x62=>
  (Bv n place_4 x62.Rule b0_).bind λ r44=>
  if (!r44.2)=true then
   Bh n x_34
  else
   (idx b0_.T.Rules x62.Rule).bind λ x63=>
   (idx b0_.Columns r44.1).bind λ x64=>
   (Bx n x64 x62.To).bind λ r45=>
   if ((decide (r45<0))||(r45 != (Jk .i64 cost_3 ((x63.Cells.length:Nat):Int))))=true then
    Bh n x_34
   else
    (app 1 result_4.Cells x63.Cells).bind λ l19=>
    (app 8 result_4.Path [x62.Rule]).bind λ l20=>
    some (.inr (.inl (({ Cells:=l19,Path:=l20 }:AS),r44.1,x62.To,(Jk .i64 cost_3 ((x63.Cells.length:Nat):Int)))))
 else
  some (.inr (.inr ()))
def Bz (n:Nat) (b0_:Ad) (result_4:AS) (place_4:Int) (state_3:Int) (cost_3:Int):Option ((AS×Int×Int×Int)⊕AS):=
 if decide (cost_3>0)=true then
  (idx b0_.Arcs state_3).bind λ x61=>
  (whl (λ (x:Int)=>Bi n b0_ result_4 place_4 cost_3 x61 x) n 0).bind λ y40=>
  match y40 with
  | Sum.inl y41=>
   some (.inl (y41.1,y41.2.1,y41.2.2.1,y41.2.2.2))
  | Sum.inr _=>
   some (.inr result_4)
 else
  some (.inr result_4)
def B8 (n:Nat) (b0_:Ad):Option AS:=
 (idx b0_.Columns 0).bind λ x60=>
 (Bx n x60 0).bind λ r43=>
 (whl (λ (x:(AS×Int×Int×Int))=>Bz n b0_ x.1 x.2.1 x.2.2.1 x.2.2.2) n (({ Cells:=([]:List Int),Path:=([]:List Int) }:AS),0,0,r43)).bind λ y43=>
 some y43
def G4 (n:Nat) (p0_:Ac) (p1_:(List UInt8)):Option (AS×Int×Int):=
 (Hf n p1_).bind λ r46=>
 if (r46.2 != 0)=true then
  some (({ Cells:=[],Path:=[] }:AS),r46.1,r46.2)
 else
  (E8 n p0_).bind λ r47=>
  if (!r47)=true then
   some (({ Cells:=[],Path:=[] }:AS),0,61)
  else
   (DH n p0_ p1_).bind λ r48=>
   (CI n r48).bind λ r49=>
   (CJ n r49).bind λ r50=>
   (idx r50.Columns 0).bind λ x65=>
   (idx x65.Costs 0).bind λ x66=>
   if decide (x66<0)=true then
    some (({ Cells:=[],Path:=[] }:AS),r50.Last,61)
   else
    (B8 n ({ T:=r50.T,S:=r50.S,States:=r50.States,Arcs:=r50.Arcs,Columns:=List.set r50.Columns (Int.toNat 0) x65,Last:=r50.Last }:Ad)).bind λ r51=>
    some (r51,((p1_.length:Nat):Int),0)
def K6 (_:Nat) (_:Ac) (_:(List Int)):Option Unit:=
 some ()
def Gs (_:Nat) (_:Int) (p2_:Int) (b1_0_:Int) (b2_0_:Int) (b3_0_:Int):Option (Nat×Int×Int):=
 if (b3_0_==b1_0_)=true then
  some (2,p2_,b3_0_)
 else
  some (0,b2_0_,(Az .i64 b3_0_ 1))
def Cr (n:Nat) (_:Ac) (b3_0_:Int) (_:(List Int)) (at_1:Int) (_:Int) (x67:Int) (x68:Av) (x_44:Int) (x_45:Int) (x_46:Int):Option ((Int×Int×Int)⊕((Int×Int)⊕(Nat×Int×Int))):=
 if decide (x_46<((x68.Cells.length:Nat):Int))=true then
  (Gs n x67 at_1 b3_0_ x_44 x_45).bind λ r52=>
  if (!(Nat.beq r52.1 0))=true then
   some (.inr (.inr (r52.1,r52.2.1,r52.2.2)))
  else
   some (.inl (r52.2.1,r52.2.2,(Az .i64 x_46 1)))
 else
  some (.inr (.inl (x_44,x_45)))
def De (n:Nat) (b2_:Ac) (b3_0_:Int) (o6_:(List Int)) (x_39:Int) (x_40:Int) (at_1:Int) (x_41:Int):Option ((Int×Int×Int×Int)⊕((Int×Int)⊕(Nat×Int×Int))):=
 if decide (x_41<((o6_.length:Nat):Int))=true then
  (idx o6_ x_41).bind λ x67=>
  (idx b2_.Rules x67).bind λ x68=>
  (whl (λ (x:(Int×Int×Int))=>Cr n b2_ b3_0_ o6_ at_1 x_41 x67 x68 x.1 x.2.1 x.2.2) n (x_39,x_40,0)).bind λ y44=>
  match y44 with
  | Sum.inl y45=>
   (idx b2_.Rules x67).bind λ x69=>
   some (.inl (y45.1,y45.2,(Az .i64 at_1 ((x69.Print.length:Nat):Int)),(Az .i64 x_41 1)))
  | Sum.inr y46=>
   some (.inr (.inr y46))
 else
  some (.inr (.inl (x_39,x_40)))
def Fb (n:Nat) (b2_:Ac) (b3_0_:Int) (b4_0_:Int) (b5_0_:Int) (o6_:(List Int)):Option (Nat×Int×Int):=
 (whl (λ (x:(Int×Int×Int×Int))=>De n b2_ b3_0_ o6_ x.1 x.2.1 x.2.2.1 x.2.2.2) n (b4_0_,b5_0_,0,0)).bind λ y47=>
 match y47 with
 | Sum.inl y48=>
  some (0,y48.1,y48.2)
 | Sum.inr y49=>
  some y49
def Fw (_:Nat) (place_6:Int):Option (Int×Int):=
 some (place_6,0)
def CK (n:Nat) (p0_:Ac) (p1_:(List UInt8)) (p2_:Int):Option (Int×Int):=
 (G4 n p0_ p1_).bind λ r53=>
 if (r53.2.2 != 0)=true then
  some (0,r53.2.2)
 else
  if ((decide (p2_<0))||(decide (p2_>=((r53.1.Cells.length:Nat):Int))))=true then
   some (0,310)
  else
   (K6 n p0_ r53.1.Path).bind λ _=>
   (Fb n p0_ p2_ 0 0 r53.1.Path).bind λ r55=>
   if Nat.beq r55.1 0=true then
    Fw n r55.2.1
   else
    if Nat.beq r55.1 2=true then
     Fw n r55.2.1
    else
     none
def K7 (_:Nat) (p0_:Qv) (p1_:Int):Option Int:=
 if (p1_==0)=true then
  some 0
 else
  (idx p0_.Ends (Jk .i64 p1_ 1)).bind λ x70=>
  some x70
def EP (_:Nat) (p0_:(List Int)) (x_49:Int):Option (Int⊕(Unit⊕Int)):=
 if decide (x_49<((p0_.length:Nat):Int))=true then
  (idx p0_ x_49).bind λ x71=>
  if (x71 != 0)=true then
   some (.inr (.inr x_49))
  else
   some (.inl (Az .i64 x_49 1))
 else
  some (.inr (.inl ()))
def GO (n:Nat) (p0_:(List Int)):Option Int:=
 (whl (λ (x:Int)=>EP n p0_ x) n 0).bind λ y50=>
 match y50 with
 | Sum.inl _=>
  some ((p0_.length:Nat):Int)
 | Sum.inr y52=>
  some y52
def MJ (n:Nat) (p0_:IA) (p1_:Qx):Option (Int×Int×Int):=
 if ((((decide (p1_.Volume<0))||(decide (p1_.Volume>=((p0_.Volumes.length:Nat):Int))))||(decide (p1_.Side<0)))||(decide (p1_.Side>1)))=true then
  some (0,0,310)
 else
  (idx p0_.Volumes p1_.Volume).bind λ x72=>
  if (((decide (p1_.Leaf<0))||(decide (p1_.Leaf>=((x72.Labels.length:Nat):Int))))||(decide (Az .i64 (JdL .i64 2 p1_.Leaf) p1_.Side>=((x72.Ends.length:Nat):Int))))=true then
   some (0,0,310)
  else
   (K7 n x72 (Az .i64 (JdL .i64 2 p1_.Leaf) p1_.Side)).bind λ r56=>
   (idx x72.Ends (Az .i64 (JdL .i64 2 p1_.Leaf) p1_.Side)).bind λ x73=>
   (sub x72.Rows r56 x73).bind λ l21=>
   if ((decide (p1_.Line<1))||(decide (p1_.Line>((l21.length:Nat):Int))))=true then
    some (0,0,310)
   else
    (idx l21 (Jk .i64 p1_.Line 1)).bind λ x74=>
    (GO n x74.Line).bind λ r57=>
    if (((x74.At==(-1))||(decide (p1_.Cell<r57)))||(decide (p1_.Cell>=((x74.Line.length:Nat):Int))))=true then
     some (0,0,310)
    else
     some (x74.Block,(Az .i64 x74.At (Jk .i64 p1_.Cell r57)),0)
def Df (n:Nat) (p0_:(List LV)) (p1_:Ac) (p3_:U0) (r58:(Int×Int×Int)) (x_50:Bool):Option (Jm×Int):=
 if x_50=true then
  (idx p0_ r58.1).bind λ x76=>
  (CK n p1_ x76.Text r58.2.1).bind λ r59=>
  if (r59.2 != 0)=true then
   some (({ Block:=0,At:=0,Cut:=0,Put:=[] }:Jm),r59.2)
  else
   (if (!(decide (p3_.Cut<0)))=true then idx p0_ r58.1 else some default).bind λ x77=>
   if ((decide (p3_.Cut<0))||(decide (p3_.Cut>Jk .i64 ((x77.Text.length:Nat):Int) r59.1)))=true then
    some (({ Block:=0,At:=0,Cut:=0,Put:=[] }:Jm),310)
   else
    some (({ Block:=r58.1,At:=r59.1,Cut:=p3_.Cut,Put:=p3_.Put }:Jm),0)
 else
  some (({ Block:=0,At:=0,Cut:=0,Put:=[] }:Jm),310)
def HN (n:Nat) (p0_:(List LV)) (p1_:Ac) (p2_:IA) (p3_:U0):Option (Jm×Int):=
 (MJ n p2_ p3_.At).bind λ r58=>
 if (((r58.2.2 != 0)||(decide (r58.1<0)))||(decide (r58.1>=((p0_.length:Nat):Int))))=true then
  some (({ Block:=0,At:=0,Cut:=0,Put:=[] }:Jm),310)
 else
  (idx p0_ r58.1).bind λ x75=>
  if (x75.Kind==1)=true then
   Df n p0_ p1_ p3_ r58 (x75.Kind==1)
  else
   if (x75.Kind==2)=true then
    Df n p0_ p1_ p3_ r58 (x75.Kind==2)
   else
    Df n p0_ p1_ p3_ r58 (x75.Kind==4)
def Gt (n:Nat) :Option Bool:=
 (HM n).bind λ r60=>
 (CK n r60 [97,97,98] 1).bind λ r61=>
 (CK n r60 [97,65] 1).bind λ r62=>
 (CK n r60 [97,65] 2).bind λ r63=>
 (CK n r60 [97,65] 3).bind λ r64=>
 (CK n r60 [97,99] 0).bind λ r65=>
 (CK n r60 [97,9] 0).bind λ r66=>
 (HN n ([]:List LV) r60 ({ Format:=({ Width:=24,Height:=4,Binding:=1 }:W9),Volumes:=[] }:IA) ({ Reader:=0,Version:=0,At:=({ Volume:=0,Leaf:=0,Side:=0,Line:=0,Cell:=0 }:Qx),Cut:=0,Put:=[] }:U0)).bind λ r67=>
 some ((((((((((r61.2==0)&&(r62.2==0))&&(r63.2==0))&&(r64.2==310))&&(r65.2==61))&&(r66.2==60))&&(r67.2==310))&&(r61.1==1))&&(r62.1==1))&&(r63.1==1))
def A3 (_:Nat) (p0_:(List UInt8)) (p1_:(List Int)) (p2_:(Fl Int)):Option Av:=
 some ({ Print:=p0_,Cells:=p1_,Left:=63,Right:=63,From:=p2_.a0,To:=p2_.a1 }:Av)
def OG (n:Nat) :Option (List Av):=
 (A3 n [97] [1] ({ a0:=0,a1:=0 }:(Fl Int))).bind λ r68=>
 (A3 n [98] [3] ({ a0:=0,a1:=0 }:(Fl Int))).bind λ r69=>
 (A3 n [99] [9] ({ a0:=0,a1:=0 }:(Fl Int))).bind λ r70=>
 (A3 n [32] [0] ({ a0:=0,a1:=0 }:(Fl Int))).bind λ r71=>
 some [r68,r69,r70,r71]
def Gk (n:Nat) (p0_:Int) (p1_:Int) (p2_:(Fl Int)):Option Av:=
 (A3 n [] [p0_] p2_).bind λ r72=>
 (CA (decide (0<=p1_))).bind λ _=>
 some ({ Print:=r72.Print,Cells:=r72.Cells,Left:=r72.Left,Right:=Qc .u8 1 p1_,From:=r72.From,To:=r72.To }:Av)
def Fd (_:Nat) (l_1:(List Av)):Option Ac:=
 some ({ Modes:=1,Accept:=1,Rules:=l_1 }:Ac)
def ID (n:Nat) (p0_:Int):Option Ac:=
 (OG n).bind λ r73=>
 if ((Br p0_ 8)==1)=true then
  (Gk n 60 3 ({ a0:=0,a1:=1 }:(Fl Int))).bind λ r74=>
  (A3 n [49] [1] ({ a0:=1,a1:=1 }:(Fl Int))).bind λ r75=>
  (A3 n [50] [3] ({ a0:=1,a1:=1 }:(Fl Int))).bind λ r76=>
  (A3 n [32] [0] ({ a0:=1,a1:=0 }:(Fl Int))).bind λ r77=>
  (app 64 r73 [r74,r75,r76,r77]).bind λ l22=>
  some ({ Modes:=2,Accept:=3,Rules:=l22 }:Ac)
 else
  if ((Br p0_ 8)==2)=true then
   (Gk n 32 2 ({ a0:=0,a1:=1 }:(Fl Int))).bind λ r78=>
   (A3 n [65] [1] ({ a0:=1,a1:=0 }:(Fl Int))).bind λ r79=>
   (A3 n [66] [3] ({ a0:=1,a1:=0 }:(Fl Int))).bind λ r80=>
   (app 64 r73 [r78,r79,r80]).bind λ l23=>
   some ({ Modes:=2,Accept:=1,Rules:=l23 }:Ac)
  else
   if ((Br p0_ 8)==3)=true then
    (A3 n [97,98] [7] ({ a0:=0,a1:=0 }:(Fl Int))).bind λ r81=>
    (A3 n [97,98,99] [15] ({ a0:=0,a1:=0 }:(Fl Int))).bind λ r82=>
    (A3 n [99,97] [4,4] ({ a0:=0,a1:=0 }:(Fl Int))).bind λ r83=>
    (app 64 r73 [r81,r82,r83]).bind λ l24=>
    Fd n l24
   else
    if ((Br p0_ 8)==4)=true then
     (A3 n [45] [1,3] ({ a0:=0,a1:=0 }:(Fl Int))).bind λ r84=>
     (app 64 r73 [r84]).bind λ l25=>
     Fd n l25
    else
     if ((Br p0_ 8)==5)=true then
      (A3 n [98] [44] ({ a0:=0,a1:=0 }:(Fl Int))).bind λ r85=>
      (A3 n [99,97,98] [44] ({ a0:=0,a1:=0 }:(Fl Int))).bind λ r86=>
      (A3 n [45] [36] ({ a0:=0,a1:=0 }:(Fl Int))).bind λ r87=>
      (app 64 r73 [({ Print:=r85.Print,Cells:=r85.Cells,Left:=17,Right:=r85.Right,From:=r85.From,To:=r85.To }:Av),({ Print:=r86.Print,Cells:=r86.Cells,Left:=2,Right:=r86.Right,From:=r86.From,To:=r86.To }:Av),r87]).bind λ l26=>
      Fd n l26
     else
      if ((Br p0_ 8)==6)=true then
       (Gk n 40 1 ({ a0:=0,a1:=1 }:(Fl Int))).bind λ r88=>
       (A3 n [225] [1] ({ a0:=1,a1:=0 }:(Fl Int))).bind λ r89=>
       (A3 n [226] [3] ({ a0:=1,a1:=0 }:(Fl Int))).bind λ r90=>
       (app 64 r73 [r88,r89,r90]).bind λ l27=>
       some ({ Modes:=2,Accept:=1,Rules:=l27 }:Ac)
      else
       if ((Br p0_ 8)==7)=true then
        (A3 n [45] [1,5] ({ a0:=0,a1:=0 }:(Fl Int))).bind λ r91=>
        (A3 n [49] [5,5] ({ a0:=0,a1:=0 }:(Fl Int))).bind λ r92=>
        (A3 n [50] [5,9] ({ a0:=0,a1:=0 }:(Fl Int))).bind λ r93=>
        (app 64 r73 [r91,r92,r93]).bind λ l28=>
        Fd n l28
       else
        Fd n r73
def Fe (_:Nat) (p0_:Dc) (out_1:Av) (i_5:Int):Option ((Av×Int)⊕Av):=
 if ((decide (i_5<((p0_.P.length:Nat):Int)))&&(decide (i_5<3)))=true then
  (idx p0_.P i_5).bind λ x80=>
  (sub [97,98,99,65,66,49,50,45,46] (IntKind.i64.wrap (Br x80 9)) (Az .i64 (IntKind.i64.wrap (Br x80 9)) 1)).bind λ s4=>
  (cat out_1.Print s4).bind λ s5=>
  some (.inl (({ Print:=s5,Cells:=out_1.Cells,Left:=out_1.Left,Right:=out_1.Right,From:=out_1.From,To:=out_1.To }:Av),(Az .i64 i_5 1)))
 else
  some (.inr out_1)
def Ff (_:Nat) (p0_:Dc) (out_3:Av) (i_6:Int):Option ((Av×Int)⊕Av):=
 if ((decide (i_6<((p0_.C.length:Nat):Int)))&&(decide (i_6<2)))=true then
  (idx p0_.C i_6).bind λ x82=>
  (idx [1,3,9,5,7,32,44,60] (Br x82 8)).bind λ x83=>
  (app 1 out_3.Cells [x83]).bind λ l29=>
  some (.inl (({ Print:=out_3.Print,Cells:=l29,Left:=out_3.Left,Right:=out_3.Right,From:=out_3.From,To:=out_3.To }:Av),(Az .i64 i_6 1)))
 else
  some (.inr out_3)
def MK (n:Nat) (p0_:Dc) (p1_:Int):Option Av:=
 (idx [63,63,2,8,17,62,4,1] (Br p0_.L 8)).bind λ x78=>
 (idx [63,63,2,8,17,62,4,1] (Br p0_.R 8)).bind λ x79=>
 (CA (!(p1_==0))).bind λ _=>
 (CA (!(p1_==0))).bind λ _=>
 (whl (λ (x:(Av×Int))=>Fe n p0_ x.1 x.2) n (({ Print:=[],Cells:=([]:List Int),Left:=x78,Right:=x79,From:=Br (IntKind.i64.wrap p0_.W.a0) p1_,To:=Br (IntKind.i64.wrap p0_.W.a1) p1_ }:Av),0)).bind λ y53=>
 (idx [1,3,9,5,7,32,44,60] (Br (Ze .u8 p0_.L 8) 8)).bind λ x81=>
 (whl (λ (x:(Av×Int))=>Ff n p0_ x.1 x.2) n (({ Print:=y53.Print,Cells:=[x81],Left:=y53.Left,Right:=y53.Right,From:=y53.From,To:=y53.To }:Av),0)).bind λ y54=>
 some y54
def If (_:Nat) (p0_:Int):Option Bool:=
 some ((decide (Cm .u8 p0_ 127>=32))&&(decide (Cm .u8 p0_ 127<=126)))
def HO (n:Nat) (p0_:(List UInt8)) (i_7:Int):Option (Int⊕(Unit⊕(Int×Int))):=
 if decide (i_7<((p0_.length:Nat):Int))=true then
  (Lk p0_ i_7).bind λ b6=>
  (If n b6).bind λ r94=>
  if (!r94)=true then
   some (.inr (.inr (i_7,60)))
  else
   some (.inl (Az .i64 i_7 1))
 else
  some (.inr (.inl ()))
def KC (n:Nat) (p0_:(List UInt8)):Option (Int×Int):=
 (whl (λ (x:Int)=>HO n p0_ x) n 0).bind λ y55=>
 match y55 with
 | Sum.inl _=>
  some (((p0_.length:Nat):Int),0)
 | Sum.inr y57=>
  some y57
def Jn (n:Nat) (p0_:(List UInt8)):Option Bool:=
 (KC n p0_).bind λ r95=>
 some (r95.2==0)
def NF (_:Nat) (p0_:Int):Option Bool:=
 some ((Cm .u8 p0_ 127)==32)
def Ek (n:Nat) (p0_:Av) (space_1:Bool) (i_8:Int):Option ((Bool×Int)⊕Bool):=
 if decide (i_8<((p0_.Print.length:Nat):Int))=true then
  (if (!space_1)=true then Lk p0_.Print i_8 else some default).bind λ b7=>
  (if (!space_1)=true then NF n b7 else some default).bind λ r97=>
  some (.inl ((space_1||r97),(Az .i64 i_8 1)))
 else
  some (.inr space_1)
def Ds (_:Nat) (p0_:Av) (_:Bool) (blank_1:Bool) (i_9:Int):Option ((Bool×Int)⊕(Bool⊕Bool)):=
 if decide (i_9<((p0_.Cells.length:Nat):Int))=true then
  (idx p0_.Cells i_9).bind λ x84=>
  if decide (x84>=63)=true then
   some (.inr (.inr false))
  else
   (if (!blank_1)=true then idx p0_.Cells i_9 else some default).bind λ x85=>
   some (.inl ((blank_1||(x85==0)),(Az .i64 i_9 1)))
 else
  some (.inr (.inl blank_1))
def K8 (n:Nat) (p0_:Av) (p1_:Int):Option Bool:=
 (Jn n p0_.Print).bind λ r96=>
 if ((((!r96)||(decide (((p0_.Print.length:Nat):Int)>4)))||(decide (((p0_.Cells.length:Nat):Int)<1)))||(decide (((p0_.Cells.length:Nat):Int)>4)))=true then
  some false
 else
  if ((((((((decide (p0_.Left<1))||(decide (p0_.Left>63)))||(decide (p0_.Right<1)))||(decide (p0_.Right>63)))||(decide (p0_.From<0)))||(decide (p0_.From>=p1_)))||(decide (p0_.To<0)))||(decide (p0_.To>=p1_)))=true then
   some false
  else
   (whl (λ (x:(Bool×Int))=>Ek n p0_ x.1 x.2) n (false,0)).bind λ y58=>
   (whl (λ (x:(Bool×Int))=>Ds n p0_ y58 x.1 x.2) n (false,0)).bind λ y59=>
   match y59 with
   | Sum.inl y60=>
    if (!y58)=true then
     some (!y60)
    else
     some (((((p0_.Print.length:Nat):Int)==1)&&(((p0_.Cells.length:Nat):Int)==1))&&y60)
   | Sum.inr y61=>
    some y61
def El (_:Nat) (p0_:(List Int)) (p1_:(List Int)) (i_10:Int):Option (Int⊕(Unit⊕Bool)):=
 if decide (i_10<((p0_.length:Nat):Int))=true then
  (idx p0_ i_10).bind λ x86=>
  (idx p1_ i_10).bind λ x87=>
  if (x86 != x87)=true then
   some (.inr (.inr false))
  else
   some (.inl (Az .i64 i_10 1))
 else
  some (.inr (.inl ()))
def Gl (n:Nat) (p0_:(List Int)) (p1_:(List Int)):Option Bool:=
 if (((p0_.length:Nat):Int) != ((p1_.length:Nat):Int))=true then
  some false
 else
  (whl (λ (x:Int)=>El n p0_ p1_ x) n 0).bind λ y62=>
  match y62 with
  | Sum.inl _=>
   some true
  | Sum.inr y64=>
   some y64
def GP (n:Nat) (p0_:Av) (p1_:Av):Option Bool:=
 (if (p0_.Print==p1_.Print)=true then Gl n p0_.Cells p1_.Cells else some default).bind λ r98=>
 some ((((((p0_.Print==p1_.Print)&&r98)&&(p0_.Left==p1_.Left))&&(p0_.Right==p1_.Right))&&(p0_.From==p1_.From))&&(p0_.To==p1_.To))
def Fx (n:Nat) (p0_:Ac) (i_11:Int) (k_2:Int):Option (Int⊕(Unit⊕(Int×Int))):=
 if decide (k_2<i_11)=true then
  (idx p0_.Rules k_2).bind λ x89=>
  (idx p0_.Rules i_11).bind λ x90=>
  (GP n x89 x90).bind λ r100=>
  if r100=true then
   some (.inr (.inr (i_11,20)))
  else
   some (.inl (Az .i64 k_2 1))
 else
  some (.inr (.inl ()))
def Fy (n:Nat) (p0_:Ac) (i_11:Int):Option (Int⊕(Unit⊕(Int×Int))):=
 if decide (i_11<((p0_.Rules.length:Nat):Int))=true then
  (idx p0_.Rules i_11).bind λ x88=>
  (K8 n x88 p0_.Modes).bind λ r99=>
  if (!r99)=true then
   some (.inr (.inr (i_11,20)))
  else
   (whl (λ (x:Int)=>Fx n p0_ i_11 x) n 0).bind λ y65=>
   match y65 with
   | Sum.inl _=>
    some (.inl (Az .i64 i_11 1))
   | Sum.inr y67=>
    some (.inr (.inr y67))
 else
  some (.inr (.inl ()))
def K9 (n:Nat) (p0_:Ac):Option (Int×Int):=
 (if (!(((decide (p0_.Modes<1))||(decide (p0_.Modes>8)))||(p0_.Accept==0)))=true then CA (decide (0<=p0_.Modes)) else some default).bind λ _=>
 if ((((((decide (p0_.Modes<1))||(decide (p0_.Modes>8)))||(p0_.Accept==0))||(decide (IntKind.i64.wrap p0_.Accept>=Qc .i64 1 p0_.Modes)))||(decide (((p0_.Rules.length:Nat):Int)<1)))||(decide (((p0_.Rules.length:Nat):Int)>64)))=true then
  some ((-1),1)
 else
  (whl (λ (x:Int)=>Fy n p0_ x) n 0).bind λ y68=>
  match y68 with
  | Sum.inl _=>
   some (0,0)
  | Sum.inr y70=>
   some y70
def NG (n:Nat) (p0_:Ac):Option Bool:=
 (K9 n p0_).bind λ r101=>
 some (r101.2==0)
def Gu (_:Nat) (i_12:Int) (t_5:Ac):Option ((Ac×Int)⊕Ac):=
 some (.inl (t_5,(Az .i64 i_12 1)))
def Fg (n:Nat) (p0_:KB) (r102:Ac) (t_3:Ac) (i_12:Int):Option ((Ac×Int)⊕Ac):=
 if decide (i_12<((r102.Rules.length:Nat):Int))=true then
  (CA (decide (0<=i_12))).bind λ _=>
  if ((Cm .u8 (Qd .u8 p0_.Drop i_12) 1)==0)=true then
   (idx r102.Rules i_12).bind λ x91=>
   (app 64 t_3.Rules [x91]).bind λ l30=>
   Gu n i_12 ({ Modes:=t_3.Modes,Accept:=t_3.Accept,Rules:=l30 }:Ac)
  else
   Gu n i_12 t_3
 else
  some (.inr t_3)
def Gv (_:Nat) (i_13:Int) (t_8:Ac):Option ((Ac×Int)⊕Ac):=
 some (.inl (t_8,(Az .i64 i_13 1)))
def Fh (n:Nat) (p0_:KB) (_:Ac) (t_6:Ac) (i_13:Int):Option ((Ac×Int)⊕Ac):=
 if ((decide (i_13<((p0_.More.length:Nat):Int)))&&(decide (i_13<2)))=true then
  (idx p0_.More i_13).bind λ x92=>
  (MK n x92 t_6.Modes).bind λ r103=>
  (app 64 t_6.Rules [r103]).bind λ l31=>
  (NG n ({ Modes:=t_6.Modes,Accept:=t_6.Accept,Rules:=l31 }:Ac)).bind λ r104=>
  if (!r104)=true then
   (sub l31 0 (Jk .i64 ((l31.length:Nat):Int) 1)).bind λ l32=>
   Gv n i_13 ({ Modes:=t_6.Modes,Accept:=t_6.Accept,Rules:=l32 }:Ac)
  else
   Gv n i_13 ({ Modes:=t_6.Modes,Accept:=t_6.Accept,Rules:=l31 }:Ac)
 else
  some (.inr t_6)
def Gw (_:Nat) (t_9:Ac):Option Ac:=
 some t_9
def IE (n:Nat) (p0_:KB):Option Ac:=
 (ID n p0_.Base).bind λ r102=>
 (whl (λ (x:(Ac×Int))=>Fg n p0_ r102 x.1 x.2) n (({ Modes:=r102.Modes,Accept:=r102.Accept,Rules:=([]:List Av) }:Ac),0)).bind λ y71=>
 (whl (λ (x:(Ac×Int))=>Fh n p0_ r102 x.1 x.2) n (y71,0)).bind λ y72=>
 if (((y72.Rules.length:Nat):Int)==0)=true then
  Gw n ({ Modes:=y72.Modes,Accept:=y72.Accept,Rules:=r102.Rules }:Ac)
 else
  Gw n y72
def D6 (_:Nat) (i_14:Int) (out_7:(List UInt8)):Option (((List UInt8)×Int)⊕(List UInt8)):=
 some (.inl (out_7,(Az .i64 i_14 1)))
def D7 (n:Nat) (p0_:Ac) (p1_:(List Int)) (out_5:(List UInt8)) (i_14:Int):Option (((List UInt8)×Int)⊕(List UInt8)):=
 if (((decide (i_14<((p1_.length:Nat):Int)))&&(decide (i_14<12)))&&(decide (((p0_.Rules.length:Nat):Int)>0)))=true then
  (idx p1_ i_14).bind λ x93=>
  (CA (!(((p0_.Rules.length:Nat):Int)==0))).bind λ _=>
  (idx p0_.Rules (Br (IntKind.i64.wrap x93) ((p0_.Rules.length:Nat):Int))).bind λ x94=>
  if decide (Az .i64 ((out_5.length:Nat):Int) ((x94.Print.length:Nat):Int)<=12)=true then
   (cat out_5 x94.Print).bind λ s6=>
   D6 n i_14 s6
  else
   D6 n i_14 out_5
 else
  some (.inr out_5)
def HP (n:Nat) (p0_:Ac) (p1_:(List Int)):Option (List UInt8):=
 (whl (λ (x:((List UInt8)×Int))=>D7 n p0_ p1_ x.1 x.2) n ([],0)).bind λ y73=>
 some y73
def NH (_:Nat) :Option Aa:=
 some ({ Mode:=0,Last:=0,Need:=63 }:Aa)
def HQ (_:Nat) (p0_:Int) (p1_:Int):Option Bool:=
 (if ((decide (p1_>=0))&&(decide (p1_<8)))=true then CA (decide (0<=p1_)) else some default).bind λ _=>
 some (((decide (p1_>=0))&&(decide (p1_<8)))&&((Cm .u8 (Qd .u8 p0_ p1_) 1)==1))
def G5 (_:Nat) (p0_:Int):Option Int:=
 if ((decide (Cm .u8 p0_ 127>=97))&&(decide (Cm .u8 p0_ 127<=122)))=true then
  some 1
 else
  if ((decide (Cm .u8 p0_ 127>=65))&&(decide (Cm .u8 p0_ 127<=90)))=true then
   some 2
  else
   if ((decide (Cm .u8 p0_ 127>=48))&&(decide (Cm .u8 p0_ 127<=57)))=true then
    some 3
   else
    if ((Cm .u8 p0_ 127)==32)=true then
     some 4
    else
     some 5
def Hi (n:Nat) (p0_:Ac) (p1_:Aa) (p2_:Int):Option (Aa×Bool):=
 if ((decide (p2_<0))||(decide (p2_>=((p0_.Rules.length:Nat):Int))))=true then
  some (({ Mode:=0,Last:=0,Need:=0 }:Aa),false)
 else
  (idx p0_.Rules p2_).bind λ x95=>
  (if (!(x95.From != p1_.Mode))=true then HQ n x95.Left p1_.Last else some default).bind λ r105=>
  if ((x95.From != p1_.Mode)||(!r105))=true then
   some (({ Mode:=0,Last:=0,Need:=0 }:Aa),false)
  else
   if ((((x95.Print.length:Nat):Int)==0)&&((Cm .u8 p1_.Need x95.Right)==0))=true then
    some (({ Mode:=0,Last:=0,Need:=0 }:Aa),false)
   else
    if (((x95.Print.length:Nat):Int)==0)=true then
     some (({ Mode:=x95.To,Last:=p1_.Last,Need:=Cm .u8 p1_.Need x95.Right }:Aa),true)
    else
     (Lk x95.Print 0).bind λ b8=>
     (G5 n b8).bind λ r106=>
     (HQ n p1_.Need r106).bind λ r107=>
     if (!r107)=true then
      some (({ Mode:=0,Last:=0,Need:=0 }:Aa),false)
     else
      (Lk x95.Print (Jk .i64 ((x95.Print.length:Nat):Int) 1)).bind λ b9=>
      (G5 n b9).bind λ r108=>
      some (({ Mode:=x95.To,Last:=r108,Need:=x95.Right }:Aa),true)
def Dt (_:Nat) (p0_:(List Aa)) (p1_:Aa) (i_15:Int):Option (Int⊕(Unit⊕Int)):=
 if decide (i_15<((p0_.length:Nat):Int))=true then
  (idx p0_ i_15).bind λ x96=>
  if ((x96.Mode==p1_.Mode)&&((x96.Last==p1_.Last)&&((x96.Need==p1_.Need)&&true)))=true then
   some (.inr (.inr i_15))
  else
   some (.inl (Az .i64 i_15 1))
 else
  some (.inr (.inl ()))
def Fi (n:Nat) (p0_:(List Aa)) (p1_:Aa):Option Int:=
 (whl (λ (x:Int)=>Dt n p0_ p1_ x) n 0).bind λ y74=>
 match y74 with
 | Sum.inl _=>
  some (-1)
 | Sum.inr y76=>
  some y76
def EG (_:Nat) (k_3:Int) (out_12:(List Aa)):Option (((List Aa)×Int)⊕(List Aa)):=
 some (.inl (out_12,(Az .i64 k_3 1)))
def DK (n:Nat) (p0_:Ac) (i_16:Int) (out_10:(List Aa)) (k_3:Int):Option (((List Aa)×Int)⊕(List Aa)):=
 if decide (k_3<((p0_.Rules.length:Nat):Int))=true then
  (idx out_10 i_16).bind λ x97=>
  (Hi n p0_ x97 k_3).bind λ r110=>
  (if r110.2=true then Fi n out_10 r110.1 else some default).bind λ r111=>
  if (r110.2&&(decide (r111<0)))=true then
   (app 24 out_10 [r110.1]).bind λ l33=>
   EG n k_3 l33
  else
   EG n k_3 out_10
 else
  some (.inr out_10)
def EH (n:Nat) (p0_:Ac) (out_8:(List Aa)) (i_16:Int):Option (((List Aa)×Int)⊕(List Aa)):=
 if decide (i_16<((out_8.length:Nat):Int))=true then
  (whl (λ (x:((List Aa)×Int))=>DK n p0_ i_16 x.1 x.2) n (out_8,0)).bind λ y77=>
  some (.inl (y77,(Az .i64 i_16 1)))
 else
  some (.inr out_8)
def Ga (n:Nat) (p0_:Ac):Option (List Aa):=
 (NH n).bind λ r109=>
 (whl (λ (x:((List Aa)×Int))=>EH n p0_ x.1 x.2) n ([r109],0)).bind λ y78=>
 some y78
def HR (n:Nat) (p0_:Ac) (p1_:Aa):Option Bool:=
 (if ((decide (p1_.Mode>=0))&&(decide (p1_.Mode<p0_.Modes)))=true then HQ n p0_.Accept p1_.Mode else some default).bind λ r112=>
 (if (((decide (p1_.Mode>=0))&&(decide (p1_.Mode<p0_.Modes)))&&r112)=true then HQ n p1_.Need 0 else some default).bind λ r113=>
 some ((((decide (p1_.Mode>=0))&&(decide (p1_.Mode<p0_.Modes)))&&r112)&&r113)
def Hj (_:Nat) (p0_:(List UInt8)) (p1_:Int) (p2_:(List UInt8)):Option Bool:=
 (if decide (Az .i64 p1_ ((p2_.length:Nat):Int)<=((p0_.length:Nat):Int))=true then sub p0_ p1_ (Az .i64 p1_ ((p2_.length:Nat):Int)) else some default).bind λ s7=>
 some ((decide (Az .i64 p1_ ((p2_.length:Nat):Int)<=((p0_.length:Nat):Int)))&&(s7==p2_))
def Gb (n:Nat) (p0_:Ac) (p1_:AO) (p2_:Int) (p3_:(List (List Int))):Option Int:=
 (Hi n p0_ p1_.State p2_).bind λ r114=>
 (if (!(!r114.2))=true then idx p0_.Rules p2_ else some default).bind λ x98=>
 (if (!(!r114.2))=true then Hj n p1_.S p1_.I x98.Print else some default).bind λ r115=>
 if ((!r114.2)||(!r115))=true then
  some (-1)
 else
  (idx p0_.Rules p2_).bind λ x99=>
  (idx p3_ (Az .i64 p1_.I ((x99.Print.length:Nat):Int))).bind λ x100=>
  (Fi n p1_.L r114.1).bind λ r116=>
  (idx x100 r116).bind λ x101=>
  if decide (x101<0)=true then
   some (-1)
  else
   (idx p0_.Rules p2_).bind λ x102=>
   some (Az .i64 x101 ((x102.Cells.length:Nat):Int))
def La (_:Nat) (p0_:Int) (p1_:Int):Option Int:=
 if ((decide (p0_<0))||((decide (p1_>=0))&&(decide (p1_<p0_))))=true then
  some p1_
 else
  some p0_
def Dy (_:Nat) (k_4:Int) (out_17:(List (List Int))):Option (((List (List Int))×Int)⊕(List (List Int))):=
 some (.inl (out_17,(Az .i64 k_4 1)))
def CZ (n:Nat) (p0_:Ac) (p1_:(List UInt8)) (r117:(List Aa)) (i_17:Int) (out_15:(List (List Int))) (k_4:Int):Option (((List (List Int))×Int)⊕(List (List Int))):=
 if decide (k_4<((r117.length:Nat):Int))=true then
  (idx out_15 i_17).bind λ x104=>
  (idx x104 k_4).bind λ _=>
  (put x104 k_4 (-1)).bind λ l36=>
  (if (i_17==((p1_.length:Nat):Int))=true then idx r117 k_4 else some default).bind λ x106=>
  (if (i_17==((p1_.length:Nat):Int))=true then HR n p0_ x106 else some default).bind λ r118=>
  if ((i_17==((p1_.length:Nat):Int))&&r118)=true then
   (idx (List.set out_15 i_17.toNat l36) i_17).bind λ x107=>
   (idx x107 k_4).bind λ _=>
   (put x107 k_4 0).bind λ l37=>
   Dy n k_4 (List.set (List.set out_15 i_17.toNat l36) i_17.toNat l37)
  else
   Dy n k_4 (List.set out_15 i_17.toNat l36)
 else
  some (.inr out_15)
def Dz (_:Nat) (r_3:Int) (out_24:(List (List Int))) (changed_6:Bool):Option (((List (List Int))×Bool×Int)⊕((List (List Int))×Bool)):=
 some (.inl (out_24,changed_6,(Az .i64 r_3 1)))
def C0 (n:Nat) (p0_:Ac) (p1_:(List UInt8)) (r117:(List Aa)) (i_17:Int) (k_5:Int) (out_22:(List (List Int))) (changed_4:Bool) (r_3:Int):Option (((List (List Int))×Bool×Int)⊕((List (List Int))×Bool)):=
 if decide (r_3<((p0_.Rules.length:Nat):Int))=true then
  (idx r117 k_5).bind λ x109=>
  (Gb n p0_ ({ S:=p1_,I:=i_17,State:=x109,L:=r117 }:AO) r_3 out_22).bind λ r119=>
  (if decide (r119>=0)=true then idx out_22 i_17 else some default).bind λ _=>
  (if decide (r119>=0)=true then idx (List.getD out_22 i_17.toNat []) k_5 else some default).bind λ x111=>
  (if decide (r119>=0)=true then La n x111 r119 else some default).bind λ r120=>
  (if decide (r119>=0)=true then idx out_22 i_17 else some default).bind λ _=>
  (if decide (r119>=0)=true then idx (List.getD out_22 i_17.toNat []) k_5 else some default).bind λ x113=>
  if ((decide (r119>=0))&&(r120 != x113))=true then
   (idx (List.set out_22 i_17.toNat (List.getD out_22 i_17.toNat [])) i_17).bind λ x114=>
   (idx x114 k_5).bind λ _=>
   (put x114 k_5 r119).bind λ l38=>
   Dz n r_3 (List.set (List.set out_22 i_17.toNat (List.getD out_22 i_17.toNat [])) i_17.toNat l38) true
  else
   Dz n r_3 (List.set out_22 i_17.toNat (List.getD out_22 i_17.toNat [])) changed_4
 else
  some (.inr (out_22,changed_4))
def C1 (n:Nat) (p0_:Ac) (p1_:(List UInt8)) (r117:(List Aa)) (i_17:Int) (out_20:(List (List Int))) (changed_2:Bool) (k_5:Int):Option (((List (List Int))×Bool×Int)⊕((List (List Int))×Bool)):=
 if decide (k_5<((r117.length:Nat):Int))=true then
  (whl (λ (x:((List (List Int))×Bool×Int))=>C0 n p0_ p1_ r117 i_17 k_5 x.1 x.2.1 x.2.2) n (out_20,changed_2,0)).bind λ y80=>
  some (.inl (y80.1,y80.2,(Az .i64 k_5 1)))
 else
  some (.inr (out_20,changed_2))
def DA (n:Nat) (p0_:Ac) (p1_:(List UInt8)) (r117:(List Aa)) (i_17:Int) (out_18:(List (List Int))) (changed_1:Bool):Option (((List (List Int))×Bool)⊕(List (List Int))):=
 if changed_1=true then
  (whl (λ (x:((List (List Int))×Bool×Int))=>C1 n p0_ p1_ r117 i_17 x.1 x.2.1 x.2.2) n (out_18,false,0)).bind λ y81=>
  some (.inl (y81.1,y81.2))
 else
  some (.inr out_18)
def EQ (n:Nat) (p0_:Ac) (p1_:(List UInt8)) (r117:(List Aa)) (out_13:(List (List Int))) (i_17:Int):Option (((List (List Int))×Int)⊕(List (List Int))):=
 if decide (i_17>=0)=true then
  (idx out_13 i_17).bind λ _=>
  (mkl 8 ((r117.length:Nat):Int) (0:Int)).bind λ l35=>
  (whl (λ (x:((List (List Int))×Int))=>CZ n p0_ p1_ r117 i_17 x.1 x.2) n ((List.set out_13 i_17.toNat l35),0)).bind λ y79=>
  (whl (λ (x:((List (List Int))×Bool))=>DA n p0_ p1_ r117 i_17 x.1 x.2) n (y79,true)).bind λ y82=>
  some (.inl (y82,(Jk .i64 i_17 1)))
 else
  some (.inr out_13)
def GQ (n:Nat) (p0_:Ac) (p1_:(List UInt8)):Option (List (List Int)):=
 (Ga n p0_).bind λ r117=>
 (mkl 24 (Az .i64 ((p1_.length:Nat):Int) 1) ([]:(List Int))).bind λ l34=>
 (whl (λ (x:((List (List Int))×Int))=>EQ n p0_ p1_ r117 x.1 x.2) n (l34,((p1_.length:Nat):Int))).bind λ y83=>
 some y83
def D8 (_:Nat) (_:Ac) (p1_:(List UInt8)) (r121:(List Aa)) (at_2:(List (List Bool))) (i_18:Int):Option (((List (List Bool))×Int)⊕(List (List Bool))):=
 if decide (i_18<=((p1_.length:Nat):Int))=true then
  (idx at_2 i_18).bind λ _=>
  (mkl 1 ((r121.length:Nat):Int) (false:Bool)).bind λ l40=>
  some (.inl ((List.set at_2 i_18.toNat l40),(Az .i64 i_18 1)))
 else
  some (.inr at_2)
def D9 (_:Nat) (r_4:Int) (at_11:(List (List Bool))) (changed_12:Bool):Option (((List (List Bool))×Bool×Int)⊕((List (List Bool))×Bool)):=
 some (.inl (at_11,changed_12,(Az .i64 r_4 1)))
def Dg (n:Nat) (p0_:Ac) (p1_:(List UInt8)) (r121:(List Aa)) (_:Int) (i_19:Int) (k_6:Int) (at_9:(List (List Bool))) (changed_10:Bool) (r_4:Int):Option (((List (List Bool))×Bool×Int)⊕((List (List Bool))×Bool)):=
 (if decide (r_4<((p0_.Rules.length:Nat):Int))=true then idx at_9 i_19 else some default).bind λ _=>
 (if decide (r_4<((p0_.Rules.length:Nat):Int))=true then idx (List.getD at_9 i_19.toNat []) k_6 else some default).bind λ x120=>
 if ((decide (r_4<((p0_.Rules.length:Nat):Int)))&&x120)=true then
  (idx r121 k_6).bind λ x121=>
  (Hi n p0_ x121 r_4).bind λ r122=>
  (idx p0_.Rules r_4).bind λ x122=>
  (if r122.2=true then idx p0_.Rules r_4 else some default).bind λ x123=>
  (if r122.2=true then Hj n p1_ i_19 x123.Print else some default).bind λ r123=>
  (if (r122.2&&r123)=true then idx (List.set at_9 i_19.toNat (List.getD at_9 i_19.toNat [])) (Az .i64 i_19 ((x122.Print.length:Nat):Int)) else some default).bind λ _=>
  (if (r122.2&&r123)=true then Fi n r121 r122.1 else some default).bind λ r124=>
  (if (r122.2&&r123)=true then idx (List.getD (List.set at_9 i_19.toNat (List.getD at_9 i_19.toNat [])) (Int.toNat (Az .i64 i_19 ((x122.Print.length:Nat):Int))) []) r124 else some default).bind λ x125=>
  if ((r122.2&&r123)&&(!x125))=true then
   (idx (List.set (List.set at_9 i_19.toNat (List.getD at_9 i_19.toNat [])) (Int.toNat (Az .i64 i_19 ((x122.Print.length:Nat):Int))) (List.getD (List.set at_9 i_19.toNat (List.getD at_9 i_19.toNat [])) (Int.toNat (Az .i64 i_19 ((x122.Print.length:Nat):Int))) [])) (Az .i64 i_19 ((x122.Print.length:Nat):Int))).bind λ x126=>
   (Fi n r121 r122.1).bind λ r125=>
   (idx x126 r125).bind λ _=>
   (put x126 r125 true).bind λ l42=>
   D9 n r_4 (List.set (List.set (List.set at_9 i_19.toNat (List.getD at_9 i_19.toNat [])) (Int.toNat (Az .i64 i_19 ((x122.Print.length:Nat):Int))) (List.getD (List.set at_9 i_19.toNat (List.getD at_9 i_19.toNat [])) (Int.toNat (Az .i64 i_19 ((x122.Print.length:Nat):Int))) [])) (Int.toNat (Az .i64 i_19 ((x122.Print.length:Nat):Int))) l42) true
  else
   D9 n r_4 (List.set (List.set at_9 i_19.toNat (List.getD at_9 i_19.toNat [])) (Int.toNat (Az .i64 i_19 ((x122.Print.length:Nat):Int))) (List.getD (List.set at_9 i_19.toNat (List.getD at_9 i_19.toNat [])) (Int.toNat (Az .i64 i_19 ((x122.Print.length:Nat):Int))) [])) changed_10
 else
  some (.inr ((List.set at_9 i_19.toNat (List.getD at_9 i_19.toNat [])),changed_10))
def Dh (n:Nat) (p0_:Ac) (p1_:(List UInt8)) (r121:(List Aa)) (out_25:Int) (i_19:Int) (at_7:(List (List Bool))) (changed_8:Bool) (k_6:Int):Option (((List (List Bool))×Bool×Int)⊕((List (List Bool))×Bool)):=
 if decide (k_6<((r121.length:Nat):Int))=true then
  (whl (λ (x:((List (List Bool))×Bool×Int))=>Dg n p0_ p1_ r121 out_25 i_19 k_6 x.1 x.2.1 x.2.2) n (at_7,changed_8,0)).bind λ y85=>
  some (.inl (y85.1,y85.2,(Az .i64 k_6 1)))
 else
  some (.inr (at_7,changed_8))
def Ea (n:Nat) (p0_:Ac) (p1_:(List UInt8)) (r121:(List Aa)) (out_25:Int) (i_19:Int) (at_5:(List (List Bool))) (changed_7:Bool):Option (((List (List Bool))×Bool)⊕(List (List Bool))):=
 if changed_7=true then
  (whl (λ (x:((List (List Bool))×Bool×Int))=>Dh n p0_ p1_ r121 out_25 i_19 x.1 x.2.1 x.2.2) n (at_5,false,0)).bind λ y86=>
  some (.inl (y86.1,y86.2))
 else
  some (.inr at_5)
def Eb (_:Nat) (k_7:Int) (at_14:(List (List Bool))) (out_29:Int):Option (((List (List Bool))×Int×Int)⊕((List (List Bool))×Int)):=
 some (.inl (at_14,out_29,(Az .i64 k_7 1)))
def Di (n:Nat) (_:Ac) (_:(List UInt8)) (r121:(List Aa)) (i_19:Int) (class_2:Int) (at_12:(List (List Bool))) (out_27:Int) (k_7:Int):Option (((List (List Bool))×Int×Int)⊕((List (List Bool))×Int)):=
 if decide (k_7<((r121.length:Nat):Int))=true then
  (idx at_12 i_19).bind λ x128=>
  (idx x128 k_7).bind λ x129=>
  (if x129=true then idx r121 k_7 else some default).bind λ x130=>
  (if x129=true then HQ n x130.Need class_2 else some default).bind λ r126=>
  if (x129&&r126)=true then
   Eb n k_7 (List.set at_12 i_19.toNat x128) i_19
  else
   Eb n k_7 (List.set at_12 i_19.toNat x128) out_27
 else
  some (.inr (at_12,out_27))
def Ec (n:Nat) (p0_:Ac) (p1_:(List UInt8)) (r121:(List Aa)) (out_25:Int) (i_19:Int) (y87:(List (List Bool))) (class_2:Int):Option (((List (List Bool))×Int×Int)⊕Int):=
 (whl (λ (x:((List (List Bool))×Int×Int))=>Di n p0_ p1_ r121 i_19 class_2 x.1 x.2.1 x.2.2) n (y87,out_25,0)).bind λ y88=>
 some (.inl (y88.1,y88.2,(Az .i64 i_19 1)))
def Ed (n:Nat) (p0_:Ac) (p1_:(List UInt8)) (r121:(List Aa)) (at_4:(List (List Bool))) (out_25:Int) (i_19:Int):Option (((List (List Bool))×Int×Int)⊕Int):=
 if decide (i_19<=((p1_.length:Nat):Int))=true then
  (whl (λ (x:((List (List Bool))×Bool))=>Ea n p0_ p1_ r121 out_25 i_19 x.1 x.2) n (at_4,true)).bind λ y87=>
  if decide (i_19<((p1_.length:Nat):Int))=true then
   (Lk p1_ i_19).bind λ b10=>
   (G5 n b10).bind λ r127=>
   Ec n p0_ p1_ r121 out_25 i_19 y87 r127
  else
   Ec n p0_ p1_ r121 out_25 i_19 y87 0
 else
  some (.inr out_25)
def HS (n:Nat) (p0_:Ac) (p1_:(List UInt8)):Option Int:=
 (Ga n p0_).bind λ r121=>
 (mkl 24 (Az .i64 ((p1_.length:Nat):Int) 1) ([]:(List Bool))).bind λ l39=>
 (whl (λ (x:((List (List Bool))×Int))=>D8 n p0_ p1_ r121 x.1 x.2) n (l39,0)).bind λ y84=>
 (idx y84 0).bind λ x117=>
 (idx x117 0).bind λ _=>
 (put x117 0 true).bind λ l41=>
 (whl (λ (x:((List (List Bool))×Int×Int))=>Ed n p0_ p1_ r121 x.1 x.2.1 x.2.2) n ((List.set y84 (Int.toNat 0) l41),0,0)).bind λ y89=>
 some y89
def Em (n:Nat) (p0_:Ac) (r129:(List (List Int))) (_:(List Aa)) (_:BM) (p_1:AO) (x136:Int) (r_5:Int):Option (Int⊕Int):=
 (Gb n p0_ p_1 r_5 r129).bind λ r135=>
 if (r135 != x136)=true then
  some (.inl (Az .i64 r_5 1))
 else
  some (.inr r_5)
def GS (n:Nat) (p0_:Ac) (r129:(List (List Int))) (r131:(List Aa)) (out_30:BM) (p_1:AO):Option ((BM×AO)⊕BM):=
 (idx r129 p_1.I).bind λ x133=>
 (Fi n r131 p_1.State).bind λ r133=>
 (idx x133 r133).bind λ x134=>
 if decide (x134>0)=true then
  (idx r129 p_1.I).bind λ x135=>
  (Fi n r131 p_1.State).bind λ r134=>
  (idx x135 r134).bind λ x136=>
  (whl (λ (x:Int)=>Em n p0_ r129 r131 out_30 p_1 x136 x) n 0).bind λ y90=>
  (app 8 out_30.W.Path [y90]).bind λ l43=>
  (idx p0_.Rules y90).bind λ x137=>
  (app 1 out_30.W.Cells x137.Cells).bind λ l44=>
  (Hi n p0_ p_1.State y90).bind λ r136=>
  (idx p0_.Rules y90).bind λ x138=>
  some (.inl (({ W:=({ Cells:=l44,Path:=l43 }:AS),At:=out_30.At,E:=out_30.E }:BM),({ S:=p_1.S,I:=Az .i64 p_1.I ((x138.Print.length:Nat):Int),State:=r136.1,L:=p_1.L }:AO)))
 else
  some (.inr out_30)
def Lc (n:Nat) (p0_:Ac) (p1_:(List UInt8)):Option BM:=
 (KC n p1_).bind λ r128=>
 if (r128.2 != 0)=true then
  some ({ W:=({ Cells:=[],Path:=[] }:AS),At:=r128.1,E:=r128.2 }:BM)
 else
  (GQ n p0_ p1_).bind λ r129=>
  (idx r129 0).bind λ x131=>
  (idx x131 0).bind λ x132=>
  if decide (x132<0)=true then
   (HS n p0_ p1_).bind λ r130=>
   some ({ W:=({ Cells:=[],Path:=[] }:AS),At:=r130,E:=61 }:BM)
  else
   (Ga n p0_).bind λ r131=>
   (NH n).bind λ r132=>
   (whl (λ (x:(BM×AO))=>GS n p0_ r129 r131 x.1 x.2) n (({ W:=({ Cells:=([]:List Int),Path:=([]:List Int) }:AS),At:=((p1_.length:Nat):Int),E:=0 }:BM),({ S:=p1_,I:=0,State:=r132,L:=r131 }:AO))).bind λ y91=>
   some y91
def EI (_:Nat) (p0_:Ac) (_:(List UInt8)) (p2_:Int) (r137:BM) (at_15:Int) (cells_1:Int) (i_20:Int):Option ((Int×Int×Int)⊕(Unit⊕(Int×Int))):=
 if decide (i_20<((r137.W.Path.length:Nat):Int))=true then
  (idx r137.W.Path i_20).bind λ x139=>
  (idx p0_.Rules x139).bind λ x140=>
  if decide (Az .i64 cells_1 ((x140.Cells.length:Nat):Int)>p2_)=true then
   some (.inr (.inr (at_15,0)))
  else
   some (.inl ((Az .i64 at_15 ((x140.Print.length:Nat):Int)),(Az .i64 cells_1 ((x140.Cells.length:Nat):Int)),(Az .i64 i_20 1)))
 else
  some (.inr (.inl ()))
def Jo (n:Nat) (p0_:Ac) (p1_:(List UInt8)) (p2_:Int):Option (Int×Int):=
 (Lc n p0_ p1_).bind λ r137=>
 if (r137.E != 0)=true then
  some (0,r137.E)
 else
  if ((decide (p2_<0))||(decide (p2_>=((r137.W.Cells.length:Nat):Int))))=true then
   some (0,310)
  else
   (whl (λ (x:(Int×Int×Int))=>EI n p0_ p1_ p2_ r137 x.1 x.2.1 x.2.2) n (0,0,0)).bind λ y92=>
   match y92 with
   | Sum.inl _=>
    some (((p1_.length:Nat):Int),0)
   | Sum.inr y94=>
    some y94
def A7 (n:Nat) (_:Bool) (r139:Ac) (texts_1:(List (List UInt8))) (i_21:Int) (cell_1:Int):Option (Int⊕(Unit⊕Bool)):=
 if decide (cell_1<=14)=true then
  (idx texts_1 i_21).bind λ x141=>
  (CK n r139 x141 cell_1).bind λ r141=>
  (idx texts_1 i_21).bind λ x142=>
  (Jo n r139 x142 cell_1).bind λ r142=>
  if ((r141.1 != r142.1)||(r141.2 != r142.2))=true then
   some (.inr (.inr false))
  else
   some (.inl (Az .i64 cell_1 1))
 else
  some (.inr (.inl ()))
def A8 (n:Nat) (r138:Bool) (r139:Ac) (texts_1:(List (List UInt8))) (i_21:Int):Option (Int⊕(Unit⊕Bool)):=
 if decide (i_21<2)=true then
  (whl (λ (x:Int)=>A7 n r138 r139 texts_1 i_21 x) n (-1)).bind λ y95=>
  match y95 with
  | Sum.inl _=>
   some (.inl (Az .i64 i_21 1))
  | Sum.inr y97=>
   some (.inr (.inr y97))
 else
  some (.inr (.inl ()))
def A9 (n:Nat) (r138:Bool) (r139:Ac) (texts_1:(List (List UInt8))):Option Bool:=
 (whl (λ (x:Int)=>A8 n r138 r139 texts_1 x) n 0).bind λ y98=>
 match y98 with
 | Sum.inl _=>
  some r138
 | Sum.inr y100=>
  some y100
def BQ (n:Nat) (p0_:KB) (p1_:(List Int)) (p2_:(List UInt8)):Option Bool:=
 (Gt n).bind λ r138=>
 (IE n p0_).bind λ r139=>
 (HP n r139 p1_).bind λ r140=>
 if decide (((p2_.length:Nat):Int)>8)=true then
  (idx [r140,p2_] 1).bind λ _=>
  (put [r140,p2_] 1 []).bind λ l45=>
  A9 n r138 r139 l45
 else
  A9 n r138 r139 [r140,p2_]
end Go.AI
end
section
namespace Go.AI
open Go.Proofs
set_option maxRecDepth 10000
theorem xok (n kl:Nat):XOK Try.prog (cxk n kl):=⟨tyOK,rfl⟩
noncomputable def AB:Of:=lpd (AH Try.f8) [1,0,1,1,1,1,1,0,1,0] 47 [38,39] [.exit 0]
theorem fO (k:Nat) (s:St) {fn:Func} {f:FuncId} {args:List AV} {r:AV} (hf:Try.prog.funcs[f]? = some fn) (h:WP (cxk k 0) (AH fn) [] (UQ (cxk k 0).ty fn.results.toList r) s) (hb:fn.body=some (AH fn):=by kernel_rfl) (hnm:(fn.name == "runtime.NumGoroutine")=false:=by kernel_rfl) (hnt:(cxk k 0).nt.n=fn.ntmps:=by kernel_rfl) (hlen:Nat.ble args.length fn.ntmps=true:=by kernel_rfl) (hs:(⟨(List.range args.length).zip args,[]⟩:St)=s:=by kernel_rfl):AG Try.prog f args r:=fo follows (Jdt k 0) hf h hb hnm hnt hlen hs
theorem fL (k nb:Nat) (s:St) {fn:Func} {f:FuncId} {args:List AV} {O0 O1:List (Option Ob)} {r:AV} (hf:Try.prog.funcs[f]? = some fn) (h:WP (cxk k nb) (AH fn) [] (R9 nb (cxk k nb).ty fn.results.toList r O1) s) (hb:fn.body=some (AH fn):=by kernel_rfl) (hnm:(fn.name == "runtime.NumGoroutine")=false:=by kernel_rfl) (hnt:(cxk k nb).nt=⟨fn.ntmps,[],nb,qfT⟩:=by kernel_rfl) (hlen:Nat.ble args.length fn.ntmps=true:=by kernel_rfl) (hs:(⟨(List.range args.length).zip args,O0⟩:St)=s:=by kernel_rfl):Co Try.prog f args O0 nb r O1:=fl follows (Jdt k nb) hf h hb hnm hnt hlen hs
variable {n:Nat}
def Am (x:Av):List D:=[.str x.Print,.sl (x.Cells.map eU8),.int .u8 x.Left,.int .u8 x.Right,.int .i64 x.From,.int .i64 x.To]
def Ak (x:Aa):List D:=[.int .i64 x.Mode,.int .i64 x.Last,.int .u8 x.Need]
def KD (x:Aw):List D:=[.sl (x.States.map Ag),.sl (x.Costs.map Ag)]
def BB (x:Fu):List D:=[.int .i64 x.Rule,.int .i64 x.To]
def Sl (x:JhM):List D:=[.sl (x.Line.map eU8),.bool x.Keep,.int .i64 x.Ink,.int .i64 x.Block,.int .i64 x.At]
def Pq (x:Jaa):List D:=[.int .i64 x.N,.int .i64 x.K]
def ML (x:Qv):List D:=[.int .i64 x.First,.int .i64 x.End,.sl (x.Rows.map Sl),.sl (x.Ends.map Ag),.sl (x.Labels.map Pq)]
def Jey (x:Jdu):List D:=[.int .i64 x.Op,.int .i64 x.N]
def JcB (x:Jab):List D:=[.int .i64 x.X,.int .i64 x.Y]
def X4 (x:UZ):List D:=[.int .i64 x.Kind,.int .i64 x.Texture,.sl (x.P.map JcB)]
def HT (x:LV):List D:=[.int .i64 x.Kind,.int .i64 x.Level,.str x.Text,.sl (x.Rows.map (eL eS)),.sl (x.F.map Jey),.int .i64 x.Pic.W,.int .i64 x.Pic.H,.int .i64 x.Pic.Gap,.sl (x.Pic.F.map X4),.int .i64 x.Page]
@[reducible] def JhN {α:Type} (e:α->List D) (x:Fl α):List D:=e x.a0++e x.a1
def Fj (x:Dc):List D:=[.sl (x.P.map eU8),.sl (x.C.map eU8),.int .u8 x.L,.int .u8 x.R,.int .u8 x.W.a0,.int .u8 x.W.a1]
def JhO (x:KB):List D:=[.int .u8 x.Base,.int .u8 x.Drop,.sl (x.More.map Fj)]
def Fz (x:Ac) (v2:AV):List AV:=[.d (.int .i64 x.Modes),.d (.int .u8 x.Accept),v2]
def KE (x:Av):List AV:=[.d (.str x.Print),.d (.sl (x.Cells.map eU8)),.d (.int .u8 x.Left),.d (.int .u8 x.Right),.d (.int .i64 x.From),.d (.int .i64 x.To)]
def Aq (x:Ac):List AV:=[.d (.int .i64 x.Modes),.d (.int .u8 x.Accept),.d (.sl (x.Rules.map Am))]
def KF (x:Aa):List AV:=[.d (.int .i64 x.Mode),.d (.int .i64 x.Last),.d (.int .u8 x.Need)]
def Gx (x:Ad) (v5:AV) (v6:AV):List AV:=[.d (.int .i64 x.T.Modes),.d (.int .u8 x.T.Accept),.d (.sl (x.T.Rules.map Am)),.d (.str x.S),.d (.sl (x.States.map Ak)),v5,v6,.d (.int .i64 x.Last)]
def Al (x:Ad) (v6:AV):List AV:=[.d (.int .i64 x.T.Modes),.d (.int .u8 x.T.Accept),.d (.sl (x.T.Rules.map Am)),.d (.str x.S),.d (.sl (x.States.map Ak)),.d (.sl (x.Arcs.map (eL BB))),v6,.d (.int .i64 x.Last)]
def Jez (x:Qv):List AV:=[.d (.int .i64 x.First),.d (.int .i64 x.End),.d (.sl (x.Rows.map Sl)),.d (.sl (x.Ends.map Ag)),.d (.sl (x.Labels.map Pq))]
def U1 (x:IA):List AV:=[.d (.int .i64 x.Format.Width),.d (.int .i64 x.Format.Height),.d (.int .i64 x.Format.Binding),.d (.sl (x.Volumes.map ML))]
def JeA (x:Qx):List AV:=[.d (.int .i64 x.Volume),.d (.int .i64 x.Leaf),.d (.int .i64 x.Side),.d (.int .i64 x.Line),.d (.int .i64 x.Cell)]
def Jdv (x:U0):List AV:=[.d (.int .i64 x.Reader),.d (.int .i64 x.Version),.d (.int .i64 x.At.Volume),.d (.int .i64 x.At.Leaf),.d (.int .i64 x.At.Side),.d (.int .i64 x.At.Line),.d (.int .i64 x.At.Cell),.d (.int .i64 x.Cut),.d (.str x.Put)]
def MM (x:Dc):List AV:=[.d (.sl (x.P.map eU8)),.d (.sl (x.C.map eU8)),.d (.int .u8 x.L),.d (.int .u8 x.R),.d (.int .u8 x.W.a0),.d (.int .u8 x.W.a1)]
def Pr (x:Av) (v1:AV):List AV:=[.d (.str x.Print),v1,.d (.int .u8 x.Left),.d (.int .u8 x.Right),.d (.int .i64 x.From),.d (.int .i64 x.To)]
def Wn (x:KB):List AV:=[.d (.int .u8 x.Base),.d (.int .u8 x.Drop),.d (.sl (x.More.map Fj))]
def DZ (x:AO):List AV:=[.d (.str x.S),.d (.int .i64 x.I),.d (.int .i64 x.State.Mode),.d (.int .i64 x.State.Last),.d (.int .u8 x.State.Need),.d (.sl (x.L.map Ak))]
def HU (x:BM) (v0:AV) (v1:AV):List AV:=[v0,v1,.d (.int .i64 x.At),.d (.int .i64 x.E)]
def JcC (x:BM):List AV:=[.d (.sl (x.W.Cells.map eU8)),.d (.sl (x.W.Path.map Ag)),.d (.int .i64 x.At),.d (.int .i64 x.E)]
def Ab (x:Aw):List AV:=[.own 1 (x.States.map Ag),.own 1 (x.Costs.map Ag)]
theorem U2:∀ a b:Aa,AY [.int .i64,.int .i64,.int .u8] ((Ak a).map .d) ((Ak b).map .d)=some (decide (a=b)):=by
  intro a b
  cases a;cases b
  simp [AY,Ak,Bool.decide_and]
  try rfl
section
variable (t_1:Ac) (i_1:Int) (t_2:Ac)
def JeB:St:=⟨[],[]⟩
def JeC:St:=⟨(0,.ptr 0 0)::(1,.ptr 1 0)::(2,.osl 2 1 0 (List.length ([[97],[98],[97,98],[]])))::(3,.osl 3 1 0 (List.length [1,3,7,32]))::(4,.d (.int .i64 i_1))::[],[some (.box [.d (.int .i64 0),.d (.int .u8 0),.osl 4 6 0 (List.length ([]:List Av))]),some (.box (Fz t_1 (.osl 5 6 0 (t_1.Rules.length)))),some (.arr 1 (List.map eS ([[97],[98],[97,98],[]]))),some (.arr 1 (List.map eU8 [1,3,7,32])),some (.arr 6 (List.map Am ([]:List Av))),some (.arr 6 (t_1.Rules.map Am))]⟩
def JeD:St:=⟨(0,.ptr 0 0)::(1,.ptr 1 0)::[],[some (.box [.d (.int .i64 0),.d (.int .u8 0),.osl 2 6 0 (List.length ([]:List Av))]),some (.box (Fz t_2 (.osl 3 6 0 (t_2.Rules.length)))),some (.arr 6 (List.map Am ([]:List Av))),some (.arr 6 (t_2.Rules.map Am))]⟩
def NI:Ac->Ex->St->Prop:=xX 0 0 (λ (y:Ac)=>JeD y)
def IF:(Ac×Int)->St:=(λ (x:(Ac×Int))=>JeC x.1 x.2)
variable {t_1 i_1 t_2}
theorem MN (x:(Ac×Int)) (z:((Ac×Int)⊕Ac)) (H:Fv n x.1 x.2=some z):WP (cxk 37 0) (AH Try.f12) [1,1,1,1,0,1,0,0] (AJ 0 (IF) (NI) z) (IF x):=by
 obtain ⟨t_1,i_1⟩:=x
 refine sq (sr (ck 2 (en (cn H (λ H=>?_) (λ H=>?_)))))
 ·exact sk (qz (sq (bk 1 (rz (ck 4 (bx H λ x1 h1 H=>sp (AC 2 1 h1) (sp (CC eS 2 0 (ty 9) h1) (ck 2 (bx H λ x2 h2 H=>sp (AC 3 1 h2) (sp (CC eU8 3 0 (ty 97) h2) (sF (ck 4 (bx H λ l1 h3 H=>sp (CD Am 5 6 h3) (ck 2 (ae (qN (qz (rz (ck 3 (ae (by cases H;exact og (sg [0,1,2,3,4]))))))))))))))))))))))
 ·exact ex 0 (qx (by cases H;exact xo rfl (sg [0,1])))
theorem Qy {z} (H:HM n=some z):AG Try.prog 12 [] (.agg [.d (.int .i64 z.Modes),.d (.int .u8 z.Accept),.own 6 (z.Rules.map Am)]):=by
 exact fO 37 JeB Try.func12 (sr (ck 1 (en (sr (ck 3 (en (sr (ck 2 (en (sr (ck 2 (en (sq (sr (ck 1 (en (bk 0 (bx H λ y1 h4 H=>lX MN h4 (tr (tr (CB 0 2 6 (by kernel_rfl)) (CB 1 2 6 (by kernel_rfl))) (sg [0,1,2,3,4])) rfl λ s hE1=>qH (qs (hE1) (sr (ck 2 (sF (ck 2 (bx H λ l2 h5 H=>sp (CD Am 3 6 h5) (ck 2 (en (sr (ck 2 (en (re (by cases H;exact pr (rO (v:=.agg [.d (.int .i64 y1.Modes),.d (.int .u8 y1.Accept),.osl 5 6 0 (l2.length)]) [5] (a1 (c1 vd (c1 vd (c1 vo (c0)))))))))))))))))))))))))))))))))))))
end
section
variable (p0_:Int)
def JeE:St:=⟨(0,.d (.int .u8 p0_))::[],[]⟩
variable {p0_}
theorem LW {z} (H:Dx n p0_=some z):AG Try.prog 54 [.d (.int .u8 p0_)] (.d (.bool z)):=by
 exact fO 12 (JeE p0_) Try.func54 (sr (ck 1 (en (sr (ck 3 (en (sr (ck 4 (gc 1 (decide (32<=Cm .u8 p0_ 127)) (pA (ck 1 (en (re (by cases H;exact pr rd))))))))))))))
end
section
variable (p0_:(List UInt8)) (x_1:Int)
def JeF:St:=⟨(0,.d (.str p0_))::[],[]⟩
def JeG:St:=⟨(0,.d (.str p0_))::(6,.d (.int .i64 ((p0_.length:Nat):Int)))::(7,.d (.int .i64 x_1))::[],[]⟩
def JeH:St:=⟨(0,.d (.str p0_))::[],[]⟩
def Rv:(Unit⊕(Int×Int))->Ex->St->Prop:=xS (xX 0 0 (λ (y:Unit)=>JeH p0_)) (xR ty Try.f34 (λ (y:(Int×Int))=>.tup [.d (.int .i64 y.1),.d (.int .i64 y.2)]))
def LC:Int->St:=(λ (x:Int)=>JeG p0_ x)
variable {p0_ x_1}
theorem KG (x:Int) (z:(Int⊕(Unit⊕(Int×Int)))) (H:E7 n p0_ x=some z):WP (cxk 19 0) (AH Try.f34) [1,0,1,0,0] (AJ 0 (LC p0_) (Rv p0_) z) (LC p0_ x):=by
 revert H
 generalize x=x_1
 intro H
 refine sr (ck 1 (en (sq (cn H (λ H=>?_) (λ H=>?_)))))
 ·refine sk (qz (sq (bk 1 (sr (ck 2 (en (sr (ck 2 (bx H λ b1 h6 H=>sp (Gj h6) (bx H λ r1 h7 H=>ca false (LW h7) (ck 1 (en (cn H (λ H=>?_) (λ H=>?_))))))))))))))
  ·exact sr (ck 3 (en (re (qR (qr (by cases H;exact ro rfl rdT))))))
  ·exact sk (qN (qz (rz (ck 2 (ae (by cases H;exact og (sg [0,6,7])))))))
 ·exact ex 0 (qx (by cases H;exact xo rfl (sg [0])))
theorem OH {z} (H:Hf n p0_=some z):AG Try.prog 34 [.d (.str p0_)] (.tup [.d (.int .i64 z.1),.d (.int .i64 z.2)]):=by
 refine fO 19 (JeF p0_) Try.func34 (sr (ck 2 (en (sq (sr (ck 3 (en (bk 0 (bx H λ y2 h8 H=>?_)))))))))
 rcases y2 with y3|y4
 ·exact lX KG h8 (sg [0,6,7]) rfl λ s hE2=>qH (qs (hE2) (sr (ck 4 (en (re (by cases H;exact pr rdT))))))
 ·exact lR KG h8 (sg [0,6,7]) rfl λ s hE3=>qR (qr (by cases H;exact pr hE3))
end
section
variable (p0_:Int)
def JeI:St:=⟨(0,.d (.int .u8 p0_))::[],[]⟩
variable {p0_}
theorem GT {z} (H:Eg n p0_=some z):AG Try.prog 59 [.d (.int .u8 p0_)] (.d (.int .i64 z)):=by
 refine fO 30 (JeI p0_) Try.func59 (sr (ck 1 (en (sr (ck 3 (en (sq (bk 0 (sr (ck 4 (gc 1 (decide (97<=Cm .u8 p0_ 127)) (pA (ck 1 (en (cn H (λ H=>?_) (λ H=>?_))))))))))))))))
 ·exact sr (ck 1 (en (re (qR (qr (by cases H;exact pr rd))))))
 ·refine sr (ck 4 (gc 1 (decide (65<=Cm .u8 p0_ 127)) (pA (ck 1 (en (cn H (λ H=>?_) (λ H=>?_)))))))
  ·exact sr (ck 1 (en (re (qR (qr (by cases H;exact pr rd))))))
  ·refine sr (ck 4 (gc 1 (decide (48<=Cm .u8 p0_ 127)) (pA (ck 1 (en (cn H (λ H=>?_) (λ H=>?_)))))))
   ·exact sr (ck 1 (en (re (qR (qr (by cases H;exact pr rd))))))
   ·refine sr (ck 3 (en (cn H (λ H=>?_) (λ H=>?_))))
    ·exact sr (ck 1 (en (re (qR (qr (by cases H;exact pr rd))))))
    ·exact sk (qN (qz (sr (ck 1 (en (re (by cases H;exact pr rd)))))))
end
section
variable (p0_:(List UInt8)) (x_2:Int)
def JeJ:St:=⟨(0,.d (.str p0_))::[],[]⟩
def JeK:St:=⟨(0,.d (.str p0_))::(5,.d (.int .i64 ((p0_.length:Nat):Int)))::(6,.d (.int .i64 x_2))::[],[]⟩
def JeL:St:=⟨[],[]⟩
def MO:(Unit⊕Bool)->Ex->St->Prop:=xS (xX 0 0 (λ (y:Unit)=>JeL)) (xR ty Try.f76 (λ (y:Bool)=>.d (.bool y)))
def HV:Int->St:=(λ (x:Int)=>JeK p0_ x)
variable {p0_ x_2}
theorem Hk (x:Int) (z:(Int⊕(Unit⊕Bool))) (H:CY n p0_ x=some z):WP (cxk 15 0) (AH Try.f76) [1,0,1,0,0] (AJ 0 (HV p0_) (MO) z) (HV p0_ x):=by
 revert H
 generalize x=x_2
 intro H
 refine sr (ck 1 (en (sq (cn H (λ H=>?_) (λ H=>?_)))))
 ·refine sk (qz (sq (bk 1 (sr (ck 2 (en (sr (ck 2 (bx H λ b2 h9 H=>sp (Gj h9) (bx H λ r2 h10 H=>ca false (GT h10) (ck 1 (en (cn H (λ H=>?_) (λ H=>?_))))))))))))))
  ·exact sr (ck 1 (en (re (qR (qr (by cases H;exact ro rfl rd))))))
  ·exact sk (qN (qz (rz (ck 2 (ae (by cases H;exact og (sg [0,5,6])))))))
 ·exact ex 0 (qx (by cases H;exact xo rfl (sg [])))
theorem OZ {z} (H:Eh n p0_=some z):AG Try.prog 76 [.d (.str p0_)] (.d (.bool z)):=by
 refine fO 15 (JeJ p0_) Try.func76 (sr (ck 1 (en (sq (sr (ck 3 (en (bk 0 (bx H λ y5 h11 H=>?_)))))))))
 rcases y5 with y6|y7
 ·exact lX Hk h11 (sg [0,5,6]) rfl λ s hE4=>qH (qs (hE4) (sr (ck 1 (en (re (by cases H;exact pr rd))))))
 ·exact lR Hk h11 (sg [0,5,6]) rfl λ s hE5=>qR (qr (by cases H;exact pr hE5))
end
section
variable (p0_:Int)
def JeM:St:=⟨(0,.d (.int .u8 p0_))::[],[]⟩
variable {p0_}
theorem Tc {z} (H:IB n p0_=some z):AG Try.prog 77 [.d (.int .u8 p0_)] (.d (.bool z)):=by
 exact fO 5 (JeM p0_) Try.func77 (sr (ck 1 (en (sr (ck 3 (en (re (by cases H;exact pr rd))))))))
end
section
variable (p0_:Av) (p1_:Int) (x_3:Int)
def JeN:St:=⟨(0,.agg [.d (.str p0_.Print),.d (.sl (p0_.Cells.map eU8)),.d (.int .u8 p0_.Left),.d (.int .u8 p0_.Right),.d (.int .i64 p0_.From),.d (.int .i64 p0_.To)])::(1,.d (.int .i64 p1_))::[],[]⟩
def JeO:St:=⟨(92,.d (.sl (p0_.Cells.map eU8)))::(93,.d (.int .i64 ((p0_.Cells.length:Nat):Int)))::(94,.d (.int .i64 x_3))::[],[]⟩
def JeP:St:=⟨[],[]⟩
def Qz:(Unit⊕Bool)->Ex->St->Prop:=xS (xX 0 0 (λ (y:Unit)=>JeP)) (xR ty Try.f68 (λ (y:Bool)=>.d (.bool y)))
def KH:Int->St:=(λ (x:Int)=>JeO p0_ x)
variable {p0_ p1_ x_3}
theorem JZ (x:Int) (z:(Int⊕(Unit⊕Bool))) (H:Ei n p0_ x=some z):WP (cxk 110 0) (AH Try.f68) [1,1,1,1,1,1,0,1,0,0] (AJ 0 (KH p0_) (Qz) z) (KH p0_ x):=by
 revert H
 generalize x=x_3
 intro H
 refine sr (ck 1 (en (sq (cn H (λ H=>?_) (λ H=>?_)))))
 ·refine sk (qz (sq (bk 1 (sr (bx H λ x4 h15 H=>sp (Au eU8 h15) (ck 2 (en (sr (ck 1 (bx H λ r5 h16 H=>ca false (Tc h16) (ck 3 (gc 1 (!(!r5)) (pO (ck 2 (gc 1 (!((!r5)||(x4==63))) (pO (en (cn H (λ H=>?_) (λ H=>?_)))))))))))))))))))
  ·exact sr (ck 1 (en (re (qR (qr (by cases H;exact ro rfl rd))))))
  ·exact sk (qN (qz (rz (ck 2 (ae (by cases H;exact og (sg [92,93,94])))))))
 ·exact ex 0 (qx (by cases H;exact xo rfl (sg [])))
theorem Td {z} (H:G0 n p0_ p1_=some z):AG Try.prog 68 [.agg (KE p0_),.d (.int .i64 p1_)] (.d (.bool z)):=by
 refine fO 110 (JeN p0_ p1_) Try.func68 (sr (ck 2 (en (sq (sr (ck 6 (gc 1 (!(decide (((p0_.Print.length:Nat):Int)>4))) (sE (g:=(!(decide (((p0_.Print.length:Nat):Int)>4)))) (λ hg=>AM eU8 p0_.Cells) (gc 1 (!(decide (((p0_.Print.length:Nat):Int)>4))) (pO (ck 2 (gc 1 (!((decide (((p0_.Print.length:Nat):Int)>4))||(decide (((p0_.Cells.length:Nat):Int)<1)))) (sE (g:=(!((decide (((p0_.Print.length:Nat):Int)>4))||(decide (((p0_.Cells.length:Nat):Int)<1))))) (λ hg=>AM eU8 p0_.Cells) (gc 1 (!((decide (((p0_.Print.length:Nat):Int)>4))||(decide (((p0_.Cells.length:Nat):Int)<1)))) (pO (en (cn H (λ H=>?_) (λ H=>?_))))))))))))))))))
 ·exact sr (ck 1 (en (re (qr (by cases H;exact pr rd)))))
 ·refine sk (qz (sq (sr (ck 2 (bx H λ r3 h12 H=>ca false (OH h12) (ck 5 (en (sr (ck 2 (en (cn H (λ H=>?_) (λ H=>?_))))))))))))
  ·exact sr (ck 1 (en (re (qr (by cases H;exact pr rd)))))
  ·refine sk (qz (sq (sr (ck 5 (gc 2 (!(decide (p0_.Left<1))) (pO (ck 2 (gc 2 (!((decide (p0_.Left<1))||(decide (p0_.Left>63)))) (pO (ck 2 (gc 2 (!(((decide (p0_.Left<1))||(decide (p0_.Left>63)))||(decide (p0_.Right<1)))) (pO (en (cn H (λ H=>?_) (λ H=>?_)))))))))))))))
   ·exact sr (ck 1 (en (re (qr (by cases H;exact pr rd)))))
   ·refine sk (qz (sq (sr (ck 5 (gc 1 (!(decide (p0_.From<0))) (ck 1 (gc 1 (!(decide (p0_.From<0))) (pO (ck 2 (gc 2 (!((decide (p0_.From<0))||(decide (p0_.From>=p1_)))) (pO (ck 2 (gc 1 (!(((decide (p0_.From<0))||(decide (p0_.From>=p1_)))||(decide (p0_.To<0)))) (ck 1 (gc 1 (!(((decide (p0_.From<0))||(decide (p0_.From>=p1_)))||(decide (p0_.To<0)))) (pO (en (cn H (λ H=>?_) (λ H=>?_)))))))))))))))))))
    ·exact sr (ck 1 (en (re (qr (by cases H;exact pr rd)))))
    ·refine sk (qz (sq (sr (ck 2 (bx H λ r4 h13 H=>ca false (OZ h13) (en (cn H (λ H=>?_) (λ H=>?_))))))))
     ·exact sr (ck 6 (gc 1 (((p0_.Print.length:Nat):Int)==1) (sE (g:=(((p0_.Print.length:Nat):Int)==1)) (λ hg=>AM eU8 p0_.Cells) (gc 1 (((p0_.Print.length:Nat):Int)==1) (pA (ck 2 (gc 1 ((((p0_.Print.length:Nat):Int)==1)&&(((p0_.Cells.length:Nat):Int)==1)) (bx H λ x3 h14 H=>sE (λ hg=>Au eU8 (Ce h14 hg)) (gc 2 ((((p0_.Print.length:Nat):Int)==1)&&(((p0_.Cells.length:Nat):Int)==1)) (pA (ck 1 (en (re (qr (by cases H;exact pr rd)))))))))))))))
     ·refine sk (qz (sq (sr (ck 2 (sp (AM eU8 p0_.Cells) (ck 1 (en (bk 0 (bx H λ y8 h17 H=>?_)))))))))
      rcases y8 with y9|y10
      ·exact lX JZ h17 (sg [92,93,94]) rfl λ s hE6=>qH (qs (hE6) (sr (ck 1 (en (re (by cases H;exact pr rd))))))
      ·exact lR JZ h17 (sg [92,93,94]) rfl λ s hE7=>qR (qr (by cases H;exact pr hE7))
end
section
variable (p0_:(List Int)) (p1_:(List Int)) (x_4:Int)
def JeQ:St:=⟨(0,.d (.sl (p0_.map eU8)))::(1,.d (.sl (p1_.map eU8)))::[],[]⟩
def JeR:St:=⟨(0,.d (.sl (p0_.map eU8)))::(1,.d (.sl (p1_.map eU8)))::(12,.d (.int .i64 ((p0_.length:Nat):Int)))::(13,.d (.int .i64 x_4))::[],[]⟩
def JeS:St:=⟨[],[]⟩
def QA:(Unit⊕Bool)->Ex->St->Prop:=xS (xX 0 0 (λ (y:Unit)=>JeS)) (xR ty Try.f78 (λ (y:Bool)=>.d (.bool y)))
def KI:Int->St:=(λ (x:Int)=>JeR p0_ p1_ x)
variable {p0_ p1_ x_4}
theorem J0 (x:Int) (z:(Int⊕(Unit⊕Bool))) (H:Ej n p0_ p1_ x=some z):WP (cxk 26 0) (AH Try.f78) [1,1,0,1,0,0] (AJ 0 (KI p0_ p1_) (QA) z) (KI p0_ p1_ x):=by
 revert H
 generalize x=x_4
 intro H
 refine sr (ck 1 (en (sq (cn H (λ H=>?_) (λ H=>?_)))))
 ·refine sk (qz (sq (bk 1 (sr (ck 2 (en (sr (ck 2 (bx H λ x5 h18 H=>sp (Au eU8 h18) (ck 3 (bx H λ x6 h19 H=>sp (Au eU8 h19) (ck 2 (en (cn H (λ H=>?_) (λ H=>?_)))))))))))))))
  ·exact sr (ck 1 (en (re (qR (qr (by cases H;exact ro rfl rd))))))
  ·exact sk (qN (qz (rz (ck 2 (ae (by cases H;exact og (sg [0,1,12,13])))))))
 ·exact ex 0 (qx (by cases H;exact xo rfl (sg [])))
theorem Te {z} (H:G1 n p0_ p1_=some z):AG Try.prog 78 [.d (.sl (p0_.map eU8)),.d (.sl (p1_.map eU8))] (.d (.bool z)):=by
 refine fO 26 (JeQ p0_ p1_) Try.func78 (sr (ck 1 (en (sq (sr (ck 1 (sp (AM eU8 p0_) (ck 1 (sp (AM eU8 p1_) (ck 1 (en (cn H (λ H=>?_) (λ H=>?_)))))))))))))
 ·exact sr (ck 1 (en (re (qr (by cases H;exact pr rd)))))
 ·refine sk (qz (sq (sr (ck 1 (sp (AM eU8 p0_) (ck 1 (en (bk 0 (bx H λ y11 h20 H=>?_)))))))))
  rcases y11 with y12|y13
  ·exact lX J0 h20 (sg [0,1,12,13]) rfl λ s hE8=>qH (qs (hE8) (sr (ck 1 (en (re (by cases H;exact pr rd))))))
  ·exact lR J0 h20 (sg [0,1,12,13]) rfl λ s hE9=>qR (qr (by cases H;exact pr hE9))
end
section
variable (p0_:Av) (p1_:Av)
def JeT:St:=⟨(0,.agg [.d (.str p0_.Print),.d (.sl (p0_.Cells.map eU8)),.d (.int .u8 p0_.Left),.d (.int .u8 p0_.Right),.d (.int .i64 p0_.From),.d (.int .i64 p0_.To)])::(1,.agg [.d (.str p1_.Print),.d (.sl (p1_.Cells.map eU8)),.d (.int .u8 p1_.Left),.d (.int .u8 p1_.Right),.d (.int .i64 p1_.From),.d (.int .i64 p1_.To)])::[],[]⟩
variable {p0_ p1_}
theorem Tf {z} (H:G2 n p0_ p1_=some z):AG Try.prog 69 [.agg (KE p0_),.agg (KE p1_)] (.d (.bool z)):=by
 exact fO 45 (JeT p0_ p1_) Try.func69 (sr (ck 3 (en (sr (ck 7 (gc 1 (p0_.From==p1_.From) (ck 1 (gc 2 (p0_.From==p1_.From) (pA (ck 2 (gc 1 ((p0_.From==p1_.From)&&(p0_.To==p1_.To)) (ck 1 (gc 2 ((p0_.From==p1_.From)&&(p0_.To==p1_.To)) (pA (ck 2 (gc 1 (((p0_.From==p1_.From)&&(p0_.To==p1_.To))&&(p0_.Left==p1_.Left)) (ck 1 (gc 2 (((p0_.From==p1_.From)&&(p0_.To==p1_.To))&&(p0_.Left==p1_.Left)) (pA (ck 2 (gc 1 ((((p0_.From==p1_.From)&&(p0_.To==p1_.To))&&(p0_.Left==p1_.Left))&&(p0_.Right==p1_.Right)) (ck 1 (gc 2 ((((p0_.From==p1_.From)&&(p0_.To==p1_.To))&&(p0_.Left==p1_.Left))&&(p0_.Right==p1_.Right)) (pA (ck 2 (gc 1 (((((p0_.From==p1_.From)&&(p0_.To==p1_.To))&&(p0_.Left==p1_.Left))&&(p0_.Right==p1_.Right))&&(p0_.Print==p1_.Print)) (ck 1 (gc 1 (((((p0_.From==p1_.From)&&(p0_.To==p1_.To))&&(p0_.Left==p1_.Left))&&(p0_.Right==p1_.Right))&&(p0_.Print==p1_.Print)) (bx H λ r6 h21 H=>cG false (leZ) rfl (λ hg=>Te (Ce h21 hg)) (Or.inl rfl) (Db (λ hh=>hh) (Db (λ hh=>hh) (GE))) rfl (pA (ck 1 (en (re (by cases H;exact pr rd))))))))))))))))))))))))))))))))))
end
section
variable (p0_:Ac) (x_5:Int) (x7:Av) (l3:(List Av)) (x_6:Int)
def JeU:St:=⟨(0,.agg [.d (.int .i64 p0_.Modes),.d (.int .u8 p0_.Accept),.d (.sl (p0_.Rules.map Am))])::[],[]⟩
def JeV:St:=⟨(1,.ptr 0 0)::(39,.d (.sl (p0_.Rules.map Am)))::(40,.d (.int .i64 ((p0_.Rules.length:Nat):Int)))::(41,.d (.int .i64 x_5))::[],[some (.box (Aq p0_))]⟩
def JeW:St:=⟨[],[]⟩
def JeX:St:=⟨(1,.ptr 0 0)::(4,.d (.int .i64 x_5))::(5,.ptr 1 0)::(39,.d (.sl (p0_.Rules.map Am)))::(40,.d (.int .i64 ((p0_.Rules.length:Nat):Int)))::(41,.d (.int .i64 x_5))::(55,.d (.sl (l3.map Am)))::(56,.d (.int .i64 ((l3.length:Nat):Int)))::(57,.d (.int .i64 x_6))::[],[some (.box (Aq p0_)),some (.box (KE x7))]⟩
def JeY:St:=⟨(1,.ptr 0 0)::(39,.d (.sl (p0_.Rules.map Am)))::(40,.d (.int .i64 ((p0_.Rules.length:Nat):Int)))::(41,.d (.int .i64 x_5))::[],[some (.box (Aq p0_))]⟩
def QB:(Unit⊕(Int×Int))->Ex->St->Prop:=xS (xX 0 2 (λ (y:Unit)=>JeY p0_ x_5)) (xR ty Try.f55 (λ (y:(Int×Int))=>.tup [.d (.int .i64 y.1),.d (.int .i64 y.2)]))
def KJ:Int->St:=(λ (x:Int)=>JeX p0_ x_5 x7 l3 x)
def QC:(Unit⊕(Int×Int))->Ex->St->Prop:=xS (xX 0 0 (λ (y:Unit)=>JeW)) (xR ty Try.f55 (λ (y:(Int×Int))=>.tup [.d (.int .i64 y.1),.d (.int .i64 y.2)]))
def KK:Int->St:=(λ (x:Int)=>JeV p0_ x)
variable {p0_ x_5 x7 l3 x_6}
theorem J1 (x:Int) (z:(Int⊕(Unit⊕(Int×Int)))) (H:Dq n p0_ x_5 x7 l3 x=some z):WP (cxk 67 0) (AH Try.f55) [1,1,1,1,0,1,0,0,1,1,0,0,1,1,1,0,0] (AJ 0 (KJ p0_ x_5 x7 l3) (QB p0_ x_5) z) (KJ p0_ x_5 x7 l3 x):=by
 revert H
 generalize x=x_6
 intro H
 refine sr (ck 1 (en (sq (cn H (λ H=>?_) (λ H=>?_)))))
 ·refine sk (qz (sq (bk 3 (sr (bx H λ x8 h26 H=>sp (Au Am h26) (ck 3 (en (sr (ck 2 (bx H λ r8 h27 H=>ca false (Tf h27) (en (cn H (λ H=>?_) (λ H=>?_)))))))))))))
  ·exact sr (ck 3 (en (re (qR (qr (by cases H;exact ro rfl rdT))))))
  ·exact sk (qN (qz (rz (ck 2 (ae (by cases H;exact og (sg [1,4,5,39,40,41,55,56,57])))))))
 ·exact ex 2 (qx (by cases H;exact xo rfl (sg [1,39,40,41])))
theorem J2 (x:Int) (z:(Int⊕(Unit⊕(Int×Int)))) (H:Dr n p0_ x=some z):WP (cxk 67 0) (AH Try.f55) [1,1,1,1,0,1,0,0] (AJ 0 (KK p0_) (QC) z) (KK p0_ x):=by
 revert H
 generalize x=x_5
 intro H
 refine sr (ck 1 (en (sq (cn H (λ H=>?_) (λ H=>?_)))))
 ·refine sk (qz (sq (bk 1 (sr (ck 1 (bx H λ x7 h23 H=>sp (Au Am h23) (ck 4 (en (sq (sr (ck 3 (bx H λ r7 h24 H=>ca false (Td h24) (ck 1 (en (cn H (λ H=>?_) (λ H=>?_))))))))))))))))
  ·exact sr (ck 3 (en (re (qr (qR (qr (by cases H;exact ro rfl rdT)))))))
  ·refine sk (qz (sr (ck 3 (bx H λ l3 h25 H=>sp (ZK Am 6 h25) (sp (AM Am l3) (ck 1 (en (bk 2 (bx H λ y14 h28 H=>?_)))))))))
   rcases y14 with y15|y16
   ·exact lX J1 h28 (sg [1,4,5,39,40,41,55,56,57]) rfl λ s hE10=>qH (qN (qs (hE10) (rz (ck 2 (ae (by cases H;exact og (sg [1,39,40,41])))))))
   ·exact lR J1 h28 (sg [1,4,5,39,40,41,55,56,57]) rfl λ s hE11=>qR (qR (qr (by cases H;exact ro rfl hE11)))
 ·exact ex 0 (qx (by cases H;exact xo rfl (sg [])))
theorem Tg {z} (H:G3 n p0_=some z):AG Try.prog 55 [.agg (Aq p0_)] (.tup [.d (.int .i64 z.1),.d (.int .i64 z.2)]):=by
 refine fO 67 (JeU p0_) Try.func55 (sr (ck 3 (en (sq (sr (ck 5 (gc 2 (!(decide (p0_.Modes<1))) (pO (en (cn H (λ H=>?_) (λ H=>?_)))))))))))
 ·exact sr (ck 2 (en (re (qr (by cases H;exact pr rdT)))))
 ·refine sk (qz (sq (sr (ck 5 (gc 2 (!(p0_.Accept==0)) (ck 1 (gc 1 (!(p0_.Accept==0)) (bx H λ gd1 h22 H=>soG (λ hg=>Hc (Ce h22 hg)) (Db (λ hh=>hh) (GE)) (gc 1 (!(p0_.Accept==0)) (pO (en (cn H (λ H=>?_) (λ H=>?_)))))))))))))
  ·exact sr (ck 2 (en (re (qr (by cases H;exact pr rdT)))))
  ·refine sk (qz (sq (sr (ck 2 (sp (AM Am p0_.Rules) (ck 3 (gc 1 (!(decide (((p0_.Rules.length:Nat):Int)<1))) (sE (g:=(!(decide (((p0_.Rules.length:Nat):Int)<1)))) (λ hg=>AM Am p0_.Rules) (gc 1 (!(decide (((p0_.Rules.length:Nat):Int)<1))) (pO (en (cn H (λ H=>?_) (λ H=>?_)))))))))))))
   ·exact sr (ck 2 (en (re (qr (by cases H;exact pr rdT)))))
   ·refine sk (qz (sq (sr (ck 2 (sp (AM Am p0_.Rules) (ck 1 (en (bk 0 (bx H λ y17 h29 H=>?_)))))))))
    rcases y17 with y18|y19
    ·exact lX J2 h29 (sg [1,39,40,41]) rfl λ s hE12=>qH (qs (hE12) (sr (ck 2 (en (re (by cases H;exact pr rdT))))))
    ·exact lR J2 h29 (sg [1,39,40,41]) rfl λ s hE13=>qR (qr (by cases H;exact pr hE13))
end
section
variable (p0_:Ac)
def JeZ:St:=⟨(0,.agg [.d (.int .i64 p0_.Modes),.d (.int .u8 p0_.Accept),.d (.sl (p0_.Rules.map Am))])::[],[]⟩
variable {p0_}
theorem Th {z} (H:E8 n p0_=some z):AG Try.prog 35 [.agg (Aq p0_)] (.d (.bool z)):=by
 exact fO 12 (JeZ p0_) Try.func35 (sr (ck 2 (en (sr (ck 1 (bx H λ r9 h30 H=>ca false (Tg h30) (ck 5 (en (sr (ck 3 (en (re (by cases H;exact pr rd)))))))))))))
end
def Je0:St:=⟨[],[]⟩
theorem Ti {z} (H:IC n=some z):AG Try.prog 79 [] (.agg [.d (.int .i64 z.Mode),.d (.int .i64 z.Last),.d (.int .u8 z.Need)]):=by
 exact fO 2 Je0 Try.func79 (sr (ck 1 (en (sr (ck 2 (en (re (by cases H;exact pr rd))))))))
section
variable (p0_:Int) (p1_:Int)
def Je1:St:=⟨(0,.d (.int .u8 p0_))::(1,.d (.int .i64 p1_))::[],[]⟩
variable {p0_ p1_}
theorem Jp {z} (H:GN n p0_ p1_=some z):AG Try.prog 71 [.d (.int .u8 p0_),.d (.int .i64 p1_)] (.d (.bool z)):=by
 exact fO 18 (Je1 p0_ p1_) Try.func71 (sr (ck 1 (en (sr (ck 4 (gc 1 (decide (0<=p1_)) (pA (ck 3 (bx H λ gd2 h31 H=>soG (λ hg=>Hc (Ce h31 hg)) (Db (λ hh=>hh) (Db (λ hh=>hh) (GE))) (gc 2 ((decide (0<=p1_))&&(decide (p1_<8))) (pA (ck 1 (en (re (by cases H;exact pr rd)))))))))))))))
end
section
variable (p0_:Ac) (p1_:Aa) (p2_:Int)
def Je2:St:=⟨(0,.agg [.d (.int .i64 p0_.Modes),.d (.int .u8 p0_.Accept),.d (.sl (p0_.Rules.map Am))])::(1,.agg [.d (.int .i64 p1_.Mode),.d (.int .i64 p1_.Last),.d (.int .u8 p1_.Need)])::(2,.d (.int .i64 p2_))::[],[]⟩
variable {p0_ p1_ p2_}
theorem OI {z} (H:Hg n p0_ p1_ p2_=some z):AG Try.prog 57 [.agg (Aq p0_),.agg (KF p1_),.d (.int .i64 p2_)] (.tup [.agg [.d (.int .i64 z.1.Mode),.d (.int .i64 z.1.Last),.d (.int .u8 z.1.Need)],.d (.bool z.2)]):=by
 refine fO 78 (Je2 p0_ p1_ p2_) Try.func57 (sr (ck 4 (en (sq (sr (ck 5 (gc 1 (!(decide (p2_<0))) (sE (g:=(!(decide (p2_<0)))) (λ hg=>AM Am p0_.Rules) (gc 1 (!(decide (p2_<0))) (pO (en (cn H (λ H=>?_) (λ H=>?_)))))))))))))
 ·exact sr (ck 3 (en (re (qr (by cases H;exact pr rdT)))))
 ·refine sk (qz (sr (ck 3 (bx H λ x9 h32 H=>sp (Au Am h32) (ck 3 (en (sq (sr (ck 7 (gc 1 (!(x9.From != p1_.Mode)) (ck 1 (gc 1 (!(x9.From != p1_.Mode)) (bx H λ r10 h33 H=>cG false (leZ) rfl (λ hg=>Jp (Ce h33 hg)) (Or.inl rfl) (Db (λ hh=>hh) (Db (λ hh=>hh) (GE))) rfl (gc 1 (!(x9.From != p1_.Mode)) (pO (en (cn H (λ H=>?_) (λ H=>?_))))))))))))))))))
  ·exact sr (ck 3 (en (re (qr (by cases H;exact pr rdT)))))
  ·refine sk (qz (sq (sr (ck 3 (en (cn H (λ H=>?_) (λ H=>?_)))))))
   ·refine sr (ck 6 (en (sq (sr (ck 2 (en (cn H (λ H=>?_) (λ H=>?_))))))))
    ·exact sr (ck 3 (en (re (qr (qr (by cases H;exact pr rdT))))))
    ·exact sk (qz (sr (ck 8 (en (re (qr (by cases H;exact pr rdT)))))))
   ·refine sk (qz (sq (sr (ck 4 (bx H λ b3 h34 H=>sp (Gj h34) (bx H λ r11 h35 H=>ca false (GT h35) (bx H λ r12 h36 H=>ca false (Jp h36) (ck 1 (en (cn H (λ H=>?_) (λ H=>?_)))))))))))
    ·exact sr (ck 3 (en (re (qr (by cases H;exact pr rdT)))))
    ·exact sk (qz (sr (ck 8 (bx H λ b4 h37 H=>sp (Gj h37) (bx H λ r13 h38 H=>ca false (GT h38) (ck 5 (en (re (by cases H;exact pr rdT)))))))))
end
section
variable (p0_:Ac) (states_1:(List Aa)) (from_1:(List (List Int))) (number_1:(List (Aa×Int))) (k_1:Int) (states_2:(List Aa)) (from_2:(List (List Int))) (states_3:(List Aa)) (from_3:(List (List Int))) (number_2:(List (Aa×Int))) (x_7:Int) (states_4:(List Aa)) (from_4:(List (List Int))) (number_3:(List (Aa×Int))) (states_5:(List Aa)) (from_5:(List (List Int))) (number_4:(List (Aa×Int))) (states_6:(List Aa)) (from_6:(List (List Int))) (number_5:(List (Aa×Int))) (n_1:Int)
def Je3:St:=⟨(0,.agg [.d (.int .i64 p0_.Modes),.d (.int .u8 p0_.Accept),.d (.sl (p0_.Rules.map Am))])::[],[]⟩
def Je4:St:=⟨(1,.ptr 0 0)::(5,.osl 1 3 0 (states_1.length))::(6,.osl 2 1 0 (from_1.length))::(7,.mp 3)::(8,.d (.int .i64 k_1))::[],[some (.box (Aq p0_)),some (.arr 3 (states_1.map Ak)),some (.narr 1 (from_1.map (nL 1 Ag))),some (.map true false (FI Ak Ag number_1))]⟩
def Je5:St:=⟨(5,.osl 0 3 0 (states_2.length))::(6,.osl 1 1 0 (from_2.length))::[],[some (.arr 3 (states_2.map Ak)),some (.narr 1 (from_2.map (nL 1 Ag)))]⟩
def Je6:St:=⟨(1,.ptr 0 0)::(5,.osl 1 3 0 (states_3.length))::(6,.osl 2 1 0 (from_3.length))::(7,.mp 3)::(8,.d (.int .i64 k_1))::(29,.d (.int .i64 ((p0_.Rules.length:Nat):Int)))::(30,.d (.int .i64 x_7))::[],[some (.box (Aq p0_)),some (.arr 3 (states_3.map Ak)),some (.narr 1 (from_3.map (nL 1 Ag))),some (.map true false (FI Ak Ag number_2))]⟩
def Je7:St:=⟨(1,.ptr 0 0)::(5,.osl 1 3 0 (states_4.length))::(6,.osl 2 1 0 (from_4.length))::(7,.mp 3)::(8,.d (.int .i64 k_1))::[],[some (.box (Aq p0_)),some (.arr 3 (states_4.map Ak)),some (.narr 1 (from_4.map (nL 1 Ag))),some (.map true false (FI Ak Ag number_3))]⟩
def Je8:St:=⟨(1,.ptr 0 0)::(5,.osl 1 3 0 (states_5.length))::(6,.osl 2 1 0 (from_5.length))::(7,.mp 3)::(8,.d (.int .i64 k_1))::(29,.d (.int .i64 ((p0_.Rules.length:Nat):Int)))::(30,.d (.int .i64 x_7))::[],[some (.box (Aq p0_)),some (.arr 3 (states_5.map Ak)),some (.narr 1 (from_5.map (nL 1 Ag))),some (.map true false (FI Ak Ag number_4))]⟩
def Je9:St:=⟨(1,.ptr 0 0)::(5,.osl 1 3 0 (states_6.length))::(6,.osl 2 1 0 (from_6.length))::(7,.mp 3)::(8,.d (.int .i64 k_1))::(12,.d (.int .i64 n_1))::(29,.d (.int .i64 ((p0_.Rules.length:Nat):Int)))::(30,.d (.int .i64 x_7))::[],[some (.box (Aq p0_)),some (.arr 3 (states_6.map Ak)),some (.narr 1 (from_6.map (nL 1 Ag))),some (.map true false (FI Ak Ag number_5))]⟩
def NJ:((List Aa)×(List (List Int))×(List (Aa×Int)))->Ex->St->Prop:=xX 0 2 (λ (y:((List Aa)×(List (List Int))×(List (Aa×Int))))=>Je7 p0_ k_1 y.1 y.2.1 y.2.2)
def IG:((List Aa)×(List (List Int))×(List (Aa×Int))×Int)->St:=(λ (x:((List Aa)×(List (List Int))×(List (Aa×Int))×Int))=>Je6 p0_ k_1 x.1 x.2.1 x.2.2.1 x.2.2.2)
def NK:((List Aa)×(List (List Int)))->Ex->St->Prop:=xX 0 0 (λ (y:((List Aa)×(List (List Int))))=>Je5 y.1 y.2)
def IH:((List Aa)×(List (List Int))×(List (Aa×Int))×Int)->St:=(λ (x:((List Aa)×(List (List Int))×(List (Aa×Int))×Int))=>Je4 p0_ x.1 x.2.1 x.2.2.1 x.2.2.2)
variable {p0_ states_1 from_1 number_1 k_1 states_2 from_2 states_3 from_3 number_2 x_7 states_4 from_4 number_3 states_5 from_5 number_4 states_6 from_6 number_5 n_1}
theorem MP (x:((List Aa)×(List (List Int))×(List (Aa×Int))×Int)) (z:(((List Aa)×(List (List Int))×(List (Aa×Int))×Int)⊕((List Aa)×(List (List Int))×(List (Aa×Int))))) (H:Bu n p0_ k_1 x.1 x.2.1 x.2.2.1 x.2.2.2=some z):WP (cxk 78 0) (AH Try.f70) [1,1,1,1,0,1,0,0,1,0,0,1,0,0] (AJ 0 (IG p0_ k_1) (NJ p0_ k_1) z) (IG p0_ k_1 x):=by
 obtain ⟨states_3,from_3,number_2,x_7⟩:=x
 refine sr (ck 1 (en (sq (cn H (λ H=>?_) (λ H=>?_)))))
 ·refine sk (qz (sj (λ (x:((List Aa)×(List (List Int))×(List (Aa×Int))))=>Je8 p0_ k_1 x_7 x.1 x.2.1 x.2.2) (λ (x:((List Aa)×(List (List Int))×(List (Aa×Int))))=>Cp n x_7 x.1 x.2.1 x.2.2) z ?_ (λ hFAu_explore_J1=>?_)))
  ·rintro ⟨states_5,from_5,number_4⟩ H
   exact rz (ck 2 (ae (by cases H;exact og (gP [1,5,6,7,8,29,30] [0,1,2,3] (po1 (po1 (pn1 (nL 1 Ag) from_5 (po1 (Pl.z)))))))))
  refine bk 3 (sr (ck 2 (en (sr (ck 3 (bx H λ x10 h40 H=>sp (AC 1 3 h40) (sp (CC Ak 1 0 (ty 80) h40) (ck 1 (bx H λ r15 h41 H=>ca false (OI h41) (ck 6 (en (sq (sr (ck 2 (en (cn H (λ H=>?_) (λ H=>?_)))))))))))))))))
  ·exact ex 3 (qx (qH (qs (gP [1,5,6,7,8,29,30] [0,1,2,3] (po1 (po1 (pn1 (nL 1 Ag) from_3 (po1 (Pl.z)))))) (hFAu_explore_J1 (states_3,from_3,number_2) H))))
  ·refine sk (qz (sr (ck 2 (sp (UW (enc:=Ag) (encK:=Ak) (k:=3) (e1:=λ x=>.int .i64 x) (m:=number_2) (l:=[.d (.int .i64 r15.1.Mode),.d (.int .i64 r15.1.Last),.d (.int .u8 r15.1.Need)]) (key:=r15.1) (z:=0) (vz:=[.int .i64 0]) U2 true) (ck 5 (en (sj (λ (x:((List Aa)×(List (List Int))×(List (Aa×Int))×Int))=>Je9 p0_ k_1 x_7 x.1 x.2.1 x.2.2.1 x.2.2.2) (λ (x:((List Aa)×(List (List Int))×(List (Aa×Int))×Int))=>CM n k_1 x_7 x.1 x.2.1 x.2.2.1 x.2.2.2) z ?_ (λ hFAu_explore_J2=>?_))))))))
   ·rintro ⟨states_6,from_6,number_5,n_1⟩ H
    exact bx H λ x11 h42 H=>rg (tr (so1 (encN:=(nL 1 Ag)) 2 1 h42) (sno (encN:=(nL 1 Ag)) (enc:=Ag) h42 [.own 1 (x11.map Ag)] x11 1 2 0 1)) (ck 4 (sp (AC 2 1 h42) (sp (B6 (encN:=(nL 1 Ag)) (row:=[.osl 4 1 0 (x11.length)]) (k:=2) (sz:=1) (off:=0) (t:=ty 40) (v:=.osl 4 1 0 (x11.length)) h42) (ck 2 (bx H λ l4 h43 H=>sp (CD Ag 4 1 h43) (sp (AC 2 1 h42) (sp (LT (encN:=(nL 1 Ag)) (row:=[.osl 4 1 0 (x11.length)]) (row':=[.osl 6 1 0 (l4.length)]) (k:=2) (sz:=1) (off:=0) (t:=ty 40) (v:=.osl 6 1 0 (l4.length)) h42) (ae (qN (qs (tr (tr (tr (tr (tr (sni (encN:=(nL 1 Ag)) (xs:=from_6) (n:=n_1) (enc:=Ag) [.osl 6 1 0 (l4.length)] l4 1 2 0 6 1) (scl (encN:=(nL 1 Ag)) (xss:=from_6) n_1 [.own 1 (l4.map Ag)] 1 2 l4)) (sn 6 2 1 (lsS from_6 n_1.toNat l4))) (sn 65 2 1 (lsS from_6 n_1.toNat l4))) (sn 67 2 1 (lsS from_6 n_1.toNat l4))) (gP [1,5,6,7,8,29,30] [0,1,2,3] (po1 (po1 (pn1 (nL 1 Ag) (List.set from_6 n_1.toNat l4) (po1 (Pl.z))))))) (hFAu_explore_J1 (states_6,(List.set from_6 n_1.toNat l4),number_5) H)))))))))))
   refine sr (ck 2 (en (cn H (λ H=>?_) (λ H=>?_))))
   ·exact sr (ck 3 (en (sr (ck 3 (sp (S7 (enc:=Ag) (encK:=Ak) (k:=3) (e1:=λ x=>.int .i64 x) (m:=number_2) (l:=[.d (.int .i64 r15.1.Mode),.d (.int .i64 r15.1.Last),.d (.int .u8 r15.1.Need)]) (key:=r15.1) (y:=((states_3.length:Nat):Int)) (v:=.d (.int .i64 ((states_3.length:Nat):Int))) (vz:=[.int .i64 0]) U2) (en (rz (ck 3 (bx H λ l5 h44 H=>sp (CD Ak 1 3 h44) (ck 1 (sK false (bx H λ l6 h45 H=>sp (Jcv (encN:=(nL 1 Ag)) (esz:=1) (k:=2) (e:=[.nil]) h45) (ck 2 (ae (qs (tr (Jd1 (encN:=(nL 1 Ag)) (xss:=from_3) (yss:=l6) (y:=([]:(List Int))) (row:=[.own 0 []]) (sz:=1) 7 (by kernel_rfl) (Jcm h45) (by kernel_rfl)) (gP [1,5,6,7,8,12,29,30] [0,6,7,3] (po1 (po1 (pn1 (nL 1 Ag) l6 (po1 (Pl.z))))))) (hFAu_explore_J2 (l5,l6,(Ll r15.1 ((states_3.length:Nat):Int) number_2),((states_3.length:Nat):Int)) H))))))))))))))))
   ·exact sk (qs (gP [1,5,6,7,8,12,29,30] [0,1,2,3] (po1 (po1 (pn1 (nL 1 Ag) from_3 (po1 (Pl.z)))))) (hFAu_explore_J2 (states_3,from_3,number_2,(Option.getD (F9 r15.1 number_2) 0)) H))
 ·exact ex 2 (qx (by cases H;exact xo rfl (gP [1,5,6,7,8] [0,1,2,3] (po1 (po1 (pn1 (nL 1 Ag) from_3 (po1 (Pl.z))))))))
theorem MQ (x:((List Aa)×(List (List Int))×(List (Aa×Int))×Int)) (z:(((List Aa)×(List (List Int))×(List (Aa×Int))×Int)⊕((List Aa)×(List (List Int))))) (H:Cq n p0_ x.1 x.2.1 x.2.2.1 x.2.2.2=some z):WP (cxk 78 0) (AH Try.f70) [1,1,1,1,0,1,0,0] (AJ 0 (IH p0_) (NK) z) (IH p0_ x):=by
 obtain ⟨states_1,from_1,number_1,k_1⟩:=x
 refine sq (sr (ck 4 (en (cn H (λ H=>?_) (λ H=>?_)))))
 ·exact sk (qz (sq (bk 1 (sr (ck 2 (sp (AM Am p0_.Rules) (ck 1 (en (bk 2 (bx H λ y20 h46 H=>lX MP h46 (gP [1,5,6,7,8,29,30] [0,1,2,3] (po1 (po1 (pn1 (nL 1 Ag) from_1 (po1 (Pl.z)))))) rfl λ s hE14=>qH (qN (qs (hE14) (rz (ck 3 (ae (by cases H;exact og (gP [1,5,6,7,8] [0,1,2,3] (po1 (po1 (pn1 (nL 1 Ag) y20.2.1 (po1 (Pl.z))))))))))))))))))))))
 ·exact ex 0 (qx (by cases H;exact xo rfl (gP [5,6] [1,2] (po1 (pn1 (nL 1 Ag) from_1 (Pl.z))))))
theorem QE {z} (H:E9 n p0_=some z):AG Try.prog 70 [.agg (Aq p0_)] (.tup [.own 3 (z.1.map Ak),.d (.sl (z.2.map (eL Ag)))]):=by
 exact fO 78 (Je3 p0_) Try.func70 (sr (ck 3 (en (sr (bx H λ r14 h39 H=>ca false (Ti h39) (ck 2 (en (sr (ck 2 (sK true (ck 2 (en (sq (rg (ZE (sz:=1) (es:=[[.nil]]) 3 (List.map (nL 1 Ag) ([[]]:List (List Int))) (by kernel_rfl) (by kernel_rfl)) (ck 2 (sp (S7 (enc:=Ag) (encK:=Ak) (k:=4) (e1:=λ x=>.int .i64 x) (m:=[]) (l:=[.d (.int .i64 r14.Mode),.d (.int .i64 r14.Last),.d (.int .u8 r14.Need)]) (key:=r14) (y:=0) (v:=.d (.int .i64 0)) (vz:=[.int .i64 0]) U2) (ck 2 (en (sq (sr (ck 1 (en (bk 0 (bx H λ y21 h47 H=>lX MQ h47 (gP [1,5,6,7,8] [0,2,3,4] (po1 (po1 (pn1 (nL 1 Ag) ([[]]:List (List Int)) (po1 (Pl.z)))))) rfl λ s hE15=>qH (qs (hE15) (sr (ck 4 (ae (qs (W2 (encN:=(nL 1 Ag)) (encD:=(eL Ag)) (xss:=y21.2) (k:=1) (sz:=1) 3 (by kernel_rfl) (λ _=>rfl) (λ _=>rfl)) (re (by cases H;exact pr (rT (vs:=[.osl 0 3 0 (y21.1.length),.d (.sl (y21.2.map (eL Ag)))]) [0] (t1 (ao vo) (t1 (ad vd) (t0)))))))))))))))))))))))))))))))))))
end
section
variable (p0_:Ac)
def Jfa:St:=⟨(0,.agg [.d (.int .i64 p0_.Modes),.d (.int .u8 p0_.Accept),.d (.sl (p0_.Rules.map Am))])::[],[]⟩
variable {p0_}
theorem Rw {z} (H:Hh n p0_=some z):AG Try.prog 56 [.agg (Aq p0_)] (.own 3 (z.map Ak)):=by
 exact fO 11 (Jfa p0_) Try.func56 (sr (ck 2 (en (sr (ck 1 (bx H λ r16 h48 H=>cl [List.length r16.1] (QE h48) (ck 5 (en (sr (ck 2 (en (re (by cases H;exact pr (rO (v:=.osl 1 3 0 (r16.1.length)) [1] (ao vo)))))))))))))))
end
section
variable (p0_:(List UInt8)) (p1_:(List UInt8))
def Jfb:St:=⟨(0,.d (.str p0_))::(1,.d (.str p1_))::[],[]⟩
variable {p0_ p1_}
theorem NL {z} (H:ED n p0_ p1_=some z):AG Try.prog 80 [.d (.str p0_),.d (.str p1_)] (.d (.bool z)):=by
 exact fO 18 (Jfb p0_ p1_) Try.func80 (sr (ck 1 (en (sr (ck 8 (gc 1 (decide (((p0_.length:Nat):Int)>=((p1_.length:Nat):Int))) (bx H λ s1 h49 H=>sE (λ hg=>Po (Ce h49 hg)) (ck 1 (gc 1 (decide (((p0_.length:Nat):Int)>=((p1_.length:Nat):Int))) (pA (ck 1 (en (re (by cases H;exact pr rd))))))))))))))
end
section
variable (p0_:(List UInt8)) (p1_:(List UInt8))
def Jfc:St:=⟨(0,.d (.str p0_))::(1,.d (.str p1_))::[],[]⟩
variable {p0_ p1_}
theorem NM {z} (H:EE n p0_ p1_=some z):AG Try.prog 72 [.d (.str p0_),.d (.str p1_)] (.d (.bool z)):=by
 exact fO 8 (Jfc p0_ p1_) Try.func72 (sr (ck 1 (en (sr (ck 2 (bx H λ r17 h50 H=>ca true (NL h50) (ck 1 (en (re (by cases H;exact pr rd))))))))))
end
section
variable (p0_:Ac) (p1_:Aa)
def Jfd:St:=⟨(0,.agg [.d (.int .i64 p0_.Modes),.d (.int .u8 p0_.Accept),.d (.sl (p0_.Rules.map Am))])::(1,.agg [.d (.int .i64 p1_.Mode),.d (.int .i64 p1_.Last),.d (.int .u8 p1_.Need)])::[],[]⟩
variable {p0_ p1_}
theorem QF {z} (H:Fa n p0_ p1_=some z):AG Try.prog 62 [.agg (Aq p0_),.agg (KF p1_)] (.d (.bool z)):=by
 exact fO 22 (Jfd p0_ p1_) Try.func62 (sr (ck 3 (en (sr (ck 7 (gc 1 (decide (p1_.Mode<p0_.Modes)) (ck 1 (gc 1 (decide (p1_.Mode<p0_.Modes)) (bx H λ r19 h54 H=>cG false (leZ) rfl (λ hg=>Jp (Ce h54 hg)) (Or.inl rfl) (Db (λ hh=>hh) (Db (λ hh=>hh) (GE))) rfl (pA (ck 2 (gc 1 ((decide (p1_.Mode<p0_.Modes))&&r19) (bx H λ r20 h55 H=>cG false (leZ) rfl (λ hg=>Jp (Ce h55 hg)) (Or.inl rfl) (Db (λ hh=>hh) (GE)) rfl (pA (ck 1 (en (re (by cases H;exact pr rd))))))))))))))))))
end
section
variable (p0_:Int)
def Jfe:St:=⟨(0,.d (.int .i64 p0_))::[],[]⟩
variable {p0_}
theorem HW {z} (H:Dd n p0_=some z):AG Try.prog 98 [.d (.int .i64 p0_)] (.d (.bool z)):=by
 exact fO 6 (Jfe p0_) Try.func98 (sr (ck 1 (en (sr (ck 4 (en (re (by cases H;exact pr rd))))))))
end
section
variable (p0_:Int) (p1_:Int)
def Jff:St:=⟨(0,.d (.int .i64 p0_))::(1,.d (.int .i64 p1_))::[],[]⟩
variable {p0_ p1_}
theorem NN {z} (H:DG n p0_ p1_=some z):AG Try.prog 87 [.d (.int .i64 p0_),.d (.int .i64 p1_)] (.d (.bool z)):=by
 exact fO 17 (Jff p0_ p1_) Try.func87 (sr (ck 1 (en (sr (ck 1 (bx H λ r21 h56 H=>ca false (HW h56) (ck 2 (bx H λ r22 h57 H=>cG false (leZ) rfl (λ hg=>HW (Ce h57 hg)) (Or.inl rfl) (Db (λ hh=>hh) (GE)) rfl (gc 1 r21 (pA (ck 3 (gc 1 (!(r21&&(!r22))) (pO (ck 1 (en (re (by cases H;exact pr rd)))))))))))))))))
end
section
variable (p0_:Int)
def Jfg:St:=⟨(0,.d (.int .i64 p0_))::[],[]⟩
variable {p0_}
theorem II {z} (H:EF n p0_=some z):AG Try.prog 92 [.d (.int .i64 p0_)] (.d (.bool z)):=by
 exact fO 6 (Jfg p0_) Try.func92 (sr (ck 1 (en (sr (ck 4 (en (re (by cases H;exact pr rd))))))))
end
section
variable (p0_:(List Int)) (p1_:Int) (i_2:Int) (j_1:Int) (i_3:Int)
def Jfh:St:=⟨(0,.d (.sl (p0_.map Ag)))::(1,.d (.int .i64 p1_))::[],[]⟩
def Jfi:St:=⟨(0,.d (.sl (p0_.map Ag)))::(1,.d (.int .i64 p1_))::(6,.d (.int .i64 ((p0_.length:Nat):Int)))::(7,.d (.int .i64 i_2))::(8,.d (.int .i64 j_1))::[],[]⟩
def Jfj:St:=⟨(0,.d (.sl (p0_.map Ag)))::(1,.d (.int .i64 p1_))::(6,.d (.int .i64 ((p0_.length:Nat):Int)))::(7,.d (.int .i64 i_3))::[],[]⟩
def Gy:Int->Ex->St->Prop:=xX 0 0 (λ (y:Int)=>Jfj p0_ p1_ y)
def Dm:(Int×Int)->St:=(λ (x:(Int×Int))=>Jfi p0_ p1_ x.1 x.2)
variable {p0_ p1_ i_2 j_1 i_3}
theorem Gc (x:(Int×Int)) (z:((Int×Int)⊕Int)) (H:A5 n p0_ p1_ x.1 x.2=some z):WP (cxk 54 0) (AH Try.f75) [1,1,1,0,0,0] (AJ 0 (Dm p0_ p1_) (Gy p0_ p1_) z) (Dm p0_ p1_ x):=by
 obtain ⟨i_2,j_1⟩:=x
 refine sq (sr (ck 3 (en (cn H (λ H=>?_) (λ H=>?_)))))
 ·refine sk (qz (bk 1 (sr (ck 7 (en (sr (ck 2 (bx H λ x13 h58 H=>sp (Au Ag h58) (ck 2 (bx H λ r23 h59 H=>ca false (NN h59) (en (cn H (λ H=>?_) (λ H=>?_)))))))))))))
  ·exact rz (ck 3 (ae (qN (by cases H;exact og (sg [0,1,6,7,8])))))
  ·exact rz (ck 2 (ae (qN (by cases H;exact og (sg [0,1,6,7,8])))))
 ·exact ex 0 (qx (by cases H;exact xo rfl (sg [0,1,6,7])))
theorem GU {z} (H:Bk n p0_ p1_=some z):AG Try.prog 75 [.d (.sl (p0_.map Ag)),.d (.int .i64 p1_)] (.tup [.d (.int .i64 z.1),.d (.bool z.2)]):=by
 exact fO 54 (Jfh p0_ p1_) Try.func75 (sr (ck 2 (en (sr (ck 1 (sp (AM Ag p0_) (ck 1 (en (sr (ck 3 (en (sq (bk 0 (bx H λ y22 h60 H=>lX Gc h60 (sg [0,1,6,7,8]) rfl λ s hE16=>qH (qs (hE16) (sr (ck 7 (bx H λ x14 h61 H=>sE (λ hg=>Au Ag (Ce h61 hg)) (gc 1 (decide (y22<((p0_.length:Nat):Int))) (ck 1 (gc 2 (decide (y22<((p0_.length:Nat):Int))) (ck 2 (bx H λ x15 h62 H=>sE (λ hg=>Au Ag (Ce h62 hg)) (gc 1 ((decide (y22<((p0_.length:Nat):Int)))&&!(x14==p1_)) (bx H λ r24 h63 H=>cG false (leZ) rfl (λ hg=>II (Ce h63 hg)) (Or.inl rfl) (Db (λ hh=>hh) (GE)) rfl (gc 1 ((decide (y22<((p0_.length:Nat):Int)))&&!(x14==p1_)) (ck 1 (bx H λ r25 h64 H=>cG false (leZ) rfl (λ hg=>II (Ce h64 hg)) (Or.inl rfl) (Db (λ hh=>hh) (GE)) rfl (pG (g:=((decide (y22<((p0_.length:Nat):Int)))&&!(x14==p1_))) (v:=.d (.bool (r24&&r25))) (λ hg=>K5 (c:=.gv ((decide (y22<((p0_.length:Nat):Int)))&&!(x14==p1_)) (.d (.bool r24))) (a:=.gv (((decide (y22<((p0_.length:Nat):Int)))&&!(x14==p1_))&&r24) (.d (.bool r25))) (b:=.d (.bool false)) rfl rfl rfl ((λ hh=>hh) hg) (λ ht=>by rw [(λ hh=>hh) hg,ht];rfl) trivial) (pG (g:=decide (y22<((p0_.length:Nat):Int))) (v:=.d (.bool ((x14==p1_)||(r24&&r25)))) (λ hg=>K5 (c:=.gv (decide (y22<((p0_.length:Nat):Int))) (.d (.bool (x14==p1_)))) (a:=.d (.bool true)) (b:=.gv ((decide (y22<((p0_.length:Nat):Int)))&&!(x14==p1_)) (.d (.bool (r24&&r25)))) rfl rfl rfl ((λ hh=>hh) hg) trivial (λ ht=>by rw [(λ hh=>hh) hg,ht];rfl)) (pA (ck 2 (en (re (by cases H;exact pr rdT)))))))))))))))))))))))))))))))))))
end
section
variable (p0_:Aw) (p1_:Int)
def Jfk:St:=⟨(0,.dptr (KD p0_) 0)::(1,.d (.int .i64 p1_))::[],[]⟩
variable {p0_ p1_}
theorem EW {z} (H:Bx n p0_ p1_=some z):AG Try.prog 64 [.dptr (KD p0_) 0,.d (.int .i64 p1_)] (.d (.int .i64 z)):=by
 refine fO 25 (Jfk p0_ p1_) Try.func64 (sr (ck 1 (en (sr (ck 5 (bx H λ r26 h65 H=>ca false (GU h65) (ck 5 (en (sq (sr (ck 2 (en (cn H (λ H=>?_) (λ H=>?_))))))))))))))
 ·exact sr (ck 1 (en (re (qr (by cases H;exact pr rd)))))
 ·exact sk (qz (sr (ck 5 (bx H λ x16 h66 H=>sp (Au Ag h66) (ck 2 (en (re (by cases H;exact pr rd))))))))
end
section
variable (p0_:Ac) (p1_:(List UInt8)) (x_9:Ad) (r30:(List Aa)) (l9:(List Aw)) (number_6:(List (Aa×Int))) (x_10:Int) (number_7:(List (Aa×Int))) (y27:(List (Aa×Int))) (w_1:Ad) (x_11:Int) (w_2:Ad) (x23:Aa) (w_3:Ad) (x_12:Int) (w_4:Ad) (w_5:Ad)
def Jad:St:=⟨(0,.agg [.d (.int .i64 p0_.Modes),.d (.int .u8 p0_.Accept),.d (.sl (p0_.Rules.map Am))])::(1,.d (.str p1_))::[],[]⟩
def Jae:St:=⟨(4,.ptr 0 0)::[],[some (.box (Al x_9 (.osl 1 2 0 (x_9.Columns.length)))),some (.narr 2 (x_9.Columns.map Ab))]⟩
def Jaf:St:=⟨(2,.ptr 0 0)::(5,.ptr 1 0)::(6,.mp 2)::(33,.d (.sl (r30.map Ak)))::(34,.d (.int .i64 ((r30.length:Nat):Int)))::(35,.d (.int .i64 x_10))::[],[some (.box (Aq p0_)),some (.box [.d (.int .i64 p0_.Modes),.d (.int .u8 p0_.Accept),.d (.sl (p0_.Rules.map Am)),.d (.str p1_),.d (.sl (r30.map Ak)),.osl 3 1 0 (List.length ([]:List (List Fu))),.osl 4 2 0 (l9.length),.d (.int .i64 0)]),some (.map true false (FI Ak Ag number_6)),some (.arr 1 (List.map (eL BB) ([]:List (List Fu)))),some (.narr 2 (l9.map Ab))]⟩
def Jag:St:=⟨(2,.ptr 0 0)::(5,.ptr 1 0)::(6,.mp 2)::[],[some (.box (Aq p0_)),some (.box [.d (.int .i64 p0_.Modes),.d (.int .u8 p0_.Accept),.d (.sl (p0_.Rules.map Am)),.d (.str p1_),.d (.sl (r30.map Ak)),.osl 3 1 0 (List.length ([]:List (List Fu))),.osl 4 2 0 (l9.length),.d (.int .i64 0)]),some (.map true false (FI Ak Ag number_7)),some (.arr 1 (List.map (eL BB) ([]:List (List Fu)))),some (.narr 2 (l9.map Ab))]⟩
def LX:(List (Aa×Int))->Ex->St->Prop:=xX 0 0 (λ (y:(List (Aa×Int)))=>Jag p0_ p1_ r30 l9 y)
def Hl:((List (Aa×Int))×Int)->St:=(λ (x:((List (Aa×Int))×Int))=>Jaf p0_ p1_ r30 l9 x.1 x.2)
def Jah:St:=⟨(2,.ptr 0 0)::(5,.ptr 1 0)::(6,.mp 2)::(56,.d (.sl (r30.map Ak)))::(57,.d (.int .i64 ((r30.length:Nat):Int)))::(58,.d (.int .i64 x_11))::[],[some (.box (Aq p0_)),some (.box (Gx w_1 (.osl 3 1 0 (w_1.Arcs.length)) (.osl 4 2 0 (w_1.Columns.length)))),some (.map true false (FI Ak Ag y27)),some (.narr 1 (w_1.Arcs.map (nL 2 BB))),some (.narr 2 (w_1.Columns.map Ab))]⟩
def Jai:St:=⟨(5,.ptr 0 0)::[],[some (.box (Gx w_2 (.osl 1 1 0 (w_2.Arcs.length)) (.osl 2 2 0 (w_2.Columns.length)))),some (.narr 1 (w_2.Arcs.map (nL 2 BB))),some (.narr 2 (w_2.Columns.map Ab))]⟩
def Jaj:St:=⟨(2,.ptr 0 0)::(5,.ptr 1 0)::(6,.mp 2)::(9,.d (.int .i64 x_11))::(10,.ptr 3 0)::(56,.d (.sl (r30.map Ak)))::(57,.d (.int .i64 ((r30.length:Nat):Int)))::(58,.d (.int .i64 x_11))::(65,.d (.int .i64 ((p0_.Rules.length:Nat):Int)))::(66,.d (.int .i64 x_12))::[],[some (.box (Aq p0_)),some (.box (Gx w_3 (.osl 4 1 0 (w_3.Arcs.length)) (.osl 5 2 0 (w_3.Columns.length)))),some (.map true false (FI Ak Ag y27)),some (.box (KF x23)),some (.narr 1 (w_3.Arcs.map (nL 2 BB))),some (.narr 2 (w_3.Columns.map Ab))]⟩
def Jak:St:=⟨(2,.ptr 0 0)::(5,.ptr 1 0)::(6,.mp 2)::(56,.d (.sl (r30.map Ak)))::(57,.d (.int .i64 ((r30.length:Nat):Int)))::(58,.d (.int .i64 x_11))::[],[some (.box (Aq p0_)),some (.box (Gx w_4 (.osl 3 1 0 (w_4.Arcs.length)) (.osl 4 2 0 (w_4.Columns.length)))),some (.map true false (FI Ak Ag y27)),some (.narr 1 (w_4.Arcs.map (nL 2 BB))),some (.narr 2 (w_4.Columns.map Ab))]⟩
def Jal:St:=⟨(2,.ptr 0 0)::(5,.ptr 1 0)::(6,.mp 2)::(9,.d (.int .i64 x_11))::(10,.ptr 3 0)::(56,.d (.sl (r30.map Ak)))::(57,.d (.int .i64 ((r30.length:Nat):Int)))::(58,.d (.int .i64 x_11))::(65,.d (.int .i64 ((p0_.Rules.length:Nat):Int)))::(66,.d (.int .i64 x_12))::[],[some (.box (Aq p0_)),some (.box (Gx w_5 (.osl 4 1 0 (w_5.Arcs.length)) (.osl 5 2 0 (w_5.Columns.length)))),some (.map true false (FI Ak Ag y27)),some (.box (KF x23)),some (.narr 1 (w_5.Arcs.map (nL 2 BB))),some (.narr 2 (w_5.Columns.map Ab))]⟩
def LY:Ad->Ex->St->Prop:=xX 0 4 (λ (y:Ad)=>Jak p0_ r30 y27 x_11 y)
def Hm:(Ad×Int)->St:=(λ (x:(Ad×Int))=>Jaj p0_ r30 y27 x_11 x23 x.1 x.2)
def LZ:Ad->Ex->St->Prop:=xX 0 2 (λ (y:Ad)=>Jai y)
def Hn:(Ad×Int)->St:=(λ (x:(Ad×Int))=>Jah p0_ r30 y27 x.1 x.2)
variable {p0_ p1_ x_9 r30 l9 number_6 x_10 number_7 y27 w_1 x_11 w_2 x23 w_3 x_12 w_4 w_5}
theorem Lm (x:((List (Aa×Int))×Int)) (z:(((List (Aa×Int))×Int)⊕(List (Aa×Int)))) (H:BV n p0_ p1_ r30 l9 x.1 x.2=some z):WP (cxk 100 0) (AH Try.f36) [1,1,1,0,1,0,0] (AJ 0 (Hl p0_ p1_ r30 l9) (LX p0_ p1_ r30 l9) z) (Hl p0_ p1_ r30 l9 x):=by
 obtain ⟨number_6,x_10⟩:=x
 refine sr (ck 1 (en (sq (cn H (λ H=>?_) (λ H=>?_)))))
 ·exact sk (qz (sq (bk 1 (sr (ck 1 (bx H λ x22 h81 H=>sp (Au Ak h81) (ck 4 (en (rz (ck 3 (sp (S7 (enc:=Ag) (encK:=Ak) (k:=2) (e1:=λ x=>.int .i64 x) (m:=number_6) (l:=[.d (.int .i64 x22.Mode),.d (.int .i64 x22.Last),.d (.int .u8 x22.Need)]) (key:=x22) (y:=x_10) (v:=.d (.int .i64 x_10)) (vz:=[.int .i64 0]) U2) (ae (qN (qz (rz (ck 2 (ae (by cases H;exact og (gP [2,5,6,33,34,35] [0,1,2,3,4] (po1 (po1 (po1 (po1 (pn1 Ab l9 (Pl.z)))))))))))))))))))))))))
 ·exact ex 0 (qx (by cases H;exact xo rfl (gP [2,5,6] [0,1,2,3,4] (po1 (po1 (po1 (po1 (pn1 Ab l9 (Pl.z)))))))))
theorem Ln (x:(Ad×Int)) (z:((Ad×Int)⊕Ad)) (H:BW n p0_ r30 y27 x_11 x23 x.1 x.2=some z):WP (cxk 100 0) (AH Try.f36) [1,1,1,1,1,0,1,0,0,1,1,0,0,1,1,0,0] (AJ 0 (Hm p0_ r30 y27 x_11 x23) (LY p0_ r30 y27 x_11) z) (Hm p0_ r30 y27 x_11 x23 x):=by
 obtain ⟨w_3,x_12⟩:=x
 refine sr (ck 1 (en (sq (cn H (λ H=>?_) (λ H=>?_)))))
 ·refine sk (qz (sj (λ (x:Ad)=>Jal p0_ r30 y27 x_11 x23 x_12 x) (λ (x:Ad)=>Cj n x_12 x) z ?_ (λ hFTr_newWriter_J1=>?_)))
  ·intro w_5 H
   exact rz (ck 2 (ae (by cases H;exact og (gP [2,5,6,9,10,56,57,58,65,66] [0,1,2,3,4,5] (po1 (po1 (po1 (po1 (pn1 (nL 2 BB) w_5.Arcs (pn1 Ab w_5.Columns (Pl.z)))))))))))
  refine bk 5 (sr (ck 2 (en (sr (ck 3 (bx H λ r31 h85 H=>ca false (OI h85) (ck 6 (en (sr (ck 1 (en (cn H (λ H=>?_) (λ H=>?_)))))))))))))
  ·exact bx H λ x24 h86 H=>rg (tr (so1 (encN:=(nL 2 BB)) 4 1 h86) (sno (encN:=(nL 2 BB)) (enc:=BB) h86 [.own 2 (x24.map BB)] x24 1 4 0 2)) (ck 10 (sp (AC 4 1 h86) (sp (B6 (encN:=(nL 2 BB)) (row:=[.osl 7 2 0 (x24.length)]) (k:=4) (sz:=1) (off:=0) (t:=ty 143) (v:=.osl 7 2 0 (x24.length)) h86) (ck 3 (sp (UW (enc:=Ag) (encK:=Ak) (k:=2) (e1:=λ x=>.int .i64 x) (m:=y27) (l:=[.d (.int .i64 r31.1.Mode),.d (.int .i64 r31.1.Last),.d (.int .u8 r31.1.Need)]) (key:=r31.1) (z:=0) (vz:=[.int .i64 0]) U2 false) (ck 2 (bx H λ l11 h87 H=>sp (CD BB 7 2 h87) (sp (AC 4 1 h86) (sp (LT (encN:=(nL 2 BB)) (row:=[.osl 7 2 0 (x24.length)]) (row':=[.osl 9 2 0 (l11.length)]) (k:=4) (sz:=1) (off:=0) (t:=ty 143) (v:=.osl 9 2 0 (l11.length)) h86) (ae (qN (qs (tr (tr (tr (tr (tr (sni (encN:=(nL 2 BB)) (xs:=w_3.Arcs) (n:=x_11) (enc:=BB) [.osl 9 2 0 (l11.length)] l11 1 4 0 9 2) (scl (encN:=(nL 2 BB)) (xss:=w_3.Arcs) x_11 [.own 2 (l11.map BB)] 1 4 l11)) (sn 80 4 1 (lsS w_3.Arcs x_11.toNat l11))) (sn 85 4 1 (lsS w_3.Arcs x_11.toNat l11))) (snc 1 5 4 1 (lsS w_3.Arcs x_11.toNat l11))) (gP [2,5,6,9,10,56,57,58,65,66] [0,1,2,3,4,5] (po1 (po1 (po1 (po1 (pn1 (nL 2 BB) (List.set w_3.Arcs x_11.toNat l11) (pn1 Ab w_3.Columns (Pl.z))))))))) (hFTr_newWriter_J1 ({ T:=w_3.T,S:=w_3.S,States:=w_3.States,Arcs:=List.set w_3.Arcs x_11.toNat l11,Columns:=w_3.Columns,Last:=w_3.Last }:Ad) H)))))))))))))
  ·exact sk (qN (qs (gP [2,5,6,9,10,56,57,58,65,66] [0,1,2,3,4,5] (po1 (po1 (po1 (po1 (pn1 (nL 2 BB) w_3.Arcs (pn1 Ab w_3.Columns (Pl.z)))))))) (hFTr_newWriter_J1 w_3 H)))
 ·exact ex 4 (qx (by cases H;exact xo rfl (gP [2,5,6,56,57,58] [0,1,2,4,5] (po1 (po1 (po1 (pn1 (nL 2 BB) w_3.Arcs (pn1 Ab w_3.Columns (Pl.z)))))))))
theorem Lp (x:(Ad×Int)) (z:((Ad×Int)⊕Ad)) (H:Ck n p0_ r30 y27 x.1 x.2=some z):WP (cxk 100 0) (AH Try.f36) [1,1,1,1,1,0,1,0,0] (AJ 0 (Hn p0_ r30 y27) (LZ) z) (Hn p0_ r30 y27 x):=by
 obtain ⟨w_1,x_11⟩:=x
 refine sr (ck 1 (en (sq (cn H (λ H=>?_) (λ H=>?_)))))
 ·exact sk (qz (sq (bk 3 (sr (ck 1 (bx H λ x23 h84 H=>sp (Au Ak h84) (ck 4 (en (sr (ck 2 (sp (AM Am p0_.Rules) (ck 1 (en (bk 4 (bx H λ y28 h88 H=>lX Ln h88 (gP [2,5,6,9,10,56,57,58,65,66] [0,1,2,5,3,4] (po1 (po1 (po1 (po1 (pn1 (nL 2 BB) w_1.Arcs (pn1 Ab w_1.Columns (Pl.z)))))))) rfl λ s hE21=>qH (qN (qs (hE21) (rz (ck 2 (ae (by cases H;exact og (gP [2,5,6,56,57,58] [0,1,2,3,4] (po1 (po1 (po1 (pn1 (nL 2 BB) y28.Arcs (pn1 Ab y28.Columns (Pl.z))))))))))))))))))))))))))))
 ·exact ex 2 (qx (by cases H;exact xo rfl (gP [5] [1,3,4] (po1 (pn1 (nL 2 BB) w_1.Arcs (pn1 Ab w_1.Columns (Pl.z)))))))
theorem NO {z} (H:DH n p0_ p1_=some z):Co Try.prog 36 [.agg (Aq p0_),.d (.str p1_)] [] 0 (.ptr 0 0) [some (.box (Al z (.osl 1 2 0 (z.Columns.length)))),some (.narr 2 (z.Columns.map Ab))]:=by
 exact fL 100 0 (Jad p0_ p1_) Try.func36 (sr (ck 2 (en (sr (ck 3 (bx H λ r30 h79 H=>ca false (Rw h79) (ck 3 (bx H λ l9 h80 H=>sp (S8 2 (ez:=[.nil,.nil]) h80) (ck 3 (en (sq (rg (tr (tr (S6 (encN:=Ab) (sz:=2) (z:=[.nil,.nil]) (n:=(Az .i64 ((p1_.length:Nat):Int) 1)) 1 (MH h80) (by kernel_rfl) (by kernel_rfl)) (sn 21 1 2 (HK h80))) (snc 2 6 1 2 (HK h80))) (ck 4 (sp (AM Ak r30) (ck 2 (en (sq (sr (ck 4 (sp (AM Ak r30) (ck 1 (en (bk 0 (bx H λ y27 h82 H=>lX Lm h82 (tr (CB 2 5 1 (by kernel_rfl)) (gP [2,5,6,33,34,35] [0,2,3,4,1] (po1 (po1 (po1 (po1 (pn1 Ab l9 (Pl.z)))))))) rfl λ s hE20=>qH (qs (hE20) (sr (ck 5 (sp (AM Ak r30) (bx H λ l10 h83 H=>sp (S8 1 (ez:=[.nil]) h83) (ck 3 (en (sq (sq (rg (tr (tr (S6 (encN:=(nL 2 BB)) (sz:=1) (z:=[.nil]) (n:=((r30.length:Nat):Int)) 5 (MH h83) (by kernel_rfl) (by kernel_rfl)) (sn 50 5 1 (HK h83))) (snc 1 5 5 1 (HK h83))) (ck 4 (sp (AM Ak r30) (ck 1 (en (bk 2 (bx H λ y29 h89 H=>lX Lp h89 (gP [2,5,6,56,57,58] [0,1,2,5,4] (po1 (po1 (po1 (pn1 (nL 2 BB) l10 (pn1 Ab l9 (Pl.z))))))) rfl λ s hE22=>qH (qs (hE22) (sr (ck 2 (en (re (by cases H;exact pL (rl (s':=Jae z) (tr (ZG (encN:=(nL 2 BB)) (encD:=(eL BB)) (xss:=z.Arcs) (sz:=1) 0 5 1 (by kernel_rfl) (by kernel_rfl) (λ _=>rfl) (λ _=>rfl)) (gP [4] [0,2] (po1 (pn1 Ab z.Columns (Pl.z))))))))))))))))))))))))))))))))))))))))))))))))))))
end
section
variable (p0_:Int) (p1_:Int) (b2_:Ad) (o0_:(List (List Bool))) (x_13:Ad) (x_14:(List (List Bool)))
def Jam:St:=⟨(0,.d (.int .i64 p0_))::(1,.d (.int .i64 p1_))::(2,.eptr 0 1 0 0)::(3,.ptr 1 0)::[],[some (.narr 1 (o0_.map (nL 1 eB))),some (.box [.ptr 2 0]),some (.box (Al b2_ (.osl 3 2 0 (b2_.Columns.length)))),some (.narr 2 (b2_.Columns.map Ab))]⟩
def U3:St:=⟨[],[some (.narr 1 (x_14.map (nL 1 eB))),some (.box [.ptr 2 0]),some (.box (Al x_13 (.osl 3 2 0 (x_13.Columns.length)))),some (.narr 2 (x_13.Columns.map Ab))]⟩
variable {p0_ p1_ b2_ o0_ x_13 x_14}
theorem FK {z} (H:BS n p0_ p1_ b2_ o0_=some z):Co Try.prog 58 [.d (.int .i64 p0_),.d (.int .i64 p1_),.eptr 0 1 0 0,.ptr 1 0] [some (.narr 1 (o0_.map (nL 1 eB))),some (.box [.ptr 2 0]),some (.box (Al b2_ (.osl 3 2 0 (b2_.Columns.length)))),some (.narr 2 (b2_.Columns.map Ab))] 4 (.tup []) [some (.narr 1 (z.2.map (nL 1 eB))),some (.box [.ptr 2 0]),some (.box (Al z.1 (.osl 3 2 0 (z.1.Columns.length)))),some (.narr 2 (z.1.Columns.map Ab))]:=by
 refine fL 37 4 (Jam p0_ p1_ b2_ o0_) Try.func58 (sq (bx H λ x25 h90 H=>rg (tr (so1 (encN:=(nL 1 eB)) 0 1 h90) (sno (encN:=(nL 1 eB)) (enc:=eB) h90 [.own 1 (x25.map eB)] x25 1 0 0 1)) (ck 2 (bx H λ gd3 h91 H=>sp (S9 0 1 0 5 (j:=0) h91) (sp (B6 (encN:=(nL 1 eB)) (row:=[.osl 4 1 0 (x25.length)]) (k:=0) (sz:=1) (off:=0) (t:=ty 46) (v:=.osl 4 1 0 (x25.length)) h90) (ck 1 (en (sr (ck 2 (bx H λ x26 h92 H=>sp (AC 4 1 h92) (sp (CC eB 4 0 (ty 4) h92) (ck 1 (en (cn H (λ H=>?_) (λ H=>?_)))))))))))))))
 ·exact sr (ck 2 (bx H λ x27 h93 H=>sp (AC 4 1 h93) (bx H λ l12 h94 H=>stA eB 4 0 (ty 4) h93 h94 (en (bx H λ x28 h95 H=>rg (tr (tr (tr (tr (tr (tr (tr (tr (sn 10 4 1 (BX h94)) (sn 6 4 1 (BX h94))) (sn 11 4 1 (BX h94))) (sn 16 4 1 (BX h94))) (snr (encN:=(nL 1 eB)) (xs:=o0_) (n:=Br p0_ 5) [.osl 4 1 0 (x25.length)] 1 0 0 4 1 (BX h94))) (sni (encN:=(nL 1 eB)) (xs:=o0_) (n:=Br p0_ 5) (enc:=eB) [.osl 4 1 0 (l12.length)] l12 1 0 0 4 1)) (scl (encN:=(nL 1 eB)) (xss:=o0_) (Br p0_ 5) [.own 1 (l12.map eB)] 1 0 l12)) (so1 (encN:=Ab) 3 2 h95)) (sno (encN:=Ab) (enc:=Ag) h95 [.own 1 (x28.States.map Ag),.own 1 (x28.Costs.map Ag)] x28.States 2 3 0 1)) (ck 10 (sp (AC 3 2 h95) (ck 1 (sp (B6 (encN:=Ab) (row:=[.osl 5 1 0 (x28.States.length),.own 1 (x28.Costs.map Ag)]) (k:=3) (sz:=2) (off:=0) (t:=ty 40) (v:=.osl 5 1 0 (x28.States.length)) h95) (ck 2 (bx H λ l13 h96 H=>sp (CD Ag 5 1 h96) (sp (AC 3 2 h95) (ck 1 (sp (LT (encN:=Ab) (row:=[.osl 5 1 0 (x28.States.length),.own 1 (x28.Costs.map Ag)]) (row':=[.osl 7 1 0 (l13.length),.own 1 (x28.Costs.map Ag)]) (k:=3) (sz:=2) (off:=0) (t:=ty 40) (v:=.osl 7 1 0 (l13.length)) h95) (ae (by cases H;exact pL' (rl (s':=U3 ({ T:=b2_.T,S:=b2_.S,States:=b2_.States,Arcs:=b2_.Arcs,Columns:=List.set b2_.Columns p0_.toNat ({ States:=l13,Costs:=x28.Costs }:Aw),Last:=b2_.Last }:Ad) (List.set o0_ (Int.toNat (Br p0_ 5)) l12)) (tr (tr (tr (tr (tr (sni (encN:=Ab) (xs:=b2_.Columns) (n:=p0_) (enc:=Ag) [.osl 7 1 0 (l13.length),.own 1 (x28.Costs.map Ag)] l13 2 3 0 7 1) (scl (encN:=Ab) (xss:=b2_.Columns) p0_ [.own 1 (l13.map Ag),.own 1 (x28.Costs.map Ag)] 2 3 ({ States:=l13,Costs:=x28.Costs }:Aw))) (sn 22 3 2 (lsS b2_.Columns p0_.toNat ({ States:=l13,Costs:=x28.Costs }:Aw)))) (sn 27 3 2 (lsS b2_.Columns p0_.toNat ({ States:=l13,Costs:=x28.Costs }:Aw)))) (snc 2 6 3 2 (lsS b2_.Columns p0_.toNat ({ States:=l13,Costs:=x28.Costs }:Aw)))) (gP [] [0,1,2,3] (pn1 (nL 1 eB) (List.set o0_ (Int.toNat (Br p0_ 5)) l12) (po1 (po1 (pn1 Ab (List.set b2_.Columns p0_.toNat ({ States:=l13,Costs:=x28.Costs }:Aw)) (Pl.z))))))))))))))))))))))))
 ·exact sk (by cases H;exact pL' (rl (s':=U3 b2_ (List.set o0_ (Int.toNat (Br p0_ 5)) x25)) (tr (tr (sni (encN:=(nL 1 eB)) (xs:=o0_) (n:=Br p0_ 5) (enc:=eB) [.osl 4 1 0 (x25.length)] x25 1 0 0 4 1) (scl (encN:=(nL 1 eB)) (xss:=o0_) (Br p0_ 5) [.own 1 (x25.map eB)] 1 0 x25)) (gP [] [0,1,2,3] (pn1 (nL 1 eB) (List.set o0_ (Int.toNat (Br p0_ 5)) x25) (po1 (po1 (pn1 Ab b2_.Columns (Pl.z)))))))))
end
section
variable (p1_:Int) (p2_:Int) (b0_:Ad) (x_15:Int) (x_16:Bool)
def Jan:St:=⟨(0,.ptr 0 0)::(1,.d (.int .i64 p1_))::(2,.d (.int .i64 p2_))::[],[some (.box (Al b0_ (.osl 1 2 0 (b0_.Columns.length)))),some (.narr 2 (b0_.Columns.map Ab))]⟩
def Jao:St:=⟨(6,.d (.int .i64 x_15))::(7,.d (.bool x_16))::[],[some (.box (Al b0_ (.osl 1 2 0 (b0_.Columns.length)))),some (.narr 2 (b0_.Columns.map Ab))]⟩
variable {p1_ p2_ b0_ x_15 x_16}
theorem DR {z} (H:Bv n p1_ p2_ b0_=some z):Co Try.prog 60 [.ptr 0 0,.d (.int .i64 p1_),.d (.int .i64 p2_)] [some (.box (Al b0_ (.osl 1 2 0 (b0_.Columns.length)))),some (.narr 2 (b0_.Columns.map Ab))] 2 (.tup [.d (.int .i64 z.1),.d (.bool z.2)]) [some (.box (Al b0_ (.osl 1 2 0 (b0_.Columns.length)))),some (.narr 2 (b0_.Columns.map Ab))]:=by
 exact fL 30 2 (Jan p1_ p2_ b0_) Try.func60 (sr (ck 2 (en (sr (ck 6 (bx H λ x29 h97 H=>sp (Au Am h97) (ck 3 (en (sr (ck 9 (bx H λ s3 h98 H=>sp (Po h98) (ck 1 (bx H λ r32 h99 H=>ca true (NM h99) (ck 2 (en (re (by cases H;exact pL (rl (s':=Jao b0_ (Az .i64 p1_ ((x29.Print.length:Nat):Int)) r32) (gP [6,7] [0,1] (po1 (pn1 Ab b0_.Columns (Pl.z))))))))))))))))))))))
end
theorem Jap {n:Nat} {o0_:List Int} {z:List Int} (H:Sk n o0_=some z):Co Try.prog 61 [.osl 0 1 0 (o0_.length)] [some (.arr 1 (o0_.map Ag))] 1 (.tup []) [some (.arr 1 (z.map Ag))]:=X3 Try.laysSort ⟨_,_,Try.func61,rfl,rfl⟩ H
section
variable (b0_:Ad) (x_17:Ad) (known_1:(List (List Bool))) (x_18:Int) (known_2:(List (List Bool))) (r33:(Ad×(List (List Bool)))) (w_6:Ad) (known_3:(List (List Bool))) (x_19:Int) (x_20:Ad) (class_1:Int) (w_7:Ad) (known_4:(List (List Bool))) (i_4:Int) (w_8:Ad) (known_5:(List (List Bool))) (x33:Int) (w_9:Ad) (x34:(List Fu)) (w_10:Ad) (known_6:(List (List Bool))) (x_21:Int) (w_11:Ad) (known_7:(List (List Bool))) (w_12:Ad) (known_8:(List (List Bool)))
def Jaq:St:=⟨(0,.ptr 0 0)::[],[some (.box (Al b0_ (.osl 1 2 0 (b0_.Columns.length)))),some (.narr 2 (b0_.Columns.map Ab))]⟩
def Jar:St:=⟨[],[some (.box (Al x_17 (.osl 1 2 0 (x_17.Columns.length)))),some (.narr 2 (x_17.Columns.map Ab))]⟩
def Jas:St:=⟨(1,.ptr 2 0)::(2,.eptr 3 1 0 0)::(13,.d (.int .i64 x_18))::[],[some (.box (Al b0_ (.osl 1 2 0 (b0_.Columns.length)))),some (.narr 2 (b0_.Columns.map Ab)),some (.box [.ptr 0 0]),some (.narr 1 (known_1.map (nL 1 eB)))]⟩
def Jat:St:=⟨(1,.ptr 2 0)::(2,.eptr 3 1 0 0)::[],[some (.box (Al b0_ (.osl 1 2 0 (b0_.Columns.length)))),some (.narr 2 (b0_.Columns.map Ab)),some (.box [.ptr 0 0]),some (.narr 1 (known_2.map (nL 1 eB)))]⟩
def Kc:(List (List Bool))->Ex->St->Prop:=xX 2 0 (λ (y:(List (List Bool)))=>Jat b0_ y)
def FL:((List (List Bool))×Int)->St:=(λ (x:((List (List Bool))×Int))=>Jas b0_ x.1 x.2)
def Jau:St:=⟨(1,.ptr 2 0)::(2,.eptr 3 1 0 0)::(4,.clo 58 [.eptr 3 1 0 0,.ptr 2 0])::(32,.d (.int .i64 ((r33.1.Columns.length:Nat):Int)))::(33,.d (.int .i64 x_19))::[],[some (.box (Al w_6 (.osl 1 2 0 (w_6.Columns.length)))),some (.narr 2 (w_6.Columns.map Ab)),some (.box [.ptr 0 0]),some (.narr 1 (known_3.map (nL 1 eB)))]⟩
def Jav:St:=⟨[],[some (.box (Al x_20 (.osl 1 2 0 (x_20.Columns.length)))),some (.narr 2 (x_20.Columns.map Ab))]⟩
def Jaw:St:=⟨(1,.ptr 2 0)::(2,.eptr 3 1 0 0)::(4,.clo 58 [.eptr 3 1 0 0,.ptr 2 0])::(5,.d (.int .i64 x_19))::(6,.d (.int .i64 class_1))::(32,.d (.int .i64 ((r33.1.Columns.length:Nat):Int)))::(33,.d (.int .i64 x_19))::[],[some (.box (Al w_6 (.osl 1 2 0 (w_6.Columns.length)))),some (.narr 2 (w_6.Columns.map Ab)),some (.box [.ptr 0 0]),some (.narr 1 (known_3.map (nL 1 eB)))]⟩
def Jax:St:=⟨(1,.ptr 2 0)::(2,.eptr 3 1 0 0)::(4,.clo 58 [.eptr 3 1 0 0,.ptr 2 0])::(5,.d (.int .i64 x_19))::(6,.d (.int .i64 class_1))::(7,.d (.int .i64 i_4))::(32,.d (.int .i64 ((r33.1.Columns.length:Nat):Int)))::(33,.d (.int .i64 x_19))::[],[some (.box (Al w_7 (.osl 1 2 0 (w_7.Columns.length)))),some (.narr 2 (w_7.Columns.map Ab)),some (.box [.ptr 0 0]),some (.narr 1 (known_4.map (nL 1 eB)))]⟩
def Jay:St:=⟨(1,.ptr 2 0)::(2,.eptr 3 1 0 0)::(4,.clo 58 [.eptr 3 1 0 0,.ptr 2 0])::(5,.d (.int .i64 x_19))::(32,.d (.int .i64 ((r33.1.Columns.length:Nat):Int)))::(33,.d (.int .i64 x_19))::[],[some (.box (Al w_8 (.osl 1 2 0 (w_8.Columns.length)))),some (.narr 2 (w_8.Columns.map Ab)),some (.box [.ptr 0 0]),some (.narr 1 (known_5.map (nL 1 eB)))]⟩
def X5:St:=⟨(1,.ptr 2 0)::(2,.eptr 3 1 0 0)::(4,.clo 58 [.eptr 3 1 0 0,.ptr 2 0])::(5,.d (.int .i64 x_19))::(6,.d (.int .i64 class_1))::(7,.d (.int .i64 i_4))::(8,.d (.int .i64 x33))::(32,.d (.int .i64 ((r33.1.Columns.length:Nat):Int)))::(33,.d (.int .i64 x_19))::[],[some (.box (Al w_9 (.osl 1 2 0 (w_9.Columns.length)))),some (.narr 2 (w_9.Columns.map Ab)),some (.box [.ptr 0 0]),some (.narr 1 (known_4.map (nL 1 eB)))]⟩
def X6:St:=⟨(1,.ptr 2 0)::(2,.eptr 3 1 0 0)::(4,.clo 58 [.eptr 3 1 0 0,.ptr 2 0])::(5,.d (.int .i64 x_19))::(6,.d (.int .i64 class_1))::(7,.d (.int .i64 i_4))::(32,.d (.int .i64 ((r33.1.Columns.length:Nat):Int)))::(33,.d (.int .i64 x_19))::(96,.d (.sl (x34.map BB)))::(97,.d (.int .i64 ((x34.length:Nat):Int)))::(98,.d (.int .i64 x_21))::[],[some (.box (Al w_10 (.osl 1 2 0 (w_10.Columns.length)))),some (.narr 2 (w_10.Columns.map Ab)),some (.box [.ptr 0 0]),some (.narr 1 (known_6.map (nL 1 eB)))]⟩
def X7:St:=⟨(1,.ptr 2 0)::(2,.eptr 3 1 0 0)::(4,.clo 58 [.eptr 3 1 0 0,.ptr 2 0])::(5,.d (.int .i64 x_19))::(6,.d (.int .i64 class_1))::(7,.d (.int .i64 i_4))::(32,.d (.int .i64 ((r33.1.Columns.length:Nat):Int)))::(33,.d (.int .i64 x_19))::[],[some (.box (Al w_11 (.osl 1 2 0 (w_11.Columns.length)))),some (.narr 2 (w_11.Columns.map Ab)),some (.box [.ptr 0 0]),some (.narr 1 (known_7.map (nL 1 eB)))]⟩
def X8:St:=⟨(1,.ptr 2 0)::(2,.eptr 3 1 0 0)::(4,.clo 58 [.eptr 3 1 0 0,.ptr 2 0])::(5,.d (.int .i64 x_19))::(6,.d (.int .i64 class_1))::(7,.d (.int .i64 i_4))::(32,.d (.int .i64 ((r33.1.Columns.length:Nat):Int)))::(33,.d (.int .i64 x_19))::(96,.d (.sl (x34.map BB)))::(97,.d (.int .i64 ((x34.length:Nat):Int)))::(98,.d (.int .i64 x_21))::[],[some (.box (Al w_12 (.osl 1 2 0 (w_12.Columns.length)))),some (.narr 2 (w_12.Columns.map Ab)),some (.box [.ptr 0 0]),some (.narr 1 (known_8.map (nL 1 eB)))]⟩
def Kd:(Ad×(List (List Bool)))->Ex->St->Prop:=xX 2 6 (λ (y:(Ad×(List (List Bool))))=>X7 r33 x_19 class_1 i_4 y.1 y.2)
def FM:(Ad×(List (List Bool))×Int)->St:=(λ (x:(Ad×(List (List Bool))×Int))=>X6 r33 x_19 class_1 i_4 x34 x.1 x.2.1 x.2.2)
def Ke:(Ad×(List (List Bool)))->Ex->St->Prop:=xX 2 4 (λ (y:(Ad×(List (List Bool))))=>Jay r33 x_19 y.1 y.2)
def FN:(Ad×(List (List Bool))×Int)->St:=(λ (x:(Ad×(List (List Bool))×Int))=>Jax r33 x_19 class_1 x.1 x.2.1 x.2.2)
def Kf:Ad->Ex->St->Prop:=xX 2 2 (λ (y:Ad)=>Jav y)
def FO:(Ad×(List (List Bool))×Int)->St:=(λ (x:(Ad×(List (List Bool))×Int))=>Jau r33 x.1 x.2.1 x.2.2)
variable {b0_ x_17 known_1 x_18 known_2 r33 w_6 known_3 x_19 x_20 class_1 w_7 known_4 i_4 w_8 known_5 x33 w_9 x34 w_10 known_6 x_21 w_11 known_7 w_12 known_8}
theorem Jq (x:((List (List Bool))×Int)) (z:(((List (List Bool))×Int)⊕(List (List Bool)))) (H:BD n b0_ x.1 x.2=some z):WP (cxk 131 2) (AH Try.f37) [1,1,0,1,0,0] (AJ 2 (FL b0_) (Kc b0_) z) (FL b0_ x):=by
 obtain ⟨known_1,x_18⟩:=x
 refine sr (ck 1 (en (sq (cn H (λ H=>?_) (λ H=>?_)))))
 ·exact sk (qz (sq (bk 1 (sr (ck 2 (en (bx H λ x30 h100 H=>rg (so1 (encN:=(nL 1 eB)) 3 1 h100) (ck 5 (sp (AM Ak b0_.States) (bx H λ l14 h101 H=>sp (W5 eB 1 h101) (bx H λ gd4 h102 H=>sp (S9 3 1 0 5 (j:=0) h102) (sp (LT (encN:=(nL 1 eB)) (row:=[.own 1 (x30.map eB)]) (row':=[.osl 4 1 0 (l14.length)]) (k:=3) (sz:=1) (off:=0) (t:=ty 46) (v:=.osl 4 1 0 (l14.length)) h100) (ae (qN (qz (rg (tr (sni (encN:=(nL 1 eB)) (xs:=known_1) (n:=x_18) (enc:=eB) [.osl 4 1 0 (l14.length)] l14 1 3 0 4 1) (scl (encN:=(nL 1 eB)) (xss:=known_1) x_18 [.own 1 (l14.map eB)] 1 3 l14)) (ck 2 (ae (by cases H;exact og (gP [1,2,13] [0,1,2,3] (po1 (pn1 Ab b0_.Columns (po1 (pn1 (nL 1 eB) (List.set known_1 x_18.toNat l14) (Pl.z)))))))))))))))))))))))))
 ·exact ex 0 (qx (by cases H;exact xo rfl (gP [1,2] [0,1,2,3] (po1 (pn1 Ab b0_.Columns (po1 (pn1 (nL 1 eB) known_1 (Pl.z))))))))
theorem Jr (x:(Ad×(List (List Bool))×Int)) (z:((Ad×(List (List Bool))×Int)⊕(Ad×(List (List Bool))))) (H:Bl n r33 x_19 class_1 i_4 x34 x.1 x.2.1 x.2.2=some z):WP (cxk 131 2) (AH Try.f37) [1,1,1,1,1,1,0,0,1,1,0,0,1,1,1,0,1,0,0,1,0,0,1,1,1,0,0] (AJ 2 (FM r33 x_19 class_1 i_4 x34) (Kd r33 x_19 class_1 i_4) z) (FM r33 x_19 class_1 i_4 x34 x):=by
 obtain ⟨w_10,known_6,x_21⟩:=x
 refine sr (ck 1 (en (sq (cn H (λ H=>?_) (λ H=>?_)))))
 ·refine sk (qz (sj (λ (x:(Ad×(List (List Bool))))=>X8 r33 x_19 class_1 i_4 x34 x_21 x.1 x.2) (λ (x:(Ad×(List (List Bool))))=>BE n x_21 x.1 x.2) z ?_ (λ hFTr_writer_reach_J3=>?_)))
  ·rintro ⟨w_12,known_8⟩ H
   exact rz (ck 2 (ae (by cases H;exact og (gP [1,2,4,5,6,7,32,33,96,97,98] [0,1,2,3] (po1 (pn1 Ab w_12.Columns (po1 (pn1 (nL 1 eB) known_8 (Pl.z)))))))))
  refine bk 7 (sr (bx H λ x35 h109 H=>sp (Au BB h109) (ck 3 (en (sr (ck 4 (bx H λ r34 h110 H=>ltP [0,1] (DR h110) (po1 (pn1 Ab w_10.Columns (Pl.z))) (tb (f:=D1 (CU [0,1] 5 2)) [some (.box (Al w_10 (.osl 1 2 0 (w_10.Columns.length)))),some (.narr 2 (w_10.Columns.map Ab)),some (.box [.ptr 0 0]),some (.narr 1 (known_6.map (nL 1 eB))),some (.box [.d (.int .i64 x35.Rule),.d (.int .i64 x35.To)])] (po1 (pn1 Ab w_10.Columns (po1 (po1 (po1 (Pl.z)))))) (ck 5 (en (sr (ck 1 (en (cn H (λ H=>?_) (λ H=>?_)))))))))))))))
  ·exact rz (ck 4 (bx H λ r35 h111 H=>xcP (xok _ _) [3,2,0,1] (FK h111) (pn1 (nL 1 eB) known_6 (po1 (po1 (pn1 Ab w_10.Columns (Pl.z))))) (tb (f:=D1 (CU [3,2,0,1] 5 4)) [some (.box (Al r35.1 (.osl 1 2 0 (r35.1.Columns.length)))),some (.narr 2 (r35.1.Columns.map Ab)),some (.box [.ptr 0 0]),some (.narr 1 (r35.2.map (nL 1 eB))),some (.box [.d (.int .i64 x35.Rule),.d (.int .i64 x35.To)])] (po1 (pn1 Ab r35.1.Columns (po1 (pn1 (nL 1 eB) r35.2 (po1 (Pl.z)))))) (ae (qN (qs (gP [1,2,4,5,6,7,32,33,96,97,98] [0,1,2,3] (po1 (pn1 Ab r35.1.Columns (po1 (pn1 (nL 1 eB) r35.2 (Pl.z)))))) (hFTr_writer_reach_J3 (r35.1,r35.2) H)))))))
  ·exact sk (qN (qs (gP [1,2,4,5,6,7,32,33,96,97,98] [0,1,2,3] (po1 (pn1 Ab w_10.Columns (po1 (pn1 (nL 1 eB) known_6 (Pl.z)))))) (hFTr_writer_reach_J3 (w_10,known_6) H)))
 ·exact ex 6 (qx (by cases H;exact xo rfl (gP [1,2,4,5,6,7,32,33] [0,1,2,3] (po1 (pn1 Ab w_10.Columns (po1 (pn1 (nL 1 eB) known_6 (Pl.z))))))))
theorem Js (x:(Ad×(List (List Bool))×Int)) (z:((Ad×(List (List Bool))×Int)⊕(Ad×(List (List Bool))))) (H:BG n r33 x_19 class_1 x.1 x.2.1 x.2.2=some z):WP (cxk 131 2) (AH Try.f37) [1,1,1,1,1,1,0,0,1,1,0,0,1,1,1,0,1,0,0] (AJ 2 (FN r33 x_19 class_1) (Ke r33 x_19) z) (FN r33 x_19 class_1 x):=by
 obtain ⟨w_7,known_4,i_4⟩:=x
 refine sq (sq (bx H λ x31 h105 H=>rg (tr (so1 (encN:=Ab) 1 2 h105) (sno (encN:=Ab) (enc:=Ag) h105 [.own 1 (x31.States.map Ag),.own 1 (x31.Costs.map Ag)] x31.States 2 1 0 1)) (ck 6 (sp (AC 1 2 h105) (ck 1 (sp (B6 (encN:=Ab) (row:=[.osl 4 1 0 (x31.States.length),.own 1 (x31.Costs.map Ag)]) (k:=1) (sz:=2) (off:=0) (t:=ty 40) (v:=.osl 4 1 0 (x31.States.length)) h105) (ck 2 (en (cn H (λ H=>?_) (λ H=>?_))))))))))
 ·refine sk (qz (sq (bk 5 (sq (bx H λ x32 h106 H=>rg (tr (tr (tr (tr (tr (sni (encN:=Ab) (xs:=w_7.Columns) (n:=x_19) (enc:=Ag) [.osl 4 1 0 (x31.States.length),.own 1 (x31.Costs.map Ag)] x31.States 2 1 0 4 1) (scl (encN:=Ab) (xss:=w_7.Columns) x_19 [.own 1 (x31.States.map Ag),.own 1 (x31.Costs.map Ag)] 2 1 x31)) (sn 54 1 2 (lsS w_7.Columns x_19.toNat x31))) (snc 0 6 1 2 (lsS w_7.Columns x_19.toNat x31))) (so1 (encN:=Ab) 1 2 h106)) (sno (encN:=Ab) (enc:=Ag) h106 [.own 1 (x32.States.map Ag),.own 1 (x32.Costs.map Ag)] x32.States 2 1 0 1)) (ck 5 (sp (AC 1 2 h106) (ck 1 (sp (B6 (encN:=Ab) (row:=[.osl 5 1 0 (x32.States.length),.own 1 (x32.Costs.map Ag)]) (k:=1) (sz:=2) (off:=0) (t:=ty 40) (v:=.osl 5 1 0 (x32.States.length)) h106) (ck 1 (bx H λ x33 h107 H=>sp (AC 5 1 h107) (sp (CC Ag 5 0 (ty 3) h107) (ck 1 (en (sj (λ (x:Ad)=>X5 r33 x_19 class_1 known_4 i_4 x33 x) (λ (x:Ad)=>BF n r33 x_19 class_1 known_4 i_4 x33 x) z ?_ (λ hFTr_writer_reach_J2=>?_))))))))))))))))
  ·intro w_9 H
   exact sr (ck 5 (bx H λ x34 h108 H=>sp (Au (eL BB) h108) (ck 1 (sp (AM BB x34) (ck 1 (en (bk 6 (bx H λ y31 h112 H=>lX Jr h112 (gP [1,2,4,5,6,7,32,33,96,97,98] [0,1,2,3] (po1 (pn1 Ab w_9.Columns (po1 (pn1 (nL 1 eB) known_4 (Pl.z)))))) rfl λ s hE24=>qH (qN (qs (hE24) (rz (ck 3 (ae (by cases H;exact og (gP [1,2,4,5,6,7,32,33] [0,1,2,3] (po1 (pn1 Ab y31.1.Columns (po1 (pn1 (nL 1 eB) y31.2 (Pl.z))))))))))))))))))))
  refine sq (rg (tr (tr (tr (tr (sni (encN:=Ab) (xs:=List.set w_7.Columns x_19.toNat x31) (n:=x_19) (enc:=Ag) [.osl 5 1 0 (x32.States.length),.own 1 (x32.Costs.map Ag)] x32.States 2 1 0 5 1) (scl (encN:=Ab) (xss:=List.set w_7.Columns x_19.toNat x31) x_19 [.own 1 (x32.States.map Ag),.own 1 (x32.Costs.map Ag)] 2 1 x32)) (sn 54 1 2 (lsS (List.set w_7.Columns x_19.toNat x31) x_19.toNat x32))) (sn 66 1 2 (lsS (List.set w_7.Columns x_19.toNat x31) x_19.toNat x32))) (snc 0 6 1 2 (lsS (List.set w_7.Columns x_19.toNat x31) x_19.toNat x32))) (ck 5 (bx H λ x36 h113 H=>sp (Au Ak h113) (ck 3 (bx H λ gd5 h114 H=>so (Hc h114) (ck 2 (en (cn H (λ H=>?_) (λ H=>?_)))))))))
  ·exact rz (ck 5 (ae (qs (gP [1,2,4,5,6,7,8,32,33] [0,1,2,3] (po1 (pn1 Ab (List.set (List.set w_7.Columns x_19.toNat x31) x_19.toNat x32) (po1 (pn1 (nL 1 eB) known_4 (Pl.z)))))) (hFTr_writer_reach_J2 ({ T:=w_7.T,S:=w_7.S,States:=w_7.States,Arcs:=w_7.Arcs,Columns:=List.set (List.set w_7.Columns x_19.toNat x31) x_19.toNat x32,Last:=x_19 }:Ad) H))))
  ·exact sk (qs (gP [1,2,4,5,6,7,8,32,33] [0,1,2,3] (po1 (pn1 Ab (List.set (List.set w_7.Columns x_19.toNat x31) x_19.toNat x32) (po1 (pn1 (nL 1 eB) known_4 (Pl.z)))))) (hFTr_writer_reach_J2 ({ T:=w_7.T,S:=w_7.S,States:=w_7.States,Arcs:=w_7.Arcs,Columns:=List.set (List.set w_7.Columns x_19.toNat x31) x_19.toNat x32,Last:=w_7.Last }:Ad) H))
 ·exact ex 4 (qx (by cases H;exact xo rfl (tr (tr (tr (tr (sni (encN:=Ab) (xs:=w_7.Columns) (n:=x_19) (enc:=Ag) [.osl 4 1 0 (x31.States.length),.own 1 (x31.Costs.map Ag)] x31.States 2 1 0 4 1) (scl (encN:=Ab) (xss:=w_7.Columns) x_19 [.own 1 (x31.States.map Ag),.own 1 (x31.Costs.map Ag)] 2 1 x31)) (sn 54 1 2 (lsS w_7.Columns x_19.toNat x31))) (snc 0 6 1 2 (lsS w_7.Columns x_19.toNat x31))) (gP [1,2,4,5,32,33] [0,1,2,3] (po1 (pn1 Ab (List.set w_7.Columns x_19.toNat x31) (po1 (pn1 (nL 1 eB) known_4 (Pl.z)))))))))
theorem Jt (x:(Ad×(List (List Bool))×Int)) (z:((Ad×(List (List Bool))×Int)⊕Ad)) (H:BH n r33 x.1 x.2.1 x.2.2=some z):WP (cxk 131 2) (AH Try.f37) [1,1,1,1,1,1,0,0] (AJ 2 (FO r33) (Kf) z) (FO r33 x):=by
 obtain ⟨w_6,known_3,x_19⟩:=x
 refine sr (ck 1 (en (sq (cn H (λ H=>?_) (λ H=>?_)))))
 ·refine sk (qz (sq (bk 3 (sr (ck 2 (en (sr (ck 1 (en (sj (λ (x:Int)=>Jaw r33 w_6 known_3 x_19 x) (λ (x:Int)=>Bm n r33 w_6 known_3 x_19 x) z ?_ (λ hFTr_writer_reach_J1=>?_)))))))))))
  ·intro class_1 H
   exact sq (sr (ck 1 (en (bk 4 (bx H λ y32 h115 H=>lX Js h115 (gP [1,2,4,5,6,7,32,33] [0,1,2,3] (po1 (pn1 Ab w_6.Columns (po1 (pn1 (nL 1 eB) known_3 (Pl.z)))))) rfl λ s hE25=>qH (qs (hE25) (sq (bx H λ x37 h116 H=>rg (tr (so1 (encN:=Ab) 1 2 h116) (sno (encN:=Ab) (enc:=Ag) h116 [.own 1 (x37.States.map Ag),.own 1 (x37.Costs.map Ag)] x37.States 2 1 0 1)) (ck 5 (sp (AC 1 2 h116) (ck 1 (sp (B6 (encN:=Ab) (row:=[.osl 4 1 0 (x37.States.length),.own 1 (x37.Costs.map Ag)]) (k:=1) (sz:=2) (off:=0) (t:=ty 40) (v:=.osl 4 1 0 (x37.States.length)) h116) (bx H λ r36 h117 H=>lt [4] (Jap h117) (bx H λ _ h118 H=>en (bx H λ x38 h119 H=>rg (tr (tr (tr (tr (tr (tr (tr (sn 124 4 1 (Sh h118)) (snr (encN:=Ab) (xs:=y32.1.Columns) (n:=x_19) [.osl 4 1 0 (x37.States.length),.own 1 (x37.Costs.map Ag)] 2 1 0 4 1 (Sh h118))) (sni (encN:=Ab) (xs:=y32.1.Columns) (n:=x_19) (enc:=Ag) [.osl 4 1 0 (r36.length),.own 1 (x37.Costs.map Ag)] r36 2 1 0 4 1)) (scl (encN:=Ab) (xss:=y32.1.Columns) x_19 [.own 1 (r36.map Ag),.own 1 (x37.Costs.map Ag)] 2 1 ({ States:=r36,Costs:=x37.Costs }:Aw))) (sn 120 1 2 (lsS y32.1.Columns x_19.toNat ({ States:=r36,Costs:=x37.Costs }:Aw)))) (snc 0 6 1 2 (lsS y32.1.Columns x_19.toNat ({ States:=r36,Costs:=x37.Costs }:Aw)))) (so1 (encN:=(nL 1 eB)) 3 1 h119)) (sno (encN:=(nL 1 eB)) (enc:=eB) h119 [.own 1 (x38.map eB)] x38 1 3 0 1)) (ck 2 (bx H λ gd6 h120 H=>sp (S9 3 1 0 5 (j:=0) h120) (sp (B6 (encN:=(nL 1 eB)) (row:=[.osl 5 1 0 (x38.length)]) (k:=3) (sz:=1) (off:=0) (t:=ty 46) (v:=.osl 5 1 0 (x38.length)) h119) (xz (xok _ _) (xs:=x38) eB (false:Bool) 5 1 (ae (qN (qz (rg (tr (tr (tr (sn 129 5 1 (lrS (x38.length) (false:Bool))) (snr (encN:=(nL 1 eB)) (xs:=y32.2) (n:=Br x_19 5) [.osl 5 1 0 (x38.length)] 1 3 0 5 1 (lrS (x38.length) (false:Bool)))) (sni (encN:=(nL 1 eB)) (xs:=y32.2) (n:=Br x_19 5) (enc:=eB) [.osl 5 1 0 (List.length (List.replicate (x38.length) (false:Bool)))] (List.replicate (x38.length) (false:Bool)) 1 3 0 5 1)) (scl (encN:=(nL 1 eB)) (xss:=y32.2) (Br x_19 5) [.own 1 (List.map eB (List.replicate (x38.length) (false:Bool)))] 1 3 (List.replicate (x38.length) (false:Bool)))) (ck 2 (ae (by cases H;exact og (gP [1,2,4,32,33] [0,1,2,3] (po1 (pn1 Ab (List.set y32.1.Columns x_19.toNat ({ States:=r36,Costs:=x37.Costs }:Aw)) (po1 (pn1 (nL 1 eB) (List.set y32.2 (Int.toNat (Br x_19 5)) (List.replicate (x38.length) (false:Bool))) (Pl.z))))))))))))))))))))))))))))))))
  refine sr (ck 7 (en (cn H (λ H=>?_) (λ H=>?_))))
  ·exact rz (ck 5 (bx H λ b5 h121 H=>sp (Gj h121) (bx H λ r37 h122 H=>ca false (GT h122) (ck 1 (ae (qs (gP [1,2,4,5,6,32,33] [0,1,2,3] (po1 (pn1 Ab w_6.Columns (po1 (pn1 (nL 1 eB) known_3 (Pl.z)))))) (hFTr_writer_reach_J1 r37 H)))))))
  ·exact sk (qs (gP [1,2,4,5,6,32,33] [0,1,2,3] (po1 (pn1 Ab w_6.Columns (po1 (pn1 (nL 1 eB) known_3 (Pl.z)))))) (hFTr_writer_reach_J1 0 H))
 ·exact ex 2 (qx (by cases H;exact xo rfl (gP [] [0,1] (po1 (pn1 Ab w_6.Columns (Pl.z))))))
theorem Lq {z} (H:CI n b0_=some z):Co Try.prog 37 [.ptr 0 0] [some (.box (Al b0_ (.osl 1 2 0 (b0_.Columns.length)))),some (.narr 2 (b0_.Columns.map Ab))] 2 (.tup []) [some (.box (Al z (.osl 1 2 0 (z.Columns.length)))),some (.narr 2 (z.Columns.map Ab))]:=by
 exact fL 131 2 (Jaq b0_) Try.func37 (sr (ck 1 (en (sr (ck 1 (en (sq (sq (rg (tr (tr (Jco 3 [.nil,.nil,.nil,.nil,.nil] (by kernel_rfl)) (ZE (sz:=1) (es:=[[.nil],[.nil],[.nil],[.nil],[.nil]]) 3 (List.map (nL 1 eB) ([[],[],[],[],[]]:List (List Bool))) (by kernel_rfl) (by kernel_rfl))) (Jg5 2 3 1 (by kernel_rfl))) (ck 1 (en (bk 0 (bx H λ y30 h103 H=>lX Jq h103 (gP [1,2,13] [0,1,2,3] (po1 (pn1 Ab b0_.Columns (po1 (pn1 (nL 1 eB) ([[],[],[],[],[]]:List (List Bool)) (Pl.z)))))) rfl λ s hE23=>qH (qs (hE23) (sr (xm (xok _ _) (ck 1 (en (sr (ck 1 (bx H λ r33 h104 H=>xcP (xok _ _) [3,2,0,1] (FK h104) (pn1 (nL 1 eB) y30 (po1 (po1 (pn1 Ab b0_.Columns (Pl.z))))) (tb (f:=D1 (CU [3,2,0,1] 4 4)) [some (.box (Al r33.1 (.osl 1 2 0 (r33.1.Columns.length)))),some (.narr 2 (r33.1.Columns.map Ab)),some (.box [.ptr 0 0]),some (.narr 1 (r33.2.map (nL 1 eB)))] (po1 (pn1 Ab r33.1.Columns (po1 (pn1 (nL 1 eB) r33.2 (Pl.z))))) (en (sr (ck 6 (en (bk 2 (bx H λ y33 h123 H=>lX Jt h123 (gP [1,2,4,32,33] [0,1,2,3] (po1 (pn1 Ab r33.1.Columns (po1 (pn1 (nL 1 eB) r33.2 (Pl.z)))))) rfl λ s hE26=>qH (by cases H;exact pL' (rl (s':=Jar z) (tr (hE26) (gP [] [0,1] (po1 (pn1 Ab z.Columns (Pl.z)))))))))))))))))))))))))))))))))))
end
end Go.AI
end
