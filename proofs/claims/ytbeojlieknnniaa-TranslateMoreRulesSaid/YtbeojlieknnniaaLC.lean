/- Part 3 of 5 of the proof: lemmas about the model and the program's functions, with no condition beyond those that each states. -/
import Derived.Test.YtbeojlieknnniaaLB
import GoSem.Core.View
import GoSem.Op.String
import Derived.KernelRfl
import Derived.Shelf.Sort.Plain
import Derived.Shelf.Slices.In.SortNone
import Derived.Test.YtbeojlieknnniaaProg
import Derived.Shelf.Lays
section
namespace Go.AI
variable {P:Program} {F F':Nat->Option Obj} {ρ ρ':Nat->Option Loc} {w:World}
theorem run_checkKey_plain1 {t:TypeId} (h:plainK P t) (e:Bool) (n:Nat) (v:Value):(Instr.checkKey e (n+1) t v).run P w=.ok () w:=by
 rcases h with ⟨k,h⟩|h|h<;>simp only [Instr.checkKey,Sem.run_bind,run_underlying h,Result.andThen_ok]<;>rfl
theorem run_checkFields (e:Bool) (n:Nat) (cs:Array Value):∀ (fs:List Field),(∀ f∈fs,plainK P f.type∧∃ v,cs[f.offset]? = some v) ->
  (forIn fs PUnit.unit λ (f:Field) (_:PUnit)=>(do
   if f.name ≠ "_" then Instr.checkKey e (n+1) f.type (← part f.type cs f.offset)
   pure (ForInStep.yield PUnit.unit):Sem (ForInStep PUnit))).run P w=.ok PUnit.unit w:=by
 intro fs
 induction fs with
 | nil=>intro _;rfl
 | cons f fs ih=>
  intro h
  obtain ⟨hp,v,hv⟩:=h f (by simp)
  have ih':=ih λ g hg=>h g (by simp [hg])
  rw [List.forIn_cons]
  by_cases hn:f.name ≠ "_"
  ·simp only [hn,ne_eq,not_false_eq_true,if_true,Sem.run_bind,run_part_plain (w:=w) hp hv,Result.andThen_ok,run_checkKey_plain1 (w:=w) hp e n v,Sem.run_pure]
   simpa using ih'
  ·simp only [hn,if_false,Sem.run_bind,Result.andThen_ok,Sem.run_pure]
   simpa using ih'
theorem bytes_refl (s:ByteArray):(s==s)=true:=by
 show (s.data==s.data)=true
 simp
theorem eqCells_len:∀ (ks:List TK) (l l':List AV) (r:Bool),eqCells ks l l'=some r->l.length=ks.length∧l'.length=ks.length:=by
 intro ks
 induction ks with
 | nil=>
  intro l l' r h
  cases l with
  | cons=>simp [eqCells] at h
  | nil=>cases l' with
   | cons=>simp [eqCells] at h
   | nil=>exact ⟨rfl,rfl⟩
 | cons k ks ih=>
  intro l l' r h
  unfold eqCells at h
  split at h
  ·rename_i heq;cases heq
  ·rename_i e0;cases e0
   split at h
   ·rename_i r' hr'
    obtain ⟨a,b⟩:=ih _ _ _ hr'
    simp [a,b]
   ·cases h
  ·rename_i e0;cases e0
   split at h
   ·rename_i r' hr'
    obtain ⟨a,b⟩:=ih _ _ _ hr'
    simp [a,b]
   ·cases h
  ·rename_i e0;cases e0
   split at h
   ·rename_i r' hr'
    obtain ⟨a,b⟩:=ih _ _ _ hr'
    simp [a,b]
   ·cases h
  ·cases h
theorem eqCells_bits (n:Nat):∀ (ks:List TK) (a b:List D) (xs ys:List Value),eqCells ks (a.map .d) (b.map .d)=some true->a.length=xs.length->b.length=ys.length ->
  (∀ (i:Nat) (x:D) (u:Value),a[i]? = some x->xs[i]? = some u->DRep F x u)->(∀ (i:Nat) (x:D) (u:Value),b[i]? = some x->ys[i]? = some u->DRep F x u)->((ys.zip xs).all λ (y,x)=>Instr.sameBits n y x)=true:=by
 intro ks
 induction ks with
 | nil=>
  intro a b xs ys h h1 h2 _ _
  obtain ⟨e1,e2⟩:=eqCells_len _ _ _ _ h
  have:xs=[]:=List.length_eq_zero_iff.1 (by rw [← h1];simpa using e1)
  subst this
  simp
 | cons k ks ih=>
  intro a b xs ys h h1 h2 ha hb
  obtain ⟨e1,e2⟩:=eqCells_len _ _ _ _ h
  match a,e1 with
  | x::a,_=>
   match b,e2 with
   | y::b,_=>
    match xs,h1 with
    | u::xs,h1=>
     match ys,h2 with
     | v::ys,h2=>
      have hxu:=ha 0 x u rfl rfl
      have hyv:=hb 0 y v rfl rfl
      have rest:∀ r',eqCells ks (a.map .d) (b.map .d)=some r'->r'=true->((ys.zip xs).all λ (y,x)=>Instr.sameBits n y x)=true:=λ r' hr' e=>by
       subst e
       exact ih a b xs ys hr' (by simpa using h1) (by simpa using h2) (λ i x u hx hu=>ha (i+1) x u (by simpa using hx) (by simpa using hu)) (λ i x u hx hu=>hb (i+1) x u (by simpa using hx) (by simpa using hu))
      have fin:∀ r',eqCells ks (a.map .d) (b.map .d)=some r'->r'=true->Instr.sameBits n v u=true->(((v::ys).zip (u::xs)).all λ (y,x)=>Instr.sameBits n y x)=true:=λ r' hr' e hs=>by
       simp only [List.zip_cons_cons,List.all_cons,hs,rest r' hr' e,Bool.and_self]
      simp only [List.map_cons] at h
      unfold eqCells at h
      split at h
      ·rename_i heq;cases heq
      ·rename_i k0 ks0 k1 p xs0 k2 q ys0 e0 e3 e4;cases e0
       simp only [List.cons.injEq,AV.d.injEq] at e3 e4
       obtain ⟨rfl,rfl⟩:=e3
       obtain ⟨rfl,rfl⟩:=e4
       split at h
       ·rename_i r' hr'
        cases hk:(k1==k2) with
        | false=>rw [hk] at h;cases h
        | true=>
         rw [hk] at h
         simp only [cond_true,Option.some.injEq,Bool.and_eq_true,beq_iff_eq] at h hk
         cases hxu;cases hyv
         refine fin r' hr' h.2 ?_
         simp only [Instr.sameBits,Bool.and_eq_true,beq_iff_eq]
         exact ⟨hk.symm,h.1.symm⟩
       ·cases h
      ·rename_i e0 e3 e4;cases e0
       simp only [List.cons.injEq,AV.d.injEq] at e3 e4
       obtain ⟨rfl,rfl⟩:=e3
       obtain ⟨rfl,rfl⟩:=e4
       split at h
       ·rename_i r' hr'
        simp only [Option.some.injEq,Bool.and_eq_true,beq_iff_eq] at h
        cases hxu;cases hyv
        refine fin r' hr' h.2 ?_
        simp only [Instr.sameBits,beq_iff_eq]
        exact h.1.symm
       ·cases h
      ·rename_i e0 e3 e4;cases e0
       simp only [List.cons.injEq,AV.d.injEq] at e3 e4
       obtain ⟨rfl,rfl⟩:=e3
       obtain ⟨rfl,rfl⟩:=e4
       split at h
       ·rename_i r' hr'
        simp only [Option.some.injEq,Bool.and_eq_true,beq_iff_eq] at h
        cases hxu;cases hyv
        refine fin r' hr' h.2 ?_
        obtain ⟨h,_⟩:=h
        subst h
        simp only [Instr.sameBits]
        exact bytes_refl _
       ·cases h
      ·cases h
theorem kv_agg {cs:List D} {x:Value} (h:KV F true cs x):∃ vs:Array Value,x=.agg vs∧ARep F ρ (.agg (cs.map .d)) (.agg vs)∧cs.length=vs.size∧∀ (i:Nat) (x:D) (u:Value),cs[i]? = some x->vs[i]? = some u->DRep F x u:=by
 obtain ⟨vs,h1,h2,h3⟩:=h
 refine ⟨vs,h1,.agg _ _ (by simpa using h2) λ i a v ha hv=>?_,h2,h3⟩
 simp only [List.getElem?_map,Option.map_eq_some_iff] at ha
 obtain ⟨d,hd,rfl⟩:=ha
 exact .d _ _ (h3 i d v hd hv)
theorem keyFacts_flat {t:TypeId} {fields:Array Field} {ks:List TK} (hd:P.underlying t=some (.struct fields)) (hst:P.stoodInHeld t=false) (hn:fields.size=ks.length)
  (hf:∀ (j:Nat) f k,fields[j]? = some f->ks[j]? = some k->f.name ≠ "_"∧f.offset=j∧fitT P f.type k):KeyFacts P t true ks:=by
 have hfo:P.fieldsOf t=fields:=by simp [Program.fieldsOf,hd]
 refine ⟨λ F a x w b hx hs=>?_,⟨_,hd,λ F a b x y r hx hy h=>?_⟩,λ F a b x y r w hx hy h=>?_,λ F a b x y hx hy h=>?_⟩
 ·obtain ⟨vs,rfl,_,hl,hv⟩:=kv_agg (ρ:=λ _=>none) hx
  obtain ⟨r,hr⟩:=Option.isSome_iff_exists.1 hs
  have hlen:=(eqCells_len _ _ _ _ hr).1
  show (Instr.checkKey b (9999+1) t (.agg vs)).run P w=_
  rw [Instr.checkKey]
  simp only [Sem.run_bind,run_underlying hd,Result.andThen_ok]
  have:=run_checkFields (P:=P) (w:=w) b 9998 vs fields.toList (λ f hfm=>by
   obtain ⟨j,hj⟩:=List.mem_iff_getElem?.1 hfm
   have hj':fields[j]? = some f:=by simpa using hj
   have hjl:j<ks.length:=by rw [← hn];exact getElem?_ltA hj'
   obtain ⟨_,h2,h3⟩:=hf j f _ hj' (List.getElem?_eq_getElem hjl)
   refine ⟨fitT_plain h3,?_⟩
   rw [h2]
   exact ⟨_,Array.getElem?_eq_getElem (by simp at hlen;omega)⟩)
  simp at this ⊢
  rw [this];rfl
 ·obtain ⟨vs,rfl,_⟩:=kv_agg (ρ:=λ _=>none) hx
  rfl
 ·obtain ⟨xs,rfl,hxr,hxl,_⟩:=kv_agg (ρ:=λ _=>none) hx
  obtain ⟨ys,rfl,hyr,hyl,_⟩:=kv_agg (ρ:=λ _=>none) hy
  show (Op.equalIn 10000 t (.agg xs) (.agg ys)).run P w=.ok r w
  rw [run_equalIn_struct w 9999 t xs ys (by rw [hfo];exact hd) hst,hfo]
  cases hxr with
  | agg _ _ hxl' hxr=>
   cases hyr with
   | agg _ _ hyl' hyr=>
    refine eqFields_run (F:=F) (ρ:=λ _=>none) 9998 xs ys fields.toList ks 0 _ _ r (by simpa using hn) (λ j f k h1 h2=>?_) h (λ j a ha=>?_) (λ j a ha=>?_)
    ·obtain ⟨a1,a2,a3⟩:=hf j f k (by simpa using h1) h2;exact ⟨a1,by omega,a3⟩
    ·have hj:=getElem?_lt ha
     refine ⟨xs[j],?_,hxr j a _ ha (Array.getElem?_eq_getElem (by omega))⟩
     rw [Nat.zero_add];exact Array.getElem?_eq_getElem (by omega)
    ·have hj:=getElem?_lt ha
     refine ⟨ys[j],?_,hyr j a _ ha (Array.getElem?_eq_getElem (by omega))⟩
     rw [Nat.zero_add];exact Array.getElem?_eq_getElem (by omega)
 ·obtain ⟨xs,rfl,_,hxl,hxv⟩:=kv_agg (ρ:=λ _=>none) hx
  obtain ⟨ys,rfl,_,hyl,hyv⟩:=kv_agg (ρ:=λ _=>none) hy
  have hlen:=eqCells_len _ _ _ _ h
  simp only [List.length_map] at hlen
  show Instr.sameBits (9999+1) (.agg ys) (.agg xs)=true
  rw [Instr.sameBits]
  simp only [Bool.and_eq_true,beq_iff_eq]
  refine ⟨by omega,?_⟩
  exact eqCells_bits 9999 ks a b xs.toList ys.toList h (by simpa using hxl) (by simpa using hyl) (λ i x u hx hu=>hxv i x u hx (by simpa using hu)) (λ i x u hx hu=>hyv i x u hx (by simpa using hu))
end Go.AI
end
section
namespace Go.AI
def iadd (k:IntKind) (a b:Int):Int:=k.wrap (a+b)
def isub (k:IntKind) (a b:Int):Int:=k.wrap (a-b)
def iquo (k:IntKind) (a b:Int):Int:=k.wrap (a.tdiv b)
def irem (a b:Int):Int:=a.tmod b
def iand (k:IntKind) (a b:Int):Int:=k.wrap (BitVec.ofInt k.bits a &&& BitVec.ofInt k.bits b).toNat
def ishl (k:IntKind) (a b:Int):Int:=k.wrap (a*2 ^ (min b.toNat k.bits))
def ishr (k:IntKind) (a b:Int):Int:=a.fdiv (2 ^ (min b.toNat k.bits))
def idx {α:Type} (xs:List α) (i:Int):Option α:=if 0≤i then xs[i.toNat]? else none
def app {α:Type} (eb:Nat) (xs ys:List α):Option (List α):=if (xs.length+ys.length)*eb≤70368744177664 then some (xs++ys) else none
def cat (x y:List UInt8):Option (List UInt8):=if x.length+y.length≤9223372036854775807 then some (x++y) else none
def sub {α:Type} (xs:List α) (l h:Int):Option (List α):=if 0≤l∧l≤h∧h≤xs.length then some ((xs.take h.toNat).drop l.toNat) else none
def put {α:Type} (xs:List α) (i:Int) (y:α):Option (List α):=if 0≤i∧i<xs.length then some (xs.set i.toNat y) else none
def sidx (s:List UInt8) (i:Int):Option Int:=if 0≤i∧i<s.length then some (s[i.toNat]?.getD 0).toNat else none
def guardB (b:Bool):Option Unit:=if b then some () else none
def mkl {α:Type} (eb:Nat) (n:Int) (z:α):Option (List α):=if 0≤n∧n.toNat*eb≤70368744177664 then some (List.replicate n.toNat z) else none
def insI (x:Int):List Int->List Int
 | []=>[x]
 | y::l=>if x≤y then x::y::l else y::insI x l
def isortI:List Int->List Int
 | []=>[]
 | x::l=>insI x (isortI l)
def sortI (xs:List Int):Option (List Int):=if xs.length<4611686018427387904 then some (isortI xs) else none
def bstr (bs:List Int):Option (List UInt8):=if bs.all (λ n=>decide (0≤n)&&decide (n<256)) then some (bs.map λ n=>UInt8.ofNat n.toNat) else none
def bytesOf (s:List UInt8):List Int:=s.map λ b=>(b.toNat:Int)
def mget {κ α:Type} [DecidableEq κ] (k:κ):List (κ×α)->Option α
 | []=>none
 | p::r=>if k=p.1 then some p.2 else mget k r
def mput {κ α:Type} [DecidableEq κ] (k:κ) (v:α):List (κ×α)->List (κ×α)
 | []=>[(k,v)]
 | p::r=>if k=p.1 then (k,v)::r else p::mput k v r
theorem bind_some {α β:Type} {x:Option α} {f:α->Option β} {r:β} (h:x.bind f=some r):∃ a,x=some a∧f a=some r:=Option.bind_eq_some_iff.1 h
theorem idx_some {α:Type} {xs:List α} {i:Int} {x:α} (h:idx xs i=some x):0≤i∧i<xs.length∧xs[i.toNat]? = some x:=by
 unfold idx at h
 split at h
 ·rename_i h0
  have:=(List.getElem?_eq_some_iff.1 h).1
  exact ⟨h0,by omega,h⟩
 ·cases h
theorem app_some {α:Type} {eb:Nat} {xs ys zs:List α} (h:app eb xs ys=some zs):(xs.length+ys.length)*eb≤70368744177664∧zs=xs++ys:=by
 unfold app at h
 split at h
 ·rename_i h0;cases h;exact ⟨h0,rfl⟩
 ·cases h
def whl {σ ρ:Type} (body:σ->Option (σ⊕ρ)):Nat->σ->Option ρ
 | 0,_=>none
 | n+1,x=>match body x with
  | none=>none
  | some (.inl y)=>whl body n y
  | some (.inr r)=>some r
end Go.AI
end
section
namespace Go.AI
def bodyOf (f:Func):Code:=f.body.getD .skip
def child:Code->Nat->Code
 | .seq a b,i=>bif Nat.beq i 0 then a else b
 | .cond _ a b,i=>bif Nat.beq i 0 then a else b
 | .block _ c,_=>c
 | .loop c,_=>c
 | .scope c,_=>c
 | _,_=>.skip
def nav:List Nat->Code->Code
 | [],c=>c
 | i::p,c=>nav p (child c i)
def opsIn:Code->List Oper
 | .region _ ops _=>ops.toList
 | _=>[]
def arrIn:Code->Array Oper
 | .region _ ops _=>ops
 | _=>#[]
def drIn:Code->Bool
 | .region _ _ d=>d
 | _=>false
def isReg:Code->Bool
 | .region _ _ _=>true
 | _=>false
def condOp:Code->Operand
 | .cond c _ _=>c
 | _=>.tmp 0
def runFrom (Γ:Cx) (C:Code) (p:List Nat) (i:Nat) (K:St->Prop) (s:St):Prop:=runA Γ (drIn (nav p C)) (opsIn (nav p C)) ((opsIn (nav p C)).drop i) K s
theorem stepA_mono {Γ:Cx} {d:Bool} {all:List Oper} {o:Oper} {Q Q':St->Prop} {s:St} (hQ:∀ s,Q s->Q' s) (h:stepA Γ d all o Q s):stepA Γ d all o Q' s:=by
 unfold stepA at h ⊢
 cases hg:guardA all s.env o.guard with
 | none=>rw [hg] at h;exact h.elim
 | some g=>
  rw [hg] at h
  simp only at h ⊢
  cases hdst:dstOk Γ.nt o.dst with
  | false=>rw [hdst] at h;exact h.elim
  | true=>
   rw [hdst] at h
   simp only [Bool.not_true,cond_false] at h ⊢
   refine ⟨λ hgt=>?_,λ hgf=>by obtain ⟨v,obs,hm,hq⟩:=h.2 hgf;exact ⟨v,obs,hm,hQ _ hq⟩⟩
   rcases h.1 hgt with h|h|h
   case inr.inr=>
    refine .inr (.inr ?_)
    obtain ⟨hdr,⟨st',h1,h2⟩|⟨hgn,h⟩⟩:=h
    ·exact ⟨hdr,.inl ⟨st',h1,hQ _ h2⟩⟩
    refine ⟨hdr,.inr ⟨hgn,?_⟩⟩
    rcases h with h|h
    ·left
     split at h
     ·obtain ⟨h1,h2⟩:=h
      exact ⟨h1,h2.imp (hQ _) (hQ _)⟩
     ·exact h.elim
    ·right
     split at h
     ·obtain ⟨h1,nb,r,O1,g1,g2,g3,g4,g5⟩:=h
      exact ⟨h1,nb,r,O1,g1,g2,g3,g4,hQ _ g5⟩
     ·exact h.elim
   case inr.inl=>
    refine .inr (.inl ?_)
    unfold stepF at h ⊢
    split at h
    ·exact ⟨h.1,hQ _ h.2⟩
    ·exact h.elim
   refine .inl ?_
   unfold stepG at h ⊢
   split at h
   ·obtain ⟨h1,h⟩:=h
    unfold callA at h ⊢
    split at h
    ·obtain ⟨hob,m,r,hcall,hflat,hq⟩:=h
     exact ⟨h1,hob,m,r,hcall,hflat,hQ _ hq⟩
    ·exact h.elim
   ·split at h
    ·exact ⟨h.1,hQ _ h.2⟩
    ·exact h.elim
   ·split at h
    ·rename_i e he
     obtain ⟨h1,h2,h3⟩:=h
     refine ⟨h1,h2,?_⟩
     cases hc:((e.upd.isSome&&o.guard.isSome)||(!e.rm.isEmpty&&(o.guard.isSome||(d&&!isW o.op)))) with
     | true=>rw [hc] at h3;exact h3.elim
     | false=>rw [hc,cond_false] at h3;rw [cond_false];exact hQ _ h3
    ·exact h.elim
theorem runA_mono {Γ:Cx} {d:Bool} {all:List Oper} {Q Q':St->Prop} (hQ:∀ s,Q s->Q' s):∀ (l:List Oper) (s:St),runA Γ d all l Q s->runA Γ d all l Q' s:=by
 intro l
 induction l with
 | nil=>intro s h;exact hQ s h
 | cons o l ih=>intro s h;exact stepA_mono ih h
theorem wpA_mono {Γ:Cx}:∀ {c:Code} {Q Q':Ex->St->Prop} {s:St},(∀ e s,Q e s->Q' e s)->wpA Γ c Q s->wpA Γ c Q' s:=by
 intro c
 induction c with
 | skip=>intro Q Q' s hQ h;exact hQ _ _ h
 | region id ops d=>intro Q Q' s hQ h;obtain ⟨s',h1,h2⟩:=h;exact ⟨s',h1,runA_mono (λ s hs=>⟨hs.1,hQ _ s hs.2⟩) _ _ h2⟩
 | seq a b iha ihb=>
  intro Q Q' s hQ h
  refine iha (λ e s h=>?_) h
  cases e with
  | normal=>obtain ⟨s',h1,h2⟩:=h;exact ⟨s',h1,ihb hQ h2⟩
  | exit i=>exact hQ _ _ h
  | ret=>exact hQ _ _ h
 | cond c a b iha ihb=>
  intro Q Q' s hQ h
  simp only [wpA] at h ⊢
  unfold condA at h ⊢
  split at h
  ·exact ⟨λ e=>iha hQ (h.1 e),λ e=>ihb hQ (h.2 e)⟩
  ·exact h.elim
 | block id c ih=>
  intro Q Q' s hQ h
  refine ih (λ e s h=>?_) h
  cases e with
  | normal=>exact hQ _ _ h
  | ret=>exact hQ _ _ h
  | exit i=>
   simp only [blockQ] at h ⊢
   cases hb:Nat.beq i id with
   | true=>rw [hb] at h;exact hQ _ _ h
   | false=>rw [hb] at h;exact hQ _ _ h
 | loop c ih=>
  intro Q Q' s hQ h
  obtain ⟨I,n,h0,h⟩:=h
  refine ⟨I,n,h0,λ n s hI=>ih (λ e s h=>?_) (h n s hI)⟩
  cases e with
  | normal=>exact h
  | exit i=>exact hQ _ _ h
  | ret=>exact hQ _ _ h
 | exit id=>intro Q Q' s hQ h;exact hQ _ _ h
 | ret=>intro Q Q' s hQ h;exact hQ _ _ h
 | scope c ih=>intro Q Q' s hQ h;exact ih (s:=s) hQ h
 | label l=>intro Q Q' s hQ h;exact hQ _ _ h
 | _=>intro Q Q' s hQ h;exact h.elim
variable {Γ:Cx} {C:Code} {p p0 p1:List Nat} {Q:Ex->St->Prop} {s s':St} {K:St->Prop}
theorem at_seq (h:nav p C=.seq (nav p0 C) (nav p1 C)) (hw:wpA Γ (nav p0 C) (seqQ Γ.nt.nk (wpA Γ (nav p1 C) Q) Q) s):wpA Γ (nav p C) Q s:=by rw [h];exact hw
theorem at_block (id:Nat) (h:nav p C=.block id (nav p0 C)) (hw:wpA Γ (nav p0 C) (blockQ id Q) s):wpA Γ (nav p C) Q s:=by rw [h];exact hw
theorem at_cond (t:Bool) (h:nav p C=.cond (condOp (nav p C)) (nav p0 C) (nav p1 C)) (hc:evalA s.env (condOp (nav p C))=.d (.bool t)) (h1:t=true->wpA Γ (nav p0 C) Q s) (h2:t=false->wpA Γ (nav p1 C) Q s):wpA Γ (nav p C) Q s:=by
 rw [h];simp only [wpA,hc,condA];exact ⟨h1,h2⟩
theorem at_exit (i:Nat) (h:nav p C=.exit i) (hq:Q (.exit i) s):wpA Γ (nav p C) Q s:=by rw [h];exact hq
theorem at_ret (h:nav p C=.ret) (hq:Q .ret s):wpA Γ (nav p C) Q s:=by rw [h];exact hq
theorem at_skip (h:nav p C=.skip) (hq:Q .normal s):wpA Γ (nav p C) Q s:=by rw [h];exact hq
def regQ (C:Code) (p:List Nat) (s0:St) (Q:Ex->St->Prop):Ex->St->Prop:=λ e s=>drawQ (drIn (nav p C)) (arrIn (nav p C)) s0.env s.env=true∧Q e s
theorem at_region (h:isReg (nav p C)=true) (hs:Shift Γ.nt.nk s s') (hk:runFrom Γ C p 0 (regQ C p s' Q .normal) s'):wpA Γ (nav p C) Q s:=by
 unfold runFrom regQ at hk
 cases hc:nav p C with
 | region id ops d=>rw [hc] at hk;exact ⟨s',hs,hk⟩
 | _=>rw [hc] at h;cases h
theorem at_end (n:Nat) (h:Nat.ble (opsIn (nav p C)).length n=true) (hk:K s):runFrom Γ C p n K s:=by
 unfold runFrom
 rw [List.drop_eq_nil_of_le (Nat.le_of_ble_eq_true h)]
 exact hk
theorem q_blockH {id:Nat} (h:Q .normal s):blockQ id Q (.exit id) s:=by
 show bif Nat.beq id id then _ else _
 have:Nat.beq id id=true:=Nat.beq_refl id
 rw [this];exact h
theorem q_blockX {id i:Nat} (hn:Nat.beq i id=false) (h:Q (.exit i) s):blockQ id Q (.exit i) s:=by
 show bif Nat.beq i id then _ else _
 rw [hn];exact h
def roundQ {σ ρ:Type} (nk:Nat) (st:σ->St) (E:ρ->Ex->St->Prop) (z:σ⊕ρ):Ex->St->Prop
 | .normal,s=>∃ y,z=.inl y∧Shift nk s (st y)
 | e,s=>∃ r,z=.inr r∧E r e s
theorem round_go {σ ρ:Type} {nk:Nat} {st:σ->St} {E:ρ->Ex->St->Prop} {y:σ} (h:Shift nk s (st y)):roundQ nk st E (.inl y) .normal s:=⟨y,rfl,h⟩
theorem round_exit {σ ρ:Type} {nk:Nat} {st:σ->St} {E:ρ->Ex->St->Prop} {r:ρ} {i:Nat} (h:E r (.exit i) s):roundQ nk st E (.inr r) (.exit i) s:=⟨r,rfl,h⟩
theorem round_ret {σ ρ:Type} {nk:Nat} {st:σ->St} {E:ρ->Ex->St->Prop} {r:ρ} (h:E r .ret s):roundQ nk st E (.inr r) .ret s:=⟨r,rfl,h⟩
theorem at_loop {σ ρ:Type} {body:σ->Option (σ⊕ρ)} {n:Nat} {x:σ} {r:ρ} (st:σ->St) (E:ρ->Ex->St->Prop) (h:nav p C=.loop (nav p0 C)) (hr:whl body n x=some r) (hs:Shift Γ.nt.nk s (st x))
  (hb:∀ x z,body x=some z->wpA Γ (nav p0 C) (roundQ Γ.nt.nk st E z) (st x)) (hE:∀ e s,E r e s->Q e s):wpA Γ (nav p C) Q s:=by
 rw [h]
 refine ⟨λ m s=>∃ x,s=st x∧whl body m x=some r,n,⟨_,hs,x,rfl,hr⟩,?_⟩
 rintro m _ ⟨x,rfl,hm⟩
 cases m with
 | zero=>cases hm
 | succ m=>
  unfold whl at hm
  split at hm
  ·cases hm
  ·rename_i y hy
   have:=hb x _ hy
   refine wpA_mono ?_ this
   intro e s' hq
   cases e with
   | normal=>
    obtain ⟨y',e1,hsh⟩:=hq
    cases e1
    exact ⟨m,_,Nat.lt_succ_self m,hsh,y,rfl,hm⟩
   | exit i=>obtain ⟨_,e1,_⟩:=hq;cases e1
   | ret=>obtain ⟨_,e1,_⟩:=hq;cases e1
  ·rename_i r' hy
   cases hm
   have:=hb x _ hy
   refine wpA_mono ?_ this
   intro e s' hq
   cases e with
   | normal=>obtain ⟨_,e1,_⟩:=hq;cases e1
   | exit i=>obtain ⟨r',e1,he⟩:=hq;cases e1;exact hE _ _ he
   | ret=>obtain ⟨r',e1,he⟩:=hq;cases e1;exact hE _ _ he
end Go.AI
end
section
namespace Go.AI
def binOK (op:BinOp) (x y:AV):Bool:=
 match op with
 | .quo=>match y with | .d (.int _ b)=>!(b==0)|_=>false
 | .rem=>match y with | .d (.int _ b)=>!(b==0)|_=>false
 | .shl=>match y with | .d (.int _ b)=>decide (0≤b)|_=>false
 | .shr=>match y with | .d (.int _ b)=>decide (0≤b)|_=>false
 | .add=>match x with | .d (.int _ _)=>true|_=>false
 | _=>true
def obOK (ty:Nat->Ty) (ev:Operand->AV) (objs:List (Option Ob)):Op->Bool
 | .move _=>true
 | .assign _=>true
 | .alloc _=>true
 | .box _ _=>true
 | .build _ _=>true
 | .nilCheck _=>true
 | .unOp _ _ _=>true
 | .fieldAddr _ _ _=>true
 | .field _ _ _=>true
 | .extract _ _=>true
 | .makeMap _ _=>true
 | .load t a=>match ev a with
  | .ptr k off=>match obA objs k with
   | some (.box cells)=>Nat.ble (off+(ty t).size) cells.length
   | _=>false
  | .dptr e off=>Nat.ble (off+(ty t).size) e.length
  | _=>false
 | .store t a v=>match ev a with
  | .ptr k off=>match obA objs k with
   | some (.box cells)=>Nat.beq (cellsA (ev v)).length (ty t).size&&Nat.ble (off+(ty t).size) cells.length
   | _=>false
  | _=>false
 | .binOp op _ x y _=>binOK op (ev x) (ev y)
 | .convert s _ x=>match (ty s).kind,ev x with
  | .int _,.d (.int _ _)=>true
  | .string,.d (.str _)=>true
  | _,_=>false
 | .call ⟨.builtin .len,_,_⟩=>true
 | .call ⟨.builtin .min,_,_⟩=>true
 | .call ⟨.builtin .max,_,_⟩=>true
 | .buildSlice _ _ parts=>parts.toList.all λ p=>(cellsA (ev p.2)).all isDD
 | .indexAddr t x i=>match (ty t).kind,ev x,ev i with
  | .array n _,.ptr _ _,.d (.int _ m)=>decide (0≤m)&&decide (m<n)
  | .array n _,.eptr _ _ _ _,.d (.int _ m)=>decide (0≤m)&&decide (m<n)
  | .array n _,.dptr _ _,.d (.int _ m)=>decide (0≤m)&&decide (m<n)
  | _,_,_=>false
 | _=>false
theorem val_ob {v:AV} {e:Eff} (h:val v=some e):e.ob:=by cases h;trivial
theorem valOb_ob {v:AV} {ob:Prop} {e:Eff} (h:valOb v ob=some e) (ho:ob):e.ob:=by cases h;exact ho
theorem bif_some {α:Type} {b:Bool} {x:Option α} {e:α} (h:(bif b then x else none)=some e):b=true∧x=some e:=by
 cases b with
 | true=>exact ⟨rfl,h⟩
 | false=>cases h
theorem intA_ob {op:BinOp} {k k' k'':IntKind} {a b:Int} {e:Eff} (h:intA op k a b=some e) (ho:binOK op (.d (.int k' a)) (.d (.int k'' b))=true):e.ob:=by
 cases op<;>simp only [intA] at h<;>first|exact val_ob h|(refine valOb_ob h ?_;simpa [binOK] using ho)|cases h
theorem binA_ob {t:Ty} {op:BinOp} {x y:AV} {e:Eff} (h:binA t op x y=some e) (ho:binOK op x y=true):e.ob:=by
 unfold binA at h
 split at h
 ·split at h
  ·exact valOb_ob h (by simpa [binOK] using ho)
  ·exact valOb_ob h (by simpa [binOK] using ho)
  ·obtain ⟨_,h⟩:=bif_some h
   exact intA_ob h ho
 ·cases op<;>simp only [strA] at h<;>first|exact val_ob h|(simp [binOK] at ho;done)|cases h
 ·split at h
  ·obtain ⟨_,h⟩:=bif_some h
   split at h
   ·exact val_ob h
   ·exact val_ob h
   ·cases h
  ·cases h
 ·obtain ⟨_,h⟩:=bif_some h
  split at h
  ·exact val_ob h
  ·exact val_ob h
  ·cases h
 ·cases h
theorem expD_ob {objs:List (Option Ob)} {v:AV} {r:Rd D} (hd:isDD v=true) (h:expD objs v=some r):r.ob∧r.ks=[]:=by
 cases v with
 | d x=>cases x<;>(cases h;exact ⟨trivial,rfl⟩)
 | _=>cases hd
theorem expDs_ob {objs:List (Option Ob)}:∀ {l:List AV} {r:Rd (List D)},l.all isDD=true->expDs objs l=some r->r.ob∧r.ks=[]:=by
 intro l
 induction l with
 | nil=>intro r _ h;cases h;exact ⟨trivial,rfl⟩
 | cons v l ih=>
  intro r hd h
  simp only [List.all_cons,Bool.and_eq_true] at hd
  simp only [expDs] at h
  split at h
  ·rename_i r1 r2 h1 h2
   cases h
   obtain ⟨a1,a2⟩:=expD_ob hd.1 h1
   obtain ⟨b1,b2⟩:=ih hd.2 h2
   exact ⟨⟨a1,b1⟩,by simp [a2,b2]⟩
  ·cases h
theorem fillE_ob {objs:List (Option Ob)} {esz:Nat}:∀ {parts:List (Nat×AV)} {es:List (List D)} {r:Rd (List (List D))},(parts.all λ p=>(cellsA p.2).all isDD)=true->fillE objs esz es parts=some r->r.ob:=by
 intro parts
 induction parts with
 | nil=>intro es r _ h;cases h;trivial
 | cons p parts ih=>
  intro es r hd h
  obtain ⟨i,v⟩:=p
  simp only [List.all_cons,Bool.and_eq_true] at hd
  simp only [fillE] at h
  split at h
  ·rename_i r1 h1
   obtain ⟨_,h⟩:=bif_some h
   split at h
   ·rename_i r2 h2
    cases h
    exact ⟨(expDs_ob hd.1 h1).1,ih hd.2 h2⟩
   ·cases h
  ·cases h
theorem obOK_sound {ty:Nat->Ty} {ev:Operand->AV} {objs:List (Option Ob)} {op:Op} {e:Eff} (ho:obOK ty ev objs op=true) (h:opA ty ev objs op=some e):e.ob:=by
 cases op with
 | move x=>exact val_ob h
 | assign x=>exact val_ob h
 | alloc t=>obtain ⟨_,h⟩:=bif_some h;cases h;trivial
 | box t v=>obtain ⟨_,h⟩:=bif_some h;cases h;trivial
 | build t parts=>
  obtain ⟨_,h⟩:=bif_some h
  split at h
  ·exact val_ob h
  ·cases h
 | nilCheck x=>
  simp only [opA] at h
  split at h<;>first|exact val_ob h|cases h
 | unOp op t x=>
  cases op<;>simp only [opA] at h<;>first|(split at h<;>first|exact val_ob h|cases h)|cases h
 | fieldAddr t x f=>
  obtain ⟨_,h⟩:=bif_some h
  unfold fieldAtA at h
  split at h
  ·split at h
   ·split at h<;>first|exact val_ob h|cases h
   ·cases h
  ·cases h
 | field t x f=>
  simp only [opA] at h
  obtain ⟨_,h⟩:=bif_some h
  unfold fieldA at h
  split at h
  ·split at h
   ·split at h
    ·split at h<;>first|exact val_ob h|cases h
    ·cases h
   ·cases h
  ·cases h
 | extract x i=>
  simp only [opA] at h
  split at h
  ·split at h
   ·exact val_ob h
   ·cases h
  ·cases h
 | makeMap t r=>
  cases r with
  | none=>
   obtain ⟨_,h⟩:=bif_some h
   split at h
   ·cases h;trivial
   ·cases h
  | some x=>
   obtain ⟨_,h⟩:=bif_some h
   split at h
   ·cases h;trivial
   ·cases h
 | load t a=>
  obtain ⟨_,h⟩:=bif_some h
  simp only [obOK] at ho
  split at ho
  ·rename_i k off ha
   rw [ha] at h
   simp only [loadA] at h
   split at ho
   ·rename_i cells hc
    rw [hc] at h
    simp only at h
    split at h
    ·exact valOb_ob h (Nat.le_of_ble_eq_true ho)
    ·cases h
   ·cases ho
  ·rename_i e' off ha
   rw [ha] at h
   simp only [loadA] at h
   split at h
   ·exact valOb_ob h (Nat.le_of_ble_eq_true ho)
   ·cases h
  ·cases ho
 | store t a v=>
  obtain ⟨_,h⟩:=bif_some h
  simp only [obOK] at ho
  split at ho
  ·rename_i k off ha
   rw [ha] at h
   simp only [storeA] at h
   split at ho
   ·rename_i cells hc
    rw [hc] at h
    simp only at h
    obtain ⟨_,h⟩:=bif_some h
    cases h
    simp only [Bool.and_eq_true] at ho
    exact ⟨Nat.eq_of_beq_eq_true ho.1,Nat.le_of_ble_eq_true ho.2⟩
   ·cases ho
  ·cases ho
 | binOp op t x y t'=>exact binA_ob h ho
 | convert a b x=>
  obtain ⟨_,h⟩:=bif_some h
  simp only [obOK] at ho
  split at ho
  ·rename_i k1 k2 n hk hx
   rw [hk,hx] at h
   unfold convA at h
   split at h
   ·rename_i heq _;cases heq
   ·exact val_ob h
   ·exact val_ob h
   ·cases h
  ·rename_i n hk hx
   rw [hk,hx] at h
   unfold convA at h
   split at h
   ·rename_i heq _;cases heq
   ·exact val_ob h
   ·exact val_ob h
   ·cases h
  ·cases ho
 | call c=>
  obtain ⟨callee,args,ts⟩:=c
  cases callee with
  | value f=>cases ho
  | invoke r m=>cases ho
  | builtin b=>
   cases b<;>first|(cases ho;done)|skip
   all_goals simp only [opA] at h
   ·split at h
    ·obtain ⟨_,h⟩:=bif_some h
     unfold lenA at h
     split at h<;>first|exact val_ob h|cases h
    ·cases h
   ·split at h
    ·exact val_ob h
    ·cases h
   ·split at h
    ·exact val_ob h
    ·cases h
 | buildSlice t len parts=>
  obtain ⟨_,h⟩:=bif_some h
  split at h
  ·obtain ⟨_,h⟩:=bif_some h
   split at h
   ·rename_i r hr
    cases h
    refine fillE_ob (parts:=parts.toList.map λ p=>(p.1,ev p.2)) ?_ hr
    rw [List.all_map]
    exact ho
   ·cases h
  ·cases h
 | indexAddr t x i=>
  obtain ⟨_,h⟩:=bif_some h
  simp only [obOK] at ho
  split at ho
  ·rename_i n esz k off k' m hk hx hi
   rw [hk,hx,hi] at h
   simp only [intOf,idxA] at h
   exact valOb_ob h (by simpa using ho)
  ·rename_i n esz a b c d k' m hk hx hi
   rw [hk,hx,hi] at h
   simp only [intOf,idxA] at h
   exact valOb_ob h (by simpa using ho)
  ·rename_i n esz a b k' m hk hx hi
   rw [hk,hx,hi] at h
   simp only [intOf,idxA] at h
   exact valOb_ob h (by simpa using ho)
  ·cases ho
 | _=>cases ho
end Go.AI
end
section
namespace Go.AI
def notGv:AV->Bool
 | .gv _ _=>false
 | _=>true
theorem gobA_of {g:Bool}:∀ {l:List AV},l.all notGv=true->gobA g l:=by
 intro l
 induction l with
 | nil=>intro _;trivial
 | cons v l ih=>
  intro h
  simp only [List.all_cons,Bool.and_eq_true] at h
  cases v<;>first|exact ih h.2|(cases h.1;done)
def isPC:Op->Bool
 | .pick _ _ _=>true
 | .call ⟨.value _,_,_⟩=>true
 | _=>false
def stepP (Γ:Cx) (all:List Oper) (o:Oper) (st:St):Option St:=
 match guardA all st.env o.guard with
 | none=>none
 | some g=>bif dstOk Γ.nt o.dst&&!isPC o.op&&obOK Γ.ty (λ x=>unG (evalA st.env x)) st.objs o.op&&(o.op.operands.toList.map (evalA st.env)).all notGv&&!(o.guard.isSome&&isW o.op) then
   (match opA Γ.ty (λ x=>unG (evalA st.env x)) st.objs o.op with
   | some e=>bif (e.upd.isSome&&o.guard.isSome)||!e.rm.isEmpty then none else some (effA o.dst o.guard.isSome g e st)
   | none=>none)
  else none
theorem stepG_of {Γ:Cx} {d:Bool} {o:Oper} {Q:St->Prop} {st:St} {g:Bool} (hpc:isPC o.op=false) (h:match opA Γ.ty (λ x=>unG (evalA st.env x)) st.objs o.op with
   | some e=>gobA g (o.op.operands.toList.map (evalA st.env))∧(g=true->e.ob)∧(bif (e.upd.isSome&&o.guard.isSome)||(!e.rm.isEmpty&&(o.guard.isSome||(d&&!isW o.op))) then False else Q (effA o.dst o.guard.isSome g e st))
   | none=>False):stepG Γ d o Q st g:=by
 unfold stepG
 split
 ·rename_i hop;rw [hop] at hpc;cases hpc
 ·rename_i hop;rw [hop] at hpc;cases hpc
 ·exact h
theorem stepP_ok {Γ:Cx} {d:Bool} {all:List Oper} {o:Oper} {st st':St} {Q:St->Prop} (h:stepP Γ all o st=some st') (hq:Q st'):stepA Γ d all o Q st:=by
 unfold stepP at h
 unfold stepA
 cases hg:guardA all st.env o.guard with
 | none=>rw [hg] at h;cases h
 | some g=>
  rw [hg] at h
  obtain ⟨hc,h⟩:=bif_some h
  simp only [Bool.and_eq_true,Bool.not_eq_true'] at hc
  obtain ⟨⟨⟨⟨h1,h2⟩,h3⟩,h4⟩,h5⟩:=hc
  simp only [h1,Bool.not_true,cond_false]
  split at h
  ·rename_i e he
   cases hb:(e.upd.isSome&&o.guard.isSome)||!e.rm.isEmpty with
   | true=>rw [hb] at h;cases h
   | false=>
    rw [hb,cond_false] at h
    cases h
    simp only [Bool.or_eq_false_iff,Bool.not_eq_false'] at hb
    obtain ⟨hb1,hb2⟩:=hb
    have hrm:e.rm=[]:=isEmpty_nil hb2
    refine ⟨λ _=>.inl (stepG_of h2 ?_),λ hgf=>?_⟩
    ·rw [he]
     refine ⟨gobA_of h4,λ _=>obOK_sound h3 he,?_⟩
     rw [hb1,hrm]
     exact hq
    ·have hgs:o.guard.isSome=true:=by
      cases hgo:o.guard with
      | none=>rw [hgo] at hg;cases hg;cases hgf
      | some x=>rfl
     have hupd:e.upd=none:=by
      rw [hgs,Bool.and_true] at hb1
      cases hu:e.upd with
      | none=>rfl
      | some x=>rw [hu] at hb1;cases hb1
     refine ⟨e.v,e.obs,λ hm=>?_,?_⟩
     ·rw [hgs,Bool.true_and] at h5
      exact opA_noobs h5 hm he
     ·subst hgf
      simp only [effA,hrm,hupd,rmA,updA] at hq
      exact hq
  ·cases h
def runP (Γ:Cx) (all:List Oper):List Oper->St->Option St
 | [],st=>some st
 | o::l,st=>match stepP Γ all o st with
  | some st'=>runP Γ all l st'
  | none=>none
variable {Γ:Cx} {C:Code} {p p0 p1:List Nat} {Q:Ex->St->Prop} {s s':St} {K:St->Prop} {i:Nat}
theorem runP_ok {d:Bool} {all:List Oper}:∀ (l m:List Oper) (st:St),runP Γ all l st=some s'->runA Γ d all m K s'->runA Γ d all (l++m) K st:=by
 intro l
 induction l with
 | nil=>intro m st h hk;cases h;exact hk
 | cons o l ih=>
  intro m st h hk
  simp only [runP] at h
  split at h
  ·rename_i st1 h1
   exact stepP_ok h1 (ih m st1 h hk)
  ·cases h
theorem chunk (n j:Nat) (h:runP Γ (opsIn (nav p C)) (((opsIn (nav p C)).drop i).take n) s=some s') (hj:i+n=j) (hk:runFrom Γ C p j K s'):runFrom Γ C p i K s:=by
 unfold runFrom at hk ⊢
 have:(opsIn (nav p C)).drop i=((opsIn (nav p C)).drop i).take n++(opsIn (nav p C)).drop j:=by
  rw [← hj,← List.drop_drop,List.take_append_drop]
 rw [this]
 exact runP_ok _ _ _ h hk
def OpIs (x:Option Eff) (v:AV) (obs:List Ob) (rm:List Nat) (upd:Option (Nat×Ob)):Prop:=∃ ob,x=some ⟨v,obs,rm,upd,ob⟩∧ob
def opOf (Γ:Cx) (c:Code) (i:Nat) (s:St):Option Eff:=
 match (opsIn c)[i]? with
 | some o=>opA Γ.ty (λ x=>unG (evalA s.env x)) s.objs o.op
 | none=>none
def nextS (Γ:Cx) (c:Code) (i:Nat) (v:AV) (obs:List Ob) (rm:List Nat) (upd:Option (Nat×Ob)) (s:St):Option St:=
 match (opsIn c)[i]? with
 | some o=>bif o.guard.isNone&&dstOk Γ.nt o.dst&&!isPC o.op&&(o.op.operands.toList.map (evalA s.env)).all notGv&&!(!rm.isEmpty&&(drIn c&&!isW o.op)) then some ⟨putA o.dst false true v s.env,updA (rmA s.objs rm) upd++obs.map some⟩ else none
 | none=>none
theorem drop_cons {all:List Oper} {o:Oper} (h:all[i]? = some o):all.drop i=o::all.drop (i+1):=by
 have hl:=getElem?_lt h
 rw [List.getElem?_eq_getElem hl] at h
 cases h
 exact List.drop_eq_getElem_cons hl
theorem spec {v:AV} {obs:List Ob} {rm:List Nat} {upd:Option (Nat×Ob)} {x:Option Eff} (j:Nat) (hx:opOf Γ (nav p C) i s=x) (ho:OpIs x v obs rm upd) (hn:nextS Γ (nav p C) i v obs rm upd s=some s') (hj:i+1=j) (hk:runFrom Γ C p j K s'):runFrom Γ C p i K s:=by
 subst hj
 unfold runFrom at hk ⊢
 unfold opOf at hx
 unfold nextS at hn
 split at hn
 ·rename_i o hi
  rw [hi] at hx
  obtain ⟨hc,hn⟩:=bif_some hn
  simp only [Bool.and_eq_true,Bool.not_eq_true'] at hc
  obtain ⟨⟨⟨⟨h1,h2⟩,h3⟩,h4⟩,h5⟩:=hc
  cases hn
  rw [drop_cons hi]
  show stepA _ _ _ _ _ _
  have hgN:o.guard=none:=by simpa using h1
  unfold stepA
  rw [hgN]
  simp only [guardA,h2,Bool.not_true,cond_false]
  refine ⟨λ _=>.inl (stepG_of h3 ?_),λ h=>by cases h⟩
  obtain ⟨ob,e1,hob⟩:=ho
  simp only [hx,e1]
  refine ⟨gobA_of h4,λ _=>hob,?_⟩
  rw [hgN]
  simp only [Option.isSome_none,Bool.and_false,Bool.false_or,h5,cond_false]
  exact hk
 ·cases hn
def impAll (g:Bool):List Bool->Prop
 | []=>True
 | b::r=>(g=true->b=true)∧impAll g r
theorem impZ {g:Bool}:impAll g []:=trivial
theorem impK {g b:Bool} {r:List Bool} (h:g=true->b=true) (hr:impAll g r):impAll g (b::r):=⟨h,hr⟩
def gvs:List AV->List Bool
 | []=>[]
 | .gv g _::r=>g::gvs r
 | _::r=>gvs r
theorem gobA_imp {g:Bool}:∀ {l:List AV},impAll g (gvs l)->gobA g l:=by
 intro l
 induction l with
 | nil=>intro _;trivial
 | cons v l ih=>
  intro h
  cases v<;>first|exact ih h|exact ⟨h.1,ih h.2⟩
def gAt (c:Code) (i:Nat) (s:St):Option Bool:=
 match (opsIn c)[i]? with
 | some o=>match o.guard with
  | some x=>guardA (opsIn c) s.env (some x)
  | none=>none
 | none=>none
def gvsAt (c:Code) (i:Nat) (s:St):List Bool:=
 match (opsIn c)[i]? with
 | some o=>gvs (o.op.operands.toList.map (evalA s.env))
 | none=>[]
def nextG (Γ:Cx) (c:Code) (i:Nat) (g:Bool) (v:AV) (obs:List Ob) (s:St):Option St:=
 match (opsIn c)[i]? with
 | some o=>bif o.guard.isSome&&dstOk Γ.nt o.dst&&!isPC o.op&&(memOp o.op||obs.isEmpty) then some ⟨putA o.dst true g v s.env,s.objs++obs.map some⟩ else none
 | none=>none
theorem specG {g:Bool} {v:AV} {obs:List Ob} {x:Option Eff} {gs:List Bool} (j:Nat) (hg:gAt (nav p C) i s=some g) (hx:opOf Γ (nav p C) i s=x) (ho:g=true->OpIs x v obs [] none) (hgs:gvsAt (nav p C) i s=gs) (hi:impAll g gs) (hn:nextG Γ (nav p C) i g v obs s=some s') (hj:i+1=j) (hk:runFrom Γ C p j K s'):runFrom Γ C p i K s:=by
 subst hj
 unfold runFrom at hk ⊢
 unfold opOf at hx
 unfold nextG at hn
 unfold gAt at hg
 unfold gvsAt at hgs
 split at hn
 ·rename_i o hii
  rw [hii] at hx hg hgs
  simp only at hx hg hgs
  obtain ⟨hc,hn⟩:=bif_some hn
  simp only [Bool.and_eq_true,Bool.not_eq_true'] at hc
  obtain ⟨⟨⟨h1,h2⟩,h3⟩,h4⟩:=hc
  cases hn
  rw [drop_cons hii]
  show stepA _ _ _ _ _ _
  unfold stepA
  cases hgo:o.guard with
  | none=>rw [hgo] at h1;cases h1
  | some y=>
   rw [hgo] at hg
   simp only at hg
   simp only [hg,h2,Bool.not_true,cond_false]
   refine ⟨λ hgt=>.inl (stepG_of h3 ?_),λ hgf=>⟨v,obs,λ hm=>?_,?_⟩⟩
   ·obtain ⟨ob,e1,hob⟩:=ho hgt
    simp only [hx,e1]
    refine ⟨gobA_imp (by rw [hgs];exact hi),λ _=>hob,?_⟩
    simp only [Option.isSome_none,Bool.false_and,List.isEmpty_nil,Bool.not_true,Bool.or_self,cond_false,hgo]
    exact hk
   ·rw [hm,Bool.false_or] at h4
    exact isEmpty_nil h4
   ·subst hgf;exact hk
 ·cases hn
def pickOf (c:Code) (i:Nat) (s:St):Option Eff:=
 match (opsIn c)[i]? with
 | some o=>match o.op with
  | .pick x y z=>pickA (evalA s.env x) (evalA s.env y) (evalA s.env z)
  | _=>none
 | none=>none
def nextP (Γ:Cx) (c:Code) (i:Nat) (v:AV) (s:St):Option St:=
 match (opsIn c)[i]? with
 | some o=>bif o.guard.isNone&&dstOk Γ.nt o.dst then some ⟨putA o.dst false true v s.env,s.objs⟩ else none
 | none=>none
def nextPG (Γ:Cx) (c:Code) (i:Nat) (g:Bool) (v:AV) (s:St):Option St:=
 match (opsIn c)[i]? with
 | some o=>bif o.guard.isSome&&dstOk Γ.nt o.dst then some ⟨putA o.dst true g v s.env,s.objs⟩ else none
 | none=>none
theorem specP {v:AV} {x:Option Eff} (j:Nat) (hx:pickOf (nav p C) i s=x) (ho:OpIs x v [] [] none) (hn:nextP Γ (nav p C) i v s=some s') (hj:i+1=j) (hk:runFrom Γ C p j K s'):runFrom Γ C p i K s:=by
 subst hj
 unfold runFrom at hk ⊢
 unfold pickOf at hx
 unfold nextP at hn
 split at hn
 ·rename_i o hi
  rw [hi] at hx
  simp only at hx
  obtain ⟨hc,hn⟩:=bif_some hn
  simp only [Bool.and_eq_true] at hc
  obtain ⟨h1,h2⟩:=hc
  cases hn
  obtain ⟨ob,e1,hob⟩:=ho
  rw [drop_cons hi]
  show stepA _ _ _ _ _ _
  have hgN:o.guard=none:=by simpa using h1
  split at hx
  ·rename_i a b c hop
   unfold stepA
   rw [hgN]
   simp only [guardA,h2,Bool.not_true,cond_false]
   refine ⟨λ _=>.inl ?_,λ h=>by cases h⟩
   unfold stepG
   rw [hop]
   have:opA Γ.ty (evalA s.env) s.objs (.pick a b c)=some ⟨v,[],[],none,ob⟩:=by rw [← e1,← hx];rfl
   simp only [this]
   refine ⟨λ _=>hob,?_⟩
   rw [hgN]
   simpa [effA,rmA,updA] using hk
  ·rw [← hx] at e1;cases e1
 ·cases hn
theorem specPG {g:Bool} {v:AV} {x:Option Eff} (j:Nat) (hg:gAt (nav p C) i s=some g) (hx:pickOf (nav p C) i s=x) (ho:g=true->OpIs x v [] [] none) (hn:nextPG Γ (nav p C) i g v s=some s') (hj:i+1=j) (hk:runFrom Γ C p j K s'):runFrom Γ C p i K s:=by
 subst hj
 unfold runFrom at hk ⊢
 unfold pickOf at hx
 unfold gAt at hg
 unfold nextPG at hn
 split at hn
 ·rename_i o hi
  rw [hi] at hx hg
  simp only at hx hg
  obtain ⟨hc,hn⟩:=bif_some hn
  simp only [Bool.and_eq_true] at hc
  obtain ⟨h1,h2⟩:=hc
  cases hn
  rw [drop_cons hi]
  show stepA _ _ _ _ _ _
  cases hgo:o.guard with
  | none=>rw [hgo] at h1;cases h1
  | some y=>
   rw [hgo] at hg
   simp only at hg
   unfold stepA
   rw [hgo]
   simp only [hg,h2,Bool.not_true,cond_false]
   refine ⟨λ hgt=>.inl ?_,λ hgf=>⟨v,[],λ _=>rfl,?_⟩⟩
   ·obtain ⟨ob,e1,hob⟩:=ho hgt
    split at hx
    ·rename_i a b c hop
     unfold stepG
     rw [hop]
     have:opA Γ.ty (evalA s.env) s.objs (.pick a b c)=some ⟨v,[],[],none,ob⟩:=by rw [← e1,← hx];rfl
     simp only [this]
     refine ⟨λ _=>hob,?_⟩
     rw [hgo]
     simpa [effA,rmA,updA] using hk
    ·rw [← hx] at e1;cases e1
   ·subst hgf;simpa using hk
 ·cases hn
end Go.AI
end
section
namespace Go.AI
def leAll:List (Nat×Nat)->Prop
 | []=>True
 | (a,b)::r=>a≤b∧leAll r
theorem leZ:leAll []:=trivial
theorem leK {a b:Nat} {r:List (Nat×Nat)} (h:a≤b) (hr:leAll r):leAll ((a,b)::r):=⟨h,hr⟩
theorem leAll_append {l m:List (Nat×Nat)} (h:leAll (l++m)):leAll l∧leAll m:=by
 induction l with
 | nil=>exact ⟨trivial,h⟩
 | cons a l ih=>exact ⟨⟨h.1,(ih h.2).1⟩,(ih h.2).2⟩
def xD (objs:List (Option Ob)):AV->Option (D×List Nat×List (Nat×Nat))
 | .d .nil=>some (.sl [],[],[])
 | .d x=>some (x,[],[])
 | .osl k sz lo n=>match obA objs k with
  | some (.arr sz' es)=>bif Nat.beq sz sz' then some (.sl ((es.drop lo).take n),[k],[(lo+n,es.length)]) else none
  | _=>none
 | _=>none
def xDs (objs:List (Option Ob)):List AV->Option (List D×List Nat×List (Nat×Nat))
 | []=>some ([],[],[])
 | v::vs=>match xD objs v,xDs objs vs with
  | some (x,k,o),some (xs,ks,os)=>some (x::xs,k++ks,o++os)
  | _,_=>none
def xA (objs:List (Option Ob)):AV->Option (AV×List Nat×List (Nat×Nat))
 | .agg l=>match xDs objs l with
  | some (x,k,o)=>some (.agg (x.map .d),k,o)
  | none=>none
 | .ptr k off=>match obA objs k with
  | some (.box cells)=>match xDs objs cells with
   | some (x,ks,o)=>bif ks.contains k then none else some (.dptr x off,k::ks,o)
   | none=>none
  | _=>none
 | .eptr k sz i off=>match obA objs k with
  | some (.arr sz' es)=>bif Nat.beq sz sz' then some (.dptr (es[i]?.getD []) off,[k],[(i+1,es.length)]) else none
  | some (.narr sz' es)=>bif Nat.beq sz sz' then some (.dptr ((es[i]?.getD []).map ofN) off,[k],[(i+1,es.length),(cntN es,0)]) else none
  | _=>none
 | .dptr e off=>some (.dptr e off,[],[])
 | .osl k sz lo n=>match obA objs k with
  | some (.narr sz' es)=>bif Nat.beq sz sz' then some (.d (.sl (((es.drop lo).take n).map λ e=>e.map ofN)),[k],[(lo+n,es.length),(cntN es,0)]) else none
  | _=>match xD objs (.osl k sz lo n) with
   | some (x,k,o)=>some (.d x,k,o)
   | none=>none
 | v=>match xD objs v with
  | some (x,k,o)=>some (.d x,k,o)
  | none=>none
def xAs (objs:List (Option Ob)):List AV->Option (List AV×List Nat×List (Nat×Nat))
 | []=>some ([],[],[])
 | v::vs=>match xA objs v,xAs objs vs with
  | some (x,k,o),some (xs,ks,os)=>some (x::xs,k++ks,o++os)
  | _,_=>none
theorem xD_ok {objs:List (Option Ob)} {v:AV} {x:D} {ks:List Nat} {o:List (Nat×Nat)} (h:xD objs v=some (x,ks,o)) (ho:leAll o):∃ ob,expD objs v=some ⟨x,ks,ob⟩∧ob:=by
 unfold xD at h
 split at h
 ·cases h;exact ⟨_,rfl,trivial⟩
 ·rename_i y hy
  cases h
  refine ⟨True,?_,trivial⟩
  unfold expD
  split
  ·rename_i e;cases e;exact absurd rfl hy
  ·rename_i e;cases e;rfl
  ·rename_i e;cases e
  ·rename_i e1 _;exact absurd rfl (e1 _)
 ·rename_i k sz lo n
  split at h
  ·rename_i sz' es hob
   obtain ⟨hb,h⟩:=bif_some h
   cases h
   refine ⟨_,?_,ho.1⟩
   simp only [expD,hob,hb,cond_true]
  ·cases h
 ·cases h
theorem xDs_ok {objs:List (Option Ob)}:∀ {l:List AV} {x:List D} {ks:List Nat} {o:List (Nat×Nat)},xDs objs l=some (x,ks,o)->leAll o->∃ ob,expDs objs l=some ⟨x,ks,ob⟩∧ob:=by
 intro l
 induction l with
 | nil=>intro x ks o h _;cases h;exact ⟨_,rfl,trivial⟩
 | cons v l ih=>
  intro x ks o h ho
  simp only [xDs] at h
  split at h
  ·rename_i a b c a' b' c' h1 h2
   cases h
   obtain ⟨o1,o2⟩:=leAll_append ho
   obtain ⟨p1,e1,q1⟩:=xD_ok h1 o1
   obtain ⟨p2,e2,q2⟩:=ih h2 o2
   exact ⟨p1∧p2,by simp only [expDs,e1,e2],q1,q2⟩
  ·cases h
theorem xA_ok {objs:List (Option Ob)} {v x:AV} {ks:List Nat} {o:List (Nat×Nat)} (h:xA objs v=some (x,ks,o)) (ho:leAll o):∃ ob,expA objs v=some ⟨x,ks,ob⟩∧ob:=by
 unfold xA at h
 split at h
 ·split at h
  ·rename_i h1
   cases h
   obtain ⟨p1,e1,q1⟩:=xDs_ok h1 ho
   exact ⟨_,by simp only [expA,e1],q1⟩
  ·cases h
 ·rename_i k off
  split at h
  ·rename_i cells hk
   split at h
   ·rename_i x ks' o' h1
    cases hc:ks'.contains k with
    | true=>rw [hc] at h;cases h
    | false=>
     rw [hc,cond_false] at h
     cases h
     obtain ⟨p1,e1,q1⟩:=xDs_ok h1 ho
     refine ⟨k ∉ ks'∧p1,by simp only [expA,hk,e1],?_,q1⟩
     intro hm
     rw [List.contains_iff_mem.2 hm] at hc
     cases hc
   ·cases h
  ·cases h
 ·rename_i k sz i off
  split at h
  ·rename_i sz' es hk
   obtain ⟨hb,h⟩:=bif_some h
   cases h
   exact ⟨sz=sz'∧i<es.length,by simp only [expA,hk],Nat.eq_of_beq_eq_true hb,ho.1⟩
  ·rename_i sz' es hk
   obtain ⟨hb,h⟩:=bif_some h
   cases h
   exact ⟨sz=sz'∧i<es.length∧cntN es=0,by simp only [expA,hk],Nat.eq_of_beq_eq_true hb,ho.1,Nat.le_zero.1 ho.2.1⟩
  ·cases h
 ·cases h;exact ⟨_,rfl,trivial⟩
 ·rename_i k sz lo n
  split at h
  ·rename_i sz' es hk
   obtain ⟨hb,h⟩:=bif_some h
   cases h
   exact ⟨lo+n≤es.length∧cntN es=0,by simp only [expA,hk,hb,cond_true],ho.1,Nat.le_zero.1 ho.2.1⟩
  ·rename_i hne
   split at h
   ·rename_i h1
    cases h
    obtain ⟨p1,e1,q1⟩:=xD_ok h1 ho
    exact ⟨p1,by simp only [expA,e1],q1⟩
   ·cases h
 ·rename_i hn1 hn2 hn3 hn4 hn5
  split at h
  ·rename_i h1
   cases h
   obtain ⟨p1,e1,q1⟩:=xD_ok h1 ho
   refine ⟨p1,?_,q1⟩
   unfold expA
   split
   ·exact absurd rfl (hn1 _)
   ·exact absurd rfl (hn2 _ _)
   ·exact absurd rfl (hn3 _ _ _ _)
   ·exact absurd rfl (hn4 _ _)
   ·exact absurd rfl (hn5 _ _ _ _)
   ·rw [e1]
  ·cases h
theorem xAs_ok {objs:List (Option Ob)}:∀ {l:List AV} {x:List AV} {ks:List Nat} {o:List (Nat×Nat)},xAs objs l=some (x,ks,o)->leAll o->∃ ob,expAs objs l=some ⟨x,ks,ob⟩∧ob:=by
 intro l
 induction l with
 | nil=>intro x ks o h _;cases h;exact ⟨_,rfl,trivial⟩
 | cons v l ih=>
  intro x ks o h ho
  simp only [xAs] at h
  split at h
  ·rename_i a b c a' b' c' h1 h2
   cases h
   obtain ⟨o1,o2⟩:=leAll_append ho
   obtain ⟨p1,e1,q1⟩:=xA_ok h1 o1
   obtain ⟨p2,e2,q2⟩:=ih h2 o2
   exact ⟨p1∧p2,by simp only [expAs,e1,e2],q1,q2⟩
  ·cases h
def callAt (c:Code) (i:Nat) (s:St):Option (FuncId×List AV×List Nat×List (Nat×Nat)):=
 match (opsIn c)[i]? with
 | some o=>match o.op with
  | .call ⟨.value (.func f),args,_⟩=>match xAs s.objs (args.toList.map λ x=>unG (evalA s.env x)) with
   | some (x,ks,os)=>some (f,x,ks,os)
   | none=>none
  | _=>none
 | none=>none
def lensC:List AV->List Nat
 | []=>[]
 | .own _ es::r=>es.length::lensC r
 | _::r=>lensC r
def lensA:AV->List Nat
 | .own _ es=>[es.length]
 | .agg l=>lensC l
 | _=>[]
def lensT:List AV->List Nat
 | []=>[]
 | v::r=>lensA v++lensT r
def lensR:AV->List Nat
 | .tup l=>lensT l
 | v=>lensA v
def ilC (m:Bool) (n:Nat):List Nat->List AV->List AV×List Nat
 | ls,[]=>([],ls)
 | ls,.own sz es::r=>bif m then (.osl n sz 0 (ls.headD 0)::(ilC m (n+1) ls.tail r).1,(ilC m (n+1) ls.tail r).2) else (.d (.sl es)::(ilC m n ls.tail r).1,(ilC m n ls.tail r).2)
 | ls,.d x::r=>(.d x::(ilC m n ls r).1,(ilC m n ls r).2)
 | ls,_::r=>(.top::(ilC m n ls r).1,(ilC m n ls r).2)
def ilA (m:Bool) (n:Nat) (ls:List Nat):AV->AV×List Nat
 | .own sz es=>bif m then (.osl n sz 0 (ls.headD 0),ls.tail) else (.d (.sl es),ls.tail)
 | .agg l=>(.agg (ilC m n ls l).1,(ilC m n ls l).2)
 | .d x=>(.d x,ls)
 | _=>(.top,ls)
def ilT (m:Bool) (n:Nat):List Nat->List AV->List AV
 | _,[]=>[]
 | ls,v::r=>(ilA m n ls v).1::ilT m (n+(impA m n v).2.length) (ilA m n ls v).2 r
def ilR (m:Bool) (n:Nat) (ls:List Nat):AV->AV
 | .tup l=>.tup (ilT m n ls l)
 | v=>(ilA m n ls v).1
theorem ilC_ok (m:Bool):∀ (l:List AV) (n:Nat) (rest:List Nat),ilC m n (lensC l++rest) l=((impC m n l).1,rest):=by
 intro l
 induction l with
 | nil=>intro n rest;rfl
 | cons v l ih=>
  intro n rest
  cases v<;>simp only [lensC,List.cons_append,ilC,impC,List.headD_cons,List.tail_cons,ih]<;>try rfl
  cases m<;>simp only [cond_true,cond_false]
theorem ilA_ok (m:Bool) (v:AV) (n:Nat) (rest:List Nat):ilA m n (lensA v++rest) v=((impA m n v).1,rest):=by
 cases v with
 | own sz es=>cases m<;>rfl
 | agg l=>simp only [lensA,ilA,impA,ilC_ok]
 | _=>rfl
theorem ilT_ok (m:Bool):∀ (l:List AV) (n:Nat),ilT m n (lensT l) l=(impT m n l).1:=by
 intro l
 induction l with
 | nil=>intro n;rfl
 | cons v l ih=>intro n;simp only [lensT,ilT,impT,ilA_ok,ih]
theorem ilR_ok (m:Bool) (n:Nat) (r:AV) {ls:List Nat} (h:lensR r=ls):ilR m n ls r=(impR m n r).1:=by
 subst h
 cases r with
 | tup l=>simp only [lensR,ilR,impR,ilT_ok]
 | own sz es=>have:=ilA_ok m (.own sz es) n [];simp only [List.append_nil] at this;simp only [lensR,ilR,impR,this]
 | agg l=>have:=ilA_ok m (.agg l) n [];simp only [List.append_nil] at this;simp only [lensR,ilR,impR,this]
 | _=>rfl
def nextC (Γ:Cx) (c:Code) (i:Nat) (m:Bool) (ls:List Nat) (r:AV) (s:St):Option St:=
 match (opsIn c)[i]? with
 | some o=>bif o.guard.isNone&&dstOk Γ.nt o.dst&&(o.op.operands.toList.map (evalA s.env)).all notGv then some ⟨putA o.dst false true (ilR m s.objs.length ls r) s.env,s.objs++(impR m s.objs.length r).2.map some⟩ else none
 | none=>none
def nextCG (Γ:Cx) (c:Code) (i:Nat) (g m:Bool) (ls:List Nat) (r:AV) (s:St):Option St:=
 match (opsIn c)[i]? with
 | some o=>bif o.guard.isSome&&dstOk Γ.nt o.dst then some ⟨putA o.dst true g (ilR m s.objs.length ls r) s.env,s.objs++(impR m s.objs.length r).2.map some⟩ else none
 | none=>none
variable {Γ:Cx} {C:Code} {p p0 p1:List Nat} {Q:Ex->St->Prop} {s s':St} {K:St->Prop} {i:Nat} {nk:Nat}
theorem args_gv {o:Oper} {f:FuncId} {args:Array Operand} {ts:Array TypeId} (hop:o.op=.call ⟨.value (.func f),args,ts⟩) {env:List (Nat×AV)} (h:(o.op.operands.toList.map (evalA env)).all notGv=true):(args.toList.map (evalA env)).all notGv=true:=by
 rw [hop] at h
 simp only [Op.operands,Call.operands] at h
 simp only [Array.toList_append,List.map_append,List.all_append,Bool.and_eq_true] at h
 exact h.2
theorem callS (j:Nat) (m:Bool) {f:FuncId} {xs ys:List AV} {ks:List Nat} {obl:List (Nat×Nat)} {r:AV} (hc:callAt (nav p C) i s=some (f,xs,ks,obl)) (hob:leAll obl) (hxs:xs=ys) (hr:Γ.calls f ys r) (hf:ks=[]∨flatR r) {ls:List Nat} (hls:lensR r=ls) (hn:nextC Γ (nav p C) i m ls r s=some s') (hj:i+1=j) (hk:runFrom Γ C p j K s'):runFrom Γ C p i K s:=by
 subst hj
 subst hxs
 unfold runFrom at hk ⊢
 unfold callAt at hc
 unfold nextC at hn
 rw [ilR_ok m _ r hls] at hn
 split at hn
 ·rename_i o hi
  rw [hi] at hc
  simp only at hc
  obtain ⟨hcc,hn⟩:=bif_some hn
  simp only [Bool.and_eq_true] at hcc
  obtain ⟨⟨h1,h2⟩,h3⟩:=hcc
  cases hn
  rw [drop_cons hi]
  show stepA _ _ _ _ _ _
  have hgN:o.guard=none:=by simpa using h1
  split at hc
  ·rename_i f' args ts hop
   split at hc
   ·rename_i x ks' os hx
    cases hc
    obtain ⟨ob,e1,q1⟩:=xAs_ok hx hob
    unfold stepA
    rw [hgN]
    simp only [guardA,h2,Bool.not_true,cond_false]
    refine ⟨λ _=>.inl ?_,λ h=>by cases h⟩
    unfold stepG
    rw [hop]
    refine ⟨gobA_of (args_gv hop h3),?_⟩
    unfold callA
    rw [e1]
    refine ⟨λ _=>q1,m,r,λ _=>hr,?_,?_⟩
    ·rcases hf with rfl|hf
     ·trivial
     ·cases ks.isEmpty<;>first|trivial|exact hf
    ·rw [hgN];exact hk
   ·cases hc
  ·cases hc
 ·cases hn
theorem callG {g:Bool} {gs:List Bool} (j:Nat) (m:Bool) {f:FuncId} {xs ys:List AV} {ks:List Nat} {obl:List (Nat×Nat)} {r:AV} (hg:gAt (nav p C) i s=some g) (hc:callAt (nav p C) i s=some (f,xs,ks,obl)) (hob:leAll obl) (hxs:xs=ys) (hr:g=true->Γ.calls f ys r) (hf:ks=[]∨flatR r) (hgs:gvsAt (nav p C) i s=gs) (hi:impAll g gs) {ls:List Nat} (hls:lensR r=ls) (hn:nextCG Γ (nav p C) i g m ls r s=some s') (hj:i+1=j) (hk:runFrom Γ C p j K s'):runFrom Γ C p i K s:=by
 subst hj
 subst hxs
 unfold runFrom at hk ⊢
 unfold callAt at hc
 unfold gAt at hg
 unfold gvsAt at hgs
 unfold nextCG at hn
 rw [ilR_ok m _ r hls] at hn
 split at hn
 ·rename_i o hii
  rw [hii] at hc hg hgs
  simp only at hc hg hgs
  obtain ⟨hcc,hn⟩:=bif_some hn
  simp only [Bool.and_eq_true] at hcc
  obtain ⟨h1,h2⟩:=hcc
  cases hn
  rw [drop_cons hii]
  show stepA _ _ _ _ _ _
  cases hgo:o.guard with
  | none=>rw [hgo] at h1;cases h1
  | some y=>
   rw [hgo] at hg
   simp only at hg
   split at hc
   ·rename_i f' args ts hop
    split at hc
    ·rename_i x ks' os hx
     cases hc
     obtain ⟨ob,e1,q1⟩:=xAs_ok hx hob
     unfold stepA
     rw [hgo]
     simp only [hg,h2,Bool.not_true,cond_false]
     refine ⟨λ hgt=>.inl ?_,λ hgf=>⟨(impR m s.objs.length r).1,(impR m s.objs.length r).2,(λ hm=>by rw [hop] at hm;cases hm),?_⟩⟩
     ·unfold stepG
      rw [hop]
      refine ⟨?_,?_⟩
      ·have:=gobA_imp (g:=g) (l:=o.op.operands.toList.map (evalA s.env)) (by rw [hgs];exact hi)
       rw [hop] at this
       simp only [Op.operands,Call.operands,Array.toList_append,List.map_append] at this
       exact this
      ·unfold callA
       rw [e1]
       refine ⟨λ _=>q1,m,r,hr,?_,?_⟩
       ·rcases hf with rfl|hf
        ·trivial
        ·cases ks.isEmpty<;>first|trivial|exact hf
       ·rw [hgo];exact hk
     ·subst hgf;exact hk
    ·cases hc
   ·cases hc
 ·cases hn
def resB1 (ty:Nat->Ty) (s:St):ResultVar->Option AV
 | .tmp t=>some (lkA s.env t)
 | .cell a t=>match lkA s.env a with
  | .ptr k off=>match obA s.objs k with
   | some (.box cells)=>bif (ty t).ok&&Nat.ble (off+(ty t).size) cells.length then ldCells cells off (ty t) else none
   | _=>none
  | _=>none
def resB (ty:Nat->Ty) (s:St):List ResultVar->Option (List AV)
 | []=>some []
 | r::rs=>match resB1 ty s r,resB ty s rs with
  | some v,some vs=>some (v::vs)
  | _,_=>none
theorem resB1_ok {ty:Nat->Ty} {r:ResultVar} {v:AV} (h:resB1 ty s r=some v):∃ q,resV ty s r=some (v,q)∧q:=by
 cases r with
 | tmp t=>cases h;exact ⟨_,rfl,trivial⟩
 | cell a t=>
  simp only [resB1] at h
  split at h
  ·rename_i k off ha
   split at h
   ·rename_i cells hc
    obtain ⟨hb,h⟩:=bif_some h
    simp only [Bool.and_eq_true] at hb
    refine ⟨_,?_,Nat.le_of_ble_eq_true hb.2⟩
    simp only [resV,hb.1,cond_true,ha,loadA,hc,h,valOb]
   ·cases h
  ·cases h
theorem resB_ok {ty:Nat->Ty}:∀ {rs:List ResultVar} {vs:List AV},resB ty s rs=some vs->∃ q,resVs ty s rs=some (vs,q)∧q:=by
 intro rs
 induction rs with
 | nil=>intro vs h;cases h;exact ⟨_,rfl,trivial⟩
 | cons r rs ih=>
  intro vs h
  simp only [resB] at h
  split at h
  ·rename_i v vs' h1 h2
   cases h
   obtain ⟨p1,e1,q1⟩:=resB1_ok h1
   obtain ⟨p2,e2,q2⟩:=ih h2
   exact ⟨p1∧p2,by simp only [resVs,e1,e2],q1,q2⟩
  ·cases h
theorem ret1 {ty:Nat->Ty} {rs:List ResultVar} {v r:AV} (ks:List Nat) (h:resB ty s rs=some [v]) (ho:outA s.objs v r) (hks:ksE (entA v r)=ks) (hnd:ks.Nodup):retA ty rs r s:=by
 have hn:(ksE (entA v r)).Nodup:=by rw [hks];exact hnd
 obtain ⟨q,e,hq⟩:=resB_ok h
 unfold retA
 rw [e]
 exact ⟨hq,ho,hn⟩
theorem retT {ty:Nat->Ty} {rs:List ResultVar} {vs l:List AV} (h:resB ty s rs=some vs) (hl:Nat.beq vs.length 1=false) (ho:outT s.objs vs l) (ks:List Nat) (hks:ksE (entT vs l)=ks) (hnd:ks.Nodup):retA ty rs (.tup l) s:=by
 have hn:(ksE (entT vs l)).Nodup:=by rw [hks];exact hnd
 obtain ⟨q,e,hq⟩:=resB_ok h
 unfold retA
 rw [e]
 split
 ·rename_i heq
  simp only [Option.some.injEq,Prod.mk.injEq] at heq
  obtain ⟨rfl,_⟩:=heq
  cases hl
 ·rename_i heq
  simp only [Option.some.injEq,Prod.mk.injEq] at heq
  obtain ⟨rfl,rfl⟩:=heq
  exact ⟨hq,ho,hn⟩
 ·rename_i heq;cases heq
theorem outV_d {objs:List (Option Ob)} {x:D}:outV objs (.d x) (.d x):=by
 cases x<;>first|rfl|exact .inl rfl
theorem outV_nilO {objs:List (Option Ob)} {sz:Nat}:outV objs (.d .nil) (.own sz []):=rfl
theorem outV_own {α:Type} {enc:α->List D} {xs:List α} {objs:List (Option Ob)} {k sz:Nat} (h:obA objs k=some (.arr sz (xs.map enc))):outV objs (.osl k sz 0 xs.length) (.own sz (xs.map enc)):=by
 have hb:Nat.beq sz sz=true:=Nat.beq_refl sz
 simp only [outV,h,hb,cond_true,List.length_map,Nat.zero_add,Nat.le_refl,List.drop_zero,true_and]
 exact (List.take_of_length_le (by simp)).symm
def lentAt (c:Code) (i:Nat) (s:St):Option (FuncId×List AV×List Nat):=
 match (opsIn c)[i]? with
 | some o=>match o.op with
  | .call ⟨.value (.func f),args,_⟩=>some (f,args.toList.map λ x=>unG (evalA s.env x),orderA s.objs (args.toList.map λ x=>unG (evalA s.env x)))
  | _=>none
 | none=>none
def nextL (Γ:Cx) (c:Code) (i:Nat) (ord:List Nat) (nb:Nat) (r:AV) (O1:List (Option Ob)) (s:St):Option St:=
 match (opsIn c)[i]? with
 | some o=>bif !drIn c&&o.guard.isNone&&dstOk Γ.nt o.dst&&(o.op.operands.toList.map (evalA s.env)).all notGv&&Nat.ble nb ord.length&&Nat.ble nb O1.length&&ord.all (λ k=>Nat.blt k s.objs.length) then
   some ⟨putA o.dst false true (mapR (backN ord s.objs.length nb) r) s.env,backO s.objs ord nb O1⟩ else none
 | none=>none
theorem lentS {f:FuncId} {xs ys:List AV} {ord:List Nat} {O0 O1:List (Option Ob)} {nb:Nat} {r:AV} (hc:lentAt (nav p C) i s=some (f,xs,ord)) (hxs:xs.map (renV ord)=ys) (hO:lendO s.objs ord=O0) (hr:Γ.lent f ys O0 nb r O1) (hn:nextL Γ (nav p C) i ord nb r O1 s=some s') (hk:runFrom Γ C p (i+1) K s'):runFrom Γ C p i K s:=by
 subst hxs
 subst hO
 unfold runFrom at hk ⊢
 unfold lentAt at hc
 unfold nextL at hn
 split at hn
 ·rename_i o hi
  rw [hi] at hc
  simp only at hc
  obtain ⟨hcc,hn⟩:=bif_some hn
  simp only [Bool.and_eq_true,Bool.not_eq_true'] at hcc
  obtain ⟨⟨⟨⟨⟨⟨h0,h1⟩,h2⟩,h3⟩,h4⟩,h5⟩,h6⟩:=hcc
  cases hn
  rw [drop_cons hi]
  show stepA _ _ _ _ _ _
  have hgN:o.guard=none:=by simpa using h1
  split at hc
  ·rename_i f' args ts hop
   cases hc
   unfold stepA
   rw [hgN]
   simp only [guardA,h2,Bool.not_true,cond_false]
   refine ⟨λ _=>.inr (.inr ?_),λ h=>by cases h⟩
   unfold stepK
   refine ⟨h0,.inr ⟨hgN,.inr ?_⟩⟩
   rw [hop]
   refine ⟨gobA_of (args_gv hop h3),nb,r,O1,hr,Nat.le_of_ble_eq_true h4,Nat.le_of_ble_eq_true h5,λ k hk=>?_,hk⟩
   have:=List.all_eq_true.1 h6 k hk
   have:=Nat.le_of_ble_eq_true this
   omega
  ·cases hc
 ·cases hn
theorem fn_ok {P:Program} (hfol:P.follows .mixedOrders=true) (hΓ:CxOK P Γ) {f:FuncId} {fn:Func} {args:List AV} {r:AV} (hf:P.funcs[f]? = some fn) (hb:fn.body=some (bodyOf fn)) (hnm:(fn.name == "runtime.NumGoroutine")=false)
  (hnt:Γ.nt.n=fn.ntmps) (hlen:Nat.ble args.length fn.ntmps=true) (hs:(⟨(List.range args.length).zip args,[]⟩:St)=s) (h:wpA Γ (nav [] (bodyOf fn)) (postA Γ.ty fn.results.toList r) s):CallOK P f args r:=
 callOK_of hfol hΓ hf hb hnm hnt (Nat.le_of_ble_eq_true hlen) (by rw [hs];exact h)
theorem fn_lent {P:Program} (hfol:P.follows .mixedOrders=true) (hΓ:CxOK P Γ) {f:FuncId} {fn:Func} {args:List AV} {objs objs1:List (Option Ob)} {nb:Nat} {r:AV} (hf:P.funcs[f]? = some fn) (hb:fn.body=some (bodyOf fn)) (hnm:(fn.name == "runtime.NumGoroutine")=false)
  (hnt:Γ.nt=⟨fn.ntmps,[],nb⟩) (hlen:Nat.ble args.length fn.ntmps=true)
  (hs:(⟨(List.range args.length).zip args,objs⟩:St)=s) (h:wpA Γ (nav [] (bodyOf fn)) (postL nb Γ.ty fn.results.toList r objs1) s):LentOK P f args objs nb r objs1:=
 lentOK_of hfol hΓ hf hb hnm hnt (Nat.le_of_ble_eq_true hlen) (by rw [hs];exact h)
theorem sh_gc (ts:List Nat) (h:gcA nk ts s=s'):Shift nk s s':=by subst h;exact .gc ts
theorem sh_refl:Shift nk s s:=.refl s
def boxAt (s:St) (k:Nat):List AV:=
 match obA s.objs k with
 | some (.box cells)=>cells
 | _=>[]
def isBox (s:St) (k:Nat):Bool:=
 match obA s.objs k with
 | some (.box _)=>true
 | _=>false
theorem boxAt_ok {k:Nat} (h:isBox s k=true):obA s.objs k=some (.box (boxAt s k)):=by
 unfold isBox at h
 unfold boxAt
 split at h
 ·rename_i hh;rw [hh]
 ·cases h
theorem sh_nilc (k i sz:Nat) (h:(isBox s k,(boxAt s k)[i]?)=(true,some (.d .nil))):Shift nk s ⟨s.env,s.objs.set k (some (.box ((boxAt s k).set i (.osl s.objs.length sz 0 0))))++[some (.arr sz [])]⟩:=by
 simp only [Prod.mk.injEq] at h
 exact .nilc k i sz _ (boxAt_ok h.1) h.2
def arrOf (s:St):AV->Option (Nat×Nat×Nat×Nat×List (List D))
 | .osl k sz lo n=>match obA s.objs k with
  | some (.arr sz' es)=>bif Nat.beq sz sz' then some (k,sz,lo,n,es) else none
  | _=>none
 | _=>none
theorem arrOf_ok {v:AV} {k sz lo n:Nat} {es:List (List D)} (h:arrOf s v=some (k,sz,lo,n,es)):v=.osl k sz lo n∧obA s.objs k=some (.arr sz es):=by
 unfold arrOf at h
 split at h
 ·split at h
  ·rename_i hob
   obtain ⟨hb,h1⟩:=bif_some h
   clear h
   have h:=h1
   have:=Nat.eq_of_beq_eq_true hb
   subst this
   simp only [Option.some.injEq,Prod.mk.injEq] at h
   obtain ⟨rfl,rfl,rfl,rfl,rfl⟩:=h
   exact ⟨rfl,hob⟩
  ·cases h
 ·cases h
theorem sh_frz (t:Nat) (E:List (List D)) {k sz lo n:Nat} {es:List (List D)} (h:arrOf s (lkA s.env t)=some (k,sz,lo,n,es)) (hE:(es.drop lo).take n=E) (hn:lo+n≤es.length):Shift nk s ⟨(t,.d (.sl E))::s.env,s.objs.set k none⟩:=by
 subst hE
 obtain ⟨h1,h2⟩:=arrOf_ok h
 exact .frzA t k sz lo n es h1 h2 hn
theorem sh_subc (kb i:Nat) (E:List (List D)) (M:Nat) {k sz lo n:Nat} {es:List (List D)} (h:(isBox s kb,((boxAt s kb)[i]?).bind (arrOf s))=(true,some (k,sz,lo,n,es))) (hE:(es.drop lo).take n=E) (hn:lo+n≤es.length) (hM:n=M):Shift nk s ⟨s.env,(s.objs.set k none).set kb (some (.box ((boxAt s kb).set i (.osl s.objs.length sz 0 M))))++[some (.arr sz E)]⟩:=by
 subst hE
 subst hM
 simp only [Prod.mk.injEq,Option.bind_eq_some_iff] at h
 obtain ⟨h0,v,hv,h⟩:=h
 obtain ⟨h1,h2⟩:=arrOf_ok h
 subst h1
 exact .subC kb i k sz lo n _ es (boxAt_ok h0) hv h2 hn
theorem sh_len (t k sz lo n m:Nat) (h:lkA s.env t=.osl k sz lo n) (e:n=m):Shift nk s ⟨(t,.osl k sz lo m)::s.env,s.objs⟩:=by
 subst e
 have:=Shift.dup (nk:=nk) (st:=s) t
 rwa [h] at this
theorem take_all {α:Type} {enc:α->List D} {xs:List α}:((xs.map enc).drop 0).take xs.length=xs.map enc:=by
 rw [List.drop_zero];exact List.take_of_length_le (by simp)
theorem takeE {α:Type} {enc:α->List D} {xs:List α}:AV.d (.sl (((xs.map enc).drop 0).take xs.length))=AV.d (.sl (xs.map enc)):=by rw [take_all]
theorem consE {a b:AV} {l m:List AV} (h:a=b) (h':l=m):a::l=b::m:=by rw [h,h']
theorem aggE {l m:List AV} (h:l=m):AV.agg l=AV.agg m:=by rw [h]
def freshOf (Γ:Cx) (c:Code) (i:Nat) (s:St):Option (List (List D)):=
 match (opsIn c)[i]? with
 | some o=>opF Γ.ty (λ x=>unG (evalA s.env x)) o.op
 | none=>none
def nextF (Γ:Cx) (c:Code) (i:Nat) (es:List (List D)) (s:St):Option St:=
 match (opsIn c)[i]? with
 | some o=>bif o.guard.isNone&&dstOk Γ.nt o.dst&&(o.op.operands.toList.map (evalA s.env)).all notGv then some ⟨putA o.dst false true (.d (.sl es)) s.env,s.objs⟩ else none
 | none=>none
theorem specF (j:Nat) (es:List (List D)) (hx:freshOf Γ (nav p C) i s=some es) (hn:nextF Γ (nav p C) i es s=some s') (hj:i+1=j) (hk:runFrom Γ C p j K s'):runFrom Γ C p i K s:=by
 subst hj
 unfold runFrom at hk ⊢
 unfold freshOf at hx
 unfold nextF at hn
 split at hn
 ·rename_i o hi
  rw [hi] at hx
  simp only at hx
  obtain ⟨hc,hn⟩:=bif_some hn
  simp only [Bool.and_eq_true] at hc
  obtain ⟨⟨h1,h2⟩,h3⟩:=hc
  cases hn
  rw [drop_cons hi]
  show stepA _ _ _ _ _ _
  have hgN:o.guard=none:=by simpa using h1
  unfold stepA
  rw [hgN]
  simp only [guardA,h2,Bool.not_true,cond_false]
  refine ⟨λ _=>.inr (.inl ?_),λ h=>by cases h⟩
  unfold stepF
  rw [hx]
  refine ⟨gobA_of h3,?_⟩
  rw [hgN]
  exact hk
 ·cases hn
def opPl (Γ:Cx) (c:Code) (i:Nat) (s:St):Option (AV×List Ob):=
 match (opsIn c)[i]? with
 | some o=>bif obOK Γ.ty (λ x=>unG (evalA s.env x)) s.objs o.op then (match opA Γ.ty (λ x=>unG (evalA s.env x)) s.objs o.op with
  | some ⟨v,obs,[],none,_⟩=>some (v,obs)
  | _=>none) else none
 | none=>none
theorem is_pl {v:AV} {obs:List Ob} (h:opPl Γ (nav p C) i s=some (v,obs)):OpIs (opOf Γ (nav p C) i s) v obs [] none:=by
 unfold opPl at h
 unfold opOf
 split at h
 ·rename_i o hi
  try rw [hi]
  obtain ⟨hb,h⟩:=bif_some h
  split at h
  ·rename_i he
   cases h
   exact ⟨_,he,obOK_sound hb he⟩
  ·cases h
 ·cases h
theorem gimp {α:Type} {g:Bool} {x y:Option α} {z:α} (h:(if g=true then x else y)=some z):g=true->x=some z:=λ e=>by rw [if_pos e] at h;exact h
end Go.AI
end
section
namespace Go.AI
def eI64 (n:Int):List D:=[.int .i64 n]
def eU8 (n:Int):List D:=[.int .u8 n]
def eB (b:Bool):List D:=[.bool b]
def eL {α:Type} (e:α->List D) (l:List α):List D:=[.sl (l.map e)]
variable {α κ:Type} {enc:α->List D} {objs:List (Option Ob)}
theorem OpIs.of {x:Option Eff} {v:AV} {obs:List Ob} {rm:List Nat} {upd:Option (Nat×Ob)} {ob:Prop} (h:x=some ⟨v,obs,rm,upd,ob⟩) (ho:ob):OpIs x v obs rm upd:=⟨ob,h,ho⟩
theorem map_idx {xs:List α} {i:Int} {x:α} (h:idx xs i=some x):(xs.map enc)[i.toNat]? = some (enc x):=by
 rw [List.getElem?_map,(idx_some h).2.2];rfl
theorem is_idxD {xs:List α} {i:Int} {x:α} {esz eb:Nat} {ez:List D} (h:idx xs i=some x) (hl:Nat.beq (enc x).length esz=true):OpIs (idxA (.slice esz eb ez) (.d (.sl (xs.map enc))) i) (.dptr (enc x) 0) [] [] none:=by
 obtain ⟨h0,h1,_⟩:=idx_some h
 refine .of (ob:=0≤i∧i<(xs.map enc).length∧(enc x).length=esz) ?_ ⟨h0,by simpa using h1,Nat.eq_of_beq_eq_true hl⟩
 simp only [idxA,valOb,map_idx (enc:=enc) h,Option.getD_some]
theorem is_idxO {xs:List α} {i:Int} {x:α} {esz eb k:Nat} {ez:List D} (h:idx xs i=some x):OpIs (idxA (.slice esz eb ez) (.osl k esz 0 xs.length) i) (.eptr k esz (0+i.toNat) 0) [] [] none:=by
 obtain ⟨h0,h1,_⟩:=idx_some h
 exact .of rfl ⟨h0,h1,rfl⟩
theorem is_ldA {xs:List α} {i:Int} {x:α} {k sz off:Nat} {t:Ty} {v:AV} (hk:obA objs k=some (.arr sz (xs.map enc))) (h:idx xs i=some x) (hv:ldCells ((enc x).map .d) off t=some v) (hl:Nat.ble (off+t.size) (enc x).length=true) :
  OpIs (loadA t objs (.eptr k sz (0+i.toNat) off)) v [] [] none:=by
 obtain ⟨h0,h1,_⟩:=idx_some h
 have e:=map_idx (enc:=enc) h
 refine .of (ob:=sz=sz∧0+i.toNat<(xs.map enc).length∧off+t.size≤(enc x).length) ?_ ⟨rfl,?_,Nat.le_of_ble_eq_true hl⟩
 ·simp only [loadA,hk,Nat.zero_add,e,Option.getD_some,hv,valOb]
 ·have:=getElem?_lt e;omega
theorem is_stA {xs zs:List α} {i:Int} {x y:α} {k sz off:Nat} {t:Ty} {v:AV} {r:List D} {ks:List Nat} {obl:List (Nat×Nat)} (hk:obA objs k=some (.arr sz (xs.map enc))) (h:idx xs i=some x) (hz:put xs i y=some zs) (hx:xDs objs (cellsA v)=some (r,ks,obl)) (hob:leAll obl)
  (hc:(cellsOk v&&(cellsA v).all solid&&!ks.contains k)=true) (hy:spliceD (enc x) off r=enc y) (hl:(Nat.beq r.length t.size&&Nat.ble (off+t.size) sz)=true) :
  OpIs (storeA t objs (.eptr k sz (0+i.toNat) off) v) .top [] ks (some (k,.arr sz (zs.map enc))):=by
 obtain ⟨h0,h1,_⟩:=idx_some h
 have e:=map_idx (enc:=enc) h
 obtain ⟨ob,e1,q1⟩:=xDs_ok hx hob
 simp only [Bool.and_eq_true] at hl
 have hzz:zs=xs.set i.toNat y:=by
  unfold put at hz
  split at hz
  ·cases hz;rfl
  ·cases hz
 refine .of (ob:=sz=sz∧r.length=t.size∧0+i.toNat<(xs.map enc).length∧off+t.size≤sz∧ob) ?_ ⟨rfl,Nat.eq_of_beq_eq_true hl.1,?_,Nat.le_of_ble_eq_true hl.2,q1⟩
 ·simp only [storeA,hk,e1,hc,cond_true,Nat.zero_add,e,Option.getD_some,hy,hzz,List.map_set]
 ·have:=getElem?_lt e;omega
theorem app_ob {xs ys zs:List α} {eb:Nat} (h:app eb xs ys=some zs):(xs.length+(ys.map enc).length)*eb≤70368744177664∧xs.length+(ys.map enc).length=zs.length∧zs=xs++ys:=by
 obtain ⟨h1,h2⟩:=app_some h
 subst h2
 exact ⟨by simpa using h1,by simp,rfl⟩
theorem is_app {xs ys zs:List α} {esz eb k:Nat} {E:List (List D)} {ob:Prop} (hk:obA objs k=some (.arr esz (xs.map enc))) (hE:E=ys.map enc) (hl:∀ y,(enc y).length=esz) (ho:ob) (h:app eb xs ys=some zs) :
  OpIs (appendA esz eb objs (.osl k esz 0 xs.length) E ob) (.osl objs.length esz 0 zs.length) [.arr esz (zs.map enc)] [k] none:=by
 subst hE
 obtain ⟨h1,h2,h3⟩:=app_ob (enc:=enc) h
 subst h3
 have hb:Nat.beq esz esz=true:=Nat.beq_refl esz
 refine .of (ob:=0+xs.length≤(xs.map enc).length∧(∀ e∈ys.map enc,e.length=esz)∧(xs.length+(ys.map enc).length)*eb≤70368744177664∧ob) ?_ ⟨by simp,?_,h1,ho⟩
 ·simp only [appendA,hk,hb,Bool.true_or,Bool.and_self,cond_true,List.drop_zero,h2]
  have e1:List.take xs.length (List.map enc xs)=List.map enc xs:=List.take_of_length_le (by simp)
  simp only [e1,List.map_append]
 ·intro e he
  simp only [List.mem_map] at he
  obtain ⟨y,_,rfl⟩:=he
  exact hl y
theorem is_cat {x y z:List UInt8} (h:cat x y=some z):OpIs (strA .add x y) (.d (.str z)) [] [] none:=by
 unfold cat at h
 split at h
 ·rename_i h0
  cases h
  exact .of rfl (by show ((x.length+y.length:Nat):Int)≤9223372036854775807;omega)
 ·cases h
theorem is_sidx {s:List UInt8} {i b:Int} (h:sidx s i=some b):OpIs (valOb (.d (.int .u8 (s[i.toNat]?.getD 0).toNat)) (0≤i∧i<s.length)) (.d (.int .u8 b)) [] [] none:=by
 unfold sidx at h
 split at h
 ·rename_i h0
  cases h
  exact .of rfl h0
 ·cases h
theorem is_ssub {s z:List UInt8} {l h:Int} (hz:sub s l h=some z):OpIs (valOb (.d (.str ((s.take h.toNat).drop l.toNat))) (0≤l∧l≤h∧h≤s.length)) (.d (.str z)) [] [] none:=by
 unfold sub at hz
 split at hz
 ·rename_i h0
  cases hz
  exact .of rfl h0
 ·cases hz
theorem is_sub {xs zs:List α} {l h:Int} {esz:Nat} (hz:sub xs l h=some zs) (hl:∀ y,(enc y).length=esz):OpIs (valOb (.d (.sl (((xs.map enc).take h.toNat).drop l.toNat))) (0≤l∧l≤h∧h≤(xs.map enc).length∧∀ e∈xs.map enc,e.length=esz)) (.d (.sl (zs.map enc))) [] [] none:=by
 unfold sub at hz
 split at hz
 ·rename_i h0
  cases hz
  refine .of (ob:=0≤l∧l≤h∧h≤(xs.map enc).length∧∀ e∈xs.map enc,e.length=esz) ?_ ⟨h0.1,h0.2.1,by simpa using h0.2.2,?_⟩
  ·simp only [valOb,List.map_drop,List.map_take]
  ·intro e he
   simp only [List.mem_map] at he
   obtain ⟨y,_,rfl⟩:=he
   exact hl y
 ·cases hz
theorem is_mk {zs:List α} {n:Int} {z:α} {esz eb:Nat} {ez:List D} (h:mkl eb n z=some zs) (he:enc z=ez):OpIs (some ⟨.osl objs.length esz 0 n.toNat,[.arr esz (List.replicate n.toNat ez)],[],none,0≤n∧n=n∧n.toNat*eb≤70368744177664⟩) (.osl objs.length esz 0 zs.length) [.arr esz (zs.map enc)] [] none:=by
 unfold mkl at h
 split at h
 ·rename_i h0
  cases h
  refine .of (ob:=0≤n∧n=n∧n.toNat*eb≤70368744177664) ?_ ⟨h0.1,rfl,h0.2⟩
  simp [he]
 ·cases h
theorem is_bstr {bs:List Int} {z:List UInt8} (h:bstr bs=some z) {eb:Nat}:OpIs (convA (.slice 1 eb [.int .u8 0]) .string (.d (.sl (bs.map λ n=>[.int .u8 n])))) (.d (.str z)) [] [] none:=by
 unfold bstr at h
 split at h
 ·rename_i h0
  cases h
  simp only [List.all_eq_true,Bool.and_eq_true,decide_eq_true_eq] at h0
  refine .of (ob:=True∧∀ e∈bs.map λ n=>[D.int .u8 n],isByte e) ?_ ⟨trivial,?_⟩
  ·simp only [convA,elemsA,valOb,List.map_map]
   rfl
  ·intro e he
   simp only [List.mem_map] at he
   obtain ⟨n,hn,rfl⟩:=he
   obtain ⟨h1,h2⟩:=h0 n hn
   refine ⟨UInt8.ofNat n.toNat,?_⟩
   have:(UInt8.ofNat n.toNat).toNat=n.toNat:=by simp;omega
   rw [this]
   congr 2
   omega
 ·cases h
theorem is_len {xs:List α} {esz eb:Nat} {ez:List D}:OpIs (lenA (.slice esz eb ez) (.d (.sl (xs.map enc)))) (.d (.int .i64 xs.length)) [] [] none:=by
 refine .of (ob:=True) ?_ trivial
 simp only [lenA,val,List.length_map]
theorem is_slO {xs zs:List α} {l h:Int} {esz eb k:Nat} {ez:List D} (hz:sub xs l h=some zs):OpIs (valOb (.osl k esz (0+l.toNat) (h.toNat-l.toNat)) (0≤l∧l≤h∧h≤(xs.length:Int)∧esz=esz)) (.osl k esz (0+l.toNat) (h.toNat-l.toNat)) [] [] none:=by
 unfold sub at hz
 split at hz
 ·rename_i h0
  exact .of rfl ⟨h0.1,h0.2.1,h0.2.2,rfl⟩
 ·cases hz
theorem sub_cut {xs zs:List α} {l h:Int} (hz:sub xs l h=some zs):((xs.map enc).drop (0+l.toNat)).take (h.toNat-l.toNat)=zs.map enc:=by
 unfold sub at hz
 split at hz
 ·cases hz
  rw [Nat.zero_add,List.map_drop,List.map_take,List.take_drop]
  by_cases hh:l.toNat≤h.toNat
  ·rw [Nat.add_sub_cancel' hh]
  ·rename_i h0;omega
 ·cases hz
theorem sub_le {xs zs:List α} {l h:Int} (hz:sub xs l h=some zs):(0+l.toNat)+(h.toNat-l.toNat)≤(xs.map enc).length:=by
 unfold sub at hz
 split at hz
 ·rename_i h0;simp;omega
 ·cases hz
theorem sub_len {xs zs:List α} {l h:Int} (hz:sub xs l h=some zs):h.toNat-l.toNat=zs.length:=by
 unfold sub at hz
 split at hz
 ·rename_i h0;cases hz;simp;omega
 ·cases hz
theorem put_len {xs zs:List α} {i:Int} {y:α} (hz:put xs i y=some zs):xs.length=zs.length:=by
 unfold put at hz
 split at hz
 ·cases hz;simp
 ·cases hz
theorem bytes_map {s:List UInt8}:(s.map λ b=>[D.int .u8 b.toNat])=(bytesOf s).map λ n=>[D.int .u8 n]:=by
 simp only [bytesOf,List.map_map];rfl
theorem guard_t {b:Bool} {u:Unit} (h:guardB b=some u):b=true:=by
 unfold guardB at h
 split at h
 ·assumption
 ·cases h
theorem guard_nz {b:Int} {u:Unit} (h:guardB (!(b==0))=some u):b≠0:=by
 have:=guard_t h
 simpa using this
theorem guard_ge {b:Int} {u:Unit} (h:guardB (decide (0≤b))=some u):0≤b:=by
 have:=guard_t h
 simpa using this
theorem is_ob {v:AV} {ob:Prop} (h:ob):OpIs (valOb v ob) v [] [] none:=.of rfl h
theorem pick_and {t x y:Bool}:OpIs (pickA (.d (.bool t)) (.gv t (.d (.bool x))) (.d (.bool y))) (.d (.bool (bif t then x else y))) [] [] none:=.of rfl ⟨trivial,λ h=>h,trivial⟩
theorem pick_or {t x y:Bool}:OpIs (pickA (.d (.bool t)) (.d (.bool x)) (.gv (!t) (.d (.bool y)))) (.d (.bool (bif t then x else y))) [] [] none:=.of rfl ⟨trivial,trivial,λ h=>h⟩
theorem pick_gen {c a b:AV} {t x y:Bool} {r q q':Prop} (hc:condB c=some (t,r)) (ha:unP t a=some (x,q)) (hb:unP (!t) b=some (y,q')) (hr:r) (hq:q) (hq':q'):OpIs (pickA c a b) (.d (.bool (bif t then x else y))) [] [] none:=by
 refine .of (ob:=r∧q∧q') ?_ ⟨hr,hq,hq'⟩
 simp only [pickA,hc,ha,hb,valOb]
variable {encK:κ->List D} [DecidableEq κ]
def encM (encK:κ->List D) (enc:α->List D) (m:List (κ×α)):List (List D×List D):=m.map λ p=>(encK p.1,enc p.2)
theorem get_m {ks:List TK} (heq:∀ a b,eqCells ks ((encK a).map .d) ((encK b).map .d)=some (decide (a=b))) (k:κ) (m:List (κ×α)):getM ks (encK k) (encM encK enc m)=(mget k m).map enc:=by
 induction m with
 | nil=>rfl
 | cons p m ih=>
  have:eqK ks (encK k) (encK p.1)=decide (k=p.1):=by simp only [eqK,heq,Option.getD_some]
  simp only [encM,List.map_cons,getM,this,mget]
  by_cases h:k=p.1
  ·simp only [h,decide_true,cond_true,if_true,Option.map_some]
  ·simp only [h,decide_false,cond_false,if_false];exact ih
theorem put_m {ks:List TK} (heq:∀ a b,eqCells ks ((encK a).map .d) ((encK b).map .d)=some (decide (a=b))) (k:κ) (v:α) (m:List (κ×α)):putM ks (encK k) (enc v) (encM encK enc m)=encM encK enc (mput k v m):=by
 induction m with
 | nil=>rfl
 | cons p m ih=>
  have:eqK ks (encK k) (encK p.1)=decide (k=p.1):=by simp only [eqK,heq,Option.getD_some]
  simp only [encM,List.map_cons,putM,this,mput]
  by_cases h:k=p.1
  ·simp only [h,decide_true,cond_true,if_true,List.map_cons]
  ·simp only [h,decide_false,cond_false,if_false,List.map_cons]
   congr 1
theorem keys_m {ks:List TK} (heq:∀ a b,eqCells ks ((encK a).map .d) ((encK b).map .d)=some (decide (a=b))) (k:κ) (m:List (κ×α)):keysOk ks (encK k) (encM encK enc m):=by
 refine ⟨by rw [heq];rfl,λ p hp=>?_⟩
 simp only [encM,List.mem_map] at hp
 obtain ⟨q,_,rfl⟩:=hp
 simp only [heq,Option.isSome_some]
theorem is_look1 {ks:List TK} {k:Nat} {m:List (κ×α)} {key:κ} {l:List AV} {z:α} {vz:List D} {e1:α->D} (heq:∀ a b,eqCells ks ((encK a).map .d) ((encK b).map .d)=some (decide (a=b))) (he:∀ x,enc x=[e1 x]) (hz:vz=[e1 z]) (hk:obA objs k=some (.map true false (encM encK enc m))) (hx:xDs objs l=some (encK key,[],[])) (ok:Bool) :
  OpIs (lookA (.map ks true false vz) objs (.mp k) (.agg l) ok) (bif ok then .tup [.d (e1 ((mget key m).getD z)),.d (.bool (mget key m).isSome)] else .d (e1 ((mget key m).getD z))) [] [] none:=by
 obtain ⟨ob,e2,q⟩:=xDs_ok hx leZ
 have hv:kvV false ((getM ks (encK key) (encM encK enc m)).getD vz)=.d (e1 ((mget key m).getD z)):=by
  rw [get_m heq,hz]
  cases mget key m with
  | none=>rfl
  | some x=>simp only [Option.map_some,Option.getD_some,he];rfl
 have hs:(getM ks (encK key) (encM encK enc m)).isSome=(mget key m).isSome:=by rw [get_m heq];cases mget key m<;>rfl
 refine .of (ob:=ob∧keysOk ks (encK key) (encM encK enc m)) ?_ ⟨q,keys_m heq key m⟩
 simp only [lookA,hk,kvA,cond_true,e2,List.isEmpty_nil,beq_self_eq_true,Bool.and_self,valOb,hv,hs]
theorem is_put1 {ks:List TK} {k:Nat} {m:List (κ×α)} {key:κ} {l:List AV} {v:AV} {y:α} {vz:List D} {e1:α->D} (heq:∀ a b,eqCells ks ((encK a).map .d) ((encK b).map .d)=some (decide (a=b))) (he:∀ x,enc x=[e1 x]) (hz:Nat.beq vz.length 1=true) (hk:obA objs k=some (.map true false (encM encK enc m))) (hx:xDs objs l=some (encK key,[],[])) (hv:v=.d (e1 y)) (hvx:xDs objs [v]=some (enc y,[],[])) :
  OpIs (mputA (.map ks true false vz) objs (.mp k) (.agg l) v) .top [] [] (some (k,.map true false (encM encK enc (mput key y m)))):=by
 obtain ⟨ob,e2,q⟩:=xDs_ok hx leZ
 obtain ⟨ob',e3,q'⟩:=xDs_ok hvx leZ
 have hkv:kvA objs false v=some ⟨enc y,[],ob'⟩:=by subst hv;exact e3
 refine .of (ob:=ob∧ob'∧keysOk ks (encK key) (encM encK enc m)∧k ∉ ([]:List Nat)∧(enc y).length=vz.length) ?_ ⟨q,q',keys_m heq key m,by simp,by rw [he,Nat.eq_of_beq_eq_true hz];rfl⟩
 simp only [mputA,hk,kvA,cond_true,e2]
 simp only [kvA] at hkv
 rw [hkv]
 simp only [put_m heq]
 rfl
end Go.AI
end
section
namespace Go.AI
variable {Γ:Cx} {C:Code} {p p0 p1:List Nat} {Q:Ex->St->Prop} {s s':St} {K:St->Prop} {i:Nat} {nk:Nat}
variable {α β:Type} {enc:β->List D} {encN:α->List AV} {objs:List (Option Ob)}
def nL {γ:Type} (sz:Nat) (e:γ->List D) (l:List γ):List AV:=[.own sz (l.map e)]
def keepOf (Γ:Cx) (c:Code) (i:Nat) (s:St):Option (Nat×List (List D)):=
 match (opsIn c)[i]? with
 | some o=>opK Γ.ty (λ x=>unG (evalA s.env x)) o.op
 | none=>none
def nextK (Γ:Cx) (c:Code) (i:Nat) (obj:Bool) (esz:Nat) (es:List (List D)) (s:St):Option St:=
 match (opsIn c)[i]? with
 | some o=>bif !drIn c&&o.guard.isNone&&dstOk Γ.nt o.dst&&(o.op.operands.toList.map (evalA s.env)).all notGv then (bif obj then some ⟨putA o.dst false true (.osl s.objs.length esz 0 es.length) s.env,s.objs++[some (.arr esz es)]⟩ else some ⟨putA o.dst false true (.d (.sl es)) s.env,s.objs⟩) else none
 | none=>none
theorem specK (j:Nat) (obj:Bool) {esz:Nat} (es:List (List D)) (hx:keepOf Γ (nav p C) i s=some (esz,es)) (hn:nextK Γ (nav p C) i obj esz es s=some s') (hj:i+1=j) (hk:runFrom Γ C p j K s'):runFrom Γ C p i K s:=by
 subst hj
 unfold runFrom at hk ⊢
 unfold keepOf at hx
 unfold nextK at hn
 split at hn
 ·rename_i o hi
  rw [hi] at hx
  simp only at hx
  obtain ⟨hc,hn⟩:=bif_some hn
  simp only [Bool.and_eq_true,Bool.not_eq_true'] at hc
  obtain ⟨⟨⟨h0,h1⟩,h2⟩,h3⟩:=hc
  rw [drop_cons hi]
  show stepA _ _ _ _ _ _
  have hgN:o.guard=none:=by simpa using h1
  unfold stepA
  rw [hgN]
  simp only [guardA,h2,Bool.not_true,cond_false]
  refine ⟨λ _=>.inr (.inr ⟨h0,.inr ⟨hgN,.inl ?_⟩⟩),λ h=>by cases h⟩
  rw [hx]
  refine ⟨gobA_of h3,?_⟩
  cases obj with
  | true=>rw [cond_true] at hn;cases hn;exact .inr hk
  | false=>rw [cond_false] at hn;cases hn;exact .inl hk
 ·cases hn
def arrAt (s:St) (k:Nat):Option (Nat×List (List D)):=
 match obA s.objs k with
 | some (.arr sz es)=>some (sz,es)
 | _=>none
def narrAt (s:St) (k:Nat):Option (Nat×List (List AV)):=
 match obA s.objs k with
 | some (.narr sz es)=>some (sz,es)
 | _=>none
theorem arrAt_ok {k sz:Nat} {es:List (List D)} (h:arrAt s k=some (sz,es)):obA s.objs k=some (.arr sz es):=by
 unfold arrAt at h
 split at h
 ·rename_i hh;cases h;exact hh
 ·cases h
theorem narrAt_ok {k sz:Nat} {es:List (List AV)} (h:narrAt s k=some (sz,es)):obA s.objs k=some (.narr sz es):=by
 unfold narrAt at h
 split at h
 ·rename_i hh;cases h;exact hh
 ·cases h
def nilB:AV->AV->Bool
 | .own 0 [],.own _ []=>true
 | _,_=>false
def nilBs:List AV->List AV->Bool
 | [],[]=>true
 | a::l,b::m=>nilB a b&&nilBs l m
 | _,_=>false
def nilBss:List (List AV)->List (List AV)->Bool
 | [],[]=>true
 | a::l,b::m=>nilBs a b&&nilBss l m
 | _,_=>false
theorem nilB_ok {a b:AV} (h:nilB a b=true):a=.own 0 []∧∃ s,b=.own s []:=by
 unfold nilB at h
 split at h
 ·exact ⟨rfl,_,rfl⟩
 ·cases h
theorem nilBs_ok:∀ {l m:List AV},nilBs l m=true->l.length=m.length∧∀ (j:Nat) (a a':AV),l[j]? = some a->m[j]? = some a'->a=a'∨(a=.own 0 []∧∃ s,a'=.own s []):=by
 intro l
 induction l with
 | nil=>intro m h;cases m with|nil=>exact ⟨rfl,λ j a a' h=>by simp at h⟩|cons=>cases h
 | cons a l ih=>
  intro m h
  cases m with
  | nil=>cases h
  | cons b m=>
   simp only [nilBs,Bool.and_eq_true] at h
   obtain ⟨h1,h2⟩:=ih h.2
   refine ⟨by simp [h1],λ j x y hx hy=>?_⟩
   cases j with
   | zero=>simp at hx hy;subst hx;subst hy;exact .inr (nilB_ok h.1)
   | succ j=>exact h2 j x y (by simpa using hx) (by simpa using hy)
theorem nilBss_ok:∀ {l m:List (List AV)},nilBss l m=true->l.length=m.length∧∀ (i:Nat) (e e':List AV),l[i]? = some e->m[i]? = some e'->e.length=e'.length∧∀ (j:Nat) (a a':AV),e[j]? = some a->e'[j]? = some a'->a=a'∨(a=.own 0 []∧∃ s,a'=.own s []):=by
 intro l
 induction l with
 | nil=>intro m h;cases m with|nil=>exact ⟨rfl,λ j a a' h=>by simp at h⟩|cons=>cases h
 | cons a l ih=>
  intro m h
  cases m with
  | nil=>cases h
  | cons b m=>
   simp only [nilBss,Bool.and_eq_true] at h
   obtain ⟨h1,h2⟩:=ih h.2
   refine ⟨by simp [h1],λ j x y hx hy=>?_⟩
   cases j with
   | zero=>simp at hx hy;subst hx;subst hy;exact nilBs_ok h.1
   | succ j=>exact h2 j x y (by simpa using hx) (by simpa using hy)
theorem sh_toN (k:Nat) (E:List (List AV)) {sz:Nat} {es:List (List D)} (h:arrAt s k=some (sz,es)) (hb:nilBss (es.map λ e=>e.map toN) E=true):Shift nk s ⟨s.env,s.objs.set k (some (.narr sz E))⟩:=by
 have ho:=arrAt_ok h
 obtain ⟨h1,h2⟩:=nilBss_ok hb
 have a:=Shift.toN (nk:=nk) (st:=s) k sz es ho
 have b:=Shift.reown (nk:=nk) (st:=⟨s.env,s.objs.set k (some (.narr sz (es.map λ e=>e.map toN)))⟩) k sz (es.map λ e=>e.map toN) E (obA_set_same ho) h1 h2
 have:=Shift.trans a b
 simpa using this
theorem sh_reN (k:Nat) {sz:Nat} {xss yss:List α} {row:List AV} {y:α} (h:narrAt s k=some (sz,xss.map encN++[row])) (hy:yss=xss++[y]) (hb:nilBs row (encN y)=true):Shift nk s ⟨s.env,s.objs.set k (some (.narr sz (yss.map encN)))⟩:=by
 have ho:=narrAt_ok h
 subst hy
 refine Shift.reown k sz _ _ ho (by simp) λ i e e' hi hi'=>?_
 rw [List.map_append] at hi'
 by_cases hlt:i<(xss.map encN).length
 ·rw [List.getElem?_append_left hlt] at hi hi'
  rw [hi] at hi'
  cases hi'
  exact ⟨rfl,λ j a a' ha ha'=>.inl (by rw [ha] at ha';exact Option.some.inj ha')⟩
 ·rw [List.getElem?_append_right (by omega)] at hi hi'
  have:i-(xss.map encN).length=0:=by have:=getElem?_lt hi;simp at this;simp at *;omega
  rw [this] at hi hi'
  simp at hi hi'
  subst hi;subst hi'
  exact nilBs_ok hb
theorem app_one {eb:Nat} {xss yss:List α} {y:α} (h:app eb xss [y]=some yss):yss=xss++[y]:=(app_some h).2
theorem is_appN {xss yss:List α} {y:α} {esz eb k:Nat} {e:List D} {ob:Prop} (hk:obA objs k=some (.narr esz (xss.map encN))) (hl:Nat.beq e.length esz=true) (ho:ob) (h:app eb xss [y]=some yss) :
  OpIs (appendA esz eb objs (.osl k esz 0 xss.length) [e] ob) (.osl objs.length esz 0 yss.length) [.narr esz (xss.map encN++[e.map toN])] [k] none:=by
 obtain ⟨h1,h2⟩:=app_some h
 subst h2
 have hb:Nat.beq esz esz=true:=Nat.beq_refl esz
 have h0:Nat.beq 0 0=true:=rfl
 refine .of (ob:=xss.length≤(xss.map encN).length∧(∀ e'∈[e],e'.length=esz)∧(xss.length+[e].length)*eb≤70368744177664∧ob) ?_ ⟨by simp,?_,by simpa using h1,ho⟩
 ·simp only [appendA,hk,hb,h0,Bool.and_self,cond_true]
  have e1:List.take xss.length (List.map encN xss)=List.map encN xss:=List.take_of_length_le (by simp)
  simp [e1]
 ·intro e' he
  simp at he
  subst he
  exact Nat.eq_of_beq_eq_true hl
theorem is_ldN {xss:List α} {x:α} {row:List AV} {n:Int} {k sz off:Nat} {t:Ty} {v:AV} (hk:obA objs k=some (.narr sz ((xss.map encN).set n.toNat row))) (h:idx xss n=some x) (hv:ldCells row off t=some v) (hs:(cellsA v).all solid=true) (hl:Nat.ble (off+t.size) row.length=true) :
  OpIs (loadA t objs (.eptr k sz (0+n.toNat) off)) v [] [] none:=by
 obtain ⟨h0,h1,_⟩:=idx_some h
 have hlt:n.toNat<(xss.map encN).length:=by simp;omega
 have hi:((xss.map encN).set n.toNat row)[n.toNat]? = some row:=List.getElem?_set_self hlt
 refine .of (ob:=sz=sz∧0+n.toNat<((xss.map encN).set n.toNat row).length∧off+t.size≤row.length∧(cellsA v).all solid=true) ?_ ⟨rfl,?_,Nat.le_of_ble_eq_true hl,hs⟩
 ·simp only [loadA,hk,Nat.zero_add,hi,Option.getD_some,hv,valOb]
 ·simp only [List.length_set,Nat.zero_add];exact hlt
theorem is_stN {xss:List α} {x:α} {row row':List AV} {n:Int} {k sz off:Nat} {t:Ty} {v:AV} (hk:obA objs k=some (.narr sz ((xss.map encN).set n.toNat row))) (h:idx xss n=some x) (hc:(cellsOk v&&(cellsA v).all solid)=true) (hy:splice row off (cellsA v)=row') (hl:(Nat.beq (cellsA v).length t.size&&Nat.ble (off+t.size) sz)=true) :
  OpIs (storeA t objs (.eptr k sz (0+n.toNat) off) v) .top [] [] (some (k,.narr sz ((xss.map encN).set n.toNat row'))):=by
 obtain ⟨h0,h1,_⟩:=idx_some h
 have hlt:n.toNat<(xss.map encN).length:=by simp;omega
 have hi:((xss.map encN).set n.toNat row)[n.toNat]? = some row:=List.getElem?_set_self hlt
 simp only [Bool.and_eq_true] at hl
 refine .of (ob:=sz=sz∧(cellsA v).length=t.size∧0+n.toNat<((xss.map encN).set n.toNat row).length∧off+t.size≤sz) ?_ ⟨rfl,Nat.eq_of_beq_eq_true hl.1,?_,Nat.le_of_ble_eq_true hl.2⟩
 ·simp only [storeA,hk,hc,cond_true,Nat.zero_add,hi,Option.getD_some,hy,List.set_set]
 ·simp only [List.length_set,Nat.zero_add];exact hlt
theorem sh_frzN (t:Nat) {k sz:Nat} {xss:List α} {encD:α->List D} (h:(lkA s.env t,narrAt s k)=(.osl k sz 0 xss.length,some (sz,xss.map encN))) (hd:∀ x,(encN x).map ofN=encD x) (hn:∀ x,(encN x).all isN=true):Shift nk s ⟨(t,.d (.sl (xss.map encD)))::s.env,s.objs.set k none⟩:=by
 simp only [Prod.mk.injEq] at h
 have ho:=narrAt_ok h.2
 have hlen:xss.length=(xss.map encN).length:=by simp
 have ht:=h.1
 rw [hlen] at ht
 have:=Shift.frz (nk:=nk) (st:=s) t k sz _ ht ho (λ e he a ha=>by
  simp only [List.mem_map] at he
  obtain ⟨x,_,rfl⟩:=he
  exact List.all_eq_true.1 (hn x) a ha)
 have e1:(List.map (λ e=>List.map ofN e) (List.map encN xss))=xss.map encD:=by
  rw [List.map_map]
  exact List.map_congr_left λ x _=>hd x
 rw [e1] at this
 exact this
theorem set_self {O:List (Option Ob)} {k:Nat} {ob:Ob} (h:obA O k=some ob):O.set k (some ob)=O:=by
 unfold obA at h
 split at h
 ·rename_i hk
  cases h
  apply List.ext_getElem?
  intro i
  rw [List.getElem?_set]
  split
  ·rename_i e;subst e
   split
   ·exact hk.symm
   ·rename_i hl;have:=getElem?_lt hk;omega
  ·rfl
 ·cases h
inductive Pl (f:AV->AV):List (Option Ob)->List (Option Ob)->Prop
 | z:Pl f [] []
 | o (ob:Option Ob) {l m:List (Option Ob)} (h:Pl f l m):Pl f (ob::l) (ob::m)
 | n (sz:Nat) {es es':List (List AV)} {l m:List (Option Ob)} (he:es.map (λ e=>e.map f)=es') (h:Pl f l m):Pl f (some (.narr sz (es.map λ e=>e.map f))::l) (some (.narr sz es')::m)
theorem Pl.eq {f:AV->AV} {l m:List (Option Ob)} (h:Pl f l m):l=m:=by
 induction h with
 | z=>rfl
 | o ob _ ih=>rw [ih]
 | n sz he _ ih=>rw [he,ih]
theorem nrM {f:AV->AV} {xss:List α} (hc:∀ x,(encN x).map f=encN x):(xss.map encN).map (λ e=>e.map f)=xss.map encN:=by
 rw [List.map_map]
 exact List.map_congr_left λ x _=>hc x
theorem nrH {f:AV->AV} {es:List (List AV)} {n:Nat} {row row':List AV} (he:es.map (λ e=>e.map f)=es) (hr:row.map f=row'):(es.set n row).map (λ e=>e.map f)=es.set n row':=by
 rw [List.map_set,he,hr]
theorem sh_gcP (ts ord:List Nat) {raw:List (Option Ob)} (hp:Pl (clrA ord) raw s'.objs) (h:gcA nk ts s=⟨s'.env,raw⟩):Shift nk s s':=by
 rw [hp.eq] at h
 exact sh_gc ts h
theorem shift_boxA {N:Nat->Prop} {H0 F0 F:Nat->Option Obj} {ρ:Nat->Option Loc} {O:List (Option Ob)} {h:Array Obj} (hS:Sim N H0 F0 F ρ O h) {k:Nat} {ds:List D} (ho:obA O k=some (.box (ds.map .d))):Sim N H0 F0 F ρ (O.set k (some (.arr 1 (ds.map λ x=>[x])))) h:=by
 have hrep:∀ L,ρ k=some L->ObRep F ρ h L (.arr 1 (ds.map λ x=>[x])):=λ L hL=>by
  obtain ⟨⟨p1,p2,cs,t,fr,p3,p4,p5,p6⟩,_⟩:=hS.obj k L _ hL ho
  simp only [List.length_map] at p2
  refine ⟨λ e he=>?_,by simp;omega,cs,t,fr,p3,p4,p5,λ i e hi j x hx=>?_⟩
  ·simp only [List.mem_map] at he
   obtain ⟨x,_,rfl⟩:=he
   rfl
  ·simp only [List.getElem?_map,Option.map_eq_some_iff] at hi
   obtain ⟨y,h1,rfl⟩:=hi
   have hj:j=0:=by have:=getElem?_lt hx;simpa using this
   subst hj
   simp at hx
   subst hx
   have hil:=getElem?_lt h1
   have hv:cs[i]? = some cs[i]:=Array.getElem?_eq_getElem (by omega)
   refine ⟨cs[i],by rw [p1,Nat.zero_add,Nat.mul_one];exact hv,?_⟩
   have:=p6 i (.d y) cs[i] (by rw [List.getElem?_map,h1];rfl) hv
   cases this with
   | d _ _ h=>exact h
 refine hS.retable (by simp) (λ j L ob hj hob=>?_) ?_
 ·by_cases e:j=k
  ·subst e
   rw [obA_set_same ho] at hob
   cases hob
   exact ⟨_,ho,.inr (hrep L hj)⟩
  ·rw [obA_set_ne e] at hob;exact ⟨ob,hob,.inl rfl⟩
 ·obtain ⟨σ,hσ⟩:=hS.inn
  refine ⟨σ,hσ.new,λ k' c M j L ob hM hj hob=>?_,hσ.sep,λ j L sz' es' hj hob i e m isz xs hi hm cs t fr v hb hv=>?_⟩
  ·by_cases e:j=k
   ·subst e;exact hσ.obj k' c M j L _ hM hj ho
   ·rw [obA_set_ne e] at hob;exact hσ.obj k' c M j L ob hM hj hob
  ·by_cases e:j=k
   ·subst e
    rw [obA_set_same ho] at hob
    cases hob
   ·rw [obA_set_ne e] at hob;exact hσ.rep j L sz' es' hj hob i _ m isz xs hi hm cs t fr v hb hv
theorem sh_boxA (k:Nat) (ds:List D) (h:obA s.objs k=some (.box (ds.map .d))):Shift nk s ⟨s.env,s.objs.set k (some (.arr 1 (ds.map λ x=>[x])))⟩:=
 Shift.sem λ _ _ _ _ _ _ _ _ hI=>by
  obtain ⟨F,ρ,hS,hSl,hn,hd⟩:=hI
  exact ⟨F,ρ,shift_boxA hS h,hSl,hn,hd⟩
theorem sh_ep (t k sz:Nat) (h:lkA s.env t=.ptr k 0):Shift nk s ⟨(t,.eptr k sz 0 0)::s.env,s.objs⟩:=
 Shift.sem λ _ _ _ _ _ a _ _ hI=>by
  obtain ⟨F,ρ,hS,hSl,hn,hd⟩:=hI
  refine ⟨F,ρ,hS,λ q=>?_,hn,hd⟩
  show ARep F ρ (lkA ((t,AV.eptr k sz 0 0)::s.env) q) _
  rw [lkA_cons]
  by_cases e:t=q
  ·subst e
   rw [if_pos rfl]
   have:=hSl t
   rw [h] at this
   generalize a.tmps.getD t undef=u at this
   cases this with
   | ptr _ _ L hL=>have:=ARep.eptr (F:=F) k sz 0 0 L hL;simpa using this
  ·rw [if_neg e];exact hSl q
theorem sh_op (k:Nat) {sz:Nat} {xss:List α} {x:α} {n:Int} (h:narrAt s k=some (sz,xss.map encN)) (hx:idx xss n=some x):Shift nk s ⟨s.env,s.objs.set k (some (.narr sz ((xss.map encN).set n.toNat (encN x))))⟩:=by
 have ho:=narrAt_ok h
 have e:(xss.map encN).set n.toNat (encN x)=xss.map encN:=by
  apply List.ext_getElem?
  intro i
  rw [List.getElem?_set]
  split
  ·rename_i e;subst e
   split
   ·rw [List.getElem?_map,(idx_some hx).2.2];rfl
   ·rename_i hl;rw [List.getElem?_eq_none (by simpa using hl)]
  ·rfl
 rw [e,set_self ho]
 exact Shift.sem λ _ _ _ _ _ _ _ _ h=>h
theorem ltN {xss:List α} {x:α} {n:Int} (hx:idx xss n=some x):n.toNat<(xss.map encN).length:=by
 obtain ⟨h0,h1,_⟩:=idx_some hx
 simp only [List.length_map];omega
theorem sh_out1 (k j isz:Nat) (row':List AV) {sz:Nat} {es:List (List AV)} {n:Nat} {row:List AV} {ys:List β} (hn:n<es.length) (h:narrAt s k=some (sz,es.set n row)) (hj:row[j]? = some (.own isz (ys.map enc))) (hr:row.set j (.osl s.objs.length isz 0 ys.length)=row') :
  Shift nk s ⟨s.env,s.objs.set k (some (.narr sz (es.set n row')))++[some (.arr isz (ys.map enc))]⟩:=by
 have ho:=narrAt_ok h
 have:=Shift.out (nk:=nk) (st:=s) k sz n j isz _ _ _ ho (List.getElem?_set_self hn) hj
 rw [List.set_set,List.length_map,hr] at this
 exact this
theorem sh_drop (m:Nat) {O:List (Option Ob)} (h:O=s.objs.set m none):Shift nk s ⟨s.env,O⟩:=by
 subst h
 refine Shift.sem λ _ _ _ _ _ _ _ _ hI=>?_
 obtain ⟨F,ρ,hS,hSl,hn,hd⟩:=hI
 refine ⟨F,ρ,hS.table (by simp) λ j L ob hj hob=>?_,hSl,hn,hd⟩
 by_cases e:j=m
 ·subst e
  rw [obA_set] at hob
  split at hob
  ·cases hob
  ·exact hob
 ·rwa [obA_set_ne e] at hob
theorem sh_inn1 (k j m isz:Nat) (row':List AV) {sz:Nat} {es:List (List AV)} {n:Nat} {row:List AV} {zs:List β} (h:(narrAt s k,arrAt s m)=(some (sz,es.set n row),some (isz,zs.map enc))) (hj:row[j]? = some (.osl m isz 0 zs.length)) (hr:row.set j (.own isz (zs.map enc))=row') :
  Shift nk s ⟨s.env,(s.objs.set m none).set k (some (.narr sz (es.set n row')))⟩:=by
 simp only [Prod.mk.injEq] at h
 have ho:=narrAt_ok h.1
 have hm:=arrAt_ok h.2
 by_cases hn:n<es.length
 ·have hlen:zs.length=(zs.map enc).length:=by simp
  rw [hlen] at hj
  have:=Shift.inn (nk:=nk) (st:=s) k sz n j m isz _ row (zs.map enc) ho (List.getElem?_set_self hn) hj hm
  rw [List.set_set,hr] at this
  exact this
 ·have e1:∀ r:List AV,es.set n r=es:=λ r=>List.set_eq_of_length_le (by omega)
  rw [e1] at ho ⊢
  have hne:m≠k:=λ e=>by subst e;rw [ho] at hm;cases hm
  have ho':obA (s.objs.set m none) k=some (.narr sz es):=by rw [obA_set_ne (Ne.symm hne)];exact ho
  rw [set_self ho']
  exact sh_drop m rfl
theorem sh_cls (k:Nat) {sz:Nat} {xss:List α} {n:Int} {row:List AV} (y:α) (h:narrAt s k=some (sz,(xss.map encN).set n.toNat row)) (hy:row=encN y):Shift nk s ⟨s.env,s.objs.set k (some (.narr sz ((xss.set n.toNat y).map encN)))⟩:=by
 have ho:=narrAt_ok h
 subst hy
 rw [List.map_set,set_self ho]
 exact Shift.sem λ _ _ _ _ _ _ _ _ h=>h
theorem set_id {γ:Type} {l:List γ} {i:Nat} {x:γ} (h:l[i]? = some x):l.set i x=l:=by
 apply List.ext_getElem?
 intro q
 rw [List.getElem?_set]
 split
 ·rename_i e;subst e
  split
  ·exact h.symm
  ·rename_i hl;rw [List.getElem?_eq_none (by omega)]
 ·rfl
theorem sh_lenc (b i k sz n m:Nat) (h:(isBox s b,(boxAt s b)[i]?)=(true,some (.osl k sz 0 n))) (e:n=m):Shift nk s ⟨s.env,s.objs.set b (some (.box ((boxAt s b).set i (.osl k sz 0 m))))⟩:=by
 subst e
 simp only [Prod.mk.injEq] at h
 rw [set_id h.2,set_self (boxAt_ok h.1)]
 exact Shift.sem λ _ _ _ _ _ _ _ _ h=>h
theorem sh_lenr (k j m isz n1 n2:Nat) (row':List AV) {sz:Nat} {es:List (List AV)} {n:Nat} {row:List AV} (h:narrAt s k=some (sz,es.set n row)) (hj:row[j]? = some (.osl m isz 0 n1)) (e:n1=n2) (hr:row.set j (.osl m isz 0 n2)=row'):Shift nk s ⟨s.env,s.objs.set k (some (.narr sz (es.set n row')))⟩:=by
 have ho:=narrAt_ok h
 subst e
 rw [set_id hj] at hr
 subst hr
 rw [set_self ho]
 exact Shift.sem λ _ _ _ _ _ _ _ _ h=>h
theorem sh_frzNc (kb i k:Nat) {sz:Nat} {xss:List α} {encD:α->List D} (h0:(isBox s kb,(boxAt s kb)[i]?)=(true,some (.osl k sz 0 xss.length))) (h:narrAt s k=some (sz,xss.map encN)) (hd:∀ x,(encN x).map ofN=encD x) (hN:∀ x,(encN x).all isN=true) :
  Shift nk s ⟨s.env,(s.objs.set k none).set kb (some (.box ((boxAt s kb).set i (.d (.sl (xss.map encD))))))⟩:=by
 have ho:=narrAt_ok h
 simp only [Prod.mk.injEq] at h0
 have hb:=boxAt_ok h0.1
 have hi:=h0.2
 generalize boxAt s kb=cells at hb hi
 refine Shift.sem λ _ _ _ _ _ _ _ _ hI=>?_
 obtain ⟨F,ρ,hS,hSl,hn,hdf⟩:=hI
 have hlen:xss.length=(xss.map encN).length:=by simp
 rw [hlen] at hi
 obtain ⟨F',h1,h2,h3⟩:=shift_frz hS ho (λ e he a ha=>by
  simp only [List.mem_map] at he
  obtain ⟨x,_,rfl⟩:=he
  exact List.all_eq_true.1 (hN x) a ha)
 have e1:(List.map (λ e=>List.map ofN e) (List.map encN xss))=xss.map encD:=by
  rw [List.map_map]
  exact List.map_congr_left λ x _=>hd x
 rw [e1] at h3
 have hne:kb≠k:=λ e1=>by subst e1;rw [hb] at ho;cases ho
 have hb':obA (s.objs.set k none) kb=some (.box cells):=by rw [obA_set_ne hne];exact hb
 refine ⟨F',ρ,?_,hSl.mono h1 (RLe.refl _),hn,hdf⟩
 refine h2.retable (by simp) (λ q L ob hq hob=>?_) (by obtain ⟨σ,hσ⟩:=h2.inn;exact ⟨σ,hσ.box hb'⟩)
 by_cases e1:q=kb
 ·subst e1
  rw [obA_set_same hb'] at hob
  cases hob
  refine ⟨_,hb',.inr ?_⟩
  obtain ⟨p1,p2,cs,t,fr,p3,p4,p5,p6⟩:=(hS.obj q L _ hq hb).1
  refine ⟨p1,by simpa using p2,cs,t,fr,p3,p4,p5,λ i' a' v ha' hv=>?_⟩
  by_cases e2:i'=i
  ·subst e2
   rw [List.getElem?_set_self (getElem?_lt hi)] at ha'
   cases ha'
   exact .d _ _ (h3 v (p6 i' _ v hi hv))
  ·rw [List.getElem?_set_ne (Ne.symm e2)] at ha'
   exact (p6 i' a' v ha' hv).mono h1 (RLe.refl _)
 ·rw [obA_set_ne e1] at hob;exact ⟨ob,hob,.inl rfl⟩
theorem sh_toZ (k n:Nat) (x:α) {sz:Nat} {z:List D} (h:arrAt s k=some (sz,List.replicate n z)) (hb:nilBs (z.map toN) (encN x)=true):Shift nk s ⟨s.env,s.objs.set k (some (.narr sz ((List.replicate n x).map encN)))⟩:=by
 have ho:=arrAt_ok h
 have a:=Shift.toN (nk:=nk) (st:=s) k sz _ ho
 obtain ⟨h1,h2⟩:=nilBs_ok hb
 have b:=Shift.reown (nk:=nk) (st:=⟨s.env,s.objs.set k (some (.narr sz ((List.replicate n z).map λ e=>e.map toN)))⟩) k sz _ ((List.replicate n x).map encN) (obA_set_same ho) (by simp) λ i e e' hi hi'=>by
  simp only [List.map_replicate,List.getElem?_replicate] at hi hi'
  split at hi
  ·rename_i hl
   rw [if_pos hl] at hi'
   cases hi;cases hi'
   exact ⟨h1,λ j a a' ha ha'=>h2 j a a' ha ha'⟩
  ·cases hi
 have:=Shift.trans a b
 simpa using this
theorem sh_toM (k:Nat) {x:α} {n:Int} {zs:List α} {sz:Nat} {z:List D} (hm:List.replicate n.toNat x=zs) (h:arrAt s k=some (sz,List.replicate n.toNat z)) (hb:nilBs (z.map toN) (encN x)=true):Shift nk s ⟨s.env,s.objs.set k (some (.narr sz (zs.map encN)))⟩:=by
 rw [← hm];exact sh_toZ k n.toNat x h hb
end Go.AI
end
section
namespace Go.AI
variable {Γ:Cx} {C:Code} {p:List Nat} {Q:Ex->St->Prop} {s s':St} {K:St->Prop} {i:Nat} {nk:Nat}
variable {α β ζ:Type}
theorem getD_ok {x:Option α} {d:α} (h:x.isSome=true):x=some (x.getD d):=by
 cases x with
 | none=>cases h
 | some x=>rfl
structure WP (Γ:Cx) (C:Code) (p:List Nat) (Q:Ex->St->Prop) (s:St):Prop where
 out:wpA Γ (nav p C) Q s
structure RF (Γ:Cx) (C:Code) (p:List Nat) (i:Nat) (Q:Ex->St->Prop) (s:St):Prop where
 out:runFrom Γ C p i (Q .normal) s
structure PQ (Q:Ex->St->Prop) (e:Ex) (s:St):Prop where
 out:Q e s
structure RA (ty:Nat->Ty) (rs:List ResultVar) (r:AV) (s:St):Prop where
 out:retA ty rs r s
theorem RF.of {Γ:Cx} {C:Code} {p:List Nat} {i:Nat} {Q:Ex->St->Prop} {s s':St} {j:Nat} (h:runFrom Γ C p j (Q .normal) s'->runFrom Γ C p i (Q .normal) s) (hk:RF Γ C p j Q s'):RF Γ C p i Q s:=⟨h hk.out⟩
theorem nav_snoc (k:Nat):∀ (p:List Nat) (C:Code),nav (p++[k]) C=child (nav p C) k:=by
 intro p
 induction p with
 | nil=>intro C;rfl
 | cons a p ih=>intro C;exact ih (child C a)
def isSeq:Code->Bool
 | .seq _ _=>true
 | _=>false
def isCond:Code->Bool
 | .cond _ _ _=>true
 | _=>false
def isBlk (id:Nat):Code->Bool
 | .block i _=>Nat.beq i id
 | _=>false
def isLoop:Code->Bool
 | .loop _=>true
 | _=>false
theorem seq_nav (h:isSeq (nav p C)=true):nav p C=.seq (nav (p++[0]) C) (nav (p++[1]) C):=by
 rw [nav_snoc,nav_snoc]
 cases hc:nav p C<;>rw [hc] at h<;>first|rfl|cases h
theorem cond_nav (h:isCond (nav p C)=true):nav p C=.cond (condOp (nav p C)) (nav (p++[0]) C) (nav (p++[1]) C):=by
 rw [nav_snoc,nav_snoc]
 cases hc:nav p C<;>rw [hc] at h<;>first|rfl|cases h
theorem blk_nav {id:Nat} (h:isBlk id (nav p C)=true):nav p C=.block id (nav (p++[0]) C):=by
 rw [nav_snoc]
 cases hc:nav p C with
 | block j c=>rw [hc] at h;have:=Nat.eq_of_beq_eq_true h;subst this;rfl
 | _=>rw [hc] at h;cases h
theorem loop_nav (h:isLoop (nav p C)=true):nav p C=.loop (nav (p++[0]) C):=by
 rw [nav_snoc]
 cases hc:nav p C<;>rw [hc] at h<;>first|rfl|cases h
theorem sq (hw:WP Γ C (p++[0]) (seqQ Γ.nt.nk (wpA Γ (nav (p++[1]) C) Q) Q) s) (h:isSeq (nav p C)=true:=by kernel_rfl):WP Γ C p Q s:=⟨at_seq (seq_nav h) hw.out⟩
theorem rg (hs:Shift Γ.nt.nk s s') (hk:RF Γ C p 0 (regQ C p s' Q) s') (h:isReg (nav p C)=true:=by kernel_rfl):WP Γ C p Q s:=⟨at_region h hs hk.out⟩
theorem rz (hk:RF Γ C p 0 (regQ C p s Q) s) (h:isReg (nav p C)=true:=by kernel_rfl):WP Γ C p Q s:=⟨at_region h sh_refl hk.out⟩
theorem sr (hk:RF Γ C (p++[0]) 0 (regQ C (p++[0]) s (seqQ Γ.nt.nk (wpA Γ (nav (p++[1]) C) Q) Q)) s) (h:(isSeq (nav p C)&&isReg (nav (p++[0]) C))=true:=by kernel_rfl):WP Γ C p Q s:=by
 simp only [Bool.and_eq_true] at h
 exact sq (rz hk h.2) h.1
theorem ae {s0:St} (hk:PQ Q .normal s) (h:Nat.ble (opsIn (nav p C)).length i=true:=by kernel_rfl) (hd:drawQ (drIn (nav p C)) (arrIn (nav p C)) s0.env s.env=true:=by kernel_rfl):RF Γ C p i (regQ C p s0 Q) s:=⟨at_end i h ⟨hd,hk.out⟩⟩
theorem en {s0:St} {p':List Nat} (hk:WP Γ C p' Q s) (h:Nat.ble (opsIn (nav p C)).length i=true:=by kernel_rfl) (hd:drawQ (drIn (nav p C)) (arrIn (nav p C)) s0.env s.env=true:=by kernel_rfl):RF Γ C p i (regQ C p s0 (seqQ Γ.nt.nk (wpA Γ (nav p' C) Q) Q)) s:=⟨at_end i h ⟨hd,⟨s,.refl s,hk.out⟩⟩⟩
theorem bk (id:Nat) (hw:WP Γ C (p++[0]) (blockQ id Q) s) (h:isBlk id (nav p C)=true:=by kernel_rfl):WP Γ C p Q s:=⟨at_block id (blk_nav h) hw.out⟩
def isScp:Code->Bool
 | .scope _=>true
 | _=>false
def isLbl:Code->Bool
 | .label _=>true
 | _=>false
theorem sc (hw:WP Γ C (p++[0]) Q s) (h:isScp (nav p C)=true:=by kernel_rfl):WP Γ C p Q s:=by
 have hw:=hw.out
 rw [nav_snoc] at hw
 refine ⟨?_⟩
 cases hc:nav p C with
 | scope c=>rw [hc] at hw;exact hw
 | _=>rw [hc] at h;cases h
theorem lbl (hq:PQ Q .normal s) (h:isLbl (nav p C)=true:=by kernel_rfl):WP Γ C p Q s:=by
 refine ⟨?_⟩
 cases hc:nav p C with
 | label c=>exact hq.out
 | _=>rw [hc] at h;cases h
theorem ex (k:Nat) (hq:PQ Q (.exit k) s) (h:nav p C=.exit k:=by kernel_rfl):WP Γ C p Q s:=⟨at_exit k h hq.out⟩
theorem re (hq:PQ Q .ret s) (h:nav p C=.ret:=by kernel_rfl):WP Γ C p Q s:=⟨at_ret h hq.out⟩
theorem sk (hq:PQ Q .normal s) (h:nav p C=.skip:=by kernel_rfl):WP Γ C p Q s:=⟨at_skip h hq.out⟩
theorem cn {c:Bool} {x y:Option ζ} {r:ζ} (H:(if c=true then x else y)=some r) (h1:x=some r->WP Γ C (p++[0]) Q s) (h2:y=some r->WP Γ C (p++[1]) Q s) (h:isCond (nav p C)=true:=by kernel_rfl) (hc:evalA s.env (condOp (nav p C))=.d (.bool c):=by kernel_rfl):WP Γ C p Q s:=by
 refine ⟨at_cond c (cond_nav h) hc (λ e=>?_) (λ e=>?_)⟩
 ·rw [if_pos e] at H;exact (h1 H).out
 ·rw [if_neg (by rw [e];simp)] at H;exact (h2 H).out
theorem sj {σ ζ:Type} (sJ:σ->St) (F:σ->Option ζ) (z:ζ) (hb:∀ x,F x=some z->WP Γ C (p++[1]) Q (sJ x)) (ha:(∀ x,F x=some z->WP Γ C (p++[1]) Q (sJ x))->WP Γ C (p++[0]) (seqQ Γ.nt.nk (wpA Γ (nav (p++[1]) C) Q) Q) s) (h:isSeq (nav p C)=true:=by kernel_rfl):WP Γ C p Q s:=sq (ha hb) h
theorem lp {σ ρ:Type} {body:σ->Option (σ⊕ρ)} {n:Nat} {x:σ} {r:ρ} (st:σ->St) (E:ρ->Ex->St->Prop) (hr:whl body n x=some r) (hs:Shift Γ.nt.nk s (st x))
  (hb:∀ x z,body x=some z->WP Γ C (p++[0]) (roundQ Γ.nt.nk st E z) (st x)) (hE:∀ e s,E r e s->PQ Q e s) (h:isLoop (nav p C)=true:=by kernel_rfl):WP Γ C p Q s:=⟨at_loop st E (loop_nav h) hr hs (λ x z hx=>(hb x z hx).out) (λ e s he=>(hE e s he).out)⟩
theorem fo {P:Program} {fn:Func} {f:FuncId} {args:List AV} {r:AV} (hfol:P.follows .mixedOrders=true) (hΓ:CxOK P Γ) (hf:P.funcs[f]? = some fn) (h:WP Γ (bodyOf fn) [] (postA Γ.ty fn.results.toList r) s)
  (hb:fn.body=some (bodyOf fn):=by kernel_rfl) (hnm:(fn.name == "runtime.NumGoroutine")=false:=by kernel_rfl) (hnt:Γ.nt.n=fn.ntmps:=by kernel_rfl) (hlen:Nat.ble args.length fn.ntmps=true:=by kernel_rfl) (hs:(⟨(List.range args.length).zip args,[]⟩:St)=s:=by kernel_rfl):CallOK P f args r:=
 fn_ok hfol hΓ hf hb hnm hnt hlen hs h.out
theorem pick_genz {c a b:AV} {t x y z:Bool} {r q q':Prop} (hc:condB c=some (t,r)) (ha:unP t a=some (x,q)) (hb:unP (!t) b=some (y,q')) (hr:r) (hq:q) (hq':q') (hz:(bif t then x else y)=z:=by kernel_rfl):OpIs (pickA c a b) (.d (.bool z)) [] [] none:=hz▸pick_gen hc ha hb hr hq hq'
theorem bx {G:Prop} {x:Option α} {f:α->Option β} {r:β} (h:x.bind f=some r) (k:∀ a,x=some a->f a=some r->G):G:=by obtain ⟨a,h1,h2⟩:=bind_some h;exact k a h1 h2
theorem bs {x:Option α} {f:α->Option β} {r:β} (h:x.bind f=some r):∃ a,x=some a∧f a=some r:=bind_some h
theorem qs (hs:Shift Γ.nt.nk s s') (h:WP Γ C p Q s'):PQ (seqQ Γ.nt.nk (wpA Γ (nav p C) Q) Q) .normal s:=⟨s',hs,h.out⟩
theorem qz (h:WP Γ C p Q s):PQ (seqQ Γ.nt.nk (wpA Γ (nav p C) Q) Q) .normal s:=⟨s,.refl s,h.out⟩
theorem qx {B:St->Prop} {k:Nat} (h:PQ Q (.exit k) s):PQ (seqQ nk B Q) (.exit k) s:=⟨h.out⟩
theorem qr {B:St->Prop} (h:PQ Q .ret s):PQ (seqQ nk B Q) .ret s:=⟨h.out⟩
theorem qN {id:Nat} (h:PQ Q .normal s):PQ (blockQ id Q) .normal s:=⟨h.out⟩
theorem qH {id:Nat} (h:PQ Q .normal s):PQ (blockQ id Q) (.exit id) s:=⟨q_blockH h.out⟩
theorem qX {id k:Nat} (hn:Nat.beq k id=false) (h:PQ Q (.exit k) s):PQ (blockQ id Q) (.exit k) s:=⟨q_blockX hn h.out⟩
theorem qR {id:Nat} (h:PQ Q .ret s):PQ (blockQ id Q) .ret s:=⟨h.out⟩
theorem og {σ ρ:Type} {st:σ->St} {E:ρ->Ex->St->Prop} {y:σ} (h:Shift nk s (st y)):PQ (roundQ nk st E (.inl y)) .normal s:=⟨round_go h⟩
theorem oe {σ ρ:Type} {st:σ->St} {E:ρ->Ex->St->Prop} {r:ρ} {k:Nat} (h:E r (.exit k) s):PQ (roundQ nk st E (.inr r)) (.exit k) s:=⟨round_exit h⟩
theorem or {σ ρ:Type} {st:σ->St} {E:ρ->Ex->St->Prop} {r:ρ} (h:E r .ret s):PQ (roundQ nk st E (.inr r)) .ret s:=⟨round_ret h⟩
theorem pr {ty:Nat->Ty} {rs:List ResultVar} {r:AV} (h:RA ty rs r s):PQ (postA ty rs r) .ret s:=⟨h.out⟩
def nxP (Γ:Cx) (C:Code) (p:List Nat) (i n:Nat) (s:St):St:=(runP Γ (opsIn (nav p C)) (((opsIn (nav p C)).drop i).take n) s).getD s
theorem ck (n:Nat) (hk:RF Γ C p (i+n) Q (nxP Γ C p i n s)) (h:(runP Γ (opsIn (nav p C)) (((opsIn (nav p C)).drop i).take n) s).isSome=true:=by kernel_rfl):RF Γ C p i Q s:=⟨chunk n _ (getD_ok h) rfl hk.out⟩
def OpAt (_:St) (x:Option Eff) (v:AV) (obs:List Ob) (rm:List Nat) (upd:Option (Nat×Ob)):Prop:=OpIs x v obs rm upd
theorem sp {v:AV} {obs:List Ob} {rm:List Nat} {upd:Option (Nat×Ob)} {x:Option Eff} (ho:OpAt s x v obs rm upd) (hk:RF Γ C p (i+1) Q ((nextS Γ (nav p C) i v obs rm upd s).getD s)) (hx:opOf Γ (nav p C) i s=x:=by kernel_rfl) (hn:(nextS Γ (nav p C) i v obs rm upd s).isSome=true:=by kernel_rfl):RF Γ C p i Q s:=⟨spec _ hx ho (getD_ok hn) rfl hk.out⟩
def opV (Γ:Cx) (c:Code) (i:Nat) (s:St):AV:=match opOf Γ c i s with
 | some e=>e.v
 | none=>.top
theorem so {ob:Prop} (ho:ob) (hk:RF Γ C p (i+1) Q ((nextS Γ (nav p C) i (opV Γ (nav p C) i s) [] [] none s).getD s)) (hx:opOf Γ (nav p C) i s=valOb (opV Γ (nav p C) i s) ob:=by kernel_rfl) (hn:(nextS Γ (nav p C) i (opV Γ (nav p C) i s) [] [] none s).isSome=true:=by kernel_rfl):RF Γ C p i Q s:=sp (is_ob ho) hk hx hn
theorem sG {g:Bool} {v:AV} {obs:List Ob} {x:Option Eff} {gs:List Bool} (ho:g=true->OpAt s x v obs [] none) (hi:impAll g gs) (hk:RF Γ C p (i+1) Q ((nextG Γ (nav p C) i g v obs s).getD s)) (hg:gAt (nav p C) i s=some g:=by kernel_rfl) (hx:opOf Γ (nav p C) i s=x:=by kernel_rfl) (hgs:gvsAt (nav p C) i s=gs:=by kernel_rfl) (hn:(nextG Γ (nav p C) i g v obs s).isSome=true:=by kernel_rfl):RF Γ C p i Q s:=⟨specG _ hg hx ho hgs hi (getD_ok hn) rfl hk.out⟩
theorem soG {g:Bool} {ob:Prop} {gs:List Bool} (ho:g=true->ob) (hi:impAll g gs) (hk:RF Γ C p (i+1) Q ((nextG Γ (nav p C) i g (opV Γ (nav p C) i s) [] s).getD s)) (hg:gAt (nav p C) i s=some g:=by kernel_rfl) (hx:opOf Γ (nav p C) i s=valOb (opV Γ (nav p C) i s) ob:=by kernel_rfl) (hgs:gvsAt (nav p C) i s=gs:=by kernel_rfl) (hn:(nextG Γ (nav p C) i g (opV Γ (nav p C) i s) [] s).isSome=true:=by kernel_rfl):RF Γ C p i Q s:=sG (λ e=>is_ob (ho e)) hi hk hg hx hgs hn
def plV (Γ:Cx) (c:Code) (i:Nat) (s:St):AV×List Ob:=(opPl Γ c i s).getD (.top,[])
theorem gp (g:Bool) {gs:List Bool} (hi:impAll g gs) (hk:RF Γ C p (i+1) Q ((nextG Γ (nav p C) i g (plV Γ (nav p C) i s).1 (plV Γ (nav p C) i s).2 s).getD s)) (hg:gAt (nav p C) i s=some g:=by kernel_rfl) (hp:(opPl Γ (nav p C) i s).isSome=true:=by kernel_rfl) (hgs:gvsAt (nav p C) i s=gs:=by kernel_rfl) (hn:(nextG Γ (nav p C) i g (plV Γ (nav p C) i s).1 (plV Γ (nav p C) i s).2 s).isSome=true:=by kernel_rfl):RF Γ C p i Q s:=
 ⟨specG _ hg rfl (λ _=>is_pl (getD_ok (d:=(.top,[])) hp)) hgs hi (getD_ok hn) rfl hk.out⟩
def gl (Γ:Cx) (c:Code) (g:Bool):Nat->Nat->St->Option (List Bool×St)
 | 0,_,s=>some ([],s)
 | n+1,i,s=>match gAt c i s,(opPl Γ c i s).isSome,nextG Γ c i g (plV Γ c i s).1 (plV Γ c i s).2 s with
  | some g',true,some s1=>match gl Γ c g n (i+1) s1 with
   | some (l,s2)=>some (g'::(gvsAt c i s++l),s2)
   | none=>none
  | _,_,_=>none
theorem impAll_of {g:Bool}:∀ {l:List Bool},(∀ b∈l,b=g)->impAll g l:=by
 intro l
 induction l with
 | nil=>intro _;trivial
 | cons b l ih=>intro h;exact ⟨λ e=>by rw [h b (by simp)];exact e,ih λ x hx=>h x (by simp [hx])⟩
theorem gl_ok {g:Bool}:∀ (n i:Nat) (s:St) (l:List Bool) (s2:St),gl Γ (nav p C) g n i s=some (l,s2)->(∀ b∈l,b=g)->RF Γ C p (i+n) Q s2->RF Γ C p i Q s:=by
 intro n
 induction n with
 | zero=>intro i s l s2 h _ hk;cases h;exact hk
 | succ n ih=>
  intro i s l s2 h hl hk
  simp only [gl] at h
  split at h
  ·rename_i g' s1 h1 h2 h3
   split at h
   ·rename_i l' s2' h4
    cases h
    have e:g'=g:=hl g' (by simp)
    subst e
    have hlast:=ih (i+1) s1 l' s2 h4 (λ b hb=>hl b (by simp [hb])) (by rw [Nat.add_assoc,Nat.add_comm 1 n];exact hk)
    refine gp g' (impAll_of λ b hb=>hl b (by simp [hb])) ?_ h1 h2 rfl (by rw [h3];rfl)
    rw [h3]
    exact hlast
   ·cases h
  ·cases h
theorem gc (n:Nat) (g:Bool) (hk:RF Γ C p (i+n) Q ((gl Γ (nav p C) g n i s).getD ([],s)).2) (h1:(gl Γ (nav p C) g n i s).isSome=true:=by kernel_rfl) (h2:((gl Γ (nav p C) g n i s).getD ([],s)).1=List.replicate ((gl Γ (nav p C) g n i s).getD ([],s)).1.length g:=by kernel_rfl):RF Γ C p i Q s:=by
 refine gl_ok n i s _ _ (getD_ok (d:=([],s)) h1) (λ b hb=>?_) hk
 have hb':b∈((gl Γ (nav p C) g n i s).getD ([],s)).1:=hb
 rw [h2] at hb'
 exact List.eq_of_mem_replicate hb'
def bo:AV->Bool
 | .d (.bool b)=>b
 | .gv _ (.d (.bool b))=>b
 | _=>false
def pkO (c:Code) (i:Nat) (s:St):AV×AV×AV:=
 match (opsIn c)[i]? with
 | some o=>match o.op with
  | .pick x y z=>(evalA s.env x,evalA s.env y,evalA s.env z)
  | _=>(.top,.top,.top)
 | none=>(.top,.top,.top)
def pkT (c:Code) (i:Nat) (s:St):Bool:=bo (pkO c i s).1
def pkX (c:Code) (i:Nat) (s:St):Bool:=bo (pkO c i s).2.1
def pkY (c:Code) (i:Nat) (s:St):Bool:=bo (pkO c i s).2.2
def pkV (c:Code) (i:Nat) (s:St):AV:=.d (.bool (bif pkT c i s then pkX c i s else pkY c i s))
theorem pA (hk:RF Γ C p (i+1) Q ((nextP Γ (nav p C) i (pkV (nav p C) i s) s).getD s)) (h:pickOf (nav p C) i s=pickA (.d (.bool (pkT (nav p C) i s))) (.gv (pkT (nav p C) i s) (.d (.bool (pkX (nav p C) i s)))) (.d (.bool (pkY (nav p C) i s))):=by kernel_rfl) (hn:(nextP Γ (nav p C) i (pkV (nav p C) i s) s).isSome=true:=by kernel_rfl):RF Γ C p i Q s:=⟨specP _ h pick_and (getD_ok hn) rfl hk.out⟩
theorem pO (hk:RF Γ C p (i+1) Q ((nextP Γ (nav p C) i (pkV (nav p C) i s) s).getD s)) (h:pickOf (nav p C) i s=pickA (.d (.bool (pkT (nav p C) i s))) (.d (.bool (pkX (nav p C) i s))) (.gv (!(pkT (nav p C) i s)) (.d (.bool (pkY (nav p C) i s)))):=by kernel_rfl) (hn:(nextP Γ (nav p C) i (pkV (nav p C) i s) s).isSome=true:=by kernel_rfl):RF Γ C p i Q s:=⟨specP _ h pick_or (getD_ok hn) rfl hk.out⟩
theorem pG {g:Bool} {v:AV} {x:Option Eff} (ho:g=true->OpIs x v [] [] none) (hk:RF Γ C p (i+1) Q ((nextPG Γ (nav p C) i g v s).getD s)) (hg:gAt (nav p C) i s=some g:=by kernel_rfl) (hx:pickOf (nav p C) i s=x:=by kernel_rfl) (hn:(nextPG Γ (nav p C) i g v s).isSome=true:=by kernel_rfl):RF Γ C p i Q s:=⟨specPG _ hg hx ho (getD_ok hn) rfl hk.out⟩
theorem sF (hk:RF Γ C p (i+1) Q ((nextF Γ (nav p C) i ((freshOf Γ (nav p C) i s).getD []) s).getD s)) (hx:(freshOf Γ (nav p C) i s).isSome=true:=by kernel_rfl) (hn:(nextF Γ (nav p C) i ((freshOf Γ (nav p C) i s).getD []) s).isSome=true:=by kernel_rfl):RF Γ C p i Q s:=⟨specF _ _ (getD_ok hx) (getD_ok hn) rfl hk.out⟩
theorem sK (obj:Bool) (hk:RF Γ C p (i+1) Q ((nextK Γ (nav p C) i obj ((keepOf Γ (nav p C) i s).getD (0,[])).1 ((keepOf Γ (nav p C) i s).getD (0,[])).2 s).getD s)) (hx:(keepOf Γ (nav p C) i s).isSome=true:=by kernel_rfl) (hn:(nextK Γ (nav p C) i obj ((keepOf Γ (nav p C) i s).getD (0,[])).1 ((keepOf Γ (nav p C) i s).getD (0,[])).2 s).isSome=true:=by kernel_rfl):RF Γ C p i Q s:=⟨specK _ obj _ (getD_ok (d:=(0,[])) hx) (getD_ok hn) rfl hk.out⟩
theorem ca (m:Bool) {f:FuncId} {ys:List AV} {r:AV} (hr:Γ.calls f ys r) (hk:RF Γ C p (i+1) Q ((nextC Γ (nav p C) i m (lensR r) r s).getD s)) (hc:callAt (nav p C) i s=some (f,ys,[],[]):=by kernel_rfl) (hn:(nextC Γ (nav p C) i m (lensR r) r s).isSome=true:=by kernel_rfl):RF Γ C p i Q s:=⟨callS _ m hc leZ rfl hr (.inl rfl) rfl (getD_ok hn) rfl hk.out⟩
theorem cb (m:Bool) {f:FuncId} {xs ys:List AV} {ks:List Nat} {obl:List (Nat×Nat)} {r:AV} {ls:List Nat} (hob:leAll obl) (hxs:xs=ys) (hr:Γ.calls f ys r) (hf:ks=[]∨flatR r) (hls:lensR r=ls) (hk:RF Γ C p (i+1) Q ((nextC Γ (nav p C) i m ls r s).getD s)) (hc:callAt (nav p C) i s=some (f,xs,ks,obl):=by kernel_rfl) (hn:(nextC Γ (nav p C) i m ls r s).isSome=true:=by kernel_rfl):RF Γ C p i Q s:=⟨callS _ m hc hob hxs hr hf hls (getD_ok hn) rfl hk.out⟩
theorem cG (m:Bool) {g:Bool} {gs:List Bool} {f:FuncId} {xs ys:List AV} {ks:List Nat} {obl:List (Nat×Nat)} {r:AV} {ls:List Nat} (hob:leAll obl) (hxs:xs=ys) (hr:g=true->Γ.calls f ys r) (hf:ks=[]∨flatR r) (hi:impAll g gs) (hls:lensR r=ls) (hk:RF Γ C p (i+1) Q ((nextCG Γ (nav p C) i g m ls r s).getD s)) (hg:gAt (nav p C) i s=some g:=by kernel_rfl) (hc:callAt (nav p C) i s=some (f,xs,ks,obl):=by kernel_rfl) (hgs:gvsAt (nav p C) i s=gs:=by kernel_rfl) (hn:(nextCG Γ (nav p C) i g m ls r s).isSome=true:=by kernel_rfl):RF Γ C p i Q s:=⟨callG _ m hg hc hob hxs hr hf hgs hi hls (getD_ok hn) rfl hk.out⟩
theorem at_idxD (e:α->List D) {xs:List α} {n:Int} {x:α} (h:idx xs n=some x):OpAt s (valOb (.dptr ((xs.map e)[n.toNat]?.getD []) 0) (0≤n∧n<(xs.map e).length∧((xs.map e)[n.toNat]?.getD []).length=(e x).length)) (.dptr (e x) 0) [] [] none:=
 is_idxD (esz:=(e x).length) (eb:=0) (ez:=[]) h (Nat.beq_refl _)
theorem at_idxO (k esz:Nat) {xs:List α} {n:Int} {x:α} (h:idx xs n=some x):OpAt s (valOb (.eptr k esz (0+n.toNat) 0) (0≤n∧n<(xs.length:Nat)∧esz=esz)) (.eptr k esz (0+n.toNat) 0) [] [] none:=is_idxO (esz:=esz) (eb:=0) (ez:=[]) h
theorem at_idxV (k off m:Nat) {xs:List α} {n:Int} {x:α} (h:idx xs n=some x) (hm:xs.length=m:=by kernel_rfl):OpAt s (valOb (.ptr k (off+n.toNat*1)) (0≤n∧n<(m:Nat))) (.ptr k (off+n.toNat*1)) [] [] none:=by
 obtain ⟨h1,h2,_⟩:=idx_some h
 exact .of rfl ⟨h1,by rw [← hm];exact h2⟩
theorem at_ldV {e1:α->D} (k off m:Nat) (t:Ty) {xs:List α} {n:Int} {x:α} (h:idx xs n=some x) (hk:obA s.objs k=some (.box (boxAt s k)):=by kernel_rfl) (hc:((boxAt s k).drop off).take m=xs.map (λ x=>AV.d (e1 x)):=by kernel_rfl) (ht:(!t.agg&&Nat.beq t.size 1)=true:=by kernel_rfl) :
  OpAt s (loadA t s.objs (.ptr k (off+n.toNat*1))) (.d (e1 x)) [] [] none:=by
 generalize boxAt s k=cells at hk hc
 obtain ⟨h1,_,h2⟩:=idx_some h
 simp only [Bool.and_eq_true,Bool.not_eq_true'] at ht
 have hs:=Nat.eq_of_beq_eq_true ht.2
 have hg:cells[off+n.toNat*1]? = some (.d (e1 x)):=by
  have hm:n.toNat<((cells.drop off).take m).length:=by rw [hc,List.length_map];exact (List.getElem?_eq_some_iff.1 h2).1
  have:((cells.drop off).take m)[n.toNat]? = some (.d (e1 x)):=by rw [hc,List.getElem?_map,h2];rfl
  rw [List.getElem?_take_of_lt (by simp at hm;omega),List.getElem?_drop] at this
  rw [Nat.mul_one];exact this
 have hl:=(List.getElem?_eq_some_iff.1 hg).1
 have:loadA t s.objs (.ptr k (off+n.toNat*1))=valOb (.d (e1 x)) (off+n.toNat*1+t.size≤cells.length):=by
  simp only [loadA,hk,ldCells,ht.1,cond_false,hg]
 rw [this]
 exact .of rfl (by rw [hs];omega)
def ldV (l:List D) (off:Nat) (t:Ty):AV:=(ldCells (l.map .d) off t).getD .top
theorem at_ldA (e:α->List D) (k off:Nat) (t:Ty) {xs:List α} {n:Int} {x:α} (h:idx xs n=some x) (hk:obA s.objs k=some (.arr (e x).length (xs.map e)):=by kernel_rfl) (hv:(ldCells ((e x).map .d) off t).isSome=true:=by kernel_rfl) (hl:Nat.ble (off+t.size) (e x).length=true:=by kernel_rfl) :
  OpAt s (loadA t s.objs (.eptr k (e x).length (0+n.toNat) off)) (ldV (e x) off t) [] [] none:=is_ldA hk h (getD_ok hv) hl
def stV (c:Code) (i:Nat) (s:St):AV:=
 match (opsIn c)[i]? with
 | some o=>match o.op with
  | .store _ _ v=>unG (evalA s.env v)
  | _=>.top
 | none=>.top
def stR (c:Code) (i:Nat) (s:St):List D:=((xDs s.objs (cellsA (stV c i s))).getD ([],[],[])).1
theorem stA (e:α->List D) (k off:Nat) (t:Ty) {xs zs:List α} {n:Int} {x y:α} (h:idx xs n=some x) (hz:put xs n y=some zs) (hk:RF Γ C p (i+1) Q ((nextS Γ (nav p C) i .top [] [] (some (k,.arr (e x).length (zs.map e))) s).getD s))
  (h1:obA s.objs k=some (.arr (e x).length (xs.map e)):=by kernel_rfl) (h2:xDs s.objs (cellsA (stV (nav p C) i s))=some (stR (nav p C) i s,[],[]):=by kernel_rfl) (h3:(cellsOk (stV (nav p C) i s)&&(cellsA (stV (nav p C) i s)).all solid)=true:=by kernel_rfl) (h4:spliceD (e x) off (stR (nav p C) i s)=e y:=by kernel_rfl) (h5:(Nat.beq (stR (nav p C) i s).length t.size&&Nat.ble (off+t.size) (e x).length)=true:=by kernel_rfl)
  (hx:opOf Γ (nav p C) i s=storeA t s.objs (.eptr k (e x).length (0+n.toNat) off) (stV (nav p C) i s):=by kernel_rfl) (hn:(nextS Γ (nav p C) i .top [] [] (some (k,.arr (e x).length (zs.map e))) s).isSome=true:=by kernel_rfl):RF Γ C p i Q s:=
 sp (is_stA h1 h hz h2 leZ (by rw [h3];rfl) h4 h5) hk hx hn
theorem at_app (e:α->List D) (k esz:Nat) {xs ys zs:List α} {eb:Nat} (h:app eb xs ys=some zs) (hk:obA s.objs k=some (.arr esz (xs.map e)):=by kernel_rfl) (hl:∀ y,(e y).length=esz:=by intro _;rfl):OpAt s (appendA esz eb s.objs (.osl k esz 0 xs.length) (ys.map e) True) (.osl s.objs.length esz 0 zs.length) [.arr esz (zs.map e)] [k] none:=is_app hk rfl hl trivial h
theorem at_appS (k:Nat) {t:List UInt8} {xs zs:List Int} {eb:Nat} (h:app eb xs (bytesOf t)=some zs) (hk:obA s.objs k=some (.arr 1 (xs.map eU8)):=by kernel_rfl):OpAt s (appendA 1 eb s.objs (.osl k 1 0 xs.length) (t.map λ b=>[D.int .u8 b.toNat]) True) (.osl s.objs.length 1 0 zs.length) [.arr 1 (zs.map eU8)] [k] none:=is_app (enc:=eU8) hk bytes_map (λ _=>rfl) trivial h
theorem at_appO (e:α->List D) (k esz:Nat) {xs ys zs:List α} {eb:Nat} (h:app eb xs ys=some zs) (hk:obA s.objs k=some (.arr esz (xs.map e)):=by kernel_rfl) (hl:∀ y,(e y).length=esz:=by intro _;rfl):OpAt s (appendA esz eb s.objs (.osl k esz 0 xs.length) (((ys.map e).drop 0).take ys.length) (0+ys.length≤(ys.map e).length)) (.osl s.objs.length esz 0 zs.length) [.arr esz (zs.map e)] [k] none:=is_app hk take_all hl (by simp) h
theorem at_cat {x y z:List UInt8} (h:cat x y=some z):OpAt s (strA .add x y) (.d (.str z)) [] [] none:=is_cat h
theorem at_sidx {t:List UInt8} {n b:Int} (h:sidx t n=some b):OpAt s (valOb (.d (.int .u8 (t[n.toNat]?.getD 0).toNat)) (0≤n∧n<t.length)) (.d (.int .u8 b)) [] [] none:=is_sidx h
theorem at_ssub {t z:List UInt8} {l h:Int} (hz:sub t l h=some z):OpAt s (valOb (.d (.str ((t.take h.toNat).drop l.toNat))) (0≤l∧l≤h∧h≤t.length)) (.d (.str z)) [] [] none:=is_ssub hz
theorem at_sub (e:α->List D) (esz:Nat) {xs zs:List α} {l h:Int} (hz:sub xs l h=some zs) (hl:∀ y,(e y).length=esz:=by intro _;rfl):OpAt s (valOb (.d (.sl (((xs.map e).take h.toNat).drop l.toNat))) (0≤l∧l≤h∧h≤(xs.map e).length∧∀ y∈xs.map e,y.length=esz)) (.d (.sl (zs.map e))) [] [] none:=is_sub hz hl
theorem at_slO (k esz:Nat) {xs zs:List α} {l h:Int} (hz:sub xs l h=some zs):OpAt s (valOb (.osl k esz (0+l.toNat) (h.toNat-l.toNat)) (0≤l∧l≤h∧h≤(xs.length:Int)∧esz=esz)) (.osl k esz (0+l.toNat) (h.toNat-l.toNat)) [] [] none:=is_slO (eb:=0) (ez:=[]) hz
theorem at_mk (e:α->List D) (esz:Nat) {zs:List α} {n:Int} {z:α} {eb:Nat} (h:mkl eb n z=some zs):OpAt s (some ⟨.osl s.objs.length esz 0 n.toNat,[.arr esz (List.replicate n.toNat (e z))],[],none,0≤n∧n=n∧n.toNat*eb≤70368744177664⟩) (.osl s.objs.length esz 0 zs.length) [.arr esz (zs.map e)] [] none:=is_mk h rfl
theorem at_bstr {b:List Int} {z:List UInt8} (h:bstr b=some z):OpAt s (convA (.slice 1 1 [.int .u8 0]) .string (.d (.sl (b.map λ n=>[.int .u8 n])))) (.d (.str z)) [] [] none:=is_bstr h
theorem at_len (e:α->List D) (xs:List α):OpAt s (val (.d (.int .i64 (xs.map e).length))) (.d (.int .i64 xs.length)) [] [] none:=is_len (esz:=0) (eb:=0) (ez:=[])
theorem cl (ls:List Nat) {f:FuncId} {ys:List AV} {r:AV} (hr:Γ.calls f ys r) (hk:RF Γ C p (i+1) Q ((nextC Γ (nav p C) i true ls r s).getD s)) (hls:lensR r=ls:=by simp only [lensR,lensT,lensA,lensC,List.length_map,List.nil_append,List.append_nil,List.cons_append]) (hc:callAt (nav p C) i s=some (f,ys,[],[]):=by kernel_rfl) (hn:(nextC Γ (nav p C) i true ls r s).isSome=true:=by kernel_rfl):RF Γ C p i Q s:=⟨callS _ true hc leZ rfl hr (.inl rfl) hls (getD_ok hn) rfl hk.out⟩
theorem at_ldN {encN:α->List AV} {xss:List α} {x:α} {row:List AV} {n:Int} {k sz off:Nat} {t:Ty} {v:AV} (h:idx xss n=some x) (hk:obA s.objs k=some (.narr sz ((xss.map encN).set n.toNat row)):=by kernel_rfl) (hv:ldCells row off t=some v:=by kernel_rfl) (hs:(cellsA v).all solid=true:=by kernel_rfl) (hl:Nat.ble (off+t.size) row.length=true:=by kernel_rfl) :
  OpAt s (loadA t s.objs (.eptr k sz (0+n.toNat) off)) v [] [] none:=is_ldN hk h hv hs hl
theorem at_stN {encN:α->List AV} {xss:List α} {x:α} {row row':List AV} {n:Int} {k sz off:Nat} {t:Ty} {v:AV} (h:idx xss n=some x) (hk:obA s.objs k=some (.narr sz ((xss.map encN).set n.toNat row)):=by kernel_rfl) (hc:(cellsOk v&&(cellsA v).all solid)=true:=by kernel_rfl) (hy:splice row off (cellsA v)=row':=by kernel_rfl) (hl:(Nat.beq (cellsA v).length t.size&&Nat.ble (off+t.size) sz)=true:=by kernel_rfl) :
  OpAt s (storeA t s.objs (.eptr k sz (0+n.toNat) off) v) .top [] [] (some (k,.narr sz ((xss.map encN).set n.toNat row'))):=is_stN hk h hc hy hl
theorem at_appN {encN:α->List AV} {xss yss:List α} {y:α} {esz eb k:Nat} {e:List D} (h:app eb xss [y]=some yss) (hk:obA s.objs k=some (.narr esz (xss.map encN)):=by kernel_rfl) (hl:Nat.beq e.length esz=true:=by kernel_rfl) :
  OpAt s (appendA esz eb s.objs (.osl k esz 0 xss.length) [e] True) (.osl s.objs.length esz 0 yss.length) [.narr esz (xss.map encN++[e.map toN])] [k] none:=is_appN hk hl trivial h
theorem at_look1 {κ:Type} [DecidableEq κ] {encK:κ->List D} {enc:α->List D} {ks:List TK} {k:Nat} {m:List (κ×α)} {key:κ} {l:List AV} {z:α} {vz:List D} {e1:α->D} (heq:∀ a b,eqCells ks ((encK a).map .d) ((encK b).map .d)=some (decide (a=b))) (ok:Bool) (he:∀ x,enc x=[e1 x]:=by intro _;rfl) (hz:vz=[e1 z]:=by kernel_rfl) (hk:obA s.objs k=some (.map true false (encM encK enc m)):=by kernel_rfl) (hx:xDs s.objs l=some (encK key,[],[]):=by kernel_rfl) :
  OpAt s (lookA (.map ks true false vz) s.objs (.mp k) (.agg l) ok) (bif ok then .tup [.d (e1 ((mget key m).getD z)),.d (.bool (mget key m).isSome)] else .d (e1 ((mget key m).getD z))) [] [] none:=is_look1 heq he hz hk hx ok
theorem at_put1 {κ:Type} [DecidableEq κ] {encK:κ->List D} {enc:α->List D} {ks:List TK} {k:Nat} {m:List (κ×α)} {key:κ} {l:List AV} {v:AV} {y:α} {vz:List D} {e1:α->D} (heq:∀ a b,eqCells ks ((encK a).map .d) ((encK b).map .d)=some (decide (a=b))) (he:∀ x,enc x=[e1 x]:=by intro _;rfl) (hz:Nat.beq vz.length 1=true:=by kernel_rfl) (hk:obA s.objs k=some (.map true false (encM encK enc m)):=by kernel_rfl) (hx:xDs s.objs l=some (encK key,[],[]):=by kernel_rfl) (hv:v=.d (e1 y):=by kernel_rfl) (hvx:xDs s.objs [v]=some (enc y,[],[]):=by kernel_rfl) :
  OpAt s (mputA (.map ks true false vz) s.objs (.mp k) (.agg l) v) .top [] [] (some (k,.map true false (encM encK enc (mput key y m)))):=is_put1 heq he hz hk hx hv hvx
def isDat:AV->Bool
 | .d _=>true
 | .agg l=>l.all isDD
 | _=>false
theorem ksE_append (l m:List (Option (Nat×Nat×Nat))):ksE (l++m)=ksE l++ksE m:=by
 induction l with
 | nil=>rfl
 | cons a l ih=>cases a<;>simp [ksE,ih]
theorem entV_d {a:AV} (h:isDD a=true):ksE (entV a a)=[]:=by
 cases a with
 | d x=>cases x<;>rfl
 | _=>cases h
theorem outV_dd {objs:List (Option Ob)} {a:AV} (h:isDD a=true):outV objs a a:=by
 cases a with
 | d x=>exact outV_d
 | _=>cases h
theorem dat_C {objs:List (Option Ob)}:∀ {l:List AV},l.all isDD=true->outC objs l l∧ksE (entC l l)=[]:=by
 intro l
 induction l with
 | nil=>intro _;exact ⟨trivial,rfl⟩
 | cons a l ih=>
  intro h
  simp only [List.all_cons,Bool.and_eq_true] at h
  obtain ⟨h1,h2⟩:=ih h.2
  exact ⟨⟨outV_dd h.1,h1⟩,by simp only [entC,ksE_append,entV_d h.1,h2,List.append_nil]⟩
theorem dat_A {objs:List (Option Ob)} {a:AV} (h:isDat a=true):outA objs a a∧ksE (entA a a)=[]:=by
 cases a with
 | d x=>exact ⟨outV_d,entV_d (a:=.d x) rfl⟩
 | agg l=>exact dat_C h
 | _=>cases h
theorem dat_T {objs:List (Option Ob)}:∀ {l:List AV},l.all isDat=true->outT objs l l∧ksE (entT l l)=[]:=by
 intro l
 induction l with
 | nil=>intro _;exact ⟨trivial,rfl⟩
 | cons a l ih=>
  intro h
  simp only [List.all_cons,Bool.and_eq_true] at h
  obtain ⟨h1,h2⟩:=ih h.2
  obtain ⟨h3,h4⟩:=dat_A (objs:=objs) h.1
  exact ⟨⟨h3,h1⟩,by simp only [entT,ksE_append,h4,h2,List.append_nil]⟩
theorem rd {ty:Nat->Ty} {rs:List ResultVar} {r:AV} (hd:isDat r=true:=by kernel_rfl) (h:resB ty s rs=some [r]:=by kernel_rfl):RA ty rs r s:=⟨ret1 [] h (dat_A hd).1 (dat_A (objs:=[]) hd).2 (by simp)⟩
theorem rdT {ty:Nat->Ty} {rs:List ResultVar} {l:List AV} (hd:l.all isDat=true:=by kernel_rfl) (h:resB ty s rs=some l:=by kernel_rfl) (hl:Nat.beq l.length 1=false:=by kernel_rfl):RA ty rs (.tup l) s:=⟨retT h hl (dat_T hd).1 [] (dat_T (objs:=[]) hd).2 (by simp)⟩
structure OV (s:St) (a r:AV):Prop where
 out:outV s.objs a r
structure OC (s:St) (a r:List AV):Prop where
 out:outC s.objs a r
structure OA (s:St) (a r:AV):Prop where
 out:outA s.objs a r
structure OT (s:St) (a r:List AV):Prop where
 out:outT s.objs a r
theorem c0:OC s [] []:=⟨trivial⟩
theorem c1 {a r:AV} {l m:List AV} (h:OV s a r) (h':OC s l m):OC s (a::l) (r::m):=⟨⟨h.out,h'.out⟩⟩
theorem a1 {l m:List AV} (h:OC s l m):OA s (.agg l) (.agg m):=⟨h.out⟩
theorem ad {x:D} {r:AV} (h:OV s (.d x) r):OA s (.d x) r:=⟨h.out⟩
theorem ao {k sz lo n:Nat} {r:AV} (h:OV s (.osl k sz lo n) r):OA s (.osl k sz lo n) r:=⟨h.out⟩
theorem t0:OT s [] []:=⟨trivial⟩
theorem t1 {a r:AV} {l m:List AV} (h:OA s a r) (h':OT s l m):OT s (a::l) (r::m):=⟨⟨h.out,h'.out⟩⟩
theorem vd {x:D}:OV s (.d x) (.d x):=⟨outV_d⟩
theorem vz {sz:Nat}:OV s (.d .nil) (.own sz []):=⟨outV_nilO⟩
theorem vo {enc:α->List D} {xs:List α} {k sz:Nat} (h:obA s.objs k=some (.arr sz (xs.map enc)):=by kernel_rfl):OV s (.osl k sz 0 xs.length) (.own sz (xs.map enc)):=⟨outV_own h⟩
theorem rO {ty:Nat->Ty} {rs:List ResultVar} {v r:AV} (ks:List Nat) (ho:OA s v r) (h:resB ty s rs=some [v]:=by kernel_rfl) (hks:ksE (entA v r)=ks:=by kernel_rfl) (hnd:ks.Nodup:=by decide):RA ty rs r s:=⟨ret1 ks h ho.out hks hnd⟩
theorem rT {ty:Nat->Ty} {rs:List ResultVar} {vs l:List AV} (ks:List Nat) (ho:OT s vs l) (h:resB ty s rs=some vs:=by kernel_rfl) (hl:Nat.beq vs.length 1=false:=by kernel_rfl) (hks:ksE (entT vs l)=ks:=by kernel_rfl) (hnd:ks.Nodup:=by decide):RA ty rs (.tup l) s:=⟨retT h hl ho.out ks hks hnd⟩
structure RL (nk:Nat) (ty:Nat->Ty) (rs:List ResultVar) (r:AV) (O1:List (Option Ob)) (s:St):Prop where
 out:∃ s',Shift nk s s'∧retL ty rs r O1 s'
def resR (vs:List AV):AV:=match vs with
 | [v]=>v
 | vs=>.tup vs
theorem rl {ty:Nat->Ty} {rs:List ResultVar} {r:AV} {O1:List (Option Ob)} (sh:Shift nk s s') (h:(resB ty s' rs).map resR=some r:=by kernel_rfl) (hO:s'.objs=O1:=by kernel_rfl):RL nk ty rs r O1 s:=by
 refine ⟨s',sh,hO,?_⟩
 cases hb:resB ty s' rs with
 | none=>rw [hb] at h;cases h
 | some vs=>
  rw [hb] at h
  obtain ⟨p,e1,q1⟩:=resB_ok hb
  rw [e1]
  simp only [Option.map_some,Option.some.injEq] at h
  match vs,h with
  | [],h=>exact ⟨q1,h.symm⟩
  | [v],h=>exact ⟨q1,h⟩
  | v::v'::l,h=>exact ⟨q1,h.symm⟩
theorem pL {ty:Nat->Ty} {rs:List ResultVar} {r:AV} {O1:List (Option Ob)} (h:RL nk ty rs r O1 s):PQ (postL nk ty rs r O1) .ret s:=⟨h.out⟩
theorem pL' {ty:Nat->Ty} {rs:List ResultVar} {r:AV} {O1:List (Option Ob)} (h:RL nk ty rs r O1 s):PQ (postL nk ty rs r O1) .normal s:=⟨h.out⟩
theorem fl {P:Program} {fn:Func} {f:FuncId} {args:List AV} {O0 O1:List (Option Ob)} {nb:Nat} {r:AV} (hfol:P.follows .mixedOrders=true) (hΓ:CxOK P Γ) (hf:P.funcs[f]? = some fn) (h:WP Γ (bodyOf fn) [] (postL nb Γ.ty fn.results.toList r O1) s)
  (hb:fn.body=some (bodyOf fn):=by kernel_rfl) (hnm:(fn.name == "runtime.NumGoroutine")=false:=by kernel_rfl) (hnt:Γ.nt=⟨fn.ntmps,[],nb⟩:=by kernel_rfl) (hlen:Nat.ble args.length fn.ntmps=true:=by kernel_rfl) (hs:(⟨(List.range args.length).zip args,O0⟩:St)=s:=by kernel_rfl):LentOK P f args O0 nb r O1:=
 fn_lent hfol hΓ hf hb hnm hnt hlen hs h.out
theorem lt (ord:List Nat) {f:FuncId} {ys:List AV} {O0 O1:List (Option Ob)} {nb:Nat} {r:AV} (hr:Γ.lent f ys O0 nb r O1) (hk:RF Γ C p (i+1) Q ((nextL Γ (nav p C) i ord nb r O1 s).getD s)) (hc:lentAt (nav p C) i s=some (f,((lentAt (nav p C) i s).getD (0,[],[])).2.1,ord):=by kernel_rfl)
  (hxs:((lentAt (nav p C) i s).getD (0,[],[])).2.1.map (renV ord)=ys:=by kernel_rfl) (hO:lendO s.objs ord=O0:=by kernel_rfl) (hn:(nextL Γ (nav p C) i ord nb r O1 s).isSome=true:=by kernel_rfl):RF Γ C p i Q s:=⟨lentS hc hxs hO hr (getD_ok hn) hk.out⟩
theorem leM {enc:α->List D} {xs:List α}:0+xs.length≤(xs.map enc).length:=by simp
theorem ltP (ord:List Nat) {f:FuncId} {ys:List AV} {O0 O1 raw0:List (Option Ob)} {nb:Nat} {r:AV} (hr:Γ.lent f ys O0 nb r O1) (hp0:Pl (clrA ord) raw0 O0) (hk:RF Γ C p (i+1) Q ((nextL Γ (nav p C) i ord nb r O1 s).getD s)) (hc:lentAt (nav p C) i s=some (f,((lentAt (nav p C) i s).getD (0,[],[])).2.1,ord):=by kernel_rfl)
  (hxs:((lentAt (nav p C) i s).getD (0,[],[])).2.1.map (renV ord)=ys:=by kernel_rfl) (hO:lendO s.objs ord=raw0:=by kernel_rfl) (hn:(nextL Γ (nav p C) i ord nb r O1 s).isSome=true:=by kernel_rfl):RF Γ C p i Q s:=lt ord hr hk hc hxs (hO.trans hp0.eq) hn
theorem tb {f:AV->AV} {raw:List (Option Ob)} (O:List (Option Ob)) (hp:Pl f raw O) (hk:RF Γ C p i Q ⟨s.env,O⟩) (h:s.objs=raw:=by kernel_rfl):RF Γ C p i Q s:=by
 rw [hp.eq] at h
 rw [← h] at hk;exact hk
theorem at_mkZ (esz:Nat) {α:Type} {zs:List α} {n:Int} {z:α} {eb:Nat} {ez:List D} (h:mkl eb n z=some zs):OpAt s (some ⟨.osl s.objs.length esz 0 n.toNat,[.arr esz (List.replicate n.toNat ez)],[],none,0≤n∧n=n∧n.toNat*eb≤70368744177664⟩) (.osl s.objs.length esz 0 n.toNat) [.arr esz (List.replicate n.toNat ez)] [] none:=by
 have:0≤n∧n.toNat*eb≤70368744177664:=by
  unfold mkl at h
  split at h
  ·assumption
  ·cases h
 exact .of rfl ⟨this.1,rfl,this.2⟩
theorem mkl_rep {α:Type} {zs:List α} {n:Int} {z:α} {eb:Nat} (h:mkl eb n z=some zs):List.replicate n.toNat z=zs:=by
 unfold mkl at h
 split at h
 ·exact Option.some.inj h
 ·cases h
theorem mkl_len {α:Type} {zs:List α} {n:Int} {z:α} {eb:Nat} (h:mkl eb n z=some zs):n.toNat=zs.length:=by
 rw [← mkl_rep h];simp
theorem guard_len {a b:Nat} {u:Unit} (h:guardB (decide (a=b))=some u):a=b:=of_decide_eq_true (guard_t h)
theorem at_idxE (k sz off m:Nat) {j:Nat} {n:Int} {u:Unit} (h:guardB (decide (0≤n∧n<(m:Nat)))=some u):OpAt s (valOb (bif Nat.beq sz sz then .eptr k sz (j+n.toNat) off else .eptr k sz j (off+n.toNat*sz)) (0≤n∧n<(m:Nat))) (.eptr k sz (j+n.toNat) off) [] [] none:=by
 have hb:Nat.beq sz sz=true:=Nat.beq_refl sz
 rw [hb]
 exact .of rfl ((of_decide_eq_true (guard_t h)))
def D.flatB:D->Bool
 | .sl es=>es.isEmpty
 | _=>true
theorem ownF {enc:α->List D} {xs:List α} (h:∀ a,(enc a).all D.flatB=true):∀ e∈xs.map enc,∀ x∈e,D.flat x:=by
 intro e he x hx
 simp only [List.mem_map] at he
 obtain ⟨a,_,rfl⟩:=he
 have:=List.all_eq_true.1 (h a) x hx
 cases x<;>first|trivial|exact List.isEmpty_iff.1 this
theorem idxL {encN:α->List AV} {xs:List α} {n:Int} {x:α} (h:idx xs n=some x):0+n.toNat+1≤(xs.map encN).length:=by
 have:=ltN (encN:=encN) h;omega
theorem cntM {encN:α->List AV} {xs:List α} (h:∀ x,(encN x).all isN=true):cntN (xs.map encN)≤0:=by
 unfold cntN
 rw [Nat.le_zero,List.length_eq_zero_iff,List.filter_eq_nil_iff]
 intro a ha
 obtain ⟨l,hl,ha⟩:=List.mem_flatten.1 ha
 obtain ⟨x,_,rfl⟩:=List.mem_map.1 hl
 have:=List.all_eq_true.1 (h x) a ha
 simp [this]
theorem eptrN {encN:α->List AV} {encD:α->List D} {xs:List α} {n:Int} {x:α} {o:Nat} (h:idx xs n=some x) (hd:∀ x,(encN x).map ofN=encD x):AV.dptr (((List.map encN xs)[0+n.toNat]?.getD []).map ofN) o=.dptr (encD x) o:=by
 obtain ⟨_,_,h2⟩:=idx_some h
 rw [Nat.zero_add,List.getElem?_map,h2];exact congrArg (AV.dptr · o) (hd x)
end Go.AI
end
section
namespace Go.AI
variable {P:Program} {F F':Nat->Option Obj} {ρ ρ':Nat->Option Loc} {N:Nat->Prop} {H0 F0:Nat->Option Obj} {O objs:List (Option Ob)} {w:World} {w0:W0} {Γ:Nat->Ty} {nt:Slt} {o:Oper} {st:St}
theorem DRep.one {x:D} {v:Value} (h:DRep F x v):v.oneCell'=true:=(solid_one (F:=F) (ρ:=noR) (.d x v h) rfl).1
theorem clear_ext (hΓ:TyOK P Γ) {d:Operand} {t:TypeId} {k sz eb n:Nat} {ez:List D} {es:List (List D)} (hop:o.op=.call ⟨.builtin .clear,#[d],#[t]⟩) (hok:(Γ t).ok=true) (hkind:(Γ t).kind=.slice sz eb ez)
  (hd:evalA st.env d=.osl k sz 0 n) (ho:obA st.objs k=some (.arr sz es)) (hnl:n=es.length) :
  ExtOK P nt o true st ⟨putA o.dst false true (.tup []) st.env,st.objs.set k (some (.arr sz (List.replicate n ez)))⟩:=by
 intro N H0 F0 w0 a w _ hI hdst K Qw hK
 obtain ⟨F,ρ,hS,hSl,hn,hdf⟩:=hI
 obtain ⟨desc,hde,_,hk⟩:=(hΓ t hok).desc
 rw [hkind] at hk
 obtain ⟨elem,i,z,rfl,p1,p2,p3,p4,p5,p6,p7,_⟩:=hk
 have hdr:=evalA_sound hSl d
 rw [hd] at hdr
 generalize hxd:a.eval d=xd at hdr
 have hER:=zero_ER (F:=F) (len:=n) p5 p6 p7
 have hcs:(Builtin.zeroCells z.cells n).size=n*sz:=by
  have hzs:z.cells.size=sz:=by have:=congrArg List.length p5;simp at this;omega
  simp [Builtin.zeroCells,hzs]
 have hzc:(Array.range (n*sz)).map (z.cells[· % z.cells.size]!)=Builtin.zeroCells z.cells n:=by
  have hzs:z.cells.size=sz:=by have:=congrArg List.length p5;simp at this;omega
  simp [Builtin.zeroCells,hzs]
 rw [hzc] at hER
 have htup:ARep F ρ (.tup []) (.tuple #[]):=.tup [] #[] rfl λ i a v h=>by simp at h
 have fin:∀ w',Sim N H0 F0 F ρ (st.objs.set k (some (.arr sz (List.replicate n ez)))) w'.heap->Mu w w'->(execOp a.eval o).run P w=.ok (.value (.tuple #[])) w'->o.wp P a w K Qw:=by
  intro w' hS' hmu hr
  unfold Oper.wp
  rw [hr,Oper.upon_value]
  exact hK _ _ ⟨F,ρ,hS',hSl.putA hn hdst htup,hn.put hdst,by rw [put_defers];exact ⟨hdf.1,hdf.2.1.trans hmu,hdf.2.2⟩⟩
 have hexec:∀ w',(Builtin.clear_ #[t] o.type #[xd]).run P w=.ok (.tuple #[]) w'->(execOp a.eval o).run P w=.ok (.value (.tuple #[])) w':=by
  intro w' hr
  simp only [execOp,hop,resolve,invoke,builtin,Sem.run_bind,Sem.run_pure,Result.andThen_ok,List.map_toArray,List.map_cons,List.map_nil,hxd,hr]
 by_cases h0:n=0
 ·subst h0
  have hes:es=[]:=List.length_eq_zero_iff.1 hnl.symm
  refine fin w ?_ (Mu.refl w) (hexec w ?_)
  ·refine hS.table (by simp) λ j L ob' hj hob'=>?_
   by_cases e:j=k
   ·subst e;rw [obA_set,if_pos ⟨rfl,obA_lt ho⟩] at hob';cases hob';rw [ho,hes];rfl
   ·rw [obA_set,if_neg (λ hh=>e hh.1)] at hob';exact hob'
  ·have:∃ ad cap,xd=.slice ad 0 cap:=by cases hdr<;>exact ⟨_,_,rfl⟩
   obtain ⟨ad,cap,rfl⟩:=this
   cases ad<;>simp [Builtin.clear_,run_underlying hde]
 ·cases hdr with
  | osl0=>exact absurd rfl h0
  | osl _ _ _ _ cap L hL hc hss hz=>
   obtain ⟨⟨g1,g2,cur,t0,fr,g3,g4,g5,g6⟩,gN,gF⟩:=hS.obj k L _ hL ho
   have hin:L.base+n*sz≤cur.size:=by rw [hnl];omega
   have hst:=run_storeCells_blk P L.b (L.base+0*sz) t0 fr (Builtin.zeroCells z.cells n).toList 0 cur w g3 (by simp [hcs];omega) (by rw [g4];exact g5) (hER.ones (by rw [hcs];simp))
   simp only [Nat.zero_mul,Nat.add_zero] at hst
   refine fin { w with heap:=w.heap.setIfInBounds L.b (.cells (putAt cur L.base (Builtin.zeroCells z.cells n).toList) t0 fr) } ?_ (Mu.set g3) (hexec _ ?_)
   ·have:=hS.rewrite (k':=k) (L':=L) (x:=.cells (putAt cur L.base (Builtin.zeroCells z.cells n).toList) t0 fr) (O':=st.objs.set k (some (.arr sz (List.replicate n ez)))) hL ho (by rw [upR_self hL];exact RLe.refl _) rfl (λ j ob' hj hob'=>by
     rw [obA_set,if_neg (λ hh=>hj hh.1)] at hob';exact ⟨hob',hj⟩) (by simp) (by simpa using obA_lt ho) (λ ob' hob'=>by
     rw [obA_set,if_pos ⟨rfl,obA_lt ho⟩] at hob'
     cases hob'
     have hps:(putAt cur L.base (Builtin.zeroCells z.cells n).toList).size=L.size:=by rw [putAt_size,g4]
     refine ⟨hER.1,by simp;rw [← g4];exact hin,_,t0,fr,by rw [set_get,if_pos ⟨rfl,getElem?_ltA g3⟩],hps,g5,λ i e hi j x hx=>?_⟩
     have hil:=getElem?_lt hi
     simp only [List.length_replicate] at hil
     have hjs:j<sz:=by
      have:=getElem?_lt hx
      have he:e.length=sz:=hER.1 e (List.mem_of_getElem? hi)
      omega
     obtain ⟨u,hu,hdu⟩:=hER.2.2 i e hi j x hx
     have hb:i*sz+j<n*sz:=by
      have:(i+1)*sz≤n*sz:=Nat.mul_le_mul_right _ hil
      rw [Nat.add_mul,Nat.one_mul] at this;omega
     refine ⟨u,?_,hdu⟩
     rw [putAt_get _ _ _ _ (by simp [hcs];omega)]
     simp only [Array.length_toList,hcs]
     rw [if_pos (by omega),show L.base+i*sz+j-L.base=0+i*sz+j by omega]
     simpa using hu) (λ ob' hob'=>by
     rw [obA_set,if_pos ⟨rfl,obA_lt ho⟩] at hob'
     cases hob';rfl)
    rw [upR_self hL] at this
    exact this
   ·have e1:∃ m,n=m+1:=⟨n-1,by omega⟩
    obtain ⟨m,rfl⟩:=e1
    simp only [Builtin.clear_,List.getElem?_toArray,List.getElem?_cons_zero,Sem.run_bind,run_underlying hde,Result.andThen_ok,run_zeroValue' w p1 p4,Nat.zero_mul,Nat.add_zero,hst,Sem.run_pure]
def metB (P:Program) (t:TypeId) (name:String) (f:FuncId):Bool:=
 match P.info? t,P.underlying t with
 | some i,some d=>(match i.methods.find? (·.name==name) with
  | some m=>m.path.isEmpty&&(match m.func with|some (f',b)=>Nat.beq f' f&&!b|none=>false)
  | none=>false)&&(match d with | .pointer _=>false|_=>true)
 | _,_=>false
theorem metB_run {t:TypeId} {name:String} {f:FuncId} (h:metB P t name f=true) (v:Value) (w:World):∀ n,(method (n+1) t v name).run P w=.ok (f,v) w:=by
 intro n
 unfold metB at h
 split at h
 ·rename_i i d hi hd
  simp only [Bool.and_eq_true] at h
  obtain ⟨h1,h2⟩:=h
  split at h1
  ·rename_i m hm
   simp only [Bool.and_eq_true] at h1
   obtain ⟨hp,hf⟩:=h1
   have hp:m.path.toList=[]:=by simpa using hp
   split at hf
   ·rename_i f' b hmf
    simp only [Bool.and_eq_true,Bool.not_eq_true'] at hf
    obtain ⟨e1,rfl⟩:=hf
    have e1:=Nat.eq_of_beq_eq_true e1
    subst e1
    have hpe:m.path.isEmpty=true:=by simpa using hp
    have hrec:(receiverAt t (.val v) false (some ((name.splitOn ".").getLastD name))).run P w=.ok v w:=by
     simp only [receiverAt,Sem.run_bind,run_underlying hd,Result.andThen_ok]
     cases d with
     | pointer e=>cases h2
     | _=>rfl
    unfold method
    simp only [Sem.run_bind,run_typeInfo w hi,Result.andThen_ok,hm,hp,follow,Sem.run_pure,hmf,hpe,if_true,hrec]
   ·cases hf
  ·cases h1
 ·cases h
def calleeA (ev:Operand->AV):Op->Option ((Nat×String)⊕FuncId)×List AV
 | .call ⟨.value x,args,_⟩=>match ev x with
  | .clo f l=>(some (.inr f),args.toList.map ev++l)
  | _=>(none,[])
 | .call ⟨.invoke x m,args,_⟩=>match ev x with
  | .ifc t v=>(some (.inl (t,m)),v::args.toList.map ev)
  | _=>(none,[])
 | _=>(none,[])
def metX (P:Program) (c:Option ((Nat×String)⊕FuncId)) (f:FuncId):Bool:=
 match c with
 | some (.inl (t,m))=>metB P t m f
 | some (.inr f')=>Nat.beq f' f
 | none=>false
theorem call_ext {f:FuncId} {c:Option ((Nat×String)⊕FuncId)} {xs:List AV} {nb:Nat} {r:AV} {O1:List (Option Ob)} (hc:calleeA (evalA st.env) o.op=(c,xs)) (hm:metX P c f=true)
  (hcall:LentOK P f (xs.map (renV (orderA st.objs xs))) (lendO st.objs (orderA st.objs xs)) nb r O1) (hnb:nb≤(orderA st.objs xs).length) (hnb1:nb≤O1.length) (hord:∀ k∈orderA st.objs xs,k<st.objs.length) :
  ExtOK P nt o true st ⟨putA o.dst false true (mapR (backN (orderA st.objs xs) st.objs.length nb) r) st.env,backO st.objs (orderA st.objs xs) nb O1⟩:=by
 intro N H0 F0 w0 a w _ hI hdst K Qw hK
 obtain ⟨F,ρ,hS,hSl,hn,hdf⟩:=hI
 have hk:∀ v w' F' ρ'',FLe F F'->RLe ρ ρ''->Sim N H0 F0 F' ρ'' (backO st.objs (orderA st.objs xs) nb O1) w'.heap->ARep F' ρ'' (mapR (backN (orderA st.objs xs) st.objs.length nb) r) v->Mu w w'->K (a.put o.dst v) w':=
  λ v w' F' ρ'' hF hρ hS' hv hmu=>hK _ _ ⟨F',ρ'',hS',(hSl.mono hF hρ).putA hn hdst hv,hn.put hdst,by rw [put_defers];exact ⟨hdf.1,hdf.2.1.trans hmu,hdf.2.2.mono hρ⟩⟩
 have hev:∀ x,ARep F ρ (evalA st.env x) (a.eval x):=evalA_sound hSl
 unfold calleeA at hc
 split at hc
 ·rename_i x args ts hop
  split at hc
  ·rename_i f' l hx
   cases hc
   have e1:=Nat.eq_of_beq_eq_true hm
   subst e1
   have hxr:=hev x
   rw [hx] at hxr
   generalize hxv:a.eval x=xv at hxr
   cases hxr with
   | clo _ _ vs hl hr=>
    have hcr0:=args_rep (args:=args) (a:=a) (λ x _=>hev x)
    refine lent_enter (vs:=args.map a.eval++vs) (λ fn c hf hb hnm=>?_) hS ⟨by simp [hl],λ i y v hy hv=>?_⟩ hcall hnb hnb1 hord hk
    ·simp only [execOp,hop,resolve,hxv,Deferred.ofValue,Sem.run_bind,Sem.run_pure,Result.andThen_ok,invoke,callFunc,run_program,hf,hnm,hb,Bool.false_eq_true,if_false,Option.isNone_some,Array.empty_append,Array.append_empty]
    ·rw [Array.toList_append] at hv
     have hl0:=hcr0.1
     by_cases hi:i<(args.toList.map (evalA st.env)).length
     ·rw [List.getElem?_append_left hi] at hy
      rw [List.getElem?_append_left (by omega)] at hv
      exact hcr0.2 i y v hy hv
     ·rw [List.getElem?_append_right (by omega)] at hy
      rw [List.getElem?_append_right (by omega)] at hv
      exact hr _ y v hy (by rw [hl0];simpa using hv)
  ·cases hc;cases hm
 ·rename_i x m args ts hop
  split at hc
  ·rename_i t v0 hx
   cases hc
   have hxr:=hev x
   rw [hx] at hxr
   generalize hxv:a.eval x=xv at hxr
   cases hxr with
   | ifc _ _ y hy=>
    have hcr0:=args_rep (args:=args) (a:=a) (λ x _=>hev x)
    refine lent_enter (vs:=#[y]++args.map a.eval) (λ fn c hf hb hnm=>?_) hS ⟨by simp,λ i z v hz hv=>?_⟩ hcall hnb hnb1 hord hk
    ·obtain ⟨n,hn'⟩:∃ n,P.types.size+Made.depth=n+1:=⟨P.types.size+(Made.depth-1),by simp [Made.depth]⟩
     have hmet:=metB_run hm y w n
     rw [← hn'] at hmet
     have hex:(#[Value.iface t y]++args.map a.eval).extract 1 (#[Value.iface t y]++args.map a.eval).size=args.map a.eval:=by
      apply Array.ext'
      simp [Array.toList_extract]
      exact List.take_of_length_le (by simp)
     have h0:(#[Value.iface t y]++args.map a.eval)[0]? = some (Value.iface t y):=by rw [Array.getElem?_append_left (by simp)];rfl
     simp only [execOp,hop,resolve,hxv,Sem.run_bind,Sem.run_pure,Result.andThen_ok,invoke,h0,hex,callMethod,Sem.run_bind,run_program,Result.andThen_ok,hmet,callFunc,hf,hnm,hb,Bool.false_eq_true,if_false,Option.isNone_some,Sem.run_pure]
    ·rw [Array.toList_append] at hv
     cases i with
     | zero=>simp at hz hv;subst hz;subst hv;exact hy
     | succ i=>exact hcr0.2 i z v (by simpa using hz) (by simpa using hv)
  ·cases hc;cases hm
 ·cases hc;cases hm
def solidK:TK->Bool
 | .other=>false
 | _=>true
theorem iface_ext (hΓ:TyOK P Γ) {t:TypeId} {x:Operand} (hop:o.op=.makeInterface t x) (hok:(Γ t).ok=true) (hk:solidK (Γ t).kind=true):ExtOK P nt o true st ⟨putA o.dst false true (.ifc t (evalA st.env x)) st.env,st.objs⟩:=by
 intro N H0 F0 w0 a w _ hI hdst K Qw hK
 obtain ⟨F,ρ,hS,hSl,hn,hdf⟩:=hI
 obtain ⟨d,hd,_,hf⟩:=(hΓ t hok).desc
 have hni:∀ l,d≠.interface l:=λ l e=>by
  subst e
  cases hkk:(Γ t).kind<;>rw [hkk] at hf hk<;>simp [KindFacts,solidK] at hf hk
 have hr:(execOp a.eval o).run P w=.ok (.value (.iface t (a.eval x))) w:=by
  simp only [execOp,hop,Instr.makeInterface,Sem.run_bind,run_underlying hd,Result.andThen_ok]
  cases d with
  | interface l=>exact absurd rfl (hni l)
  | _=>rfl
 unfold Oper.wp
 rw [hr,Oper.upon_value]
 exact hK _ _ ⟨F,ρ,hS,hSl.putA hn hdst (.ifc _ _ _ (evalA_sound hSl x)),hn.put hdst,by rw [put_defers];exact hdf⟩
theorem func_ext {f:FuncId} {cap:Array Operand} (hop:o.op=.makeFunc (.func f) #[] cap):ExtOK P nt o true st ⟨putA o.dst false true (.clo f (cap.toList.map (evalA st.env))) st.env,st.objs⟩:=by
 intro N H0 F0 w0 a w _ hI hdst K Qw hK
 obtain ⟨F,ρ,hS,hSl,hn,hdf⟩:=hI
 have hr:(execOp a.eval o).run P w=.ok (.value (.func (.func f) #[] (cap.map a.eval))) w:=by
  simp only [execOp,hop,Instr.makeFunc,Sem.run_bind,Sem.run_pure,Result.andThen_ok,List.map_toArray,List.map_nil]
 have hc:=args_rep (args:=cap) (a:=a) λ x _=>evalA_sound hSl x
 unfold Oper.wp
 rw [hr,Oper.upon_value]
 exact hK _ _ ⟨F,ρ,hS,hSl.putA hn hdst (.clo f _ _ (by simp) λ i x v hx hv=>hc.2 i x v hx (by simpa using hv)),hn.put hdst,by rw [put_defers];exact hdf⟩
end Go.AI
end
section
namespace Go.AI
variable {P:Program} {Γ:Cx} {C:Code} {p:List Nat} {Q:Ex->St->Prop} {s s':St} {K:St->Prop} {i:Nat}
variable {α β ζ:Type}
structure XOK (P:Program) (Γ:Cx):Prop where
 ty:TyOK P Γ.ty
 ext:Γ.ext=ExtOK P
def oneB (Γ:Cx) (c:Code) (o:Oper):Bool:=!drIn c&&o.guard.isNone&&dstOk Γ.nt o.dst
theorem ext_step (hX:XOK P Γ) {o:Oper} (ho:(opsIn (nav p C))[i]? = some o) (h0:oneB Γ (nav p C) o=true) (hx:ExtOK P Γ.nt o true s s') (hk:RF Γ C p (i+1) Q s'):RF Γ C p i Q s:=by
 refine ⟨?_⟩
 have hk:=hk.out
 unfold runFrom at hk ⊢
 simp only [oneB,Bool.and_eq_true,Bool.not_eq_true'] at h0
 obtain ⟨⟨h1,h2⟩,h3⟩:=h0
 rw [drop_cons ho]
 show stepA _ _ _ _ _ _
 have hgN:o.guard=none:=by simpa using h2
 unfold stepA
 rw [hgN]
 simp only [guardA,h3,Bool.not_true,cond_false]
 exact ⟨λ _=>.inr (.inr ⟨h1,.inl ⟨s',by rw [hX.ext];exact hx,hk⟩⟩),λ h=>by cases h⟩
def nxI (Γ:Cx) (c:Code) (i:Nat) (s:St):Option St:=
 match (opsIn c)[i]? with
 | some o=>bif oneB Γ c o then (match o.op with
  | .makeInterface t x=>bif (Γ.ty t).ok&&solidK (Γ.ty t).kind then some ⟨putA o.dst false true (.ifc t (evalA s.env x)) s.env,s.objs⟩ else none
  | .makeFunc (.func f) first cap=>bif first.toList.isEmpty then some ⟨putA o.dst false true (.clo f (cap.toList.map (evalA s.env))) s.env,s.objs⟩ else none
  | _=>none) else none
 | none=>none
theorem xm (hX:XOK P Γ) (hk:RF Γ C p (i+1) Q ((nxI Γ (nav p C) i s).getD s)) (h:(nxI Γ (nav p C) i s).isSome=true:=by kernel_rfl):RF Γ C p i Q s:=by
 have h:=getD_ok (d:=s) h
 generalize (nxI Γ (nav p C) i s).getD s=s' at h hk
 unfold nxI at h
 split at h
 ·rename_i o ho
  obtain ⟨h0,h⟩:=bif_some h
  split at h
  ·rename_i t x hop
   obtain ⟨h1,h⟩:=bif_some h
   simp only [Bool.and_eq_true] at h1
   cases h
   exact ext_step hX ho h0 (iface_ext hX.ty hop h1.1 h1.2) hk
  ·rename_i f first cap hop
   obtain ⟨h1,h⟩:=bif_some h
   cases h
   have:first=#[]:=by have:=List.isEmpty_iff.1 h1;simpa using this
   subst this
   exact ext_step hX ho h0 (func_ext hop) hk
  ·cases h
 ·cases h
def calX (c:Code) (i:Nat) (s:St):Option ((Option ((Nat×String)⊕FuncId)×List AV)×List Nat):=
 match (opsIn c)[i]? with
 | some o=>some (calleeA (evalA s.env) o.op,orderA s.objs (calleeA (evalA s.env) o.op).2)
 | none=>none
def nxC (Γ:Cx) (c:Code) (i:Nat) (ord:List Nat) (nb:Nat) (r:AV) (O1:List (Option Ob)) (s:St):Option St:=
 match (opsIn c)[i]? with
 | some o=>bif oneB Γ c o&&Nat.ble nb ord.length&&Nat.ble nb O1.length&&ord.all (λ k=>Nat.blt k s.objs.length) then
   some ⟨putA o.dst false true (mapR (backN ord s.objs.length nb) r) s.env,backO s.objs ord nb O1⟩ else none
 | none=>none
theorem xc (hX:XOK P Γ) (ord:List Nat) {f:FuncId} {ys:List AV} {O0 O1:List (Option Ob)} {nb:Nat} {r:AV} (hr:LentOK P f ys O0 nb r O1) (hk:RF Γ C p (i+1) Q ((nxC Γ (nav p C) i ord nb r O1 s).getD s))
  (hc:calX (nav p C) i s=some (((calX (nav p C) i s).getD ((none,[]),[])).1,ord):=by kernel_rfl) (hm:metX P ((calX (nav p C) i s).getD ((none,[]),[])).1.1 f=true:=by kernel_rfl)
  (hxs:((calX (nav p C) i s).getD ((none,[]),[])).1.2.map (renV ord)=ys:=by kernel_rfl) (hO:lendO s.objs ord=O0:=by kernel_rfl) (hn:(nxC Γ (nav p C) i ord nb r O1 s).isSome=true:=by kernel_rfl):RF Γ C p i Q s:=by
 generalize ((calX (nav p C) i s).getD ((none,[]),[])).1=cx at hc hm hxs
 have hn:=getD_ok (d:=s) hn
 generalize (nxC Γ (nav p C) i ord nb r O1 s).getD s=s' at hn hk
 unfold calX at hc
 unfold nxC at hn
 split at hn
 ·rename_i o ho
  rw [ho] at hc
  simp only [Option.some.injEq,Prod.mk.injEq] at hc
  obtain ⟨hc,hord⟩:=hc
  rw [hc] at hord
  obtain ⟨h0,hn⟩:=bif_some hn
  simp only [Bool.and_eq_true] at h0
  obtain ⟨⟨⟨h1,h2⟩,h3⟩,h4⟩:=h0
  cases hn
  subst hord
  subst hxs
  subst hO
  refine ext_step hX ho h1 (call_ext (c:=cx.1) (xs:=cx.2) (by rw [hc]) hm hr (Nat.le_of_ble_eq_true h2) (Nat.le_of_ble_eq_true h3) λ k hk=>?_) hk
  have:=Nat.le_of_ble_eq_true (List.all_eq_true.1 h4 k hk)
  omega
 ·cases hn
def clOp (c:Code) (i:Nat):Option (Operand×Nat):=
 match (opsIn c)[i]? with
 | some o=>match o.op with
  | .call ⟨.builtin .clear,args,ts⟩=>match args.toList,ts.toList with
   | [d],[t]=>some (d,t)
   | _,_=>none
  | _=>none
 | none=>none
def clV (c:Code) (i:Nat) (s:St):AV:=match clOp c i with
 | some (d,_)=>evalA s.env d
 | none=>.top
def nxZ (Γ:Cx) (c:Code) (i k sz:Nat) (ez:List D) (zs:List (List D)) (s:St):Option St:=
 match (opsIn c)[i]?,clOp c i with
 | some o,some (_,t)=>bif oneB Γ c o&&(Γ.ty t).ok then (match (Γ.ty t).kind with
  | .slice z _ _=>bif Nat.beq z sz then some ⟨putA o.dst false true (.tup []) s.env,s.objs.set k (some (.arr sz zs))⟩ else none
  | _=>none) else none
 | _,_=>none
def clZ (Γ:Cx) (c:Code) (i:Nat):List D:=match clOp c i with
 | some (_,t)=>(match (Γ.ty t).kind with
  | .slice _ _ ez=>ez
  | _=>[])
 | none=>[]
theorem xz (hX:XOK P Γ) (enc:α->List D) {xs:List α} (z:α) (k sz:Nat) (hk:RF Γ C p (i+1) Q ((nxZ Γ (nav p C) i k sz (enc z) ((List.replicate xs.length z).map enc) s).getD s))
  (hd:clV (nav p C) i s=.osl k sz 0 xs.length:=by kernel_rfl) (ho:obA s.objs k=some (.arr sz (xs.map enc)):=by kernel_rfl) (hz:clZ Γ (nav p C) i=enc z:=by kernel_rfl) (hn:(nxZ Γ (nav p C) i k sz (enc z) ((List.replicate xs.length z).map enc) s).isSome=true:=by kernel_rfl):RF Γ C p i Q s:=by
 have hn:=getD_ok (d:=s) hn
 generalize (nxZ Γ (nav p C) i k sz (enc z) ((List.replicate xs.length z).map enc) s).getD s=s' at hn hk
 unfold nxZ at hn
 split at hn
 ·rename_i o d t hoo hcl
  obtain ⟨h0,hn⟩:=bif_some hn
  simp only [Bool.and_eq_true] at h0
  obtain ⟨h1,h2⟩:=h0
  split at hn
  ·rename_i z' eb ez hkd
   obtain ⟨h3,hn⟩:=bif_some hn
   have:=Nat.eq_of_beq_eq_true h3
   subst this
   cases hn
   unfold clV at hd
   unfold clZ at hz
   rw [hcl] at hd hz
   simp only [hkd] at hd hz
   subst hz
   unfold clOp at hcl
   rw [hoo] at hcl
   simp only at hcl
   split at hcl
   ·rename_i args ts hop
    split at hcl
    ·rename_i d' t1 ha ht
     cases hcl
     have ha:args=#[d]:=by rw [← Array.toArray_toList (xs:=args),ha]
     have ht:ts=#[t]:=by rw [← Array.toArray_toList (xs:=ts),ht]
     subst ha;subst ht
     have hx:=clear_ext (nt:=Γ.nt) hX.ty hop h2 hkd hd ho (by simp)
     rw [List.map_replicate] at hk
     exact ext_step hX hoo h1 hx hk
    ·cases hcl
   ·cases hcl
  ·cases hn
 ·cases hn
theorem xcP (hX:XOK P Γ) (ord:List Nat) {f:FuncId} {ys:List AV} {O0 O1 raw0:List (Option Ob)} {nb:Nat} {r:AV} (hr:LentOK P f ys O0 nb r O1) (hp0:Pl (clrA ord) raw0 O0) (hk:RF Γ C p (i+1) Q ((nxC Γ (nav p C) i ord nb r O1 s).getD s))
  (hc:calX (nav p C) i s=some (((calX (nav p C) i s).getD ((none,[]),[])).1,ord):=by kernel_rfl) (hm:metX P ((calX (nav p C) i s).getD ((none,[]),[])).1.1 f=true:=by kernel_rfl)
  (hxs:((calX (nav p C) i s).getD ((none,[]),[])).1.2.map (renV ord)=ys:=by kernel_rfl) (hO:lendO s.objs ord=raw0:=by kernel_rfl) (hn:(nxC Γ (nav p C) i ord nb r O1 s).isSome=true:=by kernel_rfl):RF Γ C p i Q s:=xc hX ord hr hk hc hm hxs (hO.trans hp0.eq) hn
end Go.AI
end
section
namespace Go.AI
variable {Γ:Cx} {C:Code} {p:List Nat} {Q:Ex->St->Prop} {s s':St} {K:St->Prop} {i:Nat} {nk:Nat}
variable {α β ζ:Type}
def xX {σ:Type} (nk k:Nat) (st:σ->St):σ->Ex->St->Prop:=λ y e s=>e=Ex.exit k∧Shift nk s (st y)
def xR {σ:Type} (ty:Nat->Ty) (fn:Func) (r:σ->AV):σ->Ex->St->Prop:=λ y e s=>e=Ex.ret∧RA ty fn.results.toList (r y) s
def xL {σ:Type} (nk:Nat) (ty:Nat->Ty) (fn:Func) (r:σ->AV) (O:σ->List (Option Ob)):σ->Ex->St->Prop:=λ y e s=>e=Ex.ret∧RL nk ty fn.results.toList (r y) (O y) s
def xS {σ τ:Type} (a:σ->Ex->St->Prop) (b:τ->Ex->St->Prop):σ⊕τ->Ex->St->Prop
 | .inl y=>a y
 | .inr y=>b y
variable {σ ρ τ:Type} {st:σ->St} {E:ρ->Ex->St->Prop}
theorem xo {r:ρ} {k nk':Nat} {st':τ->St} {y:τ} (hE:E r=xX nk' k st' y) (h:Shift nk' s (st' y)):PQ (roundQ nk st E (.inr r)) (.exit k) s:=oe (by rw [hE];exact ⟨rfl,h⟩)
theorem ro {r:ρ} {ty:Nat->Ty} {fn:Func} {f:τ->AV} {y:τ} (hE:E r=xR ty fn f y) (h:RA ty fn.results.toList (f y) s):PQ (roundQ nk st E (.inr r)) .ret s:=or (by rw [hE];exact ⟨rfl,h⟩)
theorem lo {r:ρ} {nk':Nat} {ty:Nat->Ty} {fn:Func} {f:τ->AV} {O:τ->List (Option Ob)} {y:τ} (hE:E r=xL nk' ty fn f O y) (h:RL nk' ty fn.results.toList (f y) (O y) s):PQ (roundQ nk st E (.inr r)) .ret s:=or (by rw [hE];exact ⟨rfl,h⟩)
theorem lX {body:σ->Option (σ⊕ρ)} {n:Nat} {x:σ} {r:ρ} {k nk':Nat} {st':τ->St} {y:τ} (hb:∀ x z,body x=some z->WP Γ C (p++[0]) (roundQ nk' st E z) (st x)) (hr:whl body n x=some r) (hs:Shift nk' s (st x)) (hE:E r=xX nk' k st' y)
  (hk:∀ s,Shift nk' s (st' y)->PQ Q (.exit k) s) (hn:Γ.nt.nk=nk':=by rfl) (h:isLoop (nav p C)=true:=by kernel_rfl):WP Γ C p Q s:=by
 subst hn
 exact lp st E hr hs hb (λ e s he=>by rw [hE] at he;obtain ⟨rfl,he⟩:=he;exact hk s he) h
theorem lR {body:σ->Option (σ⊕ρ)} {n:Nat} {x:σ} {r:ρ} {nk':Nat} {ty:Nat->Ty} {fn:Func} {f:τ->AV} {y:τ} (hb:∀ x z,body x=some z->WP Γ C (p++[0]) (roundQ nk' st E z) (st x)) (hr:whl body n x=some r) (hs:Shift nk' s (st x)) (hE:E r=xR ty fn f y)
  (hk:∀ s,RA ty fn.results.toList (f y) s->PQ Q .ret s) (hn:Γ.nt.nk=nk':=by rfl) (h:isLoop (nav p C)=true:=by kernel_rfl):WP Γ C p Q s:=by
 subst hn
 exact lp st E hr hs hb (λ e s he=>by rw [hE] at he;obtain ⟨rfl,he⟩:=he;exact hk s he) h
def g0 (c:Code) (i:Nat) (s:St):Bool:=(gAt c i s).getD false
theorem sE {g:Bool} {v:AV} {obs:List Ob} {x:Option Eff} (ho:g=true->OpAt s x v obs [] none) (hk:RF Γ C p (i+1) Q ((nextG Γ (nav p C) i g v obs s).getD s)) (hg:gAt (nav p C) i s=some g:=by kernel_rfl) (hx:opOf Γ (nav p C) i s=x:=by kernel_rfl) (hgs:gvsAt (nav p C) i s=List.replicate (gvsAt (nav p C) i s).length g:=by kernel_rfl) (hn:(nextG Γ (nav p C) i g v obs s).isSome=true:=by kernel_rfl):RF Γ C p i Q s:=
 sG (gs:=gvsAt (nav p C) i s) ho (impAll_of λ b hb=>by rw [hgs] at hb;exact List.eq_of_mem_replicate hb) hk hg hx rfl hn
theorem oi {a z:ζ} (h:some a=some z):a=z:=Option.some.inj h
theorem lsS (xs:List α) (n:Nat) (y:α):xs.length=(xs.set n y).length:=List.length_set.symm
theorem lrS (n:Nat) (z:α):n=(List.replicate n z).length:=List.length_replicate.symm
theorem tr {s1 s2 s3:St} (h:Shift nk s1 s2) (h':Shift nk s2 s3):Shift nk s1 s3:=Shift.trans h h'
theorem sg (ts:List Nat) (h:gcA nk ts s=s':=by kernel_rfl):Shift nk s s':=sh_gc ts h
theorem gP (ts ord:List Nat) {raw:List (Option Ob)} (hp:Pl (clrA ord) raw s'.objs) (h:gcA nk ts s=⟨s'.env,raw⟩:=by kernel_rfl):Shift nk s s':=sh_gcP ts ord hp h
theorem sn (t k sz:Nat) {n m:Nat} (e:n=m) (h:lkA s.env t=.osl k sz 0 n:=by kernel_rfl):Shift nk s ⟨(t,.osl k sz 0 m)::s.env,s.objs⟩:=sh_len t k sz 0 n m h e
theorem snc (b i k sz:Nat) {n m:Nat} (e:n=m) (h:(isBox s b,(boxAt s b)[i]?)=(true,some (.osl k sz 0 n)):=by kernel_rfl):Shift nk s ⟨s.env,s.objs.set b (some (.box ((boxAt s b).set i (.osl k sz 0 m))))⟩:=sh_lenc b i k sz n m h e
theorem so1 {encN:α->List AV} (k sz:Nat) {xss:List α} {x:α} {n:Int} (hx:idx xss n=some x) (h:narrAt s k=some (sz,xss.map encN):=by kernel_rfl):Shift nk s ⟨s.env,s.objs.set k (some (.narr sz ((xss.map encN).set n.toNat (encN x))))⟩:=sh_op k h hx
theorem fz {enc:α->List D} {xs:List α} (t k sz:Nat) (h:arrOf s (lkA s.env t)=some (k,sz,0,xs.length,xs.map enc):=by kernel_rfl):Shift nk s ⟨(t,.d (.sl (xs.map enc)))::s.env,s.objs.set k none⟩:=sh_frz t _ h take_all (by simp)
theorem snr {encN:α->List AV} {xs:List α} {n:Int} (row:List AV) (sz k j m isz:Nat) {n1 n2:Nat} (e:n1=n2) (h:narrAt s k=some (sz,(xs.map encN).set n.toNat row):=by kernel_rfl) (hj:row[j]? = some (.osl m isz 0 n1):=by kernel_rfl):Shift nk s ⟨s.env,s.objs.set k (some (.narr sz ((xs.map encN).set n.toNat (row.set j (.osl m isz 0 n2)))))⟩:=sh_lenr k j m isz n1 n2 _ h hj e rfl
theorem sni {encN:α->List AV} {xs:List α} {n:Int} {enc:β->List D} (row:List AV) (zs:List β) (sz k j m isz:Nat) (h:(narrAt s k,arrAt s m)=(some (sz,(xs.map encN).set n.toNat row),some (isz,zs.map enc)):=by kernel_rfl) (hj:row[j]? = some (.osl m isz 0 zs.length):=by kernel_rfl) :
  Shift nk s ⟨s.env,(s.objs.set m none).set k (some (.narr sz ((xs.map encN).set n.toNat (row.set j (.own isz (zs.map enc))))))⟩:=sh_inn1 k j m isz _ h hj rfl
theorem sno {encN:α->List AV} {xss:List α} {x:α} {n:Int} {enc:β->List D} (hx:idx xss n=some x) (row:List AV) (ys:List β) (sz k j isz:Nat) (h:narrAt s k=some (sz,(xss.map encN).set n.toNat row):=by kernel_rfl) (hj:row[j]? = some (.own isz (ys.map enc)):=by kernel_rfl) :
  Shift nk s ⟨s.env,s.objs.set k (some (.narr sz ((xss.map encN).set n.toNat (row.set j (.osl s.objs.length isz 0 ys.length)))))++[some (.arr isz (ys.map enc))]⟩:=sh_out1 k j isz _ (ltN hx) h hj rfl
theorem scl {encN:α->List AV} {xss:List α} (n:Int) (row:List AV) (sz k:Nat) (y:α) (h:narrAt s k=some (sz,(xss.map encN).set n.toNat row):=by kernel_rfl) (hy:row=encN y:=by kernel_rfl):Shift nk s ⟨s.env,s.objs.set k (some (.narr sz ((xss.set n.toNat y).map encN)))⟩:=sh_cls k y h hy
theorem po1 {f:AV->AV} {o:Option Ob} {l m:List (Option Ob)} (h:Pl f l m):Pl f (o::l) (o::m):=Pl.o o h
theorem pn1 {f:AV->AV} (encN:α->List AV) (xss:List α) {sz:Nat} {l m:List (Option Ob)} (h:Pl f l m) (hc:∀ x,(encN x).map f=encN x:=by intro _;rfl):Pl f (some (.narr sz ((xss.map encN).map λ e=>e.map f))::l) (some (.narr sz (xss.map encN))::m):=Pl.n sz (nrM hc) h
end Go.AI
end
section
namespace Go.AI
theorem insI_perm (x:Int):∀ l:List Int,(insI x l).Perm (x::l)
 | []=>.refl _
 | y::l=>by
  unfold insI
  split
  ·exact .refl _
  ·exact ((insI_perm x l).cons y).trans (.swap x y l)
theorem isortI_perm:∀ l:List Int,(isortI l).Perm l
 | []=>.refl _
 | x::l=>(insI_perm x _).trans ((isortI_perm l).cons x)
theorem insI_sorted {x:Int}:∀ {l:List Int},l.Pairwise (·≤·)->(insI x l).Pairwise (·≤·)
 | [],_=>by simp [insI]
 | y::l,h=>by
  unfold insI
  rw [List.pairwise_cons] at h
  split
  ·rename_i hxy
   refine List.pairwise_cons.2 ⟨λ z hz=>?_,List.pairwise_cons.2 h⟩
   rcases List.mem_cons.1 hz with rfl|hz
   ·exact hxy
   ·have:=h.1 z hz;omega
  ·rename_i hxy
   refine List.pairwise_cons.2 ⟨λ z hz=>?_,insI_sorted h.2⟩
   rcases List.mem_cons.1 ((insI_perm x l).mem_iff.1 hz) with rfl|hz
   ·omega
   ·exact h.1 z hz
theorem isortI_sorted:∀ l:List Int,(isortI l).Pairwise (·≤·)
 | []=>.nil
 | x::l=>insI_sorted (isortI_sorted l)
theorem isortI_merge (l:List Int):isortI l=l.mergeSort λ x y=>decide (x≤y):=by
 refine List.Perm.eq_of_pairwise (le:=(·≤·)) (λ a b _ _ h1 h2=>by omega) (isortI_sorted l) ?_ ((isortI_perm l).trans (List.mergeSort_perm _ _).symm)
 have:=List.pairwise_mergeSort (le:=λ x y:Int=>decide (x≤y)) (λ a b c h1 h2=>by simp at *;omega) (λ a b=>by simp;omega) l
 exact this.imp λ h=>by simpa using h
end Go.AI
end
section
namespace Go.AI
open Go.Sort Go.Shelf Go.Proofs
variable {P:Program} {ρs:Ren}
theorem Sim.more {N:Nat->Prop} {H0 F0 F:Nat->Option Obj} {ρ:Nat->Option Loc} {O:List (Option Ob)} {h:Array Obj} (hS:Sim N H0 F0 F ρ O h) (os:Array Obj):Sim N H0 F0 F ρ O (h++os):=by
 have hl:∀ b,b<h.size->(h++os)[b]? = h[b]? := λ b hb=>Array.getElem?_append_left hb
 have hg:∀ b o,h[b]? = some o->(h++os)[b]? = some o:=λ b o hb=>by rw [hl b (getElem?_ltA hb)];exact hb
 obtain ⟨σ,hσ⟩:=hS.inn
 have hM:∀ k c M,σ k c=some M->(h++os)[M.b]? = h[M.b]? := λ k c M hM=>hl _ (hσ.new k c M hM).2.1
 refine { hS with size:=λ b hb=>hS.size b (by simp at hb;omega),old:=λ b hb=>?_,frz:=λ b o hb=>hg b o (hS.frz b o hb),loc:=λ k L hk=>?_,obj:=λ k L ob hk ho=>?_,inn:=⟨σ,λ k c M hM=>?_,hσ.obj,hσ.sep,λ k L sz es hk ho i e j isz xs hi hj cs t fr v hb hv=>?_⟩ }
 ·have:b<h.size:=by
   apply Classical.byContradiction;intro hn
   exact hb (hS.size b (by omega))
  rw [hl b this];exact hS.old b hb
 ·have:=hS.loc k L hk;simp;omega
 ·obtain ⟨g1,g2,g3⟩:=hS.obj k L ob hk ho
  exact ⟨g1.mono (FLe.refl _) (RLe.refl _) (hl _ (hS.loc k L hk)),g2,g3⟩
 ·obtain ⟨g1,g2,g3⟩:=hσ.new k c M hM
  exact ⟨g1,by simp;omega,g3⟩
 ·rw [hl _ (hS.loc k L hk)] at hb
  exact (hσ.rep k L sz es hk ho i e j isz xs hi hj cs t fr v hb hv).mono (FLe.refl _) λ L' hL'=>hM _ _ _ hL'
theorem sort_lent (L:Lays.n189 P ρs) (hf:∃ fn c,P.funcs[ρs.f 189]? = some fn∧fn.body=some c∧(fn.name == "runtime.NumGoroutine")=false) {xs zs:List Int} (h:sortI xs=some zs) :
  LentOK P (ρs.f 189) [.osl 0 1 0 xs.length] [some (.arr 1 (xs.map eI64))] 1 (.tup []) [some (.arr 1 (zs.map eI64))]:=by
 have hz:xs.length<4611686018427387904∧zs=xs.mergeSort λ x y=>decide (x≤y):=by
  unfold sortI at h
  split at h
  ·rename_i h1;exact ⟨h1,by rw [← isortI_merge];exact (Option.some.inj h).symm⟩
  ·cases h
 obtain ⟨hlt,hzs⟩:=hz
 refine ⟨hf,λ N F ρ w vs hS hcr=>?_⟩
 obtain ⟨v,rfl⟩:∃ v,vs=#[v]:=by
  have:=hcr.1
  have h1:vs.size=1:=by simpa using this.symm
  exact ⟨vs[0],by apply Array.ext;simp [h1];intro i h1' h2;simp at h2;subst h2;rfl⟩
 have hv:=hcr.2 0 _ v rfl rfl
 have hlen:zs.length=xs.length:=by rw [hzs];exact List.length_mergeSort _
 have htup:∀ F' ρ',ARep F' ρ' (.tup []) (.tuple #[]):=λ F' ρ'=>.tup [] #[] rfl λ i a v h=>by simp at h
 generalize hn:xs.length=n at hv
 cases hv with
 | osl0 _ _ _ a=>
  have hx:xs=[]:=List.length_eq_zero_iff.1 hn
  have hz0:zs=[]:=List.length_eq_zero_iff.1 (by omega)
  refine (Any.slices_Sort_int_none L a 0 w).mono λ e w' he=>?_
  obtain ⟨rfl,rfl⟩:=he
  subst hx;subst hz0
  exact ⟨_,F,ρ,rfl,hS,λ j _ L h=>h,htup _ _,Mu.refl _⟩
 | osl _ _ _ _ cap Lo hL hc hs hz=>
  obtain ⟨⟨g1,g2,cs,t,fr,g3,g4,g5,g6⟩,gN,gF⟩:=hS.obj 0 Lo _ hL rfl
  simp only [List.length_map,Nat.mul_one] at g2
  have hcell:∀ j,j<xs.length->cs[Lo.base+j]? = some (.int .i64 (xs.toArray[j]!)):=λ j hj=>by
   obtain ⟨u,hu,hd⟩:=g6 j (eI64 xs[j]) (by rw [List.getElem?_map,List.getElem?_eq_getElem hj];rfl) 0 (.int .i64 xs[j]) rfl
   cases hd
   have e:xs.toArray[j]! = xs[j]:=by rw [getElem!_pos _ j (by simpa using hj)];simp
   rw [e]
   simpa using hu
  have hH:Holds (Value.int .i64) w Lo.b (Lo.base+0*1) xs.toArray:=λ j hj=>by
   have hj:j<xs.length:=by simpa using hj
   have:=hcell j hj
   refine ⟨by simp only [World.cell?,g3,Option.isSome_none,Bool.false_eq_true,if_false,Nat.zero_mul,Nat.add_zero];exact this,frozen_blk g3 (g5 _ (by simp;omega))⟩
  refine ((hn▸Any.slices_Sort_int L Lo.b (Lo.base+0*1) cap xs w hH (getElem?_ltA g3) hlt)).mono λ e w' he=>?_
  obtain ⟨rfl,m,os,rfl⟩:=he
  rw [← hzs]
  have hheap:(grow (putRow (Value.int .i64) (Sort.ahead w m) Lo.b (Lo.base+0*1) zs.toArray) os).heap=w.heap.setIfInBounds Lo.b (.cells (putCells (Value.int .i64) Lo.base zs.toArray cs) t fr)++os:=by
   simp only [grow,putRow,mapBlock,Sort.ahead,Nat.zero_mul,Nat.add_zero]
   congr 1
   apply Array.ext_getElem?
   intro i
   rw [Array.getElem?_modify,Array.getElem?_setIfInBounds]
   split
   ·rename_i e;subst e
    rw [if_pos (getElem?_ltA g3),g3];rfl
   ·rfl
  have hS1:=hS.rewrite (k':=0) (L':=Lo) (x:=.cells (putCells (Value.int .i64) Lo.base zs.toArray cs) t fr) (O':=[some (.arr 1 (zs.map eI64))]) hL rfl (by rw [upR_self hL];exact RLe.refl _) rfl (λ j ob' hj hob'=>by
    have:=obA_lt hob';simp at this;omega) (by simp) (by simp) (λ ob' hob'=>by
    cases hob'
    refine ⟨λ e he=>?_,by simp;omega,_,t,fr,by rw [Array.getElem?_setIfInBounds_self_of_lt (getElem?_ltA g3)],by simp [putCells,g4],g5,λ i e hi j x hx=>?_⟩
    ·simp only [List.mem_map] at he;obtain ⟨y,_,rfl⟩:=he;rfl
    ·simp only [List.getElem?_map,Option.map_eq_some_iff] at hi
     obtain ⟨y,hy,rfl⟩:=hi
     have hj:j=0:=by have:=getElem?_lt hx;simpa [eI64] using this
     subst hj
     have hx:x=.int .i64 y:=by simpa [eI64] using hx.symm
     subst hx
     have hil:=getElem?_lt hy
     refine ⟨.int .i64 y,?_,.int _ _⟩
     have hin:Lo.base+i<cs.size:=by omega
     have e:zs.toArray[i]! = y:=by
      rw [getElem!_pos _ i (by simpa using hil)]
      simpa [List.getElem?_eq_getElem hil] using hy
     simp only [putCells,Array.getElem?_mapIdx,Nat.mul_one,Nat.add_zero,Array.getElem?_eq_getElem hin,Option.map_some]
     rw [if_pos ⟨by omega,by simp;omega⟩,show Lo.base+i-Lo.base=i by omega,e]) (λ ob' hob'=>by cases hob';rfl)
  rw [upR_self hL] at hS1
  refine ⟨_,F,ρ,rfl,by rw [hheap];exact hS1.more os,λ j _ L h=>h,htup _ _,rfl,rfl,by rw [hheap];simp⟩
end Go.AI
end
section
namespace Go.Proofs
open Go.Shelf
def Try.laysSort_ren:Go.Shelf.Ren:=⟨λ|189=>65|125=>79|257=>78|128=>95|129=>96|294=>86|295=>87|296=>88|297=>89|298=>90|299=>91|216=>92|300=>93|301=>94|328=>98|329=>99|330=>100|331=>101|332=>102|215=>103|343=>104|n=>n,λ|28=>36|3=>3|46=>134|0=>0|51=>147|53=>149|4=>4|183=>140|182=>139|131=>120|5=>5|9=>9|218=>151|222=>155|228=>157|229=>158|n=>n,λ|n=>n⟩
theorem Try.laysSort:Go.Proofs.Lays.n189 Try.prog Try.laysSort_ren:={
 mixed:=by kernel_rfl
 f125:=Try.func79.trans (congrArg some (by kernel_rfl))
 f128:=Try.func95.trans (congrArg some (by kernel_rfl))
 f129:=Try.func96.trans (congrArg some (by kernel_rfl))
 f189:=Try.func65.trans (congrArg some (by kernel_rfl))
 f215:=Try.func103.trans (congrArg some (by kernel_rfl))
 f216:=Try.func92.trans (congrArg some (by kernel_rfl))
 f257:=Try.func78.trans (congrArg some (by kernel_rfl))
 f294:=Try.func86.trans (congrArg some (by kernel_rfl))
 f295:=Try.func87.trans (congrArg some (by kernel_rfl))
 f296:=Try.func88.trans (congrArg some (by kernel_rfl))
 f297:=Try.func89.trans (congrArg some (by kernel_rfl))
 f298:=Try.func90.trans (congrArg some (by kernel_rfl))
 f299:=Try.func91.trans (congrArg some (by kernel_rfl))
 f300:=Try.func93.trans (congrArg some (by kernel_rfl))
 f301:=Try.func94.trans (congrArg some (by kernel_rfl))
 f328:=Try.func98.trans (congrArg some (by kernel_rfl))
 f329:=Try.func99.trans (congrArg some (by kernel_rfl))
 f330:=Try.func100.trans (congrArg some (by kernel_rfl))
 f331:=Try.func101.trans (congrArg some (by kernel_rfl))
 f332:=Try.func102.trans (congrArg some (by kernel_rfl))
 f343:=Try.func104.trans (congrArg some (by kernel_rfl))
 t0:=Try.underlying0
 a0:=Try.isAgg0
 z0:=Try.sizeOf0
 v0:=Try.zeroValue0
 t3:=Try.underlying3
 a3:=Try.isAgg3
 z3:=Try.sizeOf3
 v3:=Try.zeroValue3
 t4:=Try.underlying4
 a4:=Try.isAgg4
 z4:=Try.sizeOf4
 v4:=Try.zeroValue4
 t5:=Try.underlying5
 a5:=Try.isAgg5
 z5:=Try.sizeOf5
 v5:=Try.zeroValue5
 t9:=Try.underlying9
 a9:=Try.isAgg9
 z9:=Try.sizeOf9
 v9:=Try.zeroValue9
 t28:=Try.underlying36
 a28:=Try.isAgg36
 z28:=Try.sizeOf36
 v28:=Try.zeroValue36
 t46:=Try.underlying134
 a46:=Try.isAgg134
 z46:=Try.sizeOf134
 v46:=Try.zeroValue134
 t51:=Try.underlying147
 a51:=Try.isAgg147
 z51:=Try.sizeOf147
 v51:=Try.zeroValue147
 t53:=Try.underlying149
 a53:=Try.isAgg149
 z53:=Try.sizeOf149
 v53:=Try.zeroValue149
 t131:=Try.underlying120
 a131:=Try.isAgg120
 z131:=Try.sizeOf120
 v131:=Try.zeroValue120
 t182:=Try.underlying139
 a182:=Try.isAgg139
 z182:=Try.sizeOf139
 v182:=Try.zeroValue139
 t183:=Try.underlying140
 a183:=Try.isAgg140
 z183:=Try.sizeOf140
 v183:=Try.zeroValue140
 t218:=Try.underlying151
 a218:=Try.isAgg151
 z218:=Try.sizeOf151
 v218:=Try.zeroValue151
 t222:=Try.underlying155
 a222:=Try.isAgg155
 z222:=Try.sizeOf155
 v222:=Try.zeroValue155
 t228:=Try.underlying157
 a228:=Try.isAgg157
 z228:=Try.sizeOf157
 v228:=Try.zeroValue157
 t229:=Try.underlying158
 a229:=Try.isAgg158
 z229:=Try.sizeOf158
 v229:=Try.zeroValue158 }
end Go.Proofs
end
section
namespace Go.AI
open Go.Proofs
theorem inf3:∃ i,Try.prog.info? 3=some i∧i.size=1∧i.bytes=8∧i.zero=some (.int .i64 0):=info_of (by kernel_rfl)
theorem inf4:∃ i,Try.prog.info? 4=some i∧i.size=1∧i.bytes=1∧i.zero=some (.bool false):=info_of (by kernel_rfl)
theorem inf5:∃ i,Try.prog.info? 5=some i∧i.size=1∧i.bytes=1∧i.zero=some (.int .u8 0):=info_of (by kernel_rfl)
theorem inf9:∃ i,Try.prog.info? 9=some i∧i.size=1∧i.bytes=16∧i.zero=some (.string ⟨#[]⟩):=info_of (by kernel_rfl)
theorem inf22:∃ i,Try.prog.info? 22=some i∧i.size=1∧i.bytes=24∧i.zero=some (.slice none 0 0):=info_of (by kernel_rfl)
theorem inf24:∃ i,Try.prog.info? 24=some i∧i.size=3∧i.bytes=32∧i.zero=some (.agg #[.int .u8 0,.int .u8 0,.slice none 0 0]):=info_of (by kernel_rfl)
theorem inf25:∃ i,Try.prog.info? 25=some i∧i.size=1∧i.bytes=24∧i.zero=some (.slice none 0 0):=info_of (by kernel_rfl)
theorem inf27:∃ i,Try.prog.info? 27=some i∧i.size=1∧i.bytes=24∧i.zero=some (.slice none 0 0):=info_of (by kernel_rfl)
theorem inf29:∃ i,Try.prog.info? 29=some i∧i.size=3∧i.bytes=40∧i.zero=some (.agg #[.int .i64 0,.int .u8 0,.slice none 0 0]):=info_of (by kernel_rfl)
theorem inf34:∃ i,Try.prog.info? 34=some i∧i.size=3∧i.bytes=48∧i.zero=some (.agg #[.string ⟨#[]⟩,.string ⟨#[]⟩,.string ⟨#[]⟩]):=info_of (by kernel_rfl)
theorem inf35:∃ i,Try.prog.info? 35=some i∧i.size=1∧i.bytes=24∧i.zero=some (.slice none 0 0):=info_of (by kernel_rfl)
theorem inf36:∃ i,Try.prog.info? 36=some i∧i.size=1∧i.bytes=24∧i.zero=some (.slice none 0 0):=info_of (by kernel_rfl)
theorem inf38:∃ i,Try.prog.info? 38=some i∧i.size=2∧i.bytes=48∧i.zero=some (.agg #[.slice none 0 0,.slice none 0 0]):=info_of (by kernel_rfl)
theorem inf39:∃ i,Try.prog.info? 39=some i∧i.size=1∧i.bytes=8∧i.zero=some (.int .i64 0):=info_of (by kernel_rfl)
theorem inf43:∃ i,Try.prog.info? 43=some i∧i.size=4∧i.bytes=64∧i.zero=some (.agg #[.slice none 0 0,.slice none 0 0,.int .i64 0,.int .i64 0]):=info_of (by kernel_rfl)
theorem inf51:∃ i,Try.prog.info? 51=some i∧i.size=3∧i.bytes=24∧i.zero=some (.agg #[.int .i64 0,.int .i64 0,.int .u8 0]):=info_of (by kernel_rfl)
theorem inf53:∃ i,Try.prog.info? 53=some i∧i.size=7∧i.bytes=80∧i.zero=some (.agg #[.string ⟨#[]⟩,.slice none 0 0,.int .i64 0,.int .i64 0,.int .i64 0,.int .u8 0,.bool false]):=info_of (by kernel_rfl)
theorem inf60:∃ i,Try.prog.info? 60=some i∧i.size=2∧i.bytes=2∧i.zero=some (.agg #[.int .u8 0,.int .u8 0]):=info_of (by kernel_rfl)
theorem inf62:∃ i,Try.prog.info? 62=some i∧i.size=6∧i.bytes=56∧i.zero=some (.agg #[.slice none 0 0,.slice none 0 0,.int .u8 0,.int .u8 0,.int .u8 0,.int .u8 0]):=info_of (by kernel_rfl)
theorem inf64:∃ i,Try.prog.info? 64=some i∧i.size=6∧i.bytes=64∧i.zero=some (.agg #[.string ⟨#[]⟩,.slice none 0 0,.int .u8 0,.int .u8 0,.int .i64 0,.int .i64 0]):=info_of (by kernel_rfl)
theorem inf67:∃ i,Try.prog.info? 67=some i∧i.size=2∧i.bytes=32∧i.zero=some (.agg #[.string ⟨#[]⟩,.string ⟨#[]⟩]):=info_of (by kernel_rfl)
theorem inf69:∃ i,Try.prog.info? 69=some i∧i.size=12∧i.bytes=112∧i.zero=some (.agg #[.slice none 0 0,.slice none 0 0,.int .u8 0,.int .u8 0,.int .u8 0,.int .u8 0,.slice none 0 0,.slice none 0 0,.int .u8 0,.int .u8 0,.int .u8 0,.int .u8 0]):=info_of (by kernel_rfl)
theorem inf72:∃ i,Try.prog.info? 72=some i∧i.size=3∧i.bytes=3∧i.zero=some (.agg #[.int .u8 0,.int .u8 0,.int .u8 0]):=info_of (by kernel_rfl)
theorem inf73:∃ i,Try.prog.info? 73=some i∧i.size=1∧i.bytes=1∧i.zero=some (.int .u8 0):=info_of (by kernel_rfl)
theorem inf76:∃ i,Try.prog.info? 76=some i∧i.size=3∧i.bytes=24∧i.zero=some (.agg #[.int .i64 0,.int .i64 0,.int .i64 0]):=info_of (by kernel_rfl)
theorem inf79:∃ i,Try.prog.info? 79=some i∧i.size=1∧i.bytes=8∧i.zero=some (.pointer none):=info_of (by kernel_rfl)
theorem inf82:∃ i,Try.prog.info? 82=some i∧i.size=2∧i.bytes=48∧i.zero=some (.agg #[.slice none 0 0,.slice none 0 0]):=info_of (by kernel_rfl)
theorem inf83:∃ i,Try.prog.info? 83=some i∧i.size=1∧i.bytes=24∧i.zero=some (.slice none 0 0):=info_of (by kernel_rfl)
theorem inf84:∃ i,Try.prog.info? 84=some i∧i.size=1∧i.bytes=24∧i.zero=some (.slice none 0 0):=info_of (by kernel_rfl)
theorem inf85:∃ i,Try.prog.info? 85=some i∧i.size=1∧i.bytes=24∧i.zero=some (.slice none 0 0):=info_of (by kernel_rfl)
theorem inf87:∃ i,Try.prog.info? 87=some i∧i.size=8∧i.bytes=136∧i.zero=some (.agg #[.int .i64 0,.int .u8 0,.slice none 0 0,.string ⟨#[]⟩,.slice none 0 0,.slice none 0 0,.slice none 0 0,.int .i64 0]):=info_of (by kernel_rfl)
theorem inf89:∃ i,Try.prog.info? 89=some i∧i.size=1∧i.bytes=24∧i.zero=some (.slice none 0 0):=info_of (by kernel_rfl)
theorem inf94:∃ i,Try.prog.info? 94=some i∧i.size=6∧i.bytes=72∧i.zero=some (.agg #[.string ⟨#[]⟩,.int .i64 0,.int .i64 0,.int .i64 0,.int .u8 0,.slice none 0 0]):=info_of (by kernel_rfl)
theorem inf100:∃ i,Try.prog.info? 100=some i∧i.size=1∧i.bytes=24∧i.zero=some (.slice none 0 0):=info_of (by kernel_rfl)
theorem inf105:∃ i,Try.prog.info? 105=some i∧i.size=1∧i.bytes=24∧i.zero=some (.slice none 0 0):=info_of (by kernel_rfl)
theorem inf111:∃ i,Try.prog.info? 111=some i∧i.size=2∧i.bytes=16∧i.zero=some (.agg #[.int .i64 0,.int .i64 0]):=info_of (by kernel_rfl)
theorem inf114:∃ i,Try.prog.info? 114=some i∧i.size=1∧i.bytes=8∧i.zero=some (.map none):=info_of (by kernel_rfl)
theorem inf115:∃ i,Try.prog.info? 115=some i∧i.size=1∧i.bytes=24∧i.zero=some (.slice none 0 0):=info_of (by kernel_rfl)
theorem inf117:∃ i,Try.prog.info? 117=some i∧i.size=2∧i.bytes=16∧i.zero=some (.agg #[.int .i64 0,.int .i64 0]):=info_of (by kernel_rfl)
theorem inf118:∃ i,Try.prog.info? 118=some i∧i.size=5∧i.bytes=120∧i.zero=some (.agg #[.slice none 0 0,.slice none 0 0,.slice none 0 0,.slice none 0 0,.slice none 0 0]):=info_of (by kernel_rfl)
theorem inf123:∃ i,Try.prog.info? 123=some i∧i.size=1∧i.bytes=8∧i.zero=some (.pointer none):=info_of (by kernel_rfl)
theorem inf134:∃ i,Try.prog.info? 134=some i∧i.size=1∧i.bytes=8∧i.zero=some (.int .u64 0):=info_of (by kernel_rfl)
theorem inf139:∃ i,Try.prog.info? 139=some i∧i.size=1∧i.bytes=8∧i.zero=some (.int .i64 0):=info_of (by kernel_rfl)
theorem inf147:∃ i,Try.prog.info? 147=some i∧i.size=1∧i.bytes=4∧i.zero=some (.int .u32 0):=info_of (by kernel_rfl)
theorem inf149:∃ i,Try.prog.info? 149=some i∧i.size=1∧i.bytes=8∧i.zero=some (.int .u64 0):=info_of (by kernel_rfl)
theorem inf151:∃ i,Try.prog.info? 151=some i∧i.size=1∧i.bytes=8∧i.zero=some (.int .u64 0):=info_of (by kernel_rfl)
theorem inf155:∃ i,Try.prog.info? 155=some i∧i.size=1∧i.bytes=8∧i.zero=some (.pointer none):=info_of (by kernel_rfl)
def ty:Nat->Ty
 | 3=>⟨true,[],1,false,[.int .i64 0],.int .i64⟩
 | 4=>⟨true,[],1,false,[.bool false],.bool⟩
 | 5=>⟨true,[],1,false,[.int .u8 0],.int .u8⟩
 | 9=>⟨true,[],1,false,[.str []],.string⟩
 | 22=>⟨true,[],1,false,[.nil],.slice 6 56 [.nil,.nil,.int .u8 0,.int .u8 0,.int .u8 0,.int .u8 0]⟩
 | 24=>⟨true,[],3,true,[.int .u8 0,.int .u8 0,.nil],.struct [(0,1),(1,1),(2,1)]⟩
 | 25=>⟨true,[],1,false,[.nil],.slice 1 1 [.int .u8 0]⟩
 | 27=>⟨true,[],1,false,[.nil],.slice 6 64 [.str [],.nil,.int .u8 0,.int .u8 0,.int .i64 0,.int .i64 0]⟩
 | 29=>⟨true,[],3,true,[.int .i64 0,.int .u8 0,.nil],.struct [(0,1),(1,1),(2,1)]⟩
 | 34=>⟨true,[],3,true,[.str [],.str [],.str []],.array 3 1⟩
 | 35=>⟨true,[],1,false,[.nil],.slice 1 1 [.int .u8 0]⟩
 | 36=>⟨true,[],1,false,[.nil],.slice 1 8 [.int .i64 0]⟩
 | 38=>⟨true,[],2,true,[.nil,.nil],.struct [(0,1),(1,1)]⟩
 | 39=>⟨true,[],1,false,[.int .i64 0],.int .i64⟩
 | 43=>⟨true,[],4,true,[.nil,.nil,.int .i64 0,.int .i64 0],.struct [(0,2),(2,1),(3,1)]⟩
 | 51=>⟨true,[.int .i64,.int .i64,.int .u8],3,true,[.int .i64 0,.int .i64 0,.int .u8 0],.struct [(0,1),(1,1),(2,1)]⟩
 | 53=>⟨true,[],7,true,[.str [],.nil,.int .i64 0,.int .i64 0,.int .i64 0,.int .u8 0,.bool false],.struct [(0,1),(1,1),(2,1),(3,3),(6,1)]⟩
 | 60=>⟨true,[],2,true,[.int .u8 0,.int .u8 0],.array 2 1⟩
 | 62=>⟨true,[],6,true,[.nil,.nil,.int .u8 0,.int .u8 0,.int .u8 0,.int .u8 0],.struct [(0,1),(1,1),(2,1),(3,1),(4,2)]⟩
 | 64=>⟨true,[],6,true,[.str [],.nil,.int .u8 0,.int .u8 0,.int .i64 0,.int .i64 0],.struct [(0,1),(1,1),(2,1),(3,1),(4,1),(5,1)]⟩
 | 67=>⟨true,[],2,true,[.str [],.str []],.array 2 1⟩
 | 69=>⟨true,[],12,true,[.nil,.nil,.int .u8 0,.int .u8 0,.int .u8 0,.int .u8 0,.nil,.nil,.int .u8 0,.int .u8 0,.int .u8 0,.int .u8 0],.array 2 6⟩
 | 72=>⟨true,[],3,true,[.int .u8 0,.int .u8 0,.int .u8 0],.array 3 1⟩
 | 73=>⟨true,[],1,false,[.int .u8 0],.int .u8⟩
 | 76=>⟨true,[],3,true,[.int .i64 0,.int .i64 0,.int .i64 0],.array 3 1⟩
 | 79=>⟨true,[],1,false,[.nilp],.other⟩
 | 82=>⟨true,[],2,true,[.nil,.nil],.struct [(0,1),(1,1)]⟩
 | 83=>⟨true,[],1,false,[.nil],.slice 3 24 [.int .i64 0,.int .i64 0,.int .u8 0]⟩
 | 84=>⟨true,[],1,false,[.nil],.slice 1 24 [.nil]⟩
 | 85=>⟨true,[],1,false,[.nil],.slice 2 48 [.nil,.nil]⟩
 | 87=>⟨true,[],8,true,[.int .i64 0,.int .u8 0,.nil,.str [],.nil,.nil,.nil,.int .i64 0],.struct [(0,3),(3,1),(4,1),(5,1),(6,1),(7,1)]⟩
 | 89=>⟨true,[],1,false,[.nil],.slice 1 24 [.nil]⟩
 | 94=>⟨true,[],6,true,[.str [],.int .i64 0,.int .i64 0,.int .i64 0,.int .u8 0,.nil],.struct [(0,1),(1,1),(2,3),(5,1)]⟩
 | 100=>⟨true,[],1,false,[.nil],.slice 1 1 [.bool false]⟩
 | 105=>⟨true,[],1,false,[.nil],.slice 1 24 [.nil]⟩
 | 111=>⟨true,[],2,true,[.int .i64 0,.int .i64 0],.array 2 1⟩
 | 114=>⟨true,[],1,false,[.nilm],.map [.int .i64,.int .i64,.int .u8] true false [.int .i64 0]⟩
 | 115=>⟨true,[],1,false,[.nil],.slice 2 16 [.int .i64 0,.int .i64 0]⟩
 | 117=>⟨true,[.int .i64,.int .i64],2,true,[.int .i64 0,.int .i64 0],.struct [(0,1),(1,1)]⟩
 | 118=>⟨true,[],5,true,[.nil,.nil,.nil,.nil,.nil],.array 5 1⟩
 | 123=>⟨true,[],1,false,[.nilp],.other⟩
 | 134=>⟨true,[],1,false,[.int .u64 0],.int .u64⟩
 | 139=>⟨true,[],1,false,[.int .i64 0],.int .i64⟩
 | 147=>⟨true,[],1,false,[.int .u32 0],.int .u32⟩
 | 149=>⟨true,[],1,false,[.int .u64 0],.int .u64⟩
 | 151=>⟨true,[],1,false,[.int .u64 0],.int .u64⟩
 | 155=>⟨true,[],1,false,[.nilp],.other⟩
 | _=>⟨false,[],0,false,[],.other⟩
theorem tf3:TyFacts Try.prog 3 (ty 3):={
 info:=by obtain ⟨i,h1,h2,_,h4⟩:=inf3;exact ⟨i,_,h1,h2,h4,rfl⟩
 plain:=rfl
 desc:=⟨_,Try.underlying3,rfl,rfl⟩
 one:=λ h=>by first|rfl|cases h
 pos:=by decide
 eq:=λ h=>absurd rfl h }
theorem tf4:TyFacts Try.prog 4 (ty 4):={
 info:=by obtain ⟨i,h1,h2,_,h4⟩:=inf4;exact ⟨i,_,h1,h2,h4,rfl⟩
 plain:=rfl
 desc:=⟨_,Try.underlying4,rfl,rfl⟩
 one:=λ h=>by first|rfl|cases h
 pos:=by decide
 eq:=λ h=>absurd rfl h }
theorem tf5:TyFacts Try.prog 5 (ty 5):={
 info:=by obtain ⟨i,h1,h2,_,h4⟩:=inf5;exact ⟨i,_,h1,h2,h4,rfl⟩
 plain:=rfl
 desc:=⟨_,Try.underlying5,rfl,rfl⟩
 one:=λ h=>by first|rfl|cases h
 pos:=by decide
 eq:=λ h=>absurd rfl h }
theorem tf9:TyFacts Try.prog 9 (ty 9):={
 info:=by obtain ⟨i,h1,h2,_,h4⟩:=inf9;exact ⟨i,_,h1,h2,h4,rfl⟩
 plain:=rfl
 desc:=⟨_,Try.underlying9,rfl,rfl⟩
 one:=λ h=>by first|rfl|cases h
 pos:=by decide
 eq:=λ h=>absurd rfl h }
theorem tf22:TyFacts Try.prog 22 (ty 22):={
 info:=by obtain ⟨i,h1,h2,_,h4⟩:=inf22;exact ⟨i,_,h1,h2,h4,rfl⟩
 plain:=rfl
 desc:=⟨_,Try.underlying22,rfl,(by obtain ⟨j,h1,h2,h3,h4⟩:=inf62;exact ⟨_,j,_,rfl,h1,h2,h3,h4,rfl,rfl,rfl,λ h=>by cases h⟩)⟩
 one:=λ h=>by first|rfl|cases h
 pos:=by decide
 eq:=λ h=>absurd rfl h }
theorem tf24:TyFacts Try.prog 24 (ty 24):={
 info:=by obtain ⟨i,h1,h2,_,h4⟩:=inf24;exact ⟨i,_,h1,h2,h4,rfl⟩
 plain:=rfl
 desc:=⟨_,Try.underlying24,rfl,⟨_,rfl,rfl,λ i o s h=>match i,h with|0,h=>(by cases h;exact (by obtain ⟨j,h1,h2,_⟩:=inf5;exact ⟨_,j,rfl,rfl,h1,h2,by decide,_,Try.underlying5,by decide⟩))|1,h=>(by cases h;exact (by obtain ⟨j,h1,h2,_⟩:=inf5;exact ⟨_,j,rfl,rfl,h1,h2,by decide,_,Try.underlying5,by decide⟩))|2,h=>(by cases h;exact (by obtain ⟨j,h1,h2,_⟩:=inf22;exact ⟨_,j,rfl,rfl,h1,h2,by decide,_,Try.underlying22,by decide⟩))|n+3,h=>by simp at h⟩⟩
 one:=λ h=>by first|rfl|cases h
 pos:=by decide
 eq:=λ h=>absurd rfl h }
theorem tf25:TyFacts Try.prog 25 (ty 25):={
 info:=by obtain ⟨i,h1,h2,_,h4⟩:=inf25;exact ⟨i,_,h1,h2,h4,rfl⟩
 plain:=rfl
 desc:=⟨_,Try.underlying25,rfl,(by obtain ⟨j,h1,h2,h3,h4⟩:=inf5;exact ⟨_,j,_,rfl,h1,h2,h3,h4,rfl,rfl,rfl,λ _=>Try.underlying5⟩)⟩
 one:=λ h=>by first|rfl|cases h
 pos:=by decide
 eq:=λ h=>absurd rfl h }
theorem tf27:TyFacts Try.prog 27 (ty 27):={
 info:=by obtain ⟨i,h1,h2,_,h4⟩:=inf27;exact ⟨i,_,h1,h2,h4,rfl⟩
 plain:=rfl
 desc:=⟨_,Try.underlying27,rfl,(by obtain ⟨j,h1,h2,h3,h4⟩:=inf64;exact ⟨_,j,_,rfl,h1,h2,h3,h4,rfl,rfl,rfl,λ h=>by cases h⟩)⟩
 one:=λ h=>by first|rfl|cases h
 pos:=by decide
 eq:=λ h=>absurd rfl h }
theorem tf29:TyFacts Try.prog 29 (ty 29):={
 info:=by obtain ⟨i,h1,h2,_,h4⟩:=inf29;exact ⟨i,_,h1,h2,h4,rfl⟩
 plain:=rfl
 desc:=⟨_,Try.underlying29,rfl,⟨_,rfl,rfl,λ i o s h=>match i,h with|0,h=>(by cases h;exact (by obtain ⟨j,h1,h2,_⟩:=inf3;exact ⟨_,j,rfl,rfl,h1,h2,by decide,_,Try.underlying3,by decide⟩))|1,h=>(by cases h;exact (by obtain ⟨j,h1,h2,_⟩:=inf5;exact ⟨_,j,rfl,rfl,h1,h2,by decide,_,Try.underlying5,by decide⟩))|2,h=>(by cases h;exact (by obtain ⟨j,h1,h2,_⟩:=inf27;exact ⟨_,j,rfl,rfl,h1,h2,by decide,_,Try.underlying27,by decide⟩))|n+3,h=>by simp at h⟩⟩
 one:=λ h=>by first|rfl|cases h
 pos:=by decide
 eq:=λ h=>absurd rfl h }
theorem tf34:TyFacts Try.prog 34 (ty 34):={
 info:=by obtain ⟨i,h1,h2,_,h4⟩:=inf34;exact ⟨i,_,h1,h2,h4,rfl⟩
 plain:=rfl
 desc:=⟨_,Try.underlying34,rfl,(by obtain ⟨j,h1,h2,_⟩:=inf9;exact ⟨_,j,rfl,h1,h2⟩)⟩
 one:=λ h=>by first|rfl|cases h
 pos:=by decide
 eq:=λ h=>absurd rfl h }
theorem tf35:TyFacts Try.prog 35 (ty 35):={
 info:=by obtain ⟨i,h1,h2,_,h4⟩:=inf35;exact ⟨i,_,h1,h2,h4,rfl⟩
 plain:=rfl
 desc:=⟨_,Try.underlying35,rfl,(by obtain ⟨j,h1,h2,h3,h4⟩:=inf73;exact ⟨_,j,_,rfl,h1,h2,h3,h4,rfl,rfl,rfl,λ _=>Try.underlying73⟩)⟩
 one:=λ h=>by first|rfl|cases h
 pos:=by decide
 eq:=λ h=>absurd rfl h }
theorem tf36:TyFacts Try.prog 36 (ty 36):={
 info:=by obtain ⟨i,h1,h2,_,h4⟩:=inf36;exact ⟨i,_,h1,h2,h4,rfl⟩
 plain:=rfl
 desc:=⟨_,Try.underlying36,rfl,(by obtain ⟨j,h1,h2,h3,h4⟩:=inf3;exact ⟨_,j,_,rfl,h1,h2,h3,h4,rfl,rfl,rfl,λ h=>by cases h⟩)⟩
 one:=λ h=>by first|rfl|cases h
 pos:=by decide
 eq:=λ h=>absurd rfl h }
theorem tf38:TyFacts Try.prog 38 (ty 38):={
 info:=by obtain ⟨i,h1,h2,_,h4⟩:=inf38;exact ⟨i,_,h1,h2,h4,rfl⟩
 plain:=rfl
 desc:=⟨_,Try.underlying38,rfl,⟨_,rfl,rfl,λ i o s h=>match i,h with|0,h=>(by cases h;exact (by obtain ⟨j,h1,h2,_⟩:=inf35;exact ⟨_,j,rfl,rfl,h1,h2,by decide,_,Try.underlying35,by decide⟩))|1,h=>(by cases h;exact (by obtain ⟨j,h1,h2,_⟩:=inf36;exact ⟨_,j,rfl,rfl,h1,h2,by decide,_,Try.underlying36,by decide⟩))|n+2,h=>by simp at h⟩⟩
 one:=λ h=>by first|rfl|cases h
 pos:=by decide
 eq:=λ h=>absurd rfl h }
theorem tf39:TyFacts Try.prog 39 (ty 39):={
 info:=by obtain ⟨i,h1,h2,_,h4⟩:=inf39;exact ⟨i,_,h1,h2,h4,rfl⟩
 plain:=rfl
 desc:=⟨_,Try.underlying39,rfl,rfl⟩
 one:=λ h=>by first|rfl|cases h
 pos:=by decide
 eq:=λ h=>absurd rfl h }
theorem tf43:TyFacts Try.prog 43 (ty 43):={
 info:=by obtain ⟨i,h1,h2,_,h4⟩:=inf43;exact ⟨i,_,h1,h2,h4,rfl⟩
 plain:=rfl
 desc:=⟨_,Try.underlying43,rfl,⟨_,rfl,rfl,λ i o s h=>match i,h with|0,h=>(by cases h;exact (by obtain ⟨j,h1,h2,_⟩:=inf38;exact ⟨_,j,rfl,rfl,h1,h2,by decide,_,Try.underlying38,by decide⟩))|1,h=>(by cases h;exact (by obtain ⟨j,h1,h2,_⟩:=inf3;exact ⟨_,j,rfl,rfl,h1,h2,by decide,_,Try.underlying3,by decide⟩))|2,h=>(by cases h;exact (by obtain ⟨j,h1,h2,_⟩:=inf39;exact ⟨_,j,rfl,rfl,h1,h2,by decide,_,Try.underlying39,by decide⟩))|n+3,h=>by simp at h⟩⟩
 one:=λ h=>by first|rfl|cases h
 pos:=by decide
 eq:=λ h=>absurd rfl h }
theorem tf51:TyFacts Try.prog 51 (ty 51):={
 info:=by obtain ⟨i,h1,h2,_,h4⟩:=inf51;exact ⟨i,_,h1,h2,h4,rfl⟩
 plain:=rfl
 desc:=⟨_,Try.underlying51,rfl,⟨_,rfl,rfl,λ i o s h=>match i,h with|0,h=>(by cases h;exact (by obtain ⟨j,h1,h2,_⟩:=inf3;exact ⟨_,j,rfl,rfl,h1,h2,by decide,_,Try.underlying3,by decide⟩))|1,h=>(by cases h;exact (by obtain ⟨j,h1,h2,_⟩:=inf3;exact ⟨_,j,rfl,rfl,h1,h2,by decide,_,Try.underlying3,by decide⟩))|2,h=>(by cases h;exact (by obtain ⟨j,h1,h2,_⟩:=inf5;exact ⟨_,j,rfl,rfl,h1,h2,by decide,_,Try.underlying5,by decide⟩))|n+3,h=>by simp at h⟩⟩
 one:=λ h=>by first|rfl|cases h
 pos:=by decide
 eq:=λ _=>eq_flat Try.underlying51 (by kernel_rfl) (by kernel_rfl) rfl λ j f k h1 h2=>match j,h1,h2 with|0,h1,h2=>(by cases h1;cases h2;exact ⟨by decide,rfl,⟨_,Try.underlying3⟩⟩)|1,h1,h2=>(by cases h1;cases h2;exact ⟨by decide,rfl,⟨_,Try.underlying3⟩⟩)|2,h1,h2=>(by cases h1;cases h2;exact ⟨by decide,rfl,⟨_,Try.underlying5⟩⟩)|n+3,h1,_=>by simp at h1 }
theorem tf53:TyFacts Try.prog 53 (ty 53):={
 info:=by obtain ⟨i,h1,h2,_,h4⟩:=inf53;exact ⟨i,_,h1,h2,h4,rfl⟩
 plain:=rfl
 desc:=⟨_,Try.underlying53,rfl,⟨_,rfl,rfl,λ i o s h=>match i,h with|0,h=>(by cases h;exact (by obtain ⟨j,h1,h2,_⟩:=inf9;exact ⟨_,j,rfl,rfl,h1,h2,by decide,_,Try.underlying9,by decide⟩))|1,h=>(by cases h;exact (by obtain ⟨j,h1,h2,_⟩:=inf35;exact ⟨_,j,rfl,rfl,h1,h2,by decide,_,Try.underlying35,by decide⟩))|2,h=>(by cases h;exact (by obtain ⟨j,h1,h2,_⟩:=inf3;exact ⟨_,j,rfl,rfl,h1,h2,by decide,_,Try.underlying3,by decide⟩))|3,h=>(by cases h;exact (by obtain ⟨j,h1,h2,_⟩:=inf51;exact ⟨_,j,rfl,rfl,h1,h2,by decide,_,Try.underlying51,by decide⟩))|4,h=>(by cases h;exact (by obtain ⟨j,h1,h2,_⟩:=inf4;exact ⟨_,j,rfl,rfl,h1,h2,by decide,_,Try.underlying4,by decide⟩))|n+5,h=>by simp at h⟩⟩
 one:=λ h=>by first|rfl|cases h
 pos:=by decide
 eq:=λ h=>absurd rfl h }
theorem tf60:TyFacts Try.prog 60 (ty 60):={
 info:=by obtain ⟨i,h1,h2,_,h4⟩:=inf60;exact ⟨i,_,h1,h2,h4,rfl⟩
 plain:=rfl
 desc:=⟨_,Try.underlying60,rfl,(by obtain ⟨j,h1,h2,_⟩:=inf5;exact ⟨_,j,rfl,h1,h2⟩)⟩
 one:=λ h=>by first|rfl|cases h
 pos:=by decide
 eq:=λ h=>absurd rfl h }
theorem tf62:TyFacts Try.prog 62 (ty 62):={
 info:=by obtain ⟨i,h1,h2,_,h4⟩:=inf62;exact ⟨i,_,h1,h2,h4,rfl⟩
 plain:=rfl
 desc:=⟨_,Try.underlying62,rfl,⟨_,rfl,rfl,λ i o s h=>match i,h with|0,h=>(by cases h;exact (by obtain ⟨j,h1,h2,_⟩:=inf25;exact ⟨_,j,rfl,rfl,h1,h2,by decide,_,Try.underlying25,by decide⟩))|1,h=>(by cases h;exact (by obtain ⟨j,h1,h2,_⟩:=inf25;exact ⟨_,j,rfl,rfl,h1,h2,by decide,_,Try.underlying25,by decide⟩))|2,h=>(by cases h;exact (by obtain ⟨j,h1,h2,_⟩:=inf5;exact ⟨_,j,rfl,rfl,h1,h2,by decide,_,Try.underlying5,by decide⟩))|3,h=>(by cases h;exact (by obtain ⟨j,h1,h2,_⟩:=inf5;exact ⟨_,j,rfl,rfl,h1,h2,by decide,_,Try.underlying5,by decide⟩))|4,h=>(by cases h;exact (by obtain ⟨j,h1,h2,_⟩:=inf60;exact ⟨_,j,rfl,rfl,h1,h2,by decide,_,Try.underlying60,by decide⟩))|n+5,h=>by simp at h⟩⟩
 one:=λ h=>by first|rfl|cases h
 pos:=by decide
 eq:=λ h=>absurd rfl h }
theorem tf64:TyFacts Try.prog 64 (ty 64):={
 info:=by obtain ⟨i,h1,h2,_,h4⟩:=inf64;exact ⟨i,_,h1,h2,h4,rfl⟩
 plain:=rfl
 desc:=⟨_,Try.underlying64,rfl,⟨_,rfl,rfl,λ i o s h=>match i,h with|0,h=>(by cases h;exact (by obtain ⟨j,h1,h2,_⟩:=inf9;exact ⟨_,j,rfl,rfl,h1,h2,by decide,_,Try.underlying9,by decide⟩))|1,h=>(by cases h;exact (by obtain ⟨j,h1,h2,_⟩:=inf35;exact ⟨_,j,rfl,rfl,h1,h2,by decide,_,Try.underlying35,by decide⟩))|2,h=>(by cases h;exact (by obtain ⟨j,h1,h2,_⟩:=inf5;exact ⟨_,j,rfl,rfl,h1,h2,by decide,_,Try.underlying5,by decide⟩))|3,h=>(by cases h;exact (by obtain ⟨j,h1,h2,_⟩:=inf5;exact ⟨_,j,rfl,rfl,h1,h2,by decide,_,Try.underlying5,by decide⟩))|4,h=>(by cases h;exact (by obtain ⟨j,h1,h2,_⟩:=inf3;exact ⟨_,j,rfl,rfl,h1,h2,by decide,_,Try.underlying3,by decide⟩))|5,h=>(by cases h;exact (by obtain ⟨j,h1,h2,_⟩:=inf3;exact ⟨_,j,rfl,rfl,h1,h2,by decide,_,Try.underlying3,by decide⟩))|n+6,h=>by simp at h⟩⟩
 one:=λ h=>by first|rfl|cases h
 pos:=by decide
 eq:=λ h=>absurd rfl h }
theorem tf67:TyFacts Try.prog 67 (ty 67):={
 info:=by obtain ⟨i,h1,h2,_,h4⟩:=inf67;exact ⟨i,_,h1,h2,h4,rfl⟩
 plain:=rfl
 desc:=⟨_,Try.underlying67,rfl,(by obtain ⟨j,h1,h2,_⟩:=inf9;exact ⟨_,j,rfl,h1,h2⟩)⟩
 one:=λ h=>by first|rfl|cases h
 pos:=by decide
 eq:=λ h=>absurd rfl h }
theorem tf69:TyFacts Try.prog 69 (ty 69):={
 info:=by obtain ⟨i,h1,h2,_,h4⟩:=inf69;exact ⟨i,_,h1,h2,h4,rfl⟩
 plain:=rfl
 desc:=⟨_,Try.underlying69,rfl,(by obtain ⟨j,h1,h2,_⟩:=inf62;exact ⟨_,j,rfl,h1,h2⟩)⟩
 one:=λ h=>by first|rfl|cases h
 pos:=by decide
 eq:=λ h=>absurd rfl h }
theorem tf72:TyFacts Try.prog 72 (ty 72):={
 info:=by obtain ⟨i,h1,h2,_,h4⟩:=inf72;exact ⟨i,_,h1,h2,h4,rfl⟩
 plain:=rfl
 desc:=⟨_,Try.underlying72,rfl,(by obtain ⟨j,h1,h2,_⟩:=inf5;exact ⟨_,j,rfl,h1,h2⟩)⟩
 one:=λ h=>by first|rfl|cases h
 pos:=by decide
 eq:=λ h=>absurd rfl h }
theorem tf73:TyFacts Try.prog 73 (ty 73):={
 info:=by obtain ⟨i,h1,h2,_,h4⟩:=inf73;exact ⟨i,_,h1,h2,h4,rfl⟩
 plain:=rfl
 desc:=⟨_,Try.underlying73,rfl,rfl⟩
 one:=λ h=>by first|rfl|cases h
 pos:=by decide
 eq:=λ h=>absurd rfl h }
theorem tf76:TyFacts Try.prog 76 (ty 76):={
 info:=by obtain ⟨i,h1,h2,_,h4⟩:=inf76;exact ⟨i,_,h1,h2,h4,rfl⟩
 plain:=rfl
 desc:=⟨_,Try.underlying76,rfl,(by obtain ⟨j,h1,h2,_⟩:=inf3;exact ⟨_,j,rfl,h1,h2⟩)⟩
 one:=λ h=>by first|rfl|cases h
 pos:=by decide
 eq:=λ h=>absurd rfl h }
theorem tf79:TyFacts Try.prog 79 (ty 79):={
 info:=by obtain ⟨i,h1,h2,_,h4⟩:=inf79;exact ⟨i,_,h1,h2,h4,rfl⟩
 plain:=rfl
 desc:=⟨_,Try.underlying79,rfl,trivial⟩
 one:=λ h=>by first|rfl|cases h
 pos:=by decide
 eq:=λ h=>absurd rfl h }
theorem tf82:TyFacts Try.prog 82 (ty 82):={
 info:=by obtain ⟨i,h1,h2,_,h4⟩:=inf82;exact ⟨i,_,h1,h2,h4,rfl⟩
 plain:=rfl
 desc:=⟨_,Try.underlying82,rfl,⟨_,rfl,rfl,λ i o s h=>match i,h with|0,h=>(by cases h;exact (by obtain ⟨j,h1,h2,_⟩:=inf36;exact ⟨_,j,rfl,rfl,h1,h2,by decide,_,Try.underlying36,by decide⟩))|1,h=>(by cases h;exact (by obtain ⟨j,h1,h2,_⟩:=inf36;exact ⟨_,j,rfl,rfl,h1,h2,by decide,_,Try.underlying36,by decide⟩))|n+2,h=>by simp at h⟩⟩
 one:=λ h=>by first|rfl|cases h
 pos:=by decide
 eq:=λ h=>absurd rfl h }
theorem tf83:TyFacts Try.prog 83 (ty 83):={
 info:=by obtain ⟨i,h1,h2,_,h4⟩:=inf83;exact ⟨i,_,h1,h2,h4,rfl⟩
 plain:=rfl
 desc:=⟨_,Try.underlying83,rfl,(by obtain ⟨j,h1,h2,h3,h4⟩:=inf51;exact ⟨_,j,_,rfl,h1,h2,h3,h4,rfl,rfl,rfl,λ h=>by cases h⟩)⟩
 one:=λ h=>by first|rfl|cases h
 pos:=by decide
 eq:=λ h=>absurd rfl h }
theorem tf84:TyFacts Try.prog 84 (ty 84):={
 info:=by obtain ⟨i,h1,h2,_,h4⟩:=inf84;exact ⟨i,_,h1,h2,h4,rfl⟩
 plain:=rfl
 desc:=⟨_,Try.underlying84,rfl,(by obtain ⟨j,h1,h2,h3,h4⟩:=inf115;exact ⟨_,j,_,rfl,h1,h2,h3,h4,rfl,rfl,rfl,λ h=>by cases h⟩)⟩
 one:=λ h=>by first|rfl|cases h
 pos:=by decide
 eq:=λ h=>absurd rfl h }
theorem tf85:TyFacts Try.prog 85 (ty 85):={
 info:=by obtain ⟨i,h1,h2,_,h4⟩:=inf85;exact ⟨i,_,h1,h2,h4,rfl⟩
 plain:=rfl
 desc:=⟨_,Try.underlying85,rfl,(by obtain ⟨j,h1,h2,h3,h4⟩:=inf82;exact ⟨_,j,_,rfl,h1,h2,h3,h4,rfl,rfl,rfl,λ h=>by cases h⟩)⟩
 one:=λ h=>by first|rfl|cases h
 pos:=by decide
 eq:=λ h=>absurd rfl h }
theorem tf87:TyFacts Try.prog 87 (ty 87):={
 info:=by obtain ⟨i,h1,h2,_,h4⟩:=inf87;exact ⟨i,_,h1,h2,h4,rfl⟩
 plain:=rfl
 desc:=⟨_,Try.underlying87,rfl,⟨_,rfl,rfl,λ i o s h=>match i,h with|0,h=>(by cases h;exact (by obtain ⟨j,h1,h2,_⟩:=inf29;exact ⟨_,j,rfl,rfl,h1,h2,by decide,_,Try.underlying29,by decide⟩))|1,h=>(by cases h;exact (by obtain ⟨j,h1,h2,_⟩:=inf9;exact ⟨_,j,rfl,rfl,h1,h2,by decide,_,Try.underlying9,by decide⟩))|2,h=>(by cases h;exact (by obtain ⟨j,h1,h2,_⟩:=inf83;exact ⟨_,j,rfl,rfl,h1,h2,by decide,_,Try.underlying83,by decide⟩))|3,h=>(by cases h;exact (by obtain ⟨j,h1,h2,_⟩:=inf84;exact ⟨_,j,rfl,rfl,h1,h2,by decide,_,Try.underlying84,by decide⟩))|4,h=>(by cases h;exact (by obtain ⟨j,h1,h2,_⟩:=inf85;exact ⟨_,j,rfl,rfl,h1,h2,by decide,_,Try.underlying85,by decide⟩))|5,h=>(by cases h;exact (by obtain ⟨j,h1,h2,_⟩:=inf3;exact ⟨_,j,rfl,rfl,h1,h2,by decide,_,Try.underlying3,by decide⟩))|n+6,h=>by simp at h⟩⟩
 one:=λ h=>by first|rfl|cases h
 pos:=by decide
 eq:=λ h=>absurd rfl h }
theorem tf89:TyFacts Try.prog 89 (ty 89):={
 info:=by obtain ⟨i,h1,h2,_,h4⟩:=inf89;exact ⟨i,_,h1,h2,h4,rfl⟩
 plain:=rfl
 desc:=⟨_,Try.underlying89,rfl,(by obtain ⟨j,h1,h2,h3,h4⟩:=inf36;exact ⟨_,j,_,rfl,h1,h2,h3,h4,rfl,rfl,rfl,λ h=>by cases h⟩)⟩
 one:=λ h=>by first|rfl|cases h
 pos:=by decide
 eq:=λ h=>absurd rfl h }
theorem tf94:TyFacts Try.prog 94 (ty 94):={
 info:=by obtain ⟨i,h1,h2,_,h4⟩:=inf94;exact ⟨i,_,h1,h2,h4,rfl⟩
 plain:=rfl
 desc:=⟨_,Try.underlying94,rfl,⟨_,rfl,rfl,λ i o s h=>match i,h with|0,h=>(by cases h;exact (by obtain ⟨j,h1,h2,_⟩:=inf9;exact ⟨_,j,rfl,rfl,h1,h2,by decide,_,Try.underlying9,by decide⟩))|1,h=>(by cases h;exact (by obtain ⟨j,h1,h2,_⟩:=inf3;exact ⟨_,j,rfl,rfl,h1,h2,by decide,_,Try.underlying3,by decide⟩))|2,h=>(by cases h;exact (by obtain ⟨j,h1,h2,_⟩:=inf51;exact ⟨_,j,rfl,rfl,h1,h2,by decide,_,Try.underlying51,by decide⟩))|3,h=>(by cases h;exact (by obtain ⟨j,h1,h2,_⟩:=inf83;exact ⟨_,j,rfl,rfl,h1,h2,by decide,_,Try.underlying83,by decide⟩))|n+4,h=>by simp at h⟩⟩
 one:=λ h=>by first|rfl|cases h
 pos:=by decide
 eq:=λ h=>absurd rfl h }
theorem tf100:TyFacts Try.prog 100 (ty 100):={
 info:=by obtain ⟨i,h1,h2,_,h4⟩:=inf100;exact ⟨i,_,h1,h2,h4,rfl⟩
 plain:=rfl
 desc:=⟨_,Try.underlying100,rfl,(by obtain ⟨j,h1,h2,h3,h4⟩:=inf4;exact ⟨_,j,_,rfl,h1,h2,h3,h4,rfl,rfl,rfl,λ h=>by cases h⟩)⟩
 one:=λ h=>by first|rfl|cases h
 pos:=by decide
 eq:=λ h=>absurd rfl h }
theorem tf105:TyFacts Try.prog 105 (ty 105):={
 info:=by obtain ⟨i,h1,h2,_,h4⟩:=inf105;exact ⟨i,_,h1,h2,h4,rfl⟩
 plain:=rfl
 desc:=⟨_,Try.underlying105,rfl,(by obtain ⟨j,h1,h2,h3,h4⟩:=inf100;exact ⟨_,j,_,rfl,h1,h2,h3,h4,rfl,rfl,rfl,λ h=>by cases h⟩)⟩
 one:=λ h=>by first|rfl|cases h
 pos:=by decide
 eq:=λ h=>absurd rfl h }
theorem tf111:TyFacts Try.prog 111 (ty 111):={
 info:=by obtain ⟨i,h1,h2,_,h4⟩:=inf111;exact ⟨i,_,h1,h2,h4,rfl⟩
 plain:=rfl
 desc:=⟨_,Try.underlying111,rfl,(by obtain ⟨j,h1,h2,_⟩:=inf3;exact ⟨_,j,rfl,h1,h2⟩)⟩
 one:=λ h=>by first|rfl|cases h
 pos:=by decide
 eq:=λ h=>absurd rfl h }
theorem tf114:TyFacts Try.prog 114 (ty 114):={
 info:=by obtain ⟨i,h1,h2,_,h4⟩:=inf114;exact ⟨i,_,h1,h2,h4,rfl⟩
 plain:=rfl
 desc:=⟨_,Try.underlying114,rfl,(by obtain ⟨j,h1,h2,h3,h4⟩:=inf3;exact ⟨_,_,j,_,rfl,(keyFacts_flat Try.underlying51 (by kernel_rfl) rfl λ j f k h1 h2=>match j,h1,h2 with|0,h1,h2=>(by cases h1;cases h2;exact ⟨by decide,rfl,⟨_,Try.underlying3⟩⟩)|1,h1,h2=>(by cases h1;cases h2;exact ⟨by decide,rfl,⟨_,Try.underlying3⟩⟩)|2,h1,h2=>(by cases h1;cases h2;exact ⟨by decide,rfl,⟨_,Try.underlying5⟩⟩)|n+3,h1,_=>by simp at h1),h1,h4,rfl,(λ h=>by cases h),(λ _=>⟨_,rfl,rfl⟩)⟩)⟩
 one:=λ h=>by first|rfl|cases h
 pos:=by decide
 eq:=λ h=>absurd rfl h }
theorem tf115:TyFacts Try.prog 115 (ty 115):={
 info:=by obtain ⟨i,h1,h2,_,h4⟩:=inf115;exact ⟨i,_,h1,h2,h4,rfl⟩
 plain:=rfl
 desc:=⟨_,Try.underlying115,rfl,(by obtain ⟨j,h1,h2,h3,h4⟩:=inf117;exact ⟨_,j,_,rfl,h1,h2,h3,h4,rfl,rfl,rfl,λ h=>by cases h⟩)⟩
 one:=λ h=>by first|rfl|cases h
 pos:=by decide
 eq:=λ h=>absurd rfl h }
theorem tf117:TyFacts Try.prog 117 (ty 117):={
 info:=by obtain ⟨i,h1,h2,_,h4⟩:=inf117;exact ⟨i,_,h1,h2,h4,rfl⟩
 plain:=rfl
 desc:=⟨_,Try.underlying117,rfl,⟨_,rfl,rfl,λ i o s h=>match i,h with|0,h=>(by cases h;exact (by obtain ⟨j,h1,h2,_⟩:=inf3;exact ⟨_,j,rfl,rfl,h1,h2,by decide,_,Try.underlying3,by decide⟩))|1,h=>(by cases h;exact (by obtain ⟨j,h1,h2,_⟩:=inf3;exact ⟨_,j,rfl,rfl,h1,h2,by decide,_,Try.underlying3,by decide⟩))|n+2,h=>by simp at h⟩⟩
 one:=λ h=>by first|rfl|cases h
 pos:=by decide
 eq:=λ _=>eq_flat Try.underlying117 (by kernel_rfl) (by kernel_rfl) rfl λ j f k h1 h2=>match j,h1,h2 with|0,h1,h2=>(by cases h1;cases h2;exact ⟨by decide,rfl,⟨_,Try.underlying3⟩⟩)|1,h1,h2=>(by cases h1;cases h2;exact ⟨by decide,rfl,⟨_,Try.underlying3⟩⟩)|n+2,h1,_=>by simp at h1 }
theorem tf118:TyFacts Try.prog 118 (ty 118):={
 info:=by obtain ⟨i,h1,h2,_,h4⟩:=inf118;exact ⟨i,_,h1,h2,h4,rfl⟩
 plain:=rfl
 desc:=⟨_,Try.underlying118,rfl,(by obtain ⟨j,h1,h2,_⟩:=inf100;exact ⟨_,j,rfl,h1,h2⟩)⟩
 one:=λ h=>by first|rfl|cases h
 pos:=by decide
 eq:=λ h=>absurd rfl h }
theorem tf123:TyFacts Try.prog 123 (ty 123):={
 info:=by obtain ⟨i,h1,h2,_,h4⟩:=inf123;exact ⟨i,_,h1,h2,h4,rfl⟩
 plain:=rfl
 desc:=⟨_,Try.underlying123,rfl,trivial⟩
 one:=λ h=>by first|rfl|cases h
 pos:=by decide
 eq:=λ h=>absurd rfl h }
theorem tf134:TyFacts Try.prog 134 (ty 134):={
 info:=by obtain ⟨i,h1,h2,_,h4⟩:=inf134;exact ⟨i,_,h1,h2,h4,rfl⟩
 plain:=rfl
 desc:=⟨_,Try.underlying134,rfl,rfl⟩
 one:=λ h=>by first|rfl|cases h
 pos:=by decide
 eq:=λ h=>absurd rfl h }
theorem tf139:TyFacts Try.prog 139 (ty 139):={
 info:=by obtain ⟨i,h1,h2,_,h4⟩:=inf139;exact ⟨i,_,h1,h2,h4,rfl⟩
 plain:=rfl
 desc:=⟨_,Try.underlying139,rfl,rfl⟩
 one:=λ h=>by first|rfl|cases h
 pos:=by decide
 eq:=λ h=>absurd rfl h }
theorem tf147:TyFacts Try.prog 147 (ty 147):={
 info:=by obtain ⟨i,h1,h2,_,h4⟩:=inf147;exact ⟨i,_,h1,h2,h4,rfl⟩
 plain:=rfl
 desc:=⟨_,Try.underlying147,rfl,rfl⟩
 one:=λ h=>by first|rfl|cases h
 pos:=by decide
 eq:=λ h=>absurd rfl h }
theorem tf149:TyFacts Try.prog 149 (ty 149):={
 info:=by obtain ⟨i,h1,h2,_,h4⟩:=inf149;exact ⟨i,_,h1,h2,h4,rfl⟩
 plain:=rfl
 desc:=⟨_,Try.underlying149,rfl,rfl⟩
 one:=λ h=>by first|rfl|cases h
 pos:=by decide
 eq:=λ h=>absurd rfl h }
theorem tf151:TyFacts Try.prog 151 (ty 151):={
 info:=by obtain ⟨i,h1,h2,_,h4⟩:=inf151;exact ⟨i,_,h1,h2,h4,rfl⟩
 plain:=rfl
 desc:=⟨_,Try.underlying151,rfl,rfl⟩
 one:=λ h=>by first|rfl|cases h
 pos:=by decide
 eq:=λ h=>absurd rfl h }
theorem tf155:TyFacts Try.prog 155 (ty 155):={
 info:=by obtain ⟨i,h1,h2,_,h4⟩:=inf155;exact ⟨i,_,h1,h2,h4,rfl⟩
 plain:=rfl
 desc:=⟨_,Try.underlying155,rfl,trivial⟩
 one:=λ h=>by first|rfl|cases h
 pos:=by decide
 eq:=λ h=>absurd rfl h }
theorem tyOK:TyOK Try.prog ty:=by
 intro t h
 unfold ty at h
 split at h
 ·exact tf3
 ·exact tf4
 ·exact tf5
 ·exact tf9
 ·exact tf22
 ·exact tf24
 ·exact tf25
 ·exact tf27
 ·exact tf29
 ·exact tf34
 ·exact tf35
 ·exact tf36
 ·exact tf38
 ·exact tf39
 ·exact tf43
 ·exact tf51
 ·exact tf53
 ·exact tf60
 ·exact tf62
 ·exact tf64
 ·exact tf67
 ·exact tf69
 ·exact tf72
 ·exact tf73
 ·exact tf76
 ·exact tf79
 ·exact tf82
 ·exact tf83
 ·exact tf84
 ·exact tf85
 ·exact tf87
 ·exact tf89
 ·exact tf94
 ·exact tf100
 ·exact tf105
 ·exact tf111
 ·exact tf114
 ·exact tf115
 ·exact tf117
 ·exact tf118
 ·exact tf123
 ·exact tf134
 ·exact tf139
 ·exact tf147
 ·exact tf149
 ·exact tf151
 ·exact tf155
 ·cases h
theorem follows:Try.prog.follows .mixedOrders=true:=by kernel_rfl
def cxk (n nk:Nat):Cx:=⟨ty,⟨n,[],nk⟩,CallOK Try.prog,LentOK Try.prog,ExtOK Try.prog⟩
def cx (n:Nat):Cx:=cxk n 0
theorem cxkOK (n nk:Nat):CxOK Try.prog (cxk n nk):=⟨tyOK,λ _ _ _ h=>h,λ _ _ _ _ _ _ h=>h,λ _ _ _ _ _ h=>h⟩
end Go.AI
end
section
namespace Go.AI
structure Arr3 (α:Type) where
 a0:α
 a1:α
 a2:α
 deriving DecidableEq,Inhabited
structure GRule where
 Print:(List UInt8)
 Cells:(List Int)
 Left:Int
 Right:Int
 From:Int
 To:Int
 deriving DecidableEq,Inhabited
structure GTable where
 Modes:Int
 Accept:Int
 Rules:(List GRule)
 deriving DecidableEq,Inhabited
structure GState where
 Mode:Int
 Last:Int
 Need:Int
 deriving DecidableEq,Inhabited
structure GColumn where
 States:(List Int)
 Costs:(List Int)
 deriving DecidableEq,Inhabited
structure GArc where
 Rule:Int
 To:Int
 deriving DecidableEq,Inhabited
structure GWriter where
 T:GTable
 S:(List UInt8)
 States:(List GState)
 Arcs:(List (List GArc))
 Columns:(List GColumn)
 Last:Int
 deriving DecidableEq,Inhabited
structure GWriting where
 Cells:(List Int)
 Path:(List Int)
 deriving DecidableEq,Inhabited
structure GTrace where
 Text:(List UInt8)
 Cells:(List Int)
 At:Int
 End:GState
 Ok:Bool
 deriving DecidableEq,Inhabited
structure Arr2 (α:Type) where
 a0:α
 a1:α
 deriving DecidableEq,Inhabited
structure GRawRule where
 P:(List Int)
 C:(List Int)
 L:Int
 R:Int
 W:(Arr2 Int)
 deriving DecidableEq,Inhabited
structure GRaw where
 Base:Int
 Drop:Int
 More:(List GRawRule)
 deriving DecidableEq,Inhabited
structure GPoint where
 S:(List UInt8)
 I:Int
 State:GState
 L:(List GState)
 deriving DecidableEq,Inhabited
structure GResult where
 W:GWriting
 At:Int
 E:Int
 deriving DecidableEq,Inhabited
def FL6_rule (_:Nat) (p0_:(List UInt8)) (p1_:Int) (p2_:(Arr3 Int)):Option GRule:=
 some ({ Print:=p0_,Cells:=[p1_],Left:=63,Right:=IntKind.u8.wrap p2_.a0,From:=p2_.a1,To:=p2_.a2 }:GRule)
def FTb_isCharacter (_:Nat) (p0_:Int):Option Bool:=
 some ((decide (32≤iand .u8 p0_ 127))&&(decide (iand .u8 p0_ 127≤126)))
def FTb_Text_L1 (n:Nat) (p0_:(List UInt8)) (x_1:Int):Option (Int⊕(Unit⊕(Int×Int))):=
 if decide (x_1<((List.length p0_:Nat):Int))=true then
  (sidx p0_ x_1).bind λ b1=>
  (FTb_isCharacter n b1).bind λ r1=>
  if (!r1)=true then
   some (Sum.inr (Sum.inr (x_1,60)))
  else
   some (Sum.inl (iadd .i64 x_1 1))
 else
  some (Sum.inr (Sum.inl ()))
def FTb_Text (n:Nat) (p0_:(List UInt8)):Option (Int×Int):=
 (whl (λ (x:Int)=>FTb_Text_L1 n p0_ x) n 0).bind λ y1=>
 match y1 with
 | Sum.inl _=>
  some (((List.length p0_:Nat):Int),0)
 | Sum.inr y3=>
  some y3
def FTb_Class (_:Nat) (p0_:Int):Option Int:=
 if ((decide (97≤iand .u8 p0_ 127))&&(decide (iand .u8 p0_ 127≤122)))=true then
  some 1
 else
  if ((decide (65≤iand .u8 p0_ 127))&&(decide (iand .u8 p0_ 127≤90)))=true then
   some 2
  else
   if ((decide (48≤iand .u8 p0_ 127))&&(decide (iand .u8 p0_ 127≤57)))=true then
    some 3
   else
    if ((iand .u8 p0_ 127)==32)=true then
     some 4
    else
     some 5
def FTb_hasSpace_L1 (n:Nat) (p0_:(List UInt8)) (x_2:Int):Option (Int⊕(Unit⊕Bool)):=
 if decide (x_2<((List.length p0_:Nat):Int))=true then
  (sidx p0_ x_2).bind λ b2=>
  (FTb_Class n b2).bind λ r2=>
  if (r2==4)=true then
   some (Sum.inr (Sum.inr true))
  else
   some (Sum.inl (iadd .i64 x_2 1))
 else
  some (Sum.inr (Sum.inl ()))
def FTb_hasSpace (n:Nat) (p0_:(List UInt8)):Option Bool:=
 (whl (λ (x:Int)=>FTb_hasSpace_L1 n p0_ x) n 0).bind λ y4=>
 match y4 with
 | Sum.inl _=>
  some false
 | Sum.inr y6=>
  some y6
def FCe_Valid (_:Nat) (p0_:Int):Option Bool:=
 some (decide (p0_<64))
def FTb_sound_L1 (n:Nat) (p0_:GRule) (x_3:Int):Option (Int⊕(Unit⊕Bool)):=
 if decide (x_3<((List.length p0_.Cells:Nat):Int))=true then
  (idx p0_.Cells x_3).bind λ x2=>
  (FCe_Valid n x2).bind λ r5=>
  if (((!r5)||(x2==63))||(x2==0))=true then
   some (Sum.inr (Sum.inr false))
  else
   some (Sum.inl (iadd .i64 x_3 1))
 else
  some (Sum.inr (Sum.inl ()))
def FTb_sound (n:Nat) (p0_:GRule) (p1_:Int):Option Bool:=
 if (((decide (((List.length p0_.Print:Nat):Int)>4))||(decide (((List.length p0_.Cells:Nat):Int)<1)))||(decide (((List.length p0_.Cells:Nat):Int)>4)))=true then
  some false
 else
  (FTb_Text n p0_.Print).bind λ r3=>
  if (r3.2 != 0)=true then
   some false
  else
   if ((((decide (p0_.Left<1))||(decide (p0_.Left>63)))||(decide (p0_.Right<1)))||(decide (p0_.Right>63)))=true then
    some false
   else
    if ((((decide (p0_.From<0))||(decide (p0_.From≥p1_)))||(decide (p0_.To<0)))||(decide (p0_.To≥p1_)))=true then
     some false
    else
     (FTb_hasSpace n p0_.Print).bind λ r4=>
     if r4=true then
      (if ((((List.length p0_.Print:Nat):Int)==1)&&(((List.length p0_.Cells:Nat):Int)==1))=true then idx p0_.Cells 0 else some default).bind λ x1=>
      some (((((List.length p0_.Print:Nat):Int)==1)&&(((List.length p0_.Cells:Nat):Int)==1))&&(x1==0))
     else
      (whl (λ (x:Int)=>FTb_sound_L1 n p0_ x) n 0).bind λ y7=>
      match y7 with
      | Sum.inl _=>
       some true
      | Sum.inr y9=>
       some y9
def FApi_Cell_L1 (_:Nat) (p0_:(List Int)) (p1_:(List Int)) (x_4:Int):Option (Int⊕(Unit⊕Bool)):=
 if decide (x_4<((List.length p0_:Nat):Int))=true then
  (idx p0_ x_4).bind λ x3=>
  (idx p1_ x_4).bind λ x4=>
  if (x3 != x4)=true then
   some (Sum.inr (Sum.inr false))
  else
   some (Sum.inl (iadd .i64 x_4 1))
 else
  some (Sum.inr (Sum.inl ()))
def FApi_Cell (n:Nat) (p0_:(List Int)) (p1_:(List Int)):Option Bool:=
 if (((List.length p0_:Nat):Int) != ((List.length p1_:Nat):Int))=true then
  some false
 else
  (whl (λ (x:Int)=>FApi_Cell_L1 n p0_ p1_ x) n 0).bind λ y10=>
  match y10 with
  | Sum.inl _=>
   some true
  | Sum.inr y12=>
   some y12
def FTb_equal (n:Nat) (p0_:GRule) (p1_:GRule):Option Bool:=
 (if (((((p0_.From==p1_.From)&&(p0_.To==p1_.To))&&(p0_.Left==p1_.Left))&&(p0_.Right==p1_.Right))&&(p0_.Print==p1_.Print))=true then FApi_Cell n p0_.Cells p1_.Cells else some default).bind λ r6=>
 some ((((((p0_.From==p1_.From)&&(p0_.To==p1_.To))&&(p0_.Left==p1_.Left))&&(p0_.Right==p1_.Right))&&(p0_.Print==p1_.Print))&&r6)
def FTb_Check_L2 (n:Nat) (_:GTable) (x_5:Int) (x5:GRule) (l1:(List GRule)) (x_6:Int):Option (Int⊕(Unit⊕(Int×Int))):=
 if decide (x_6<((List.length l1:Nat):Int))=true then
  (idx l1 x_6).bind λ x6=>
  (FTb_equal n x6 x5).bind λ r8=>
  if r8=true then
   some (Sum.inr (Sum.inr (x_5,20)))
  else
   some (Sum.inl (iadd .i64 x_6 1))
 else
  some (Sum.inr (Sum.inl ()))
def FTb_Check_L1 (n:Nat) (p0_:GTable) (x_5:Int):Option (Int⊕(Unit⊕(Int×Int))):=
 if decide (x_5<((List.length p0_.Rules:Nat):Int))=true then
  (idx p0_.Rules x_5).bind λ x5=>
  (FTb_sound n x5 p0_.Modes).bind λ r7=>
  if (!r7)=true then
   some (Sum.inr (Sum.inr (x_5,20)))
  else
   (sub p0_.Rules 0 x_5).bind λ l1=>
   (whl (λ (x:Int)=>FTb_Check_L2 n p0_ x_5 x5 l1 x) n 0).bind λ y13=>
   match y13 with
   | Sum.inl _=>
    some (Sum.inl (iadd .i64 x_5 1))
   | Sum.inr y15=>
    some (Sum.inr (Sum.inr y15))
 else
  some (Sum.inr (Sum.inl ()))
def FTb_Check (n:Nat) (p0_:GTable):Option (Int×Int):=
 if ((decide (p0_.Modes<1))||(decide (p0_.Modes>8)))=true then
  some ((-1),1)
 else
  (if (!(p0_.Accept==0))=true then guardB (decide (0≤p0_.Modes)) else some default).bind λ _=>
  if ((p0_.Accept==0)||(decide (IntKind.i64.wrap p0_.Accept≥ishl .i64 1 p0_.Modes)))=true then
   some ((-1),1)
  else
   if ((decide (((List.length p0_.Rules:Nat):Int)<1))||(decide (((List.length p0_.Rules:Nat):Int)>64)))=true then
    some ((-1),1)
   else
    (whl (λ (x:Int)=>FTb_Check_L1 n p0_ x) n 0).bind λ y16=>
    match y16 with
    | Sum.inl _=>
     some (0,0)
    | Sum.inr y18=>
     some y18
def FTb_Valid (n:Nat) (p0_:GTable):Option Bool:=
 (FTb_Check n p0_).bind λ r9=>
 some (r9.2==0)
def FAu_Start (_:Nat) :Option GState:=
 some ({ Mode:=0,Last:=0,Need:=63 }:GState)
def FAu_has (_:Nat) (p0_:Int) (p1_:Int):Option Bool:=
 (if ((decide (0≤p1_))&&(decide (p1_<8)))=true then guardB (decide (0≤p1_)) else some default).bind λ _=>
 some (((decide (0≤p1_))&&(decide (p1_<8)))&&((iand .u8 (ishr .u8 p0_ p1_) 1)==1))
def FAu_Step (n:Nat) (p0_:GTable) (p1_:GState) (p2_:Int):Option (GState×Bool):=
 if ((decide (p2_<0))||(decide (p2_≥((List.length p0_.Rules:Nat):Int))))=true then
  some (({ Mode:=0,Last:=0,Need:=0 }:GState),false)
 else
  (idx p0_.Rules p2_).bind λ x7=>
  (if (!(x7.From != p1_.Mode))=true then FAu_has n x7.Left p1_.Last else some default).bind λ r10=>
  if ((x7.From != p1_.Mode)||(!r10))=true then
   some (({ Mode:=0,Last:=0,Need:=0 }:GState),false)
  else
   if (x7.Print==[])=true then
    if ((iand .u8 p1_.Need x7.Right)==0)=true then
     some (({ Mode:=0,Last:=0,Need:=0 }:GState),false)
    else
     some (({ Mode:=x7.To,Last:=p1_.Last,Need:=iand .u8 p1_.Need x7.Right }:GState),true)
   else
    (sidx x7.Print 0).bind λ b3=>
    (FTb_Class n b3).bind λ r11=>
    (FAu_has n p1_.Need r11).bind λ r12=>
    if (!r12)=true then
     some (({ Mode:=0,Last:=0,Need:=0 }:GState),false)
    else
     (sidx x7.Print (isub .i64 ((List.length x7.Print:Nat):Int) 1)).bind λ b4=>
     (FTb_Class n b4).bind λ r13=>
     some (({ Mode:=x7.To,Last:=r13,Need:=x7.Right }:GState),true)
def FAu_explore_J1 (_:Nat) (x_7:Int) (states_5:(List GState)) (from_5:(List (List Int))) (number_4:(List (GState×Int))):Option (((List GState)×(List (List Int))×(List (GState×Int))×Int)⊕((List GState)×(List (List Int))×(List (GState×Int)))):=
 some (Sum.inl (states_5,from_5,number_4,(iadd .i64 x_7 1)))
def FAu_explore_J2 (n:Nat) (k_1:Int) (x_7:Int) (states_6:(List GState)) (from_6:(List (List Int))) (number_5:(List (GState×Int))) (n_1:Int):Option (((List GState)×(List (List Int))×(List (GState×Int))×Int)⊕((List GState)×(List (List Int))×(List (GState×Int)))):=
 (idx from_6 n_1).bind λ x9=>
 (app 8 x9 [k_1]).bind λ l2=>
 FAu_explore_J1 n x_7 states_6 (List.set from_6 (Int.toNat n_1) l2) number_5
def FAu_explore_L2 (n:Nat) (p0_:GTable) (k_1:Int) (states_3:(List GState)) (from_3:(List (List Int))) (number_2:(List (GState×Int))) (x_7:Int):Option (((List GState)×(List (List Int))×(List (GState×Int))×Int)⊕((List GState)×(List (List Int))×(List (GState×Int)))):=
 if decide (x_7<((List.length p0_.Rules:Nat):Int))=true then
  (idx states_3 k_1).bind λ x8=>
  (FAu_Step n p0_ x8 x_7).bind λ r15=>
  if (!r15.2)=true then
   FAu_explore_J1 n x_7 states_3 from_3 number_2
  else
   if (!(Option.isSome (mget r15.1 number_2)))=true then
    (app 24 states_3 [r15.1]).bind λ l3=>
    (app 24 from_3 [([]:(List Int))]).bind λ l4=>
    FAu_explore_J2 n k_1 x_7 l3 l4 (mput r15.1 ((List.length states_3:Nat):Int) number_2) ((List.length states_3:Nat):Int)
   else
    FAu_explore_J2 n k_1 x_7 states_3 from_3 number_2 (Option.getD (mget r15.1 number_2) 0)
 else
  some (Sum.inr (states_3,from_3,number_2))
def FAu_explore_L1 (n:Nat) (p0_:GTable) (states_1:(List GState)) (from_1:(List (List Int))) (number_1:(List (GState×Int))) (k_1:Int):Option (((List GState)×(List (List Int))×(List (GState×Int))×Int)⊕((List GState)×(List (List Int)))):=
 if decide (k_1<((List.length states_1:Nat):Int))=true then
  (whl (λ (x:((List GState)×(List (List Int))×(List (GState×Int))×Int))=>FAu_explore_L2 n p0_ k_1 x.1 x.2.1 x.2.2.1 x.2.2.2) n (states_1,from_1,number_1,0)).bind λ y19=>
  some (Sum.inl (y19.1,y19.2.1,y19.2.2,(iadd .i64 k_1 1)))
 else
  some (Sum.inr (states_1,from_1))
def FAu_explore (n:Nat) (p0_:GTable):Option ((List GState)×(List (List Int))):=
 (FAu_Start n).bind λ r14=>
 (whl (λ (x:((List GState)×(List (List Int))×(List (GState×Int))×Int))=>FAu_explore_L1 n p0_ x.1 x.2.1 x.2.2.1 x.2.2.2) n ([r14],([[]]:List (List Int)),(mput r14 0 []),0)).bind λ y20=>
 some (y20.1,y20.2)
def FAu_States (n:Nat) (p0_:GTable):Option (List GState):=
 (FAu_explore n p0_).bind λ r16=>
 some r16.1
def FSl_HasPrefix (_:Nat) (p0_:(List UInt8)) (p1_:(List UInt8)):Option Bool:=
 (if decide (((List.length p0_:Nat):Int)≥((List.length p1_:Nat):Int))=true then sub p0_ 0 ((List.length p1_:Nat):Int) else some default).bind λ s1=>
 some ((decide (((List.length p0_:Nat):Int)≥((List.length p1_:Nat):Int)))&&(s1==p1_))
def FSt_HasPrefix (n:Nat) (p0_:(List UInt8)) (p1_:(List UInt8)):Option Bool:=
 (FSl_HasPrefix n p0_ p1_).bind λ r17=>
 some r17
def FAu_Accepts (n:Nat) (p0_:GTable) (p1_:GState):Option Bool:=
 (if decide (p1_.Mode<p0_.Modes)=true then FAu_has n p0_.Accept p1_.Mode else some default).bind λ r19=>
 (if ((decide (p1_.Mode<p0_.Modes))&&r19)=true then FAu_has n p1_.Need 0 else some default).bind λ r20=>
 some (((decide (p1_.Mode<p0_.Modes))&&r19)&&r20)
def FCmp_isNaN_int (_:Nat) (p0_:Int):Option Bool:=
 some (p0_ != p0_)
def FCmp_Less_int (n:Nat) (p0_:Int) (p1_:Int):Option Bool:=
 (FCmp_isNaN_int n p0_).bind λ r21=>
 (if r21=true then FCmp_isNaN_int n p1_ else some default).bind λ r22=>
 some ((r21&&(!r22))||(decide (p0_<p1_)))
def FSl_isNaN_int (_:Nat) (p0_:Int):Option Bool:=
 some (p0_ != p0_)
def FSl_BinarySearch_int_int_L1 (n:Nat) (p0_:(List Int)) (p1_:Int) (i_1:Int) (j_1:Int):Option ((Int×Int)⊕Int):=
 if decide (i_1<j_1)=true then
  (idx p0_ (IntKind.i64.wrap (ishr .u64 (IntKind.u64.wrap (iadd .i64 i_1 j_1)) 1))).bind λ x11=>
  (FCmp_Less_int n x11 p1_).bind λ r23=>
  if r23=true then
   some (Sum.inl ((iadd .i64 (IntKind.i64.wrap (ishr .u64 (IntKind.u64.wrap (iadd .i64 i_1 j_1)) 1)) 1),j_1))
  else
   some (Sum.inl (i_1,(IntKind.i64.wrap (ishr .u64 (IntKind.u64.wrap (iadd .i64 i_1 j_1)) 1))))
 else
  some (Sum.inr i_1)
def FSl_BinarySearch_int_int (n:Nat) (p0_:(List Int)) (p1_:Int):Option (Int×Bool):=
 (whl (λ (x:(Int×Int))=>FSl_BinarySearch_int_int_L1 n p0_ p1_ x.1 x.2) n (0,((List.length p0_:Nat):Int))).bind λ y21=>
 (if decide (y21<((List.length p0_:Nat):Int))=true then idx p0_ y21 else some default).bind λ x12=>
 (if ((decide (y21<((List.length p0_:Nat):Int)))&&!(x12==p1_))=true then idx p0_ y21 else some default).bind λ x13=>
 (if ((decide (y21<((List.length p0_:Nat):Int)))&&!(x12==p1_))=true then FSl_isNaN_int n x13 else some default).bind λ r24=>
 (if (((decide (y21<((List.length p0_:Nat):Int)))&&!(x12==p1_))&&r24)=true then FSl_isNaN_int n p1_ else some default).bind λ r25=>
 some (y21,((decide (y21<((List.length p0_:Nat):Int)))&&((x12==p1_)||(r24&&r25))))
def FTr_column_find (n:Nat) (p0_:GColumn) (p1_:Int):Option Int:=
 (FSl_BinarySearch_int_int n p0_.States p1_).bind λ r26=>
 if (!r26.2)=true then
  some (-1)
 else
  (idx p0_.Costs r26.1).bind λ x14=>
  some x14
def FTr_newWriter_L1 (_:Nat) (_:GTable) (_:(List UInt8)) (r30:(List GState)) (_:(List GColumn)) (number_6:(List (GState×Int))) (x_10:Int):Option (((List (GState×Int))×Int)⊕(List (GState×Int))):=
 if decide (x_10<((List.length r30:Nat):Int))=true then
  (idx r30 x_10).bind λ x20=>
  some (Sum.inl ((mput x20 x_10 number_6),(iadd .i64 x_10 1)))
 else
  some (Sum.inr number_6)
def FTr_newWriter_J1 (_:Nat) (x_12:Int) (w_5:GWriter):Option ((GWriter×Int)⊕GWriter):=
 some (Sum.inl (w_5,(iadd .i64 x_12 1)))
def FTr_newWriter_L3 (n:Nat) (p0_:GTable) (_:(List GState)) (y26:(List (GState×Int))) (x_11:Int) (x21:GState) (w_3:GWriter) (x_12:Int):Option ((GWriter×Int)⊕GWriter):=
 if decide (x_12<((List.length p0_.Rules:Nat):Int))=true then
  (FAu_Step n p0_ x21 x_12).bind λ r31=>
  if r31.2=true then
   (idx w_3.Arcs x_11).bind λ x22=>
   (app 16 x22 [({ Rule:=x_12,To:=(Option.getD (mget r31.1 y26) 0) }:GArc)]).bind λ l9=>
   FTr_newWriter_J1 n x_12 ({ T:=w_3.T,S:=w_3.S,States:=w_3.States,Arcs:=List.set w_3.Arcs (Int.toNat x_11) l9,Columns:=w_3.Columns,Last:=w_3.Last }:GWriter)
  else
   FTr_newWriter_J1 n x_12 w_3
 else
  some (Sum.inr w_3)
def FTr_newWriter_L2 (n:Nat) (p0_:GTable) (r30:(List GState)) (y26:(List (GState×Int))) (w_1:GWriter) (x_11:Int):Option ((GWriter×Int)⊕GWriter):=
 if decide (x_11<((List.length r30:Nat):Int))=true then
  (idx r30 x_11).bind λ x21=>
  (whl (λ (x:(GWriter×Int))=>FTr_newWriter_L3 n p0_ r30 y26 x_11 x21 x.1 x.2) n (w_1,0)).bind λ y27=>
  some (Sum.inl (y27,(iadd .i64 x_11 1)))
 else
  some (Sum.inr w_1)
def FTr_newWriter (n:Nat) (p0_:GTable) (p1_:(List UInt8)):Option GWriter:=
 (FAu_States n p0_).bind λ r30=>
 (mkl 48 (iadd .i64 ((List.length p1_:Nat):Int) 1) (⟨[],[]⟩:GColumn)).bind λ l7=>
 (whl (λ (x:((List (GState×Int))×Int))=>FTr_newWriter_L1 n p0_ p1_ r30 l7 x.1 x.2) n ([],0)).bind λ y26=>
 (mkl 24 ((List.length r30:Nat):Int) ([]:(List GArc))).bind λ l8=>
 (whl (λ (x:(GWriter×Int))=>FTr_newWriter_L2 n p0_ r30 y26 x.1 x.2) n (({ T:=p0_,S:=p1_,States:=r30,Arcs:=l8,Columns:=l7,Last:=0 }:GWriter),0)).bind λ y28=>
 some y28
def FTr_writer_reach_1 (_:Nat) (p0_:Int) (p1_:Int) (b2_:GWriter) (o0_:(List (List Bool))):Option (GWriter×(List (List Bool))):=
 (idx o0_ (irem p0_ 5)).bind λ x23=>
 (guardB (decide (0≤irem p0_ 5∧irem p0_ 5<((5:Nat):Int)))).bind λ _=>
 (idx x23 p1_).bind λ x24=>
 if (!x24)=true then
  (idx x23 p1_).bind λ _=>
  (put x23 p1_ true).bind λ l10=>
  (idx b2_.Columns p0_).bind λ x26=>
  (app 8 x26.States [p1_]).bind λ l11=>
  some (({ T:=b2_.T,S:=b2_.S,States:=b2_.States,Arcs:=b2_.Arcs,Columns:=List.set b2_.Columns (Int.toNat p0_) ({ States:=l11,Costs:=x26.Costs }:GColumn),Last:=b2_.Last }:GWriter),(List.set o0_ (Int.toNat (irem p0_ 5)) l10))
 else
  some (b2_,(List.set o0_ (Int.toNat (irem p0_ 5)) x23))
def FTr_writer_printsx (n:Nat) (p1_:Int) (p2_:Int) (b0_:GWriter):Option (Int×Bool):=
 (idx b0_.T.Rules p2_).bind λ x27=>
 (sub b0_.S p1_ ((List.length b0_.S:Nat):Int)).bind λ s3=>
 (FSt_HasPrefix n s3 x27.Print).bind λ r32=>
 some ((iadd .i64 p1_ ((List.length x27.Print:Nat):Int)),r32)
def FSort (_:Nat) (o0_:(List Int)):Option (List Int):=
 sortI o0_
def FTr_writer_reach_L1 (_:Nat) (b0_:GWriter) (known_1:(List (List Bool))) (x_18:Int):Option (((List (List Bool))×Int)⊕(List (List Bool))):=
 if decide (x_18<5)=true then
  (idx known_1 x_18).bind λ _=>
  (mkl 1 ((List.length b0_.States:Nat):Int) (false:Bool)).bind λ l12=>
  (guardB (decide (0≤x_18∧x_18<((5:Nat):Int)))).bind λ _=>
  some (Sum.inl ((List.set known_1 (Int.toNat x_18) l12),(iadd .i64 x_18 1)))
 else
  some (Sum.inr known_1)
def FTr_writer_reach_J3 (_:Nat) (x_21:Int) (w_12:GWriter) (known_8:(List (List Bool))):Option ((GWriter×(List (List Bool))×Int)⊕(GWriter×(List (List Bool)))):=
 some (Sum.inl (w_12,known_8,(iadd .i64 x_21 1)))
def FTr_writer_reach_L4 (n:Nat) (_:(GWriter×(List (List Bool)))) (x_19:Int) (_:Int) (_:Int) (x32:(List GArc)) (w_10:GWriter) (known_6:(List (List Bool))) (x_21:Int):Option ((GWriter×(List (List Bool))×Int)⊕(GWriter×(List (List Bool)))):=
 if decide (x_21<((List.length x32:Nat):Int))=true then
  (idx x32 x_21).bind λ x33=>
  (FTr_writer_printsx n x_19 x33.Rule w_10).bind λ r34=>
  if r34.2=true then
   (FTr_writer_reach_1 n r34.1 x33.To w_10 known_6).bind λ r35=>
   FTr_writer_reach_J3 n x_21 r35.1 r35.2
  else
   FTr_writer_reach_J3 n x_21 w_10 known_6
 else
  some (Sum.inr (w_10,known_6))
def FTr_writer_reach_J2 (n:Nat) (r33:(GWriter×(List (List Bool)))) (x_19:Int) (class_1:Int) (known_4:(List (List Bool))) (i_3:Int) (x31:Int) (w_9:GWriter):Option ((GWriter×(List (List Bool))×Int)⊕(GWriter×(List (List Bool)))):=
 (idx w_9.Arcs x31).bind λ x32=>
 (whl (λ (x:(GWriter×(List (List Bool))×Int))=>FTr_writer_reach_L4 n r33 x_19 class_1 i_3 x32 x.1 x.2.1 x.2.2) n (w_9,known_4,0)).bind λ y30=>
 some (Sum.inl (y30.1,y30.2,(iadd .i64 i_3 1)))
def FTr_writer_reach_L3 (n:Nat) (r33:(GWriter×(List (List Bool)))) (x_19:Int) (class_1:Int) (w_7:GWriter) (known_4:(List (List Bool))) (i_3:Int):Option ((GWriter×(List (List Bool))×Int)⊕(GWriter×(List (List Bool)))):=
 (idx w_7.Columns x_19).bind λ x29=>
 if decide (i_3<((List.length x29.States:Nat):Int))=true then
  (idx (List.set w_7.Columns (Int.toNat x_19) x29) x_19).bind λ x30=>
  (idx x30.States i_3).bind λ x31=>
  (idx w_7.States x31).bind λ x34=>
  (guardB (decide (0≤class_1))).bind λ _=>
  if ((iand .u8 (ishr .u8 x34.Need class_1) 1)==1)=true then
   FTr_writer_reach_J2 n r33 x_19 class_1 known_4 i_3 x31 ({ T:=w_7.T,S:=w_7.S,States:=w_7.States,Arcs:=w_7.Arcs,Columns:=List.set (List.set w_7.Columns (Int.toNat x_19) x29) (Int.toNat x_19) x30,Last:=x_19 }:GWriter)
  else
   FTr_writer_reach_J2 n r33 x_19 class_1 known_4 i_3 x31 ({ T:=w_7.T,S:=w_7.S,States:=w_7.States,Arcs:=w_7.Arcs,Columns:=List.set (List.set w_7.Columns (Int.toNat x_19) x29) (Int.toNat x_19) x30,Last:=w_7.Last }:GWriter)
 else
  some (Sum.inr (({ T:=w_7.T,S:=w_7.S,States:=w_7.States,Arcs:=w_7.Arcs,Columns:=List.set w_7.Columns (Int.toNat x_19) x29,Last:=w_7.Last }:GWriter),known_4))
def FTr_writer_reach_J1 (n:Nat) (r33:(GWriter×(List (List Bool)))) (w_6:GWriter) (known_3:(List (List Bool))) (x_19:Int) (class_1:Int):Option ((GWriter×(List (List Bool))×Int)⊕GWriter):=
 (whl (λ (x:(GWriter×(List (List Bool))×Int))=>FTr_writer_reach_L3 n r33 x_19 class_1 x.1 x.2.1 x.2.2) n (w_6,known_3,0)).bind λ y31=>
 (idx y31.1.Columns x_19).bind λ x35=>
 (FSort n x35.States).bind λ r36=>
 (guardB (decide (List.length x35.States=List.length r36))).bind λ _=>
 (idx y31.2 (irem x_19 5)).bind λ x36=>
 (guardB (decide (0≤irem x_19 5∧irem x_19 5<((5:Nat):Int)))).bind λ _=>
 some (Sum.inl (({ T:=y31.1.T,S:=y31.1.S,States:=y31.1.States,Arcs:=y31.1.Arcs,Columns:=List.set y31.1.Columns (Int.toNat x_19) ({ States:=r36,Costs:=x35.Costs }:GColumn),Last:=y31.1.Last }:GWriter),(List.set y31.2 (Int.toNat (irem x_19 5)) (List.replicate (List.length x36) (false:Bool))),(iadd .i64 x_19 1)))
def FTr_writer_reach_L2 (n:Nat) (r33:(GWriter×(List (List Bool)))) (w_6:GWriter) (known_3:(List (List Bool))) (x_19:Int):Option ((GWriter×(List (List Bool))×Int)⊕GWriter):=
 if decide (x_19<((List.length r33.1.Columns:Nat):Int))=true then
  if decide (x_19<((List.length w_6.S:Nat):Int))=true then
   (sidx w_6.S x_19).bind λ b5=>
   (FTb_Class n b5).bind λ r37=>
   FTr_writer_reach_J1 n r33 w_6 known_3 x_19 r37
  else
   FTr_writer_reach_J1 n r33 w_6 known_3 x_19 0
 else
  some (Sum.inr w_6)
def FTr_writer_reach (n:Nat) (b0_:GWriter):Option GWriter:=
 (whl (λ (x:((List (List Bool))×Int))=>FTr_writer_reach_L1 n b0_ x.1 x.2) n (([[],[],[],[],[]]:List (List Bool)),0)).bind λ y29=>
 (FTr_writer_reach_1 n 0 0 b0_ y29).bind λ r33=>
 (whl (λ (x:(GWriter×(List (List Bool))×Int))=>FTr_writer_reach_L2 n r33 x.1 x.2.1 x.2.2) n (r33.1,r33.2,0)).bind λ y32=>
 some y32
def FTr_writer_price_1_J1 (_:Nat) (x_25:Int) (x_27:GWriter) (better_3:Bool):Option ((GWriter×Bool×Int)⊕(GWriter×Bool)):=
 some (Sum.inl (x_27,better_3,(iadd .i64 x_25 1)))
def FTr_writer_price_1_L1 (n:Nat) (p0_:Int) (p1_:Bool) (b1_0_:Int) (b2_0_:Int) (x39:(List GArc)) (x_24:GWriter) (better_1:Bool) (x_25:Int):Option ((GWriter×Bool×Int)⊕(GWriter×Bool)):=
 if decide (x_25<((List.length x39:Nat):Int))=true then
  (idx x39 x_25).bind λ x40=>
  (FTr_writer_printsx n b2_0_ x40.Rule x_24).bind λ r38=>
  if ((!r38.2)||(!((r38.1==b2_0_)==p1_)))=true then
   FTr_writer_price_1_J1 n x_25 x_24 better_1
  else
   (idx x_24.Columns r38.1).bind λ x41=>
   (FTr_column_find n x41 x40.To).bind λ r39=>
   (idx x_24.T.Rules x40.Rule).bind λ x42=>
   (idx x_24.Columns b1_0_).bind λ x43=>
   (if decide (r39≥0)=true then idx x43.Costs p0_ else some default).bind λ x44=>
   (if ((decide (r39≥0))&&!(decide (x44<0)))=true then idx x43.Costs p0_ else some default).bind λ x45=>
   if ((decide (r39≥0))&&((decide (x44<0))||(decide (iadd .i64 r39 ((List.length x42.Cells:Nat):Int)<x45))))=true then
    (idx (List.set x_24.Columns (Int.toNat b1_0_) x43) b1_0_).bind λ x46=>
    (idx x46.Costs p0_).bind λ _=>
    (put x46.Costs p0_ (iadd .i64 r39 ((List.length x42.Cells:Nat):Int))).bind λ l13=>
    FTr_writer_price_1_J1 n x_25 ({ T:=x_24.T,S:=x_24.S,States:=x_24.States,Arcs:=x_24.Arcs,Columns:=List.set (List.set x_24.Columns (Int.toNat b1_0_) x43) (Int.toNat b1_0_) ({ States:=x46.States,Costs:=l13 }:GColumn),Last:=x_24.Last }:GWriter) true
   else
    FTr_writer_price_1_J1 n x_25 ({ T:=x_24.T,S:=x_24.S,States:=x_24.States,Arcs:=x_24.Arcs,Columns:=List.set x_24.Columns (Int.toNat b1_0_) x43,Last:=x_24.Last }:GWriter) better_1
 else
  some (Sum.inr (x_24,better_1))
def FTr_writer_price_1 (n:Nat) (p0_:Int) (p1_:Bool) (b1_0_:Int) (b2_0_:Int) (b3_:GWriter):Option (GWriter×Bool):=
 (idx b3_.Columns b1_0_).bind λ x37=>
 (idx x37.States p0_).bind λ x38=>
 (idx b3_.Arcs x38).bind λ x39=>
 (whl (λ (x:(GWriter×Bool×Int))=>FTr_writer_price_1_L1 n p0_ p1_ b1_0_ b2_0_ x39 x.1 x.2.1 x.2.2) n (({ T:=b3_.T,S:=b3_.S,States:=b3_.States,Arcs:=b3_.Arcs,Columns:=List.set b3_.Columns (Int.toNat b1_0_) x37,Last:=b3_.Last }:GWriter),false,0)).bind λ y33=>
 some (y33.1,y33.2)
def FTr_writer_price_J1 (_:Nat) (x_30:Int) (r_2:(List Int)):Option (((List Int)×Int)⊕GWriter):=
 some (Sum.inl (r_2,(iadd .i64 x_30 1)))
def FTr_writer_price_L2 (n:Nat) (w_13:GWriter) (place_3:Int) (x49:GColumn) (l14:(List Int)) (x50:GColumn) (r_1:(List Int)) (x_30:Int):Option (((List Int)×Int)⊕GWriter):=
 if decide (x_30<((List.length x50.States:Nat):Int))=true then
  (idx x50.States x_30).bind λ x51=>
  (idx (List.set w_13.Columns (Int.toNat place_3) ({ States:=x49.States,Costs:=l14 }:GColumn)) place_3).bind λ _=>
  (idx r_1 x_30).bind λ _=>
  (put r_1 x_30 (-1)).bind λ l15=>
  (if (place_3==((List.length w_13.S:Nat):Int))=true then idx w_13.States x51 else some default).bind λ x54=>
  (if (place_3==((List.length w_13.S:Nat):Int))=true then FAu_Accepts n w_13.T x54 else some default).bind λ r40=>
  if ((place_3==((List.length w_13.S:Nat):Int))&&r40)=true then
   (idx l15 x_30).bind λ _=>
   (put l15 x_30 0).bind λ l16=>
   FTr_writer_price_J1 n x_30 l16
  else
   FTr_writer_price_J1 n x_30 l15
 else
  some (Sum.inr ({ T:=w_13.T,S:=w_13.S,States:=w_13.States,Arcs:=w_13.Arcs,Columns:=List.set (List.set w_13.Columns (Int.toNat place_3) ({ States:=x49.States,Costs:=l14 }:GColumn)) (Int.toNat place_3) ({ States:=x50.States,Costs:=r_1 }:GColumn),Last:=w_13.Last }:GWriter))
def FTr_writer_price_L3 (n:Nat) (place_3:Int) (x56:GColumn) (w_15:GWriter) (x_31:Int):Option ((GWriter×Int)⊕GWriter):=
 if decide (x_31<((List.length x56.States:Nat):Int))=true then
  (FTr_writer_price_1 n x_31 false place_3 place_3 w_15).bind λ r41=>
  some (Sum.inl (r41.1,(iadd .i64 x_31 1)))
 else
  some (Sum.inr w_15)
def FTr_writer_price_L5 (n:Nat) (place_3:Int) (x57:GColumn) (w_19:GWriter) (better_4:Bool) (x_32:Int):Option ((GWriter×Bool×Int)⊕(GWriter×Bool)):=
 if decide (x_32<((List.length x57.States:Nat):Int))=true then
  (FTr_writer_price_1 n x_32 true place_3 place_3 w_19).bind λ r42=>
  some (Sum.inl (r42.1,(r42.2||better_4),(iadd .i64 x_32 1)))
 else
  some (Sum.inr (w_19,better_4))
def FTr_writer_price_L4 (n:Nat) (place_3:Int) (w_17:GWriter):Option (GWriter⊕GWriter):=
 (idx w_17.Columns place_3).bind λ x57=>
 (whl (λ (x:(GWriter×Bool×Int))=>FTr_writer_price_L5 n place_3 x57 x.1 x.2.1 x.2.2) n (({ T:=w_17.T,S:=w_17.S,States:=w_17.States,Arcs:=w_17.Arcs,Columns:=List.set w_17.Columns (Int.toNat place_3) x57,Last:=w_17.Last }:GWriter),false,0)).bind λ y36=>
 if (!y36.2)=true then
  some (Sum.inr y36.1)
 else
  some (Sum.inl y36.1)
def FTr_writer_price_L1 (n:Nat) (w_13:GWriter) (place_3:Int):Option ((GWriter×Int)⊕GWriter):=
 if decide (place_3≥0)=true then
  (idx w_13.Columns place_3).bind λ _=>
  (idx w_13.Columns place_3).bind λ x49=>
  (mkl 8 ((List.length x49.States:Nat):Int) (0:Int)).bind λ l14=>
  (idx (List.set w_13.Columns (Int.toNat place_3) ({ States:=x49.States,Costs:=l14 }:GColumn)) place_3).bind λ x50=>
  (whl (λ (x:((List Int)×Int))=>FTr_writer_price_L2 n w_13 place_3 x49 l14 x50 x.1 x.2) n (x50.Costs,0)).bind λ y34=>
  (idx y34.Columns place_3).bind λ x56=>
  (whl (λ (x:(GWriter×Int))=>FTr_writer_price_L3 n place_3 x56 x.1 x.2) n (({ T:=y34.T,S:=y34.S,States:=y34.States,Arcs:=y34.Arcs,Columns:=List.set y34.Columns (Int.toNat place_3) x56,Last:=y34.Last }:GWriter),0)).bind λ y35=>
  (whl (λ (x:GWriter)=>FTr_writer_price_L4 n place_3 x) n y35).bind λ y37=>
  some (Sum.inl (y37,(isub .i64 place_3 1)))
 else
  some (Sum.inr w_13)
def FTr_writer_price (n:Nat) (b0_:GWriter):Option GWriter:=
 (whl (λ (x:(GWriter×Int))=>FTr_writer_price_L1 n x.1 x.2) n (b0_,((List.length b0_.S:Nat):Int))).bind λ y38=>
 some y38
def FTr_writer_writingx_J1 (_:Nat) (x_34:Int):Option (Int⊕((GWriting×Int×Int×Int)⊕Unit)):=
 some (Sum.inl (iadd .i64 x_34 1))
def FTr_writer_writingx_L2 (n:Nat) (b0_:GWriter) (result_4:GWriting) (place_4:Int) (cost_3:Int) (x59:(List GArc)) (x_34:Int):Option (Int⊕((GWriting×Int×Int×Int)⊕Unit)):=
 if decide (x_34<((List.length x59:Nat):Int))=true then
  (idx x59 x_34).bind λ x60=>
  (FTr_writer_printsx n place_4 x60.Rule b0_).bind λ r44=>
  if (!r44.2)=true then
   FTr_writer_writingx_J1 n x_34
  else
   (idx b0_.T.Rules x60.Rule).bind λ x61=>
   (idx b0_.Columns r44.1).bind λ x62=>
   (FTr_column_find n x62 x60.To).bind λ r45=>
   if ((decide (r45<0))||(r45 != (isub .i64 cost_3 ((List.length x61.Cells:Nat):Int))))=true then
    FTr_writer_writingx_J1 n x_34
   else
    (app 1 result_4.Cells x61.Cells).bind λ l17=>
    (app 8 result_4.Path [x60.Rule]).bind λ l18=>
    some (Sum.inr (Sum.inl (({ Cells:=l17,Path:=l18 }:GWriting),r44.1,x60.To,(isub .i64 cost_3 ((List.length x61.Cells:Nat):Int)))))
 else
  some (Sum.inr (Sum.inr ()))
def FTr_writer_writingx_L1 (n:Nat) (b0_:GWriter) (result_4:GWriting) (place_4:Int) (state_3:Int) (cost_3:Int):Option ((GWriting×Int×Int×Int)⊕GWriting):=
 if decide (cost_3>0)=true then
  (idx b0_.Arcs state_3).bind λ x59=>
  (whl (λ (x:Int)=>FTr_writer_writingx_L2 n b0_ result_4 place_4 cost_3 x59 x) n 0).bind λ y39=>
  match y39 with
  | Sum.inl y40=>
   some (Sum.inl (y40.1,y40.2.1,y40.2.2.1,y40.2.2.2))
  | Sum.inr _=>
   some (Sum.inr result_4)
 else
  some (Sum.inr result_4)
def FTr_writer_writingx (n:Nat) (b0_:GWriter):Option GWriting:=
 (idx b0_.Columns 0).bind λ x58=>
 (FTr_column_find n x58 0).bind λ r43=>
 (whl (λ (x:(GWriting×Int×Int×Int))=>FTr_writer_writingx_L1 n b0_ x.1 x.2.1 x.2.2.1 x.2.2.2) n (({ Cells:=([]:List Int),Path:=([]:List Int) }:GWriting),0,0,r43)).bind λ y42=>
 some y42
def FTr_Write (n:Nat) (p0_:GTable) (p1_:(List UInt8)):Option (GWriting×Int×Int):=
 (FTb_Text n p1_).bind λ r46=>
 if (r46.2 != 0)=true then
  some (({ Cells:=[],Path:=[] }:GWriting),r46.1,r46.2)
 else
  (FTb_Valid n p0_).bind λ r47=>
  if (!r47)=true then
   some (({ Cells:=[],Path:=[] }:GWriting),0,61)
  else
   (FTr_newWriter n p0_ p1_).bind λ r48=>
   (FTr_writer_reach n r48).bind λ r49=>
   (FTr_writer_price n r49).bind λ r50=>
   (idx r50.Columns 0).bind λ x63=>
   (idx x63.Costs 0).bind λ x64=>
   if decide (x64<0)=true then
    some (({ Cells:=[],Path:=[] }:GWriting),r50.Last,61)
   else
    (FTr_writer_writingx n ({ T:=r50.T,S:=r50.S,States:=r50.States,Arcs:=r50.Arcs,Columns:=List.set r50.Columns (Int.toNat 0) x63,Last:=r50.Last }:GWriter)).bind λ r51=>
    some (r51,((List.length p1_:Nat):Int),0)
def FR2_SameCells_L1 (_:Nat) (p0_:(List Int)) (p1_:(List Int)) (i_4:Int):Option (Int⊕(Unit⊕Bool)):=
 if decide (i_4<((List.length p0_:Nat):Int))=true then
  (idx p0_ i_4).bind λ x65=>
  (idx p1_ i_4).bind λ x66=>
  if (x65 != x66)=true then
   some (Sum.inr (Sum.inr false))
  else
   some (Sum.inl (iadd .i64 i_4 1))
 else
  some (Sum.inr (Sum.inl ()))
def FR2_SameCells (n:Nat) (p0_:(List Int)) (p1_:(List Int)):Option Bool:=
 if (((List.length p0_:Nat):Int) != ((List.length p1_:Nat):Int))=true then
  some false
 else
  (whl (λ (x:Int)=>FR2_SameCells_L1 n p0_ p1_ x) n 0).bind λ y43=>
  match y43 with
  | Sum.inl _=>
   some true
  | Sum.inr y45=>
   some y45
def FR6_Ints_L1 (_:Nat) (p0_:(List Int)) (p1_:(List Int)) (i_5:Int):Option (Int⊕(Unit⊕Bool)):=
 if decide (i_5<((List.length p0_:Nat):Int))=true then
  (idx p0_ i_5).bind λ x67=>
  (idx p1_ i_5).bind λ x68=>
  if (x67 != x68)=true then
   some (Sum.inr (Sum.inr false))
  else
   some (Sum.inl (iadd .i64 i_5 1))
 else
  some (Sum.inr (Sum.inl ()))
def FR6_Ints (n:Nat) (p0_:(List Int)) (p1_:(List Int)):Option Bool:=
 if (((List.length p0_:Nat):Int) != ((List.length p1_:Nat):Int))=true then
  some false
 else
  (whl (λ (x:Int)=>FR6_Ints_L1 n p0_ p1_ x) n 0).bind λ y46=>
  match y46 with
  | Sum.inl _=>
   some true
  | Sum.inr y48=>
   some y48
def FR6_Same (n:Nat) (p0_:GWriting) (p1_:GWriting):Option Bool:=
 (FR2_SameCells n p0_.Cells p1_.Cells).bind λ r52=>
 (if r52=true then FR6_Ints n p0_.Path p1_.Path else some default).bind λ r53=>
 some (r52&&r53)
def FL6_writes (n:Nat) (p0_:GTable) (p1_:(List UInt8)) (p2_:GWriting):Option Bool:=
 (FTr_Write n p0_ p1_).bind λ r54=>
 (if ((r54.2.2==0)&&(r54.2.1==((List.length p1_:Nat):Int)))=true then FR6_Same n r54.1 p2_ else some default).bind λ r55=>
 some (((r54.2.2==0)&&(r54.2.1==((List.length p1_:Nat):Int)))&&r55)
def FL6_refuses (n:Nat) (p0_:GTable) (p1_:(List UInt8)) (p2_:Int):Option Int:=
 (FTr_Write n p0_ p1_).bind λ r56=>
 if (((r56.2.2 != p2_)||(decide (((List.length r56.1.Cells:Nat):Int)>0)))||(decide (((List.length r56.1.Path:Nat):Int)>0)))=true then
  some (-1)
 else
  some r56.2.1
def FTr_Cost (n:Nat) (p0_:GTable) (p1_:(List UInt8)):Option Int:=
 (FTr_Write n p0_ p1_).bind λ r57=>
 if (r57.2.2 != 0)=true then
  some (-1)
 else
  some ((List.length r57.1.Cells:Nat):Int)
def FAu_Run_L1 (n:Nat) (p0_:GTable) (p1_:(List Int)) (text_1:(List Int)) (cells_1:(List Int)) (s_1:GState) (at_1:Int) (x_35:Int):Option (((List Int)×(List Int)×GState×Int×Int)⊕((List Int)×(List Int)×GState×Int)):=
 if decide (x_35<((List.length p1_:Nat):Int))=true then
  (idx p1_ x_35).bind λ x69=>
  (FAu_Step n p0_ s_1 x69).bind λ r59=>
  if (!r59.2)=true then
   some (Sum.inr (text_1,cells_1,s_1,at_1))
  else
   (idx p0_.Rules x69).bind λ x70=>
   (app 1 text_1 (bytesOf x70.Print)).bind λ l19=>
   (idx p0_.Rules x69).bind λ x71=>
   (app 1 cells_1 x71.Cells).bind λ l20=>
   some (Sum.inl (l19,l20,r59.1,(iadd .i64 at_1 1),(iadd .i64 x_35 1)))
 else
  some (Sum.inr (text_1,cells_1,s_1,at_1))
def FAu_Run (n:Nat) (p0_:GTable) (p1_:(List Int)):Option GTrace:=
 (FAu_Start n).bind λ r58=>
 (whl (λ (x:((List Int)×(List Int)×GState×Int×Int))=>FAu_Run_L1 n p0_ p1_ x.1 x.2.1 x.2.2.1 x.2.2.2.1 x.2.2.2.2) n (([]:List Int),([]:List Int),r58,0,0)).bind λ y49=>
 (bstr y49.1).bind λ s4=>
 (if (y49.2.2.2==((List.length p1_:Nat):Int))=true then FAu_Accepts n p0_ y49.2.2.1 else some default).bind λ r60=>
 some ({ Text:=s4,Cells:=y49.2.1,At:=y49.2.2.2,End:=y49.2.2.1,Ok:=((y49.2.2.2==((List.length p1_:Nat):Int))&&r60) }:GTrace)
def FTr_Writes (n:Nat) (p0_:GTable) (p1_:GWriting) (p2_:(List UInt8)):Option Bool:=
 (FAu_Run n p0_ p1_.Path).bind λ r61=>
 (if (r61.Ok&&(r61.Text==p2_))=true then FApi_Cell n r61.Cells p1_.Cells else some default).bind λ r62=>
 some ((r61.Ok&&(r61.Text==p2_))&&r62)
def FL6_sanity (n:Nat) :Option Bool:=
 (FL6_rule n [97] 1 ({ a0:=63,a1:=0,a2:=0 }:(Arr3 Int))).bind λ r63=>
 (FL6_rule n [] 60 ({ a0:=8,a1:=0,a2:=1 }:(Arr3 Int))).bind λ r64=>
 (FL6_rule n [49] 1 ({ a0:=63,a1:=1,a2:=1 }:(Arr3 Int))).bind λ r65=>
 (FL6_rule n [32] 0 ({ a0:=63,a1:=1,a2:=0 }:(Arr3 Int))).bind λ r66=>
 (FL6_rule n [97] 1 ({ a0:=63,a1:=0,a2:=0 }:(Arr3 Int))).bind λ r67=>
 (FL6_rule n [98] 3 ({ a0:=63,a1:=0,a2:=0 }:(Arr3 Int))).bind λ r68=>
 (FL6_rule n [97,98] 7 ({ a0:=63,a1:=0,a2:=0 }:(Arr3 Int))).bind λ r69=>
 (FL6_writes n ({ Modes:=2,Accept:=3,Rules:=[r63,r64,r65,r66] }:GTable) [49,32,97] ({ Cells:=[60,1,0,1],Path:=[1,2,3,0] }:GWriting)).bind λ r70=>
 (if r70=true then FL6_writes n ({ Modes:=1,Accept:=1,Rules:=[r67,r68,r69] }:GTable) [97,98,97,98] ({ Cells:=[7,7],Path:=[2,2] }:GWriting) else some default).bind λ r71=>
 (if (r70&&r71)=true then FL6_writes n ({ Modes:=1,Accept:=1,Rules:=[r67,r68,r69] }:GTable) [98,97] ({ Cells:=[3,1],Path:=[1,0] }:GWriting) else some default).bind λ r72=>
 (if ((r70&&r71)&&r72)=true then FL6_writes n ({ Modes:=1,Accept:=1,Rules:=[r67,r68,r69] }:GTable) [] ({ Cells:=[],Path:=[] }:GWriting) else some default).bind λ r73=>
 (FL6_refuses n ({ Modes:=2,Accept:=3,Rules:=[r63,r64,r65,r66] }:GTable) [49,97] 61).bind λ r74=>
 (if (r74==1)=true then FL6_refuses n ({ Modes:=2,Accept:=3,Rules:=[r63,r64,r65,r66] }:GTable) [97,50] 61 else some default).bind λ r75=>
 (if ((r74==1)&&(r75==1))=true then FL6_refuses n ({ Modes:=2,Accept:=3,Rules:=[r63,r64,r65,r66] }:GTable) [97,10] 60 else some default).bind λ r76=>
 (if (((r74==1)&&(r75==1))&&(r76==1))=true then FTr_Cost n ({ Modes:=2,Accept:=3,Rules:=[r63,r64,r65,r66] }:GTable) [] else some default).bind λ r77=>
 (if ((((r74==1)&&(r75==1))&&(r76==1))&&(r77==0))=true then FTr_Cost n ({ Modes:=2,Accept:=3,Rules:=[r63,r64,r65,r66] }:GTable) [49,97] else some default).bind λ r78=>
 (if (((((r74==1)&&(r75==1))&&(r76==1))&&(r77==0))&&(r78==(-1)))=true then FTr_Cost n ({ Modes:=1,Accept:=1,Rules:=[r67,r68,r69] }:GTable) [97,98,98] else some default).bind λ r79=>
 (if ((((r70&&r71)&&r72)&&r73)&&((((((r74==1)&&(r75==1))&&(r76==1))&&(r77==0))&&(r78==(-1)))&&(r79==2)))=true then FTr_Writes n ({ Modes:=1,Accept:=1,Rules:=[r67,r68,r69] }:GTable) ({ Cells:=[1,3],Path:=[0,1] }:GWriting) [97,98] else some default).bind λ r80=>
 (if (((((r70&&r71)&&r72)&&r73)&&((((((r74==1)&&(r75==1))&&(r76==1))&&(r77==0))&&(r78==(-1)))&&(r79==2)))&&r80)=true then FTr_Writes n ({ Modes:=1,Accept:=1,Rules:=[r67,r68,r69] }:GTable) ({ Cells:=[1,3],Path:=[0,1] }:GWriting) [97,98,97] else some default).bind λ r81=>
 (if ((((((r70&&r71)&&r72)&&r73)&&((((((r74==1)&&(r75==1))&&(r76==1))&&(r77==0))&&(r78==(-1)))&&(r79==2)))&&r80)&&(!r81))=true then FTr_Writes n ({ Modes:=1,Accept:=1,Rules:=[r67,r68,r69] }:GTable) ({ Cells:=[7],Path:=[0,1] }:GWriting) [97,98] else some default).bind λ r82=>
 some (((((((r70&&r71)&&r72)&&r73)&&((((((r74==1)&&(r75==1))&&(r76==1))&&(r77==0))&&(r78==(-1)))&&(r79==2)))&&r80)&&(!r81))&&(!r82))
def FR2_simple (_:Nat) (p0_:(List UInt8)) (p1_:(List Int)) (p2_:(Arr2 Int)):Option GRule:=
 some ({ Print:=p0_,Cells:=p1_,Left:=63,Right:=63,From:=p2_.a0,To:=p2_.a1 }:GRule)
def FR2_letters (n:Nat) :Option (List GRule):=
 (FR2_simple n [97] [1] ({ a0:=0,a1:=0 }:(Arr2 Int))).bind λ r83=>
 (FR2_simple n [98] [3] ({ a0:=0,a1:=0 }:(Arr2 Int))).bind λ r84=>
 (FR2_simple n [99] [9] ({ a0:=0,a1:=0 }:(Arr2 Int))).bind λ r85=>
 (FR2_simple n [32] [0] ({ a0:=0,a1:=0 }:(Arr2 Int))).bind λ r86=>
 some [r83,r84,r85,r86]
def FR2_indicator (n:Nat) (p0_:Int) (p1_:Int) (p2_:(Arr2 Int)):Option GRule:=
 (FR2_simple n [] [p0_] p2_).bind λ r87=>
 (guardB (decide (0≤p1_))).bind λ _=>
 some ({ Print:=r87.Print,Cells:=r87.Cells,Left:=r87.Left,Right:=ishl .u8 1 p1_,From:=r87.From,To:=r87.To }:GRule)
def FR2_Base_J1 (_:Nat) (l_1:(List GRule)):Option GTable:=
 some ({ Modes:=1,Accept:=1,Rules:=l_1 }:GTable)
def FR2_Base (n:Nat) (p0_:Int):Option GTable:=
 (FR2_letters n).bind λ r88=>
 if ((irem p0_ 8)==1)=true then
  (FR2_indicator n 60 3 ({ a0:=0,a1:=1 }:(Arr2 Int))).bind λ r89=>
  (FR2_simple n [49] [1] ({ a0:=1,a1:=1 }:(Arr2 Int))).bind λ r90=>
  (FR2_simple n [50] [3] ({ a0:=1,a1:=1 }:(Arr2 Int))).bind λ r91=>
  (FR2_simple n [32] [0] ({ a0:=1,a1:=0 }:(Arr2 Int))).bind λ r92=>
  (app 64 r88 [r89,r90,r91,r92]).bind λ l21=>
  some ({ Modes:=2,Accept:=3,Rules:=l21 }:GTable)
 else
  if ((irem p0_ 8)==2)=true then
   (FR2_indicator n 32 2 ({ a0:=0,a1:=1 }:(Arr2 Int))).bind λ r93=>
   (FR2_simple n [65] [1] ({ a0:=1,a1:=0 }:(Arr2 Int))).bind λ r94=>
   (FR2_simple n [66] [3] ({ a0:=1,a1:=0 }:(Arr2 Int))).bind λ r95=>
   (app 64 r88 [r93,r94,r95]).bind λ l22=>
   some ({ Modes:=2,Accept:=1,Rules:=l22 }:GTable)
  else
   if ((irem p0_ 8)==3)=true then
    (FR2_simple n [97,98] [7] ({ a0:=0,a1:=0 }:(Arr2 Int))).bind λ r96=>
    (FR2_simple n [97,98,99] [15] ({ a0:=0,a1:=0 }:(Arr2 Int))).bind λ r97=>
    (FR2_simple n [99,97] [4,4] ({ a0:=0,a1:=0 }:(Arr2 Int))).bind λ r98=>
    (app 64 r88 [r96,r97,r98]).bind λ l23=>
    FR2_Base_J1 n l23
   else
    if ((irem p0_ 8)==4)=true then
     (FR2_simple n [45] [1,3] ({ a0:=0,a1:=0 }:(Arr2 Int))).bind λ r99=>
     (app 64 r88 [r99]).bind λ l24=>
     FR2_Base_J1 n l24
    else
     if ((irem p0_ 8)==5)=true then
      (FR2_simple n [98] [44] ({ a0:=0,a1:=0 }:(Arr2 Int))).bind λ r100=>
      (FR2_simple n [99,97,98] [44] ({ a0:=0,a1:=0 }:(Arr2 Int))).bind λ r101=>
      (FR2_simple n [45] [36] ({ a0:=0,a1:=0 }:(Arr2 Int))).bind λ r102=>
      (app 64 r88 [({ Print:=r100.Print,Cells:=r100.Cells,Left:=17,Right:=r100.Right,From:=r100.From,To:=r100.To }:GRule),({ Print:=r101.Print,Cells:=r101.Cells,Left:=2,Right:=r101.Right,From:=r101.From,To:=r101.To }:GRule),r102]).bind λ l25=>
      FR2_Base_J1 n l25
     else
      if ((irem p0_ 8)==6)=true then
       (FR2_indicator n 40 1 ({ a0:=0,a1:=1 }:(Arr2 Int))).bind λ r103=>
       (FR2_simple n [225] [1] ({ a0:=1,a1:=0 }:(Arr2 Int))).bind λ r104=>
       (FR2_simple n [226] [3] ({ a0:=1,a1:=0 }:(Arr2 Int))).bind λ r105=>
       (app 64 r88 [r103,r104,r105]).bind λ l26=>
       some ({ Modes:=2,Accept:=1,Rules:=l26 }:GTable)
      else
       if ((irem p0_ 8)==7)=true then
        (FR2_simple n [45] [1,5] ({ a0:=0,a1:=0 }:(Arr2 Int))).bind λ r106=>
        (FR2_simple n [49] [5,5] ({ a0:=0,a1:=0 }:(Arr2 Int))).bind λ r107=>
        (FR2_simple n [50] [5,9] ({ a0:=0,a1:=0 }:(Arr2 Int))).bind λ r108=>
        (app 64 r88 [r106,r107,r108]).bind λ l27=>
        FR2_Base_J1 n l27
       else
        FR2_Base_J1 n r88
def FR2_Rule_L1 (_:Nat) (p0_:GRawRule) (out_1:GRule) (i_6:Int):Option ((GRule×Int)⊕GRule):=
 if ((decide (i_6<((List.length p0_.P:Nat):Int)))&&(decide (i_6<3)))=true then
  (idx p0_.P i_6).bind λ x74=>
  (sub [97,98,99,65,66,49,50,45,46] (IntKind.i64.wrap (irem x74 9)) (iadd .i64 (IntKind.i64.wrap (irem x74 9)) 1)).bind λ s5=>
  (cat out_1.Print s5).bind λ s6=>
  some (Sum.inl (({ Print:=s6,Cells:=out_1.Cells,Left:=out_1.Left,Right:=out_1.Right,From:=out_1.From,To:=out_1.To }:GRule),(iadd .i64 i_6 1)))
 else
  some (Sum.inr out_1)
def FR2_Rule_L2 (_:Nat) (p0_:GRawRule) (out_3:GRule) (i_7:Int):Option ((GRule×Int)⊕GRule):=
 if ((decide (i_7<((List.length p0_.C:Nat):Int)))&&(decide (i_7<2)))=true then
  (idx p0_.C i_7).bind λ x76=>
  (idx [1,3,9,5,7,32,44,60] (irem x76 8)).bind λ x77=>
  (app 1 out_3.Cells [x77]).bind λ l28=>
  some (Sum.inl (({ Print:=out_3.Print,Cells:=l28,Left:=out_3.Left,Right:=out_3.Right,From:=out_3.From,To:=out_3.To }:GRule),(iadd .i64 i_7 1)))
 else
  some (Sum.inr out_3)
def FR2_Rule (n:Nat) (p0_:GRawRule) (p1_:Int):Option GRule:=
 (idx [63,63,2,8,17,62,4,1] (irem p0_.L 8)).bind λ x72=>
 (idx [63,63,2,8,17,62,4,1] (irem p0_.R 8)).bind λ x73=>
 (guardB (!(p1_==0))).bind λ _=>
 (guardB (!(p1_==0))).bind λ _=>
 (whl (λ (x:(GRule×Int))=>FR2_Rule_L1 n p0_ x.1 x.2) n (({ Print:=[],Cells:=([]:List Int),Left:=x72,Right:=x73,From:=irem (IntKind.i64.wrap p0_.W.a0) p1_,To:=irem (IntKind.i64.wrap p0_.W.a1) p1_ }:GRule),0)).bind λ y50=>
 (idx [1,3,9,5,7,32,44,60] (irem (iquo .u8 p0_.L 8) 8)).bind λ x75=>
 (whl (λ (x:(GRule×Int))=>FR2_Rule_L2 n p0_ x.1 x.2) n (({ Print:=y50.Print,Cells:=[x75],Left:=y50.Left,Right:=y50.Right,From:=y50.From,To:=y50.To }:GRule),0)).bind λ y51=>
 some y51
def FR2_Character (_:Nat) (p0_:Int):Option Bool:=
 some ((decide (iand .u8 p0_ 127≥32))&&(decide (iand .u8 p0_ 127≤126)))
def FR2_Text_L1 (n:Nat) (p0_:(List UInt8)) (i_8:Int):Option (Int⊕(Unit⊕(Int×Int))):=
 if decide (i_8<((List.length p0_:Nat):Int))=true then
  (sidx p0_ i_8).bind λ b6=>
  (FR2_Character n b6).bind λ r109=>
  if (!r109)=true then
   some (Sum.inr (Sum.inr (i_8,60)))
  else
   some (Sum.inl (iadd .i64 i_8 1))
 else
  some (Sum.inr (Sum.inl ()))
def FR2_Text (n:Nat) (p0_:(List UInt8)):Option (Int×Int):=
 (whl (λ (x:Int)=>FR2_Text_L1 n p0_ x) n 0).bind λ y52=>
 match y52 with
 | Sum.inl _=>
  some (((List.length p0_:Nat):Int),0)
 | Sum.inr y54=>
  some y54
def FR2_IsText (n:Nat) (p0_:(List UInt8)):Option Bool:=
 (FR2_Text n p0_).bind λ r110=>
 some (r110.2==0)
def FR2_Space (_:Nat) (p0_:Int):Option Bool:=
 some ((iand .u8 p0_ 127)==32)
def FR2_Sound_L1 (n:Nat) (p0_:GRule) (space_1:Bool) (i_9:Int):Option ((Bool×Int)⊕Bool):=
 if decide (i_9<((List.length p0_.Print:Nat):Int))=true then
  (if (!space_1)=true then sidx p0_.Print i_9 else some default).bind λ b7=>
  (if (!space_1)=true then FR2_Space n b7 else some default).bind λ r112=>
  some (Sum.inl ((space_1||r112),(iadd .i64 i_9 1)))
 else
  some (Sum.inr space_1)
def FR2_Sound_L2 (_:Nat) (p0_:GRule) (_:Bool) (blank_1:Bool) (i_10:Int):Option ((Bool×Int)⊕(Bool⊕Bool)):=
 if decide (i_10<((List.length p0_.Cells:Nat):Int))=true then
  (idx p0_.Cells i_10).bind λ x78=>
  if decide (x78≥63)=true then
   some (Sum.inr (Sum.inr false))
  else
   (if (!blank_1)=true then idx p0_.Cells i_10 else some default).bind λ x79=>
   some (Sum.inl ((blank_1||(x79==0)),(iadd .i64 i_10 1)))
 else
  some (Sum.inr (Sum.inl blank_1))
def FR2_Sound (n:Nat) (p0_:GRule) (p1_:Int):Option Bool:=
 (FR2_IsText n p0_.Print).bind λ r111=>
 if ((((!r111)||(decide (((List.length p0_.Print:Nat):Int)>4)))||(decide (((List.length p0_.Cells:Nat):Int)<1)))||(decide (((List.length p0_.Cells:Nat):Int)>4)))=true then
  some false
 else
  if ((((((((decide (p0_.Left<1))||(decide (p0_.Left>63)))||(decide (p0_.Right<1)))||(decide (p0_.Right>63)))||(decide (p0_.From<0)))||(decide (p0_.From≥p1_)))||(decide (p0_.To<0)))||(decide (p0_.To≥p1_)))=true then
   some false
  else
   (whl (λ (x:(Bool×Int))=>FR2_Sound_L1 n p0_ x.1 x.2) n (false,0)).bind λ y55=>
   (whl (λ (x:(Bool×Int))=>FR2_Sound_L2 n p0_ y55 x.1 x.2) n (false,0)).bind λ y56=>
   match y56 with
   | Sum.inl y57=>
    if (!y55)=true then
     some (!y57)
    else
     some (((((List.length p0_.Print:Nat):Int)==1)&&(((List.length p0_.Cells:Nat):Int)==1))&&y57)
   | Sum.inr y58=>
    some y58
def FR2_SameRule (n:Nat) (p0_:GRule) (p1_:GRule):Option Bool:=
 (if (p0_.Print==p1_.Print)=true then FR2_SameCells n p0_.Cells p1_.Cells else some default).bind λ r113=>
 some ((((((p0_.Print==p1_.Print)&&r113)&&(p0_.Left==p1_.Left))&&(p0_.Right==p1_.Right))&&(p0_.From==p1_.From))&&(p0_.To==p1_.To))
def FR2_Check_L2 (n:Nat) (p0_:GTable) (i_11:Int) (k_2:Int):Option (Int⊕(Unit⊕(Int×Int))):=
 if decide (k_2<i_11)=true then
  (idx p0_.Rules k_2).bind λ x81=>
  (idx p0_.Rules i_11).bind λ x82=>
  (FR2_SameRule n x81 x82).bind λ r115=>
  if r115=true then
   some (Sum.inr (Sum.inr (i_11,20)))
  else
   some (Sum.inl (iadd .i64 k_2 1))
 else
  some (Sum.inr (Sum.inl ()))
def FR2_Check_L1 (n:Nat) (p0_:GTable) (i_11:Int):Option (Int⊕(Unit⊕(Int×Int))):=
 if decide (i_11<((List.length p0_.Rules:Nat):Int))=true then
  (idx p0_.Rules i_11).bind λ x80=>
  (FR2_Sound n x80 p0_.Modes).bind λ r114=>
  if (!r114)=true then
   some (Sum.inr (Sum.inr (i_11,20)))
  else
   (whl (λ (x:Int)=>FR2_Check_L2 n p0_ i_11 x) n 0).bind λ y59=>
   match y59 with
   | Sum.inl _=>
    some (Sum.inl (iadd .i64 i_11 1))
   | Sum.inr y61=>
    some (Sum.inr (Sum.inr y61))
 else
  some (Sum.inr (Sum.inl ()))
def FR2_Check (n:Nat) (p0_:GTable):Option (Int×Int):=
 (if (!(((decide (p0_.Modes<1))||(decide (p0_.Modes>8)))||(p0_.Accept==0)))=true then guardB (decide (0≤p0_.Modes)) else some default).bind λ _=>
 if ((((((decide (p0_.Modes<1))||(decide (p0_.Modes>8)))||(p0_.Accept==0))||(decide (IntKind.i64.wrap p0_.Accept≥ishl .i64 1 p0_.Modes)))||(decide (((List.length p0_.Rules:Nat):Int)<1)))||(decide (((List.length p0_.Rules:Nat):Int)>64)))=true then
  some ((-1),1)
 else
  (whl (λ (x:Int)=>FR2_Check_L1 n p0_ x) n 0).bind λ y62=>
  match y62 with
  | Sum.inl _=>
   some (0,0)
  | Sum.inr y64=>
   some y64
def FR2_Valid (n:Nat) (p0_:GTable):Option Bool:=
 (FR2_Check n p0_).bind λ r116=>
 some (r116.2==0)
def FR2_Made_J1 (_:Nat) (i_12:Int) (t_3:GTable):Option ((GTable×Int)⊕GTable):=
 some (Sum.inl (t_3,(iadd .i64 i_12 1)))
def FR2_Made_L1 (n:Nat) (p0_:GRaw) (r117:GTable) (t_1:GTable) (i_12:Int):Option ((GTable×Int)⊕GTable):=
 if decide (i_12<((List.length r117.Rules:Nat):Int))=true then
  (guardB (decide (0≤i_12))).bind λ _=>
  if ((iand .u8 (ishr .u8 p0_.Drop i_12) 1)==0)=true then
   (idx r117.Rules i_12).bind λ x83=>
   (app 64 t_1.Rules [x83]).bind λ l29=>
   FR2_Made_J1 n i_12 ({ Modes:=t_1.Modes,Accept:=t_1.Accept,Rules:=l29 }:GTable)
  else
   FR2_Made_J1 n i_12 t_1
 else
  some (Sum.inr t_1)
def FR2_Made_J2 (_:Nat) (i_13:Int) (t_6:GTable):Option ((GTable×Int)⊕GTable):=
 some (Sum.inl (t_6,(iadd .i64 i_13 1)))
def FR2_Made_L2 (n:Nat) (p0_:GRaw) (_:GTable) (t_4:GTable) (i_13:Int):Option ((GTable×Int)⊕GTable):=
 if ((decide (i_13<((List.length p0_.More:Nat):Int)))&&(decide (i_13<2)))=true then
  (idx p0_.More i_13).bind λ x84=>
  (FR2_Rule n x84 t_4.Modes).bind λ r118=>
  (app 64 t_4.Rules [r118]).bind λ l30=>
  (FR2_Valid n ({ Modes:=t_4.Modes,Accept:=t_4.Accept,Rules:=l30 }:GTable)).bind λ r119=>
  if (!r119)=true then
   (sub l30 0 (isub .i64 ((List.length l30:Nat):Int) 1)).bind λ l31=>
   FR2_Made_J2 n i_13 ({ Modes:=t_4.Modes,Accept:=t_4.Accept,Rules:=l31 }:GTable)
  else
   FR2_Made_J2 n i_13 ({ Modes:=t_4.Modes,Accept:=t_4.Accept,Rules:=l30 }:GTable)
 else
  some (Sum.inr t_4)
def FR2_Made_J3 (_:Nat) (t_7:GTable):Option GTable:=
 some t_7
def FR2_Made (n:Nat) (p0_:GRaw):Option GTable:=
 (FR2_Base n p0_.Base).bind λ r117=>
 (whl (λ (x:(GTable×Int))=>FR2_Made_L1 n p0_ r117 x.1 x.2) n (({ Modes:=r117.Modes,Accept:=r117.Accept,Rules:=([]:List GRule) }:GTable),0)).bind λ y65=>
 (whl (λ (x:(GTable×Int))=>FR2_Made_L2 n p0_ r117 x.1 x.2) n (y65,0)).bind λ y66=>
 if (((List.length y66.Rules:Nat):Int)==0)=true then
  FR2_Made_J3 n ({ Modes:=y66.Modes,Accept:=y66.Accept,Rules:=r117.Rules }:GTable)
 else
  FR2_Made_J3 n y66
def FR3_Start (_:Nat) :Option GState:=
 some ({ Mode:=0,Last:=0,Need:=63 }:GState)
def FR3_Bit (_:Nat) (p0_:Int) (p1_:Int):Option Bool:=
 (if ((decide (p1_≥0))&&(decide (p1_<8)))=true then guardB (decide (0≤p1_)) else some default).bind λ _=>
 some (((decide (p1_≥0))&&(decide (p1_<8)))&&((iand .u8 (ishr .u8 p0_ p1_) 1)==1))
def FR2_Class (_:Nat) (p0_:Int):Option Int:=
 if ((decide (iand .u8 p0_ 127≥97))&&(decide (iand .u8 p0_ 127≤122)))=true then
  some 1
 else
  if ((decide (iand .u8 p0_ 127≥65))&&(decide (iand .u8 p0_ 127≤90)))=true then
   some 2
  else
   if ((decide (iand .u8 p0_ 127≥48))&&(decide (iand .u8 p0_ 127≤57)))=true then
    some 3
   else
    if ((iand .u8 p0_ 127)==32)=true then
     some 4
    else
     some 5
def FR3_Step (n:Nat) (p0_:GTable) (p1_:GState) (p2_:Int):Option (GState×Bool):=
 if ((decide (p2_<0))||(decide (p2_≥((List.length p0_.Rules:Nat):Int))))=true then
  some (({ Mode:=0,Last:=0,Need:=0 }:GState),false)
 else
  (idx p0_.Rules p2_).bind λ x85=>
  (if (!(x85.From != p1_.Mode))=true then FR3_Bit n x85.Left p1_.Last else some default).bind λ r120=>
  if ((x85.From != p1_.Mode)||(!r120))=true then
   some (({ Mode:=0,Last:=0,Need:=0 }:GState),false)
  else
   if ((((List.length x85.Print:Nat):Int)==0)&&((iand .u8 p1_.Need x85.Right)==0))=true then
    some (({ Mode:=0,Last:=0,Need:=0 }:GState),false)
   else
    if (((List.length x85.Print:Nat):Int)==0)=true then
     some (({ Mode:=x85.To,Last:=p1_.Last,Need:=iand .u8 p1_.Need x85.Right }:GState),true)
    else
     (sidx x85.Print 0).bind λ b8=>
     (FR2_Class n b8).bind λ r121=>
     (FR3_Bit n p1_.Need r121).bind λ r122=>
     if (!r122)=true then
      some (({ Mode:=0,Last:=0,Need:=0 }:GState),false)
     else
      (sidx x85.Print (isub .i64 ((List.length x85.Print:Nat):Int) 1)).bind λ b9=>
      (FR2_Class n b9).bind λ r123=>
      some (({ Mode:=x85.To,Last:=r123,Need:=x85.Right }:GState),true)
def FR3_Index_L1 (_:Nat) (p0_:(List GState)) (p1_:GState) (i_14:Int):Option (Int⊕(Unit⊕Int)):=
 if decide (i_14<((List.length p0_:Nat):Int))=true then
  (idx p0_ i_14).bind λ x86=>
  if ((x86.Mode==p1_.Mode)&&((x86.Last==p1_.Last)&&((x86.Need==p1_.Need)&&true)))=true then
   some (Sum.inr (Sum.inr i_14))
  else
   some (Sum.inl (iadd .i64 i_14 1))
 else
  some (Sum.inr (Sum.inl ()))
def FR3_Index (n:Nat) (p0_:(List GState)) (p1_:GState):Option Int:=
 (whl (λ (x:Int)=>FR3_Index_L1 n p0_ p1_ x) n 0).bind λ y67=>
 match y67 with
 | Sum.inl _=>
  some (-1)
 | Sum.inr y69=>
  some y69
def FR3_States_J1 (_:Nat) (k_3:Int) (out_9:(List GState)):Option (((List GState)×Int)⊕(List GState)):=
 some (Sum.inl (out_9,(iadd .i64 k_3 1)))
def FR3_States_L2 (n:Nat) (p0_:GTable) (i_15:Int) (out_7:(List GState)) (k_3:Int):Option (((List GState)×Int)⊕(List GState)):=
 if decide (k_3<((List.length p0_.Rules:Nat):Int))=true then
  (idx out_7 i_15).bind λ x87=>
  (FR3_Step n p0_ x87 k_3).bind λ r125=>
  (if r125.2=true then FR3_Index n out_7 r125.1 else some default).bind λ r126=>
  if (r125.2&&(decide (r126<0)))=true then
   (app 24 out_7 [r125.1]).bind λ l32=>
   FR3_States_J1 n k_3 l32
  else
   FR3_States_J1 n k_3 out_7
 else
  some (Sum.inr out_7)
def FR3_States_L1 (n:Nat) (p0_:GTable) (out_5:(List GState)) (i_15:Int):Option (((List GState)×Int)⊕(List GState)):=
 if decide (i_15<((List.length out_5:Nat):Int))=true then
  (whl (λ (x:((List GState)×Int))=>FR3_States_L2 n p0_ i_15 x.1 x.2) n (out_5,0)).bind λ y70=>
  some (Sum.inl (y70,(iadd .i64 i_15 1)))
 else
  some (Sum.inr out_5)
def FR3_States (n:Nat) (p0_:GTable):Option (List GState):=
 (FR3_Start n).bind λ r124=>
 (whl (λ (x:((List GState)×Int))=>FR3_States_L1 n p0_ x.1 x.2) n ([r124],0)).bind λ y71=>
 some y71
def FR3_Accepts (n:Nat) (p0_:GTable) (p1_:GState):Option Bool:=
 (if ((decide (p1_.Mode≥0))&&(decide (p1_.Mode<p0_.Modes)))=true then FR3_Bit n p0_.Accept p1_.Mode else some default).bind λ r127=>
 (if (((decide (p1_.Mode≥0))&&(decide (p1_.Mode<p0_.Modes)))&&r127)=true then FR3_Bit n p1_.Need 0 else some default).bind λ r128=>
 some ((((decide (p1_.Mode≥0))&&(decide (p1_.Mode<p0_.Modes)))&&r127)&&r128)
def FR3_Alive_L1 (n:Nat) (p0_:GTable) (r129:(List GState)) (out_10:(List Bool)) (i_16:Int):Option (((List Bool)×Int)⊕(List Bool)):=
 if decide (i_16<((List.length r129:Nat):Int))=true then
  (idx r129 i_16).bind λ x88=>
  (FR3_Accepts n p0_ x88).bind λ r130=>
  (app 1 out_10 [r130]).bind λ l33=>
  some (Sum.inl (l33,(iadd .i64 i_16 1)))
 else
  some (Sum.inr out_10)
def FR3_Alive_J1 (_:Nat) (k_4:Int) (out_18:(List Bool)) (grown_6:Bool):Option (((List Bool)×Bool×Int)⊕((List Bool)×Bool)):=
 some (Sum.inl (out_18,grown_6,(iadd .i64 k_4 1)))
def FR3_Alive_L4 (n:Nat) (p0_:GTable) (r129:(List GState)) (i_17:Int) (out_16:(List Bool)) (grown_4:Bool) (k_4:Int):Option (((List Bool)×Bool×Int)⊕((List Bool)×Bool)):=
 (if decide (k_4<((List.length p0_.Rules:Nat):Int))=true then idx out_16 i_17 else some default).bind λ x89=>
 if ((decide (k_4<((List.length p0_.Rules:Nat):Int)))&&(!x89))=true then
  (idx r129 i_17).bind λ x90=>
  (FR3_Step n p0_ x90 k_4).bind λ r131=>
  (if r131.2=true then FR3_Index n r129 r131.1 else some default).bind λ r132=>
  (if r131.2=true then idx out_16 r132 else some default).bind λ x91=>
  if (r131.2&&x91)=true then
   (idx out_16 i_17).bind λ _=>
   (put out_16 i_17 true).bind λ l34=>
   FR3_Alive_J1 n k_4 l34 true
  else
   FR3_Alive_J1 n k_4 out_16 grown_4
 else
  some (Sum.inr (out_16,grown_4))
def FR3_Alive_L3 (n:Nat) (p0_:GTable) (r129:(List GState)) (out_14:(List Bool)) (grown_2:Bool) (i_17:Int):Option (((List Bool)×Bool×Int)⊕((List Bool)×Bool)):=
 if decide (i_17<((List.length r129:Nat):Int))=true then
  (whl (λ (x:((List Bool)×Bool×Int))=>FR3_Alive_L4 n p0_ r129 i_17 x.1 x.2.1 x.2.2) n (out_14,grown_2,0)).bind λ y73=>
  some (Sum.inl (y73.1,y73.2,(iadd .i64 i_17 1)))
 else
  some (Sum.inr (out_14,grown_2))
def FR3_Alive_L2 (n:Nat) (p0_:GTable) (r129:(List GState)) (out_12:(List Bool)) (grown_1:Bool):Option (((List Bool)×Bool)⊕(List Bool)):=
 if grown_1=true then
  (whl (λ (x:((List Bool)×Bool×Int))=>FR3_Alive_L3 n p0_ r129 x.1 x.2.1 x.2.2) n (out_12,false,0)).bind λ y74=>
  some (Sum.inl (y74.1,y74.2))
 else
  some (Sum.inr out_12)
def FR3_Alive (n:Nat) (p0_:GTable):Option (List Bool):=
 (FR3_States n p0_).bind λ r129=>
 (whl (λ (x:((List Bool)×Int))=>FR3_Alive_L1 n p0_ r129 x.1 x.2) n (([]:List Bool),0)).bind λ y72=>
 (whl (λ (x:((List Bool)×Bool))=>FR3_Alive_L2 n p0_ r129 x.1 x.2) n (y72,true)).bind λ y75=>
 some y75
def FR3_home_L1 (n:Nat) (p0_:GTable) (r133:(List GState)) (out_19:(List Int)) (near_1:(List Bool)) (i_18:Int):Option (((List Int)×(List Bool)×Int)⊕((List Int)×(List Bool))):=
 if decide (i_18<((List.length r133:Nat):Int))=true then
  (app 8 out_19 [(-1)]).bind λ l35=>
  (idx r133 i_18).bind λ x93=>
  (FR3_Accepts n p0_ x93).bind λ r134=>
  (app 1 near_1 [r134]).bind λ l36=>
  some (Sum.inl (l35,l36,(iadd .i64 i_18 1)))
 else
  some (Sum.inr (out_19,near_1))
def FR3_home_J1 (_:Nat) (k_5:Int) (out_27:(List Int)) (ring_5:(List Bool)) (grown_12:Bool):Option (((List Int)×(List Bool)×Bool×Int)⊕((List Int)×(List Bool)×Bool)):=
 some (Sum.inl (out_27,ring_5,grown_12,(iadd .i64 k_5 1)))
def FR3_home_L4 (n:Nat) (p0_:GTable) (r133:(List GState)) (near_3:(List Bool)) (i_19:Int) (out_25:(List Int)) (ring_3:(List Bool)) (grown_10:Bool) (k_5:Int):Option (((List Int)×(List Bool)×Bool×Int)⊕((List Int)×(List Bool)×Bool)):=
 (if decide (k_5<((List.length p0_.Rules:Nat):Int))=true then idx ring_3 i_19 else some default).bind λ x94=>
 if ((decide (k_5<((List.length p0_.Rules:Nat):Int)))&&(!x94))=true then
  (idx r133 i_19).bind λ x95=>
  (FR3_Step n p0_ x95 k_5).bind λ r135=>
  (if r135.2=true then FR3_Index n r133 r135.1 else some default).bind λ r136=>
  (if r135.2=true then idx near_3 r136 else some default).bind λ x96=>
  if (r135.2&&x96)=true then
   (idx ring_3 i_19).bind λ _=>
   (put ring_3 i_19 true).bind λ l38=>
   (idx out_25 i_19).bind λ _=>
   (put out_25 i_19 k_5).bind λ l39=>
   FR3_home_J1 n k_5 l39 l38 true
  else
   FR3_home_J1 n k_5 out_25 ring_3 grown_10
 else
  some (Sum.inr (out_25,ring_3,grown_10))
def FR3_home_L3 (n:Nat) (p0_:GTable) (r133:(List GState)) (near_3:(List Bool)) (out_23:(List Int)) (ring_1:(List Bool)) (grown_8:Bool) (i_19:Int):Option (((List Int)×(List Bool)×Bool×Int)⊕((List Int)×(List Bool)×Bool)):=
 if decide (i_19<((List.length r133:Nat):Int))=true then
  (whl (λ (x:((List Int)×(List Bool)×Bool×Int))=>FR3_home_L4 n p0_ r133 near_3 i_19 x.1 x.2.1 x.2.2.1 x.2.2.2) n (out_23,ring_1,grown_8,0)).bind λ y77=>
  some (Sum.inl (y77.1,y77.2.1,y77.2.2,(iadd .i64 i_19 1)))
 else
  some (Sum.inr (out_23,ring_1,grown_8))
def FR3_home_L2 (n:Nat) (p0_:GTable) (r133:(List GState)) (out_21:(List Int)) (near_3:(List Bool)) (grown_7:Bool):Option (((List Int)×(List Bool)×Bool)⊕(List Int)):=
 if grown_7=true then
  (app 1 ([]:List Bool) near_3).bind λ l37=>
  (whl (λ (x:((List Int)×(List Bool)×Bool×Int))=>FR3_home_L3 n p0_ r133 near_3 x.1 x.2.1 x.2.2.1 x.2.2.2) n (out_21,l37,false,0)).bind λ y78=>
  some (Sum.inl (y78.1,y78.2.1,y78.2.2))
 else
  some (Sum.inr out_21)
def FR3_home (n:Nat) (p0_:GTable):Option (List Int):=
 (FR3_States n p0_).bind λ r133=>
 (whl (λ (x:((List Int)×(List Bool)×Int))=>FR3_home_L1 n p0_ r133 x.1 x.2.1 x.2.2) n (([]:List Int),([]:List Bool),0)).bind λ y76=>
 (whl (λ (x:((List Int)×(List Bool)×Bool))=>FR3_home_L2 n p0_ r133 x.1 x.2.1 x.2.2) n (y76.1,y76.2,true)).bind λ y79=>
 some y79
def FR3_Walk_J1 (_:Nat) (k_6:Int) (fit_3:(List Int)):Option (((List Int)×Int)⊕(List Int)):=
 some (Sum.inl (fit_3,(iadd .i64 k_6 1)))
def FR3_Walk_L2 (n:Nat) (p0_:GTable) (_:(List Int)) (r137:(List GState)) (r138:(List Bool)) (_:(List Int)) (_:(List Int)) (s_3:GState) (_:Int) (_:Int) (fit_1:(List Int)) (k_6:Int):Option (((List Int)×Int)⊕(List Int)):=
 if decide (k_6<((List.length p0_.Rules:Nat):Int))=true then
  (FR3_Step n p0_ s_3 k_6).bind λ r141=>
  (if r141.2=true then FR3_Index n r137 r141.1 else some default).bind λ r142=>
  (if r141.2=true then idx r138 r142 else some default).bind λ x100=>
  if (r141.2&&x100)=true then
   (app 8 fit_1 [k_6]).bind λ l40=>
   FR3_Walk_J1 n k_6 l40
  else
   FR3_Walk_J1 n k_6 fit_1
 else
  some (Sum.inr fit_1)
def FR3_Walk_L1 (n:Nat) (p0_:GTable) (p1_:(List Int)) (r137:(List GState)) (r138:(List Bool)) (r139:(List Int)) (path_1:(List Int)) (s_3:GState) (size_1:Int) (i_20:Int):Option (((List Int)×GState×Int×Int)⊕((List Int)×GState)):=
 if (((decide (i_20<((List.length p1_:Nat):Int)))&&(decide (i_20<10)))&&(decide (size_1≤10)))=true then
  (whl (λ (x:((List Int)×Int))=>FR3_Walk_L2 n p0_ p1_ r137 r138 r139 path_1 s_3 size_1 i_20 x.1 x.2) n (([]:List Int),0)).bind λ y80=>
  if (((List.length y80:Nat):Int)==0)=true then
   some (Sum.inr (path_1,s_3))
  else
   (idx p1_ i_20).bind λ x101=>
   (guardB (!(((List.length y80:Nat):Int)==0))).bind λ _=>
   (idx y80 (irem (IntKind.i64.wrap x101) ((List.length y80:Nat):Int))).bind λ x102=>
   (app 8 path_1 [x102]).bind λ l41=>
   (idx p0_.Rules x102).bind λ x103=>
   (FR3_Step n p0_ s_3 x102).bind λ r143=>
   some (Sum.inl (l41,r143.1,(iadd .i64 size_1 ((List.length x103.Print:Nat):Int)),(iadd .i64 i_20 1)))
 else
  some (Sum.inr (path_1,s_3))
def FR3_Walk_L3 (n:Nat) (p0_:GTable) (r137:(List GState)) (r139:(List Int)) (path_3:(List Int)) (s_5:GState):Option (((List Int)×GState)⊕(List Int)):=
 (FR3_Accepts n p0_ s_5).bind λ r144=>
 if (!r144)=true then
  (FR3_Index n r137 s_5).bind λ r145=>
  (idx r139 r145).bind λ x104=>
  (app 8 path_3 [x104]).bind λ l42=>
  (FR3_Step n p0_ s_5 x104).bind λ r146=>
  some (Sum.inl (l42,r146.1))
 else
  some (Sum.inr path_3)
def FR3_Walk (n:Nat) (p0_:GTable) (p1_:(List Int)):Option ((List Int)×Bool):=
 (FR3_States n p0_).bind λ r137=>
 (FR3_Alive n p0_).bind λ r138=>
 (FR3_home n p0_).bind λ r139=>
 (idx r138 0).bind λ x99=>
 if (!x99)=true then
  some (([]:List Int),false)
 else
  (FR3_Start n).bind λ r140=>
  (whl (λ (x:((List Int)×GState×Int×Int))=>FR3_Walk_L1 n p0_ p1_ r137 r138 r139 x.1 x.2.1 x.2.2.1 x.2.2.2) n (([]:List Int),r140,0,0)).bind λ y81=>
  (whl (λ (x:((List Int)×GState))=>FR3_Walk_L3 n p0_ r137 r139 x.1 x.2) n (y81.1,y81.2)).bind λ y82=>
  some (y82,true)
def FR3_Run_L1 (n:Nat) (p0_:GTable) (p1_:(List Int)) (out_28:GTrace) (i_21:Int):Option ((GTrace×Int)⊕(GTrace⊕GTrace)):=
 if decide (i_21<((List.length p1_:Nat):Int))=true then
  (idx p1_ i_21).bind λ x105=>
  (FR3_Step n p0_ out_28.End x105).bind λ r148=>
  if (!r148.2)=true then
   some (Sum.inr (Sum.inr out_28))
  else
   (idx p1_ i_21).bind λ x106=>
   (idx p0_.Rules x106).bind λ x107=>
   (cat out_28.Text x107.Print).bind λ s7=>
   (idx p1_ i_21).bind λ x108=>
   (idx p0_.Rules x108).bind λ x109=>
   (app 1 out_28.Cells x109.Cells).bind λ l43=>
   some (Sum.inl (({ Text:=s7,Cells:=l43,At:=iadd .i64 out_28.At 1,End:=r148.1,Ok:=out_28.Ok }:GTrace),(iadd .i64 i_21 1)))
 else
  some (Sum.inr (Sum.inl out_28))
def FR3_Run (n:Nat) (p0_:GTable) (p1_:(List Int)):Option GTrace:=
 (FR3_Start n).bind λ r147=>
 (whl (λ (x:(GTrace×Int))=>FR3_Run_L1 n p0_ p1_ x.1 x.2) n (({ Text:=[],Cells:=([]:List Int),At:=0,End:=r147,Ok:=false }:GTrace),0)).bind λ y83=>
 match y83 with
 | Sum.inl y84=>
  (FR3_Accepts n p0_ y84.End).bind λ r149=>
  some ({ Text:=y84.Text,Cells:=y84.Cells,At:=y84.At,End:=y84.End,Ok:=r149 }:GTrace)
 | Sum.inr y85=>
  some y85
def FR3_Text (n:Nat) (p0_:GTable) (p1_:(List Int)):Option ((List UInt8)×Bool):=
 (FR3_Walk n p0_ p1_).bind λ r150=>
 (FR3_Run n p0_ r150.1).bind λ r151=>
 some (r151.Text,r150.2)
def FR2_Spelled_J1 (_:Nat) (i_22:Int) (out_32:(List UInt8)):Option (((List UInt8)×Int)⊕(List UInt8)):=
 some (Sum.inl (out_32,(iadd .i64 i_22 1)))
def FR2_Spelled_L1 (n:Nat) (p0_:GTable) (p1_:(List Int)) (out_30:(List UInt8)) (i_22:Int):Option (((List UInt8)×Int)⊕(List UInt8)):=
 if (((decide (i_22<((List.length p1_:Nat):Int)))&&(decide (i_22<12)))&&(decide (((List.length p0_.Rules:Nat):Int)>0)))=true then
  (idx p1_ i_22).bind λ x110=>
  (guardB (!(((List.length p0_.Rules:Nat):Int)==0))).bind λ _=>
  (idx p0_.Rules (irem (IntKind.i64.wrap x110) ((List.length p0_.Rules:Nat):Int))).bind λ x111=>
  if decide (iadd .i64 ((List.length out_30:Nat):Int) ((List.length x111.Print:Nat):Int)≤12)=true then
   (cat out_30 x111.Print).bind λ s8=>
   FR2_Spelled_J1 n i_22 s8
  else
   FR2_Spelled_J1 n i_22 out_30
 else
  some (Sum.inr out_30)
def FR2_Spelled (n:Nat) (p0_:GTable) (p1_:(List Int)):Option (List UInt8):=
 (whl (λ (x:((List UInt8)×Int))=>FR2_Spelled_L1 n p0_ p1_ x.1 x.2) n ([],0)).bind λ y86=>
 some y86
def FR6_Begins (_:Nat) (p0_:(List UInt8)) (p1_:Int) (p2_:(List UInt8)):Option Bool:=
 (if decide (iadd .i64 p1_ ((List.length p2_:Nat):Int)≤((List.length p0_:Nat):Int))=true then sub p0_ p1_ (iadd .i64 p1_ ((List.length p2_:Nat):Int)) else some default).bind λ s9=>
 some ((decide (iadd .i64 p1_ ((List.length p2_:Nat):Int)≤((List.length p0_:Nat):Int)))&&(s9==p2_))
def FR6_After (n:Nat) (p0_:GTable) (p1_:GPoint) (p2_:Int) (p3_:(List (List Int))):Option Int:=
 (FR3_Step n p0_ p1_.State p2_).bind λ r152=>
 (if (!(!r152.2))=true then idx p0_.Rules p2_ else some default).bind λ x112=>
 (if (!(!r152.2))=true then FR6_Begins n p1_.S p1_.I x112.Print else some default).bind λ r153=>
 if ((!r152.2)||(!r153))=true then
  some (-1)
 else
  (idx p0_.Rules p2_).bind λ x113=>
  (idx p3_ (iadd .i64 p1_.I ((List.length x113.Print:Nat):Int))).bind λ x114=>
  (FR3_Index n p1_.L r152.1).bind λ r154=>
  (idx x114 r154).bind λ x115=>
  if decide (x115<0)=true then
   some (-1)
  else
   (idx p0_.Rules p2_).bind λ x116=>
   some (iadd .i64 x115 ((List.length x116.Cells:Nat):Int))
def FR6_least (_:Nat) (p0_:Int) (p1_:Int):Option Int:=
 if ((decide (p0_<0))||((decide (p1_≥0))&&(decide (p1_<p0_))))=true then
  some p1_
 else
  some p0_
def FR6_Suffixes_J1 (_:Nat) (k_7:Int) (out_37:(List (List Int))):Option (((List (List Int))×Int)⊕(List (List Int))):=
 some (Sum.inl (out_37,(iadd .i64 k_7 1)))
def FR6_Suffixes_L2 (n:Nat) (p0_:GTable) (p1_:(List UInt8)) (r155:(List GState)) (i_23:Int) (out_35:(List (List Int))) (k_7:Int):Option (((List (List Int))×Int)⊕(List (List Int))):=
 if decide (k_7<((List.length r155:Nat):Int))=true then
  (idx out_35 i_23).bind λ x118=>
  (idx x118 k_7).bind λ _=>
  (put x118 k_7 (-1)).bind λ l46=>
  (if (i_23==((List.length p1_:Nat):Int))=true then idx r155 k_7 else some default).bind λ x120=>
  (if (i_23==((List.length p1_:Nat):Int))=true then FR3_Accepts n p0_ x120 else some default).bind λ r156=>
  if ((i_23==((List.length p1_:Nat):Int))&&r156)=true then
   (idx (List.set out_35 (Int.toNat i_23) l46) i_23).bind λ x121=>
   (idx x121 k_7).bind λ _=>
   (put x121 k_7 0).bind λ l47=>
   FR6_Suffixes_J1 n k_7 (List.set (List.set out_35 (Int.toNat i_23) l46) (Int.toNat i_23) l47)
  else
   FR6_Suffixes_J1 n k_7 (List.set out_35 (Int.toNat i_23) l46)
 else
  some (Sum.inr out_35)
def FR6_Suffixes_J2 (_:Nat) (r_3:Int) (out_44:(List (List Int))) (changed_6:Bool):Option (((List (List Int))×Bool×Int)⊕((List (List Int))×Bool)):=
 some (Sum.inl (out_44,changed_6,(iadd .i64 r_3 1)))
def FR6_Suffixes_L5 (n:Nat) (p0_:GTable) (p1_:(List UInt8)) (r155:(List GState)) (i_23:Int) (k_8:Int) (out_42:(List (List Int))) (changed_4:Bool) (r_3:Int):Option (((List (List Int))×Bool×Int)⊕((List (List Int))×Bool)):=
 if decide (r_3<((List.length p0_.Rules:Nat):Int))=true then
  (idx r155 k_8).bind λ x123=>
  (FR6_After n p0_ ({ S:=p1_,I:=i_23,State:=x123,L:=r155 }:GPoint) r_3 out_42).bind λ r157=>
  (if decide (r157≥0)=true then idx out_42 i_23 else some default).bind λ _=>
  (if decide (r157≥0)=true then idx (List.getD out_42 (Int.toNat i_23) []) k_8 else some default).bind λ x125=>
  (if decide (r157≥0)=true then FR6_least n x125 r157 else some default).bind λ r158=>
  (if decide (r157≥0)=true then idx out_42 i_23 else some default).bind λ _=>
  (if decide (r157≥0)=true then idx (List.getD out_42 (Int.toNat i_23) []) k_8 else some default).bind λ x127=>
  if ((decide (r157≥0))&&(r158 != x127))=true then
   (idx (List.set out_42 (Int.toNat i_23) (List.getD out_42 (Int.toNat i_23) [])) i_23).bind λ x128=>
   (idx x128 k_8).bind λ _=>
   (put x128 k_8 r157).bind λ l48=>
   FR6_Suffixes_J2 n r_3 (List.set (List.set out_42 (Int.toNat i_23) (List.getD out_42 (Int.toNat i_23) [])) (Int.toNat i_23) l48) true
  else
   FR6_Suffixes_J2 n r_3 (List.set out_42 (Int.toNat i_23) (List.getD out_42 (Int.toNat i_23) [])) changed_4
 else
  some (Sum.inr (out_42,changed_4))
def FR6_Suffixes_L4 (n:Nat) (p0_:GTable) (p1_:(List UInt8)) (r155:(List GState)) (i_23:Int) (out_40:(List (List Int))) (changed_2:Bool) (k_8:Int):Option (((List (List Int))×Bool×Int)⊕((List (List Int))×Bool)):=
 if decide (k_8<((List.length r155:Nat):Int))=true then
  (whl (λ (x:((List (List Int))×Bool×Int))=>FR6_Suffixes_L5 n p0_ p1_ r155 i_23 k_8 x.1 x.2.1 x.2.2) n (out_40,changed_2,0)).bind λ y88=>
  some (Sum.inl (y88.1,y88.2,(iadd .i64 k_8 1)))
 else
  some (Sum.inr (out_40,changed_2))
def FR6_Suffixes_L3 (n:Nat) (p0_:GTable) (p1_:(List UInt8)) (r155:(List GState)) (i_23:Int) (out_38:(List (List Int))) (changed_1:Bool):Option (((List (List Int))×Bool)⊕(List (List Int))):=
 if changed_1=true then
  (whl (λ (x:((List (List Int))×Bool×Int))=>FR6_Suffixes_L4 n p0_ p1_ r155 i_23 x.1 x.2.1 x.2.2) n (out_38,false,0)).bind λ y89=>
  some (Sum.inl (y89.1,y89.2))
 else
  some (Sum.inr out_38)
def FR6_Suffixes_L1 (n:Nat) (p0_:GTable) (p1_:(List UInt8)) (r155:(List GState)) (out_33:(List (List Int))) (i_23:Int):Option (((List (List Int))×Int)⊕(List (List Int))):=
 if decide (i_23≥0)=true then
  (idx out_33 i_23).bind λ _=>
  (mkl 8 ((List.length r155:Nat):Int) (0:Int)).bind λ l45=>
  (whl (λ (x:((List (List Int))×Int))=>FR6_Suffixes_L2 n p0_ p1_ r155 i_23 x.1 x.2) n ((List.set out_33 (Int.toNat i_23) l45),0)).bind λ y87=>
  (whl (λ (x:((List (List Int))×Bool))=>FR6_Suffixes_L3 n p0_ p1_ r155 i_23 x.1 x.2) n (y87,true)).bind λ y90=>
  some (Sum.inl (y90,(isub .i64 i_23 1)))
 else
  some (Sum.inr out_33)
def FR6_Suffixes (n:Nat) (p0_:GTable) (p1_:(List UInt8)):Option (List (List Int)):=
 (FR3_States n p0_).bind λ r155=>
 (mkl 24 (iadd .i64 ((List.length p1_:Nat):Int) 1) ([]:(List Int))).bind λ l44=>
 (whl (λ (x:((List (List Int))×Int))=>FR6_Suffixes_L1 n p0_ p1_ r155 x.1 x.2) n (l44,((List.length p1_:Nat):Int))).bind λ y91=>
 some y91
def FL6_TranslateMoreRules_L1 (n:Nat) (_:Bool) (r207:GTable) (l57:(List GRule)) (r210:((List UInt8)×Bool)) (r211:(List UInt8)) (i_28:Int):Option (Int⊕(Unit⊕Bool)):=
 if decide (i_28<2)=true then
  (idx ([r210.1,r211]:List (List UInt8)) i_28).bind λ x162=>
  (FTr_Cost n r207 x162).bind λ r212=>
  (idx ([r210.1,r211]:List (List UInt8)) i_28).bind λ x163=>
  (FTr_Cost n ({ Modes:=r207.Modes,Accept:=r207.Accept,Rules:=l57 }:GTable) x163).bind λ r213=>
  if ((decide (r212≥0))&&((decide (r213<0))||(decide (r213>r212))))=true then
   some (Sum.inr (Sum.inr false))
  else
   some (Sum.inl (iadd .i64 i_28 1))
 else
  some (Sum.inr (Sum.inl ()))
def FL6_TranslateMoreRules (n:Nat) (p0_:GRaw) (p1_:(List Int)) (p2_:GRawRule):Option Bool:=
 (FL6_sanity n).bind λ r206=>
 (FR2_Made n p0_).bind λ r207=>
 (app 64 ([]:List GRule) r207.Rules).bind λ l56=>
 (FR2_Rule n p2_ r207.Modes).bind λ r208=>
 (app 64 l56 [r208]).bind λ l57=>
 (FR2_Valid n ({ Modes:=r207.Modes,Accept:=r207.Accept,Rules:=l57 }:GTable)).bind λ r209=>
 if (!r209)=true then
  some r206
 else
  (FR3_Text n r207 p1_).bind λ r210=>
  (FR2_Spelled n r207 p1_).bind λ r211=>
  (whl (λ (x:Int)=>FL6_TranslateMoreRules_L1 n r206 r207 l57 r210 r211 x) n 0).bind λ y106=>
  match y106 with
  | Sum.inl _=>
   some r206
  | Sum.inr y108=>
   some y108
end Go.AI
end
