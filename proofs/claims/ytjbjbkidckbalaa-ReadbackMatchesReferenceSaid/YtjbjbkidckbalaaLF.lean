/- The theorem: the last one of this text; part 6 of 6 of its proof. It holds with no condition beyond the given statement. -/
import Derived.Test.YtjbjbkidckbalaaLE
import Derived.KernelRfl
import Derived.Test.YtjbjbkidckbalaaRows
section
namespace Go.AI
def scan {ρ:Type} (N:Nat) (stop:Nat->Option ρ):Unit⊕ρ:=match (List.range N).findSome? stop with
 | some r=>.inr r
 | none=>.inl ()
theorem GV {ρ:Type} {body:Nat->Int->Option (Int⊕(Unit⊕ρ))} (N:Nat) (stop:Nat->Option ρ)
  (h:∀ i,i<N->Ev (λ n=>body n (i:Int)) (match stop i with|some r=>.inr (.inr r)|none=>.inl ((i+1:Nat):Int)))
  (h2:Ev (λ n=>body n (N:Int)) (.inr (.inl ()))):Ev (λ n=>whl (body n) n 0) (AI.scan N stop):=by
 have key:∀ (k i:Nat),i+k=N->(List.range N).findSome? stop=((List.range k).map (i+·)).findSome? stop->∃ M c,∀ n fuel,M<=n->c<=fuel->whl (body n) fuel (i:Int)=some (AI.scan N stop):=by
  intro k
  induction k with
  | zero=>
   intro i hi hf
   have:i=N:=by omega
   subst this
   obtain ⟨M,hM⟩:=h2
   refine ⟨M,1,λ n fuel hn hfu=>?_⟩
   obtain ⟨fuel,rfl⟩:∃ f,fuel=f+1:=⟨fuel-1,by omega⟩
   have e:=hM n hn
   simp only at e
   simp only [AI.whl,e]
   unfold AI.scan
   rw [hf];rfl
  | succ k ih=>
   intro i hi hf
   obtain ⟨M,hM⟩:=h i (by omega)
   have hs:(List.range (k+1)).map (i+·)=i::(List.range k).map ((i+1)+·):=by
    rw [List.range_succ_eq_map]
    simp only [List.map_cons,Nat.add_zero,List.map_map,List.cons.injEq,true_and]
    apply List.map_congr_left
    intro a _
    simp only [Function.comp];omega
   rw [hs,List.findSome?_cons] at hf
   cases hst:stop i with
   | some r=>
    rw [hst] at hf hM
    refine ⟨M,1,λ n fuel hn hfu=>?_⟩
    obtain ⟨fuel,rfl⟩:∃ f,fuel=f+1:=⟨fuel-1,by omega⟩
    have e:=hM n hn
    simp only at e
    simp only [AI.whl,e]
    unfold AI.scan
    rw [hf]
   | none=>
    rw [hst] at hf hM
    obtain ⟨M2,c,h3⟩:=ih (i+1) (by omega) hf
    refine ⟨max M M2,c+1,λ n fuel hn hfu=>?_⟩
    obtain ⟨fuel,rfl⟩:∃ f,fuel=f+1:=⟨fuel-1,by omega⟩
    have e:=hM n (by omega)
    simp only at e
    simp only [AI.whl,e]
    exact h3 n fuel (by omega) (by omega)
 obtain ⟨M,c,hh⟩:=key N 0 (by omega) (by simp)
 exact ⟨max M c,λ m hm=>hh m m (by omega) (by omega)⟩
theorem HR {ρ:Type} {N:Nat} {stop:Nat->Option ρ} (h:∀ i,i<N->stop i=none):scan N stop=.inl ():=by
 unfold scan
 rw [List.findSome?_eq_none_iff.2 λ i hi=>h i (List.mem_range.1 hi)]
theorem HS {ρ:Type} {N:Nat} {stop:Nat->Option ρ} {i:Nat} (hi:i<N) (h:(stop i).isSome=true):∃ k r,k<N/\stop k=some r/\scan N stop=.inr r:=by
 unfold scan
 cases hf:(List.range N).findSome? stop with
 | none=>rw [List.findSome?_eq_none_iff.1 hf i (List.mem_range.2 hi)] at h;cases h
 | some r=>
  obtain ⟨k,hk,hr⟩:=List.exists_of_findSome?_eq_some hf
  exact ⟨k,r,List.mem_range.1 hk,hr,rfl⟩
def EF (b:UInt8):Int:=(b.toNat:Int)
def If (b:UInt8):Bool:=decide (CB .u8 (EF b) 127>=32)&&decide (CB .u8 (EF b) 127<=126)
def D5 (b:UInt8):Bool:=CB .u8 (EF b) 127==32
theorem JR {s:List UInt8} {i:Nat} {b:UInt8} (h:s[i]? = some b):ML s (i:Int)=some (EF b):=by
 rw [Oy (Aq h)]
 unfold TV EF
 rw [h];rfl
theorem Tf {i n:Nat} (h:i<n):decide ((i:Int)<((n:Nat):Int))=true:=by simpa using h
def P1 (s:List UInt8):Int×Int:=match scan s.length (λ i=>if If (s.getD i 0) then none else some ((i:Int),(60:Int))) with
 | .inl _=>(((s.length:Nat):Int),0)
 | .inr p=>p
theorem Ck {α:Type} {l:List α} {i:Nat} {d:α} (h:i<l.length):l.getD i d=l[i]:=by
 rw [List.getD_eq_getElem?_getD,Jkw h];rfl
theorem JeS {s:List UInt8} (hl:s.length<9223372036854775807):Ev (λ n=>Jo n s) (P1 s):=by
 unfold Jo P1
 refine Ev.bind (GV s.length (λ i=>if If (s.getD i 0) then none else some ((i:Int),(60:Int))) (λ i hi=>Ev.all λ n=>?_) (Ev.all λ n=>?_)) ?_
 ·unfold FE
  have hg:s[i]? = some s[i]:=Jkw hi
  rw [if_pos (Tf hi),JR hg,Ck hi]
  have hc:DW n (EF s[i])=some (If s[i]):=rfl
  simp only [Option.bind_some,hc]
  cases If s[i] with
  | true=>simp [EE (show i<9223372036854775807 by omega)]
  | false=>simp
 ·unfold FE
  rw [if_neg (by simp)]
 ·generalize scan s.length _=z;cases z<;>exact Ev.const
theorem Jdq {s:List UInt8} (hl:s.length<9223372036854775807):Ev (λ n=>Oe n s) (P1 s):=by
 unfold Oe P1
 refine Ev.bind (GV s.length (λ i=>if If (s.getD i 0) then none else some ((i:Int),(60:Int))) (λ i hi=>Ev.all λ n=>?_) (Ev.all λ n=>?_)) ?_
 ·unfold IB
  have hg:s[i]? = some s[i]:=Jkw hi
  rw [if_pos (Tf hi),JR hg,Ck hi]
  have hc:IW n (EF s[i])=some (If s[i]):=rfl
  simp only [Option.bind_some,hc]
  cases If s[i] with
  | true=>simp [EE (show i<9223372036854775807 by omega)]
  | false=>simp
 ·unfold IB
  rw [if_neg (by simp)]
 ·generalize scan s.length _=z;cases z<;>exact Ev.const
theorem WE {s:List UInt8} (h:s.all If=true):P1 s=(((s.length:Nat):Int),0):=by
 unfold P1
 rw [HR λ i hi=>by rw [Ck hi,List.all_eq_true.1 h _ (List.getElem_mem hi)];rfl]
theorem TW {s:List UInt8} (h:s.all If=false):(P1 s).2=60:=by
 rw [List.all_eq_false] at h
 obtain ⟨b,hb,hc⟩:=h
 obtain ⟨i,hi,e⟩:=List.getElem_of_mem hb
 unfold P1
 obtain ⟨k,r,hk,hr,hs⟩:=HS (stop:=λ i=>if If (s.getD i 0) then none else some ((i:Int),(60:Int))) hi (by
  rw [Ck hi,e];simp only [Bool.not_eq_true] at hc;rw [hc];rfl)
 rw [hs]
 simp only at hr ⊢
 split at hr
 ·cases hr
 ·cases hr;rfl
theorem ZO {s:List UInt8} (hl:s.length<9223372036854775807):Ev (λ n=>Kg n s) (s.all If):=by
 unfold Kg
 refine Ev.bind (Jdq hl) ?_
 cases h:s.all If with
 | true=>rw [WE h];exact Ev.const
 | false=>rw [TW h];exact Ev.const
def CL (r:Au) (m:Int):Bool:=
 r.Print.all If&&decide (r.Print.length<=4)&&decide (1<=r.Cells.length)&&decide (r.Cells.length<=4) &&
 (decide (1<=r.Left)&&decide (r.Left<=63)&&decide (1<=r.Right)&&decide (r.Right<=63)&&decide (0<=r.From)&&decide (r.From<m)&&decide (0<=r.To)&&decide (r.To<m)) &&
 r.Cells.all (λ c=>decide (c<63)) &&
 (bif r.Print.any D5 then decide (r.Print.length=1)&&decide (r.Cells.length=1)&&r.Cells.any (λ c=>c==0) else !r.Cells.any (λ c=>c==0))
end Go.AI
end
section
namespace Go.AI
theorem ZP {r:Au} (hl:r.Print.length<9223372036854775807):Ev (λ n=>whl (λ (x:(Bool×Int))=>EO n r x.1 x.2) n (false,0)) (r.Print.any D5):=by
 refine Ev.whl (body:=λ n x=>EO n r x.1 x.2) (λ k x=>∃ i:Nat,x.2=(i:Int)/\i<=r.Print.length/\k=r.Print.length-i/\x.1=(r.Print.take i).any D5) ?_ r.Print.length (false,0) ⟨0,rfl,by omega,by omega,by simp⟩
 rintro k ⟨b,i'⟩ ⟨i,h1,hi,rfl,h2⟩
 simp only at h1 h2
 subst h1
 subst h2
 rcases Nat.lt_or_ge i r.Print.length with hlt|hge
 ·left
  have hg:r.Print[i]? = some r.Print[i]:=Jkw hlt
  have hcond:decide ((i:Int)<((r.Print.length:Nat):Int))=true:=by simpa using hlt
  refine ⟨((r.Print.take (i+1)).any D5,((i+1:Nat):Int)),r.Print.length-(i+1),by omega,⟨i+1,rfl,by omega,rfl,rfl⟩,Ev.all λ n=>?_⟩
  unfold EO
  rw [if_pos hcond]
  have ht:(r.Print.take (i+1)).any D5=((r.Print.take i).any D5||D5 r.Print[i]):=by
   rw [List.take_add_one,hg];simp only [Option.toList_some,List.any_append,List.any_cons,List.any_nil,Bool.or_false]
  have hsp:∀ n,O4 n (EF r.Print[i])=some (D5 r.Print[i]):=λ n=>rfl
  rw [ht,Mo (by omega) (by omega),JR hg]
  cases (r.Print.take i).any D5 with
  | true=>simp
  | false=>simp [hsp]
 ·right
  have e:i=r.Print.length:=by omega
  subst e
  refine Ev.all λ n=>?_
  unfold EO
  rw [if_neg (by simp),List.take_length]
theorem Ev.upto {σ ρ:Type} {body:Nat->σ->Option (σ⊕ρ)} {R:ρ->Prop} (N:Nat) (I:Nat->σ->Prop)
  (step:∀ i x,i<N->I i x->(∃ y,I (i+1) y/\Ev (λ n=>body n x) (.inl y))\/∃ r,R r/\Ev (λ n=>body n x) (.inr r))
  (last:∀ x,I N x->∃ r,R r/\Ev (λ n=>body n x) (.inr r)) (x:σ) (h0:I 0 x):∃ r,R r/\Ev (λ n=>Go.AI.whl (body n) n x) r:=by
 refine Ev.whlR (body:=body) (λ k x=>∃ i,i<=N/\k=N-i/\I i x) ?_ N x ⟨0,by omega,by omega,h0⟩
 rintro k x ⟨i,hi,rfl,hx⟩
 rcases Nat.lt_or_ge i N with hlt|hge
 ·rcases step i x hlt hx with ⟨y,hy,hE⟩|h
  ·exact .inl ⟨y,N-(i+1),by omega,⟨i+1,by omega,rfl,hy⟩,hE⟩
  ·exact .inr h
 ·have:i=N:=by omega
  subst this
  exact .inr (last x hx)
theorem ZQ {r:Au} (hl:r.Cells.length<9223372036854775807) (y:Bool):∃ z:Bool⊕Bool,(if r.Cells.all (λ c=>decide (c<63))=true then z=.inl (r.Cells.any (λ c=>c==0)) else z=.inr false)/\Ev (λ n=>whl (λ (x:(Bool×Int))=>DS n r y x.1 x.2) n (false,0)) z:=by
 refine Ev.upto (body:=λ n x=>DS n r y x.1 x.2) r.Cells.length (λ i x=>x.2=(i:Int)/\x.1=(r.Cells.take i).any (λ c=>c==0)/\(r.Cells.take i).all (λ c=>decide (c<63))=true) ?_ ?_ (false,0) ⟨rfl,by simp,by simp⟩
 ·rintro i ⟨b,i'⟩ hlt ⟨h1,h2,h3⟩
  simp only at h1 h2
  subst h1
  subst h2
  have hg:r.Cells[i]? = some r.Cells[i]:=Jkw hlt
  have hcond:decide ((i:Int)<((r.Cells.length:Nat):Int))=true:=by simpa using hlt
  by_cases hc:r.Cells[i]<63
  ·left
   refine ⟨((r.Cells.take (i+1)).any (λ c=>c==0),((i+1:Nat):Int)),⟨rfl,rfl,?_⟩,Ev.all λ n=>?_⟩
   ·rw [List.take_add_one,hg];simp only [Option.toList_some,List.all_append,h3,List.all_cons,decide_eq_true hc,List.all_nil,Bool.and_self]
   ·unfold DS
    have ht:(r.Cells.take (i+1)).any (λ c=>c==0)=((r.Cells.take i).any (λ c=>c==0)||r.Cells[i]==0):=by
     rw [List.take_add_one,hg];simp only [Option.toList_some,List.any_append,List.any_cons,List.any_nil,Bool.or_false]
    rw [if_pos hcond,KC hg,Option.bind_some,if_neg (by simpa using hc),ht,Mo (by omega) (by omega)]
    cases (r.Cells.take i).any (λ c=>c==0) with
    | true=>simp
    | false=>simp
  ·right
   refine ⟨.inr false,?_,Ev.all λ n=>?_⟩
   ·rw [if_neg]
    intro h
    rw [List.all_eq_true] at h
    exact hc (by simpa using h r.Cells[i] (List.getElem_mem hlt))
   ·unfold DS
    rw [if_pos hcond,KC hg,Option.bind_some,if_pos (by simp;omega)]
 ·rintro ⟨b,i'⟩ ⟨h1,h2,h3⟩
  simp only at h1 h2
  subst h1
  subst h2
  rw [List.take_length] at h3 ⊢
  refine ⟨.inl (r.Cells.any (λ c=>c==0)),by rw [if_pos h3],Ev.all λ n=>?_⟩
  unfold DS
  rw [if_neg (by simp)]
theorem Jdr {r:Au} (hp:r.Print.length<9223372036854775807) (hc:r.Cells.length<9223372036854775807) (m:Int):Ev (λ n=>MB n r m) (CL r m):=by
 obtain ⟨z,hz,hE⟩:=ZQ hc (r.Print.any D5)
 have h1:=ZO hp
 have h2:=ZP (r:=r) hp
 unfold MB
 refine Ev.bind h1 ?_
 unfold CL
 generalize r.Print.all If=a
 by_cases g1:((((!a)||(decide (((r.Print.length:Nat):Int)>4)))||(decide (((r.Cells.length:Nat):Int)<1)))||(decide (((r.Cells.length:Nat):Int)>4)))=true
 ·simp only [g1,if_true]
  have:(a&&decide (r.Print.length<=4)&&decide (1<=r.Cells.length)&&decide (r.Cells.length<=4))=false:=by
   rw [← Bool.not_eq_true]
   intro h
   simp only [Jkx,decide_eq_true_eq] at h
   simp only [JkO,decide_eq_true_eq,Bool.not_eq_true'] at g1
   rcases g1 with ((g|g)|g)|g
   ·rw [g] at h;simp at h
   all_goals omega
  rw [this]
  exact Ev.const
 ·simp only [g1]
  by_cases g2:((((((((decide (r.Left<1))||(decide (r.Left>63)))||(decide (r.Right<1)))||(decide (r.Right>63)))||(decide (r.From<0)))||(decide (r.From>=m)))||(decide (r.To<0)))||(decide (r.To>=m)))=true
  ·simp only [g2,if_true]
   have:(decide (1<=r.Left)&&decide (r.Left<=63)&&decide (1<=r.Right)&&decide (r.Right<=63)&&decide (0<=r.From)&&decide (r.From<m)&&decide (0<=r.To)&&decide (r.To<m))=false:=by
    rw [← Bool.not_eq_true]
    intro h
    simp only [Jkx,decide_eq_true_eq] at h
    simp only [JkO,decide_eq_true_eq] at g2
    omega
   rw [this,Bool.and_false]
   exact Ev.const
  ·have e1:(a&&decide (r.Print.length<=4)&&decide (1<=r.Cells.length)&&decide (r.Cells.length<=4))=true:=by
    simp only [JkO,decide_eq_true_eq,Bool.not_eq_true',not_or] at g1
    simp only [Jkx,decide_eq_true_eq]
    refine ⟨⟨⟨by simpa using g1.1.1.1,?_⟩,?_⟩,?_⟩<;>omega
   have e2:(decide (1<=r.Left)&&decide (r.Left<=63)&&decide (1<=r.Right)&&decide (r.Right<=63)&&decide (0<=r.From)&&decide (r.From<m)&&decide (0<=r.To)&&decide (r.To<m))=true:=by
    simp only [JkO,decide_eq_true_eq,not_or] at g2
    simp only [Jkx,decide_eq_true_eq]
    omega
   rw [e1,e2]
   simp only [g2,JkH,if_false]
   refine Ev.bind h2 (Ev.bind hE ?_)
   split at hz
   ·rename_i h
    subst hz
    rw [h]
    generalize r.Print.any D5=b
    cases b with
    | false=>exact Ev.const
    | true=>
     refine Ev.all λ n=>?_
     simp only [Bool.not_true,JkH,if_false,Bool.and_true,Bool.true_and,cond_true]
     congr 3<;>rw [Bool.eq_iff_iff]<;>simp<;>omega
   ·rename_i h
    subst hz
    rw [Bool.not_eq_true] at h
    rw [h]
    exact Ev.const
end Go.AI
end
section
namespace Go.AI
theorem Ev.iteT {α:Type} {c:Bool} {a b:Nat->Option α} {z:α} (h:c=true) (k:Ev a z):Ev (λ n=>if c=true then a n else b n) z:=by subst h;exact k
theorem Ev.iteF {α:Type} {c:Bool} {a b:Nat->Option α} {z:α} (h:c=false) (k:Ev b z):Ev (λ n=>if c=true then a n else b n) z:=by subst h;exact k
theorem Ev.bindC {α β:Type} {x:Option β} {y:β} {g:Nat->β->Option α} {z:α} (h:x=some y) (k:Ev (λ n=>g n y) z):Ev (λ n=>x.bind (g n)) z:=by subst h;exact k
theorem Ev.guard {α β:Type} {c:Bool} {f:Nat->Option β} {d x:β} {g:Nat->β->Option α} {z:α} (h:c=true->Ev f x) (k:Ev (λ n=>g n (if c=true then x else d)) z):Ev (λ n=>(if c=true then f n else some d).bind (g n)) z:=by
 cases c with
 | true=>exact Ev.bind (h rfl) k
 | false=>exact k
theorem Jds {α β:Type} {a:List α} {b:List β}:(((a.length:Nat):Int) != ((b.length:Nat):Int))=decide (a.length≠b.length):=by
 rw [Bool.eq_iff_iff]
 simp only [bne_iff_ne,ne_eq,decide_eq_true_eq]
 omega
theorem TX {α:Type} [DecidableEq α] [Inhabited α] (a b:List α) (h:a.length=b.length):scan a.length (λ i=>if a.getD i default=b.getD i default then none else some false)=if a=b then .inl () else .inr false:=by
 by_cases e:a=b
 ·subst e
  rw [if_pos rfl]
  exact HR λ i _=>by rw [if_pos rfl]
 ·rw [if_neg e]
  have:∃ i,i<a.length/\a.getD i default≠b.getD i default:=by
   apply Classical.byContradiction
   intro hn
   refine e (List.ext_getElem h λ i h1 h2=>?_)
   have:=Classical.byContradiction λ hc=>hn ⟨i,h1,hc⟩
   rwa [Ck h1,Ck h2] at this
  obtain ⟨i,hi,hne⟩:=this
  obtain ⟨k,r,_,hr,hs⟩:=HS (stop:=λ i=>if a.getD i default=b.getD i default then none else some false) hi (by rw [if_neg hne];rfl)
  rw [hs]
  split at hr
  ·cases hr
  ·cases hr;rfl
theorem Va (a b:List Int) (ha:a.length<9223372036854775807):Ev (λ n=>GT n a b) (decide (a=b)):=by
 unfold GT
 rw [Jds]
 by_cases h:a.length=b.length
 ·refine Ev.iteF (by simp [h]) ?_
  refine Ev.bind (GV a.length (λ i=>if a.getD i default=b.getD i default then none else some false) (λ i hi=>Ev.all λ n=>?_) (Ev.all λ n=>?_)) ?_
  ·unfold EP
   rw [if_pos (Tf hi),Ie hi,Ie (by omega)]
   simp only [Option.bind_some]
   by_cases e:a.getD i default=b.getD i default
   ·rw [if_neg (by simp only [bne_iff_ne,ne_eq];exact λ hh=>hh e),if_pos e,EE (by omega)]
   ·rw [if_pos (by simp only [bne_iff_ne,ne_eq];exact e),if_neg e]
  ·unfold EP
   rw [if_neg (by simp)]
  ·rw [TX a b h]
   by_cases e:a=b
   ·rw [if_pos e,decide_eq_true e];exact Ev.const
   ·rw [if_neg e,decide_eq_false e];exact Ev.const
 ·refine Ev.iteT (by simp [h]) ?_
  rw [decide_eq_false (λ e=>h (by rw [e]))]
  exact Ev.const
theorem WF (a b:List Int) (ha:a.length<9223372036854775807):Ev (λ n=>HK n a b) (decide (a=b)):=by
 unfold HK
 rw [Jds]
 by_cases h:a.length=b.length
 ·refine Ev.iteF (by simp [h]) ?_
  refine Ev.bind (GV a.length (λ i=>if a.getD i default=b.getD i default then none else some false) (λ i hi=>Ev.all λ n=>?_) (Ev.all λ n=>?_)) ?_
  ·unfold EL
   rw [if_pos (Tf hi),Ie hi,Ie (by omega)]
   simp only [Option.bind_some]
   by_cases e:a.getD i default=b.getD i default
   ·rw [if_neg (by simp only [bne_iff_ne,ne_eq];exact λ hh=>hh e),if_pos e,EE (by omega)]
   ·rw [if_pos (by simp only [bne_iff_ne,ne_eq];exact e),if_neg e]
  ·unfold EL
   rw [if_neg (by simp)]
  ·rw [TX a b h]
   by_cases e:a=b
   ·rw [if_pos e,decide_eq_true e];exact Ev.const
   ·rw [if_neg e,decide_eq_false e];exact Ev.const
 ·refine Ev.iteT (by simp [h]) ?_
  rw [decide_eq_false (λ e=>h (by rw [e]))]
  exact Ev.const
theorem YI (a b:Au):decide (a=b)=(a.Print==b.Print&&decide (a.Cells=b.Cells)&&a.Left==b.Left&&a.Right==b.Right&&a.From==b.From&&a.To==b.To):=by
 rw [Bool.eq_iff_iff]
 cases a;cases b
 simp only [decide_eq_true_eq,Au.mk.injEq,Jkx,beq_iff_eq]
 exact ⟨λ ⟨h1,h2,h3,h4,h5,h6⟩=>⟨⟨⟨⟨⟨h1,h2⟩,h3⟩,h4⟩,h5⟩,h6⟩,λ ⟨⟨⟨⟨⟨h1,h2⟩,h3⟩,h4⟩,h5⟩,h6⟩=>⟨h1,h2,h3,h4,h5,h6⟩⟩
theorem WG (a b:Au) (ha:a.Cells.length<9223372036854775807):Ev (λ n=>HA n a b) (decide (a=b)):=by
 unfold HA
 refine Ev.guard (λ _=>Va a.Cells b.Cells ha) (Ev.all λ n=>?_)
 rw [YI]
 cases h:(a.Print==b.Print)<;>simp
theorem Jdt (a b:Au) (ha:a.Cells.length<9223372036854775807):Ev (λ n=>HL n a b) (decide (a=b)):=by
 unfold HL
 refine Ev.guard (λ _=>WF a.Cells b.Cells ha) (Ev.all λ n=>?_)
 rw [YI]
 cases (a.Print==b.Print)<;>cases (a.Left==b.Left)<;>cases (a.Right==b.Right)<;>cases (a.From==b.From)<;>cases (a.To==b.To)<;>simp
theorem WH (b:UInt8):(GD (EF b)==4)=D5 b:=by
 have:∀ k:Nat,k<256->(GD (k:Int)==4)=(CB .u8 (k:Int) 127==32):=by decide +kernel
 exact this b.toNat b.toNat_lt
theorem Jdu {s:List UInt8} {f:UInt8->Bool}:scan s.length (λ i=>if f (s.getD i 0) then some true else none)=if s.any f then .inr true else .inl ():=by
 cases h:s.any f with
 | false=>
  rw [List.any_eq_false] at h
  exact HR λ i hi=>by rw [Ck hi,if_neg (h _ (List.getElem_mem hi))]
 | true=>
  rw [List.any_eq_true] at h
  obtain ⟨b,hb,hf⟩:=h
  obtain ⟨i,hi,e⟩:=List.getElem_of_mem hb
  obtain ⟨k,r,_,hr,hs⟩:=HS (stop:=λ i=>if f (s.getD i 0) then some true else none) hi (by rw [Ck hi,e,hf];rfl)
  rw [hs]
  split at hr
  ·cases hr;rfl
  ·cases hr
theorem WI {s:List UInt8} (hl:s.length<9223372036854775807):Ev (λ n=>EJ n s) (s.any D5):=by
 unfold EJ
 refine Ev.bind (GV s.length (λ i=>if D5 (s.getD i 0) then some true else none) (λ i hi=>Ev.all λ n=>?_) (Ev.all λ n=>?_)) ?_
 ·unfold C8
  have hg:s[i]? = some s[i]:=Jkw hi
  rw [if_pos (Tf hi),JR hg,Ck hi]
  simp only [Option.bind_some,WA,WH]
  cases D5 s[i] with
  | true=>simp
  | false=>simp [EE (show i<9223372036854775807 by omega)]
 ·unfold C8
  rw [if_neg (by simp)]
 ·rw [Jdu]
  cases s.any D5<;>exact Ev.const
theorem ZR {l:List Int} {f:Int->Bool}:scan l.length (λ i=>if f (l.getD i 0) then none else some false)=if l.all f then .inl () else .inr false:=by
 cases h:l.all f with
 | true=>
  rw [List.all_eq_true] at h
  exact HR λ i hi=>by rw [Ck hi,if_pos (h _ (List.getElem_mem hi))]
 | false=>
  rw [List.all_eq_false] at h
  obtain ⟨b,hb,hf⟩:=h
  obtain ⟨i,hi,e⟩:=List.getElem_of_mem hb
  obtain ⟨k,r,_,hr,hs⟩:=HS (stop:=λ i=>if f (l.getD i 0) then none else some false) hi (by rw [Ck hi,e,if_neg hf];rfl)
  rw [hs]
  split at hr
  ·cases hr
  ·cases hr;rfl
def P2 (c:Int):Bool:=decide (c<63)&&!(c==0)
theorem ZS {r:Au} (hp:r.Print.length<9223372036854775807) (hc:r.Cells.length<9223372036854775807) (m:Int):Ev (λ n=>HJ n r m) (CL r m):=by
 unfold HJ
 by_cases g1:(((decide (((r.Print.length:Nat):Int)>4))||(decide (((r.Cells.length:Nat):Int)<1)))||(decide (((r.Cells.length:Nat):Int)>4)))=true
 ·refine Ev.iteT g1 ?_
  have:CL r m=false:=by
   rw [← Bool.not_eq_true];intro h
   simp only [CL,Jkx,decide_eq_true_eq] at h
   simp only [JkO,decide_eq_true_eq] at g1
   omega
  rw [this];exact Ev.const
 ·rw [Bool.not_eq_true] at g1
  refine Ev.iteF g1 (Ev.bind (JeS hp) ?_)
  cases ha:r.Print.all If with
  | false=>
   refine Ev.iteT (by rw [TW ha];rfl) ?_
   have:CL r m=false:=by simp [CL,ha]
   rw [this];exact Ev.const
  | true=>
   refine Ev.iteF (by rw [WE ha];rfl) ?_
   by_cases g2:((((decide (r.Left<1))||(decide (r.Left>63)))||(decide (r.Right<1)))||(decide (r.Right>63)))=true
   ·refine Ev.iteT g2 ?_
    have:CL r m=false:=by
     rw [← Bool.not_eq_true];intro h
     simp only [CL,Jkx,decide_eq_true_eq] at h
     simp only [JkO,decide_eq_true_eq] at g2
     omega
    rw [this];exact Ev.const
   ·rw [Bool.not_eq_true] at g2
    refine Ev.iteF g2 ?_
    by_cases g3:((((decide (r.From<0))||(decide (r.From>=m)))||(decide (r.To<0)))||(decide (r.To>=m)))=true
    ·refine Ev.iteT g3 ?_
     have:CL r m=false:=by
      rw [← Bool.not_eq_true];intro h
      simp only [CL,Jkx,decide_eq_true_eq] at h
      simp only [JkO,decide_eq_true_eq] at g3
      omega
     rw [this];exact Ev.const
    ·rw [Bool.not_eq_true] at g3
     refine Ev.iteF g3 (Ev.bind (WI hp) ?_)
     simp only [Bool.or_eq_false_iff,decide_eq_false_iff_not] at g1 g2 g3
     have e1:CL r m=(r.Cells.all (λ c=>decide (c<63))&&(bif r.Print.any D5 then decide (r.Print.length=1)&&decide (r.Cells.length=1)&&r.Cells.any (λ c=>c==0) else !r.Cells.any (λ c=>c==0))):=by
      unfold CL
      rw [ha]
      have:(true&&decide (r.Print.length<=4)&&decide (1<=r.Cells.length)&&decide (r.Cells.length<=4)&&(decide (1<=r.Left)&&decide (r.Left<=63)&&decide (1<=r.Right)&&decide (r.Right<=63)&&decide (0<=r.From)&&decide (r.From<m)&&decide (0<=r.To)&&decide (r.To<m)))=true:=by
       simp only [Jkx,decide_eq_true_eq,true_and]
       omega
      rw [this,Bool.true_and]
     rw [e1]
     cases hsp:r.Print.any D5 with
     | true=>
      refine Ev.iteT rfl ?_
      by_cases g4:((((r.Print.length:Nat):Int)==1)&&(((r.Cells.length:Nat):Int)==1))=true
      ·have hl:r.Print.length=1/\r.Cells.length=1:=by
        simp only [Jkx,beq_iff_eq] at g4;omega
       obtain ⟨c,hcell⟩:=List.length_eq_one_iff.1 hl.2
       have hi:idx r.Cells 0=some c:=by rw [hcell];rfl
       simp only [g4,if_true,hi,Option.bind_some]
       refine Ev.all λ n=>?_
       rw [hcell]
       simp only [hl.1,List.all_cons,List.all_nil,List.any_cons,List.any_nil,List.length_cons,List.length_nil,Bool.and_true,Bool.or_false,decide_true,Bool.true_and,cond_true]
       cases h0:(c==0) with
       | false=>simp
       | true=>
        have:c=0:=by simpa using h0
        subst this;rfl
      ·rw [Bool.not_eq_true] at g4
       simp only [g4,JkH,if_false,Option.bind_some,Bool.false_and]
       refine Ev.all λ n=>?_
       have:(decide (r.Print.length=1)&&decide (r.Cells.length=1))=false:=by
        rw [← Bool.not_eq_true];intro h
        simp only [Jkx,decide_eq_true_eq] at h
        rw [← Bool.not_eq_true] at g4
        apply g4
        simp [h.1,h.2]
       simp [this]
     | false=>
      refine Ev.iteF rfl ?_
      refine Ev.bind (GV r.Cells.length (λ i=>if P2 (r.Cells.getD i 0) then none else some false) (λ i hi=>Ev.all λ n=>?_) (Ev.all λ n=>?_)) ?_
      ·unfold EK
       rw [if_pos (Tf hi),Ie hi,show r.Cells.getD i default=r.Cells.getD i 0 from rfl]
       generalize r.Cells.getD i 0=c
       simp only [Option.bind_some,Jp]
       by_cases hcc:P2 c=true
       ·simp only [P2,Jkx,decide_eq_true_eq,Bool.not_eq_true',beq_eq_false_iff_ne,ne_eq] at hcc
        rw [if_neg (by simp;omega),if_pos (by simp [P2];omega),EE (by omega)]
       ·rw [if_pos (by simp [P2] at hcc ⊢;omega),if_neg hcc]
      ·unfold EK
       rw [if_neg (by simp)]
      ·rw [ZR]
       have e2:(r.Cells.all (λ c=>decide (c<63))&&!r.Cells.any (λ c=>c==0))=r.Cells.all P2:=by
        rw [Bool.eq_iff_iff]
        simp only [P2,Jkx,List.all_eq_true,Bool.not_eq_true',List.any_eq_false,Bool.not_eq_true]
        exact ⟨λ h x hx=>⟨h.1 x hx,h.2 x hx⟩,λ h=>⟨λ x hx=>(h x hx).1,λ x hx=>(h x hx).2⟩⟩
       simp only [cond_false]
       rw [e2]
       cases r.Cells.all P2<;>exact Ev.const
end Go.AI
end
section
namespace Go.AI
def Jdv (r:Au):Prop:=r.Print.length<9223372036854775807/\r.Cells.length<9223372036854775807
def Hm (t:Ab):Prop:=t.Rules.length<9223372036854775807/\∀ r∈t.Rules,Jdv r
def WJ (t:Ab) (i:Nat):Unit⊕(Int×Int):=scan i (λ k=>if t.Rules.getD k default=t.Rules.getD i default then some ((i:Int),(20:Int)) else none)
def JS (t:Ab) (i:Nat):Option (Int×Int):=if CL (t.Rules.getD i default) t.Modes=true then (match WJ t i with | .inl _=>none | .inr p=>some p) else some ((i:Int),20)
def X0 (t:Ab):Bool:=decide (t.Modes<1)||decide (t.Modes>8)||(t.Accept==0)||decide (IntKind.i64.wrap t.Accept>=Ry .i64 1 t.Modes)||decide (((t.Rules.length:Nat):Int)<1)||decide (((t.Rules.length:Nat):Int)>64)
def Po (t:Ab):Int×Int:=if X0 t=true then (-1,1) else match scan t.Rules.length (JS t) with
 | .inl _=>(0,0)
 | .inr p=>p
theorem Hm.get {t:Ab} (h:Hm t) {i:Nat} (hi:i<t.Rules.length):Jdv (t.Rules.getD i default):=by
 rw [Ck hi];exact h.2 _ (List.getElem_mem hi)
theorem ZT {t:Ab} (ht:Hm t) {i:Nat} (hi:i<t.Rules.length):Ev (λ n=>whl (λ (x:Int)=>F4 n t (i:Int) x) n 0) (WJ t i):=by
 refine GV i _ (λ k hk=>?_) (Ev.all λ n=>?_)
 ·unfold F4
  refine Ev.iteT (by simpa using hk) (Ev.bindC (Ie (by omega)) (Ev.bindC (Ie hi) (Ev.bind (WG _ _ (ht.get (by omega)).2) (Ev.all λ n=>?_))))
  by_cases e:t.Rules.getD k default=t.Rules.getD i default
  ·rw [if_pos (decide_eq_true e),if_pos e]
  ·rw [if_neg (by simpa using e),if_neg e,EE (by have:=ht.1;omega)]
 ·unfold F4
  rw [if_neg (by simp)]
theorem X1 {t:Ab} (ht:Hm t) {i:Nat} (hi:i<t.Rules.length):Ev (λ n=>whl (λ (x:Int)=>DN n t (i:Int) (t.Rules.getD i default) (t.Rules.take i) x) n 0) (WJ t i):=by
 refine GV i _ (λ k hk=>?_) (Ev.all λ n=>?_)
 ·unfold DN
  have hk':k<(t.Rules.take i).length:=by rw [List.length_take];omega
  have hg:(t.Rules.take i).getD k default=t.Rules.getD k default:=by rw [Ck hk',Ck (by omega),List.getElem_take]
  refine Ev.iteT (Tf hk') (Ev.bindC (Ie hk') ?_)
  rw [hg]
  refine Ev.bind (Jdt _ _ (ht.get (by omega)).2) (Ev.all λ n=>?_)
  by_cases e:t.Rules.getD k default=t.Rules.getD i default
  ·rw [if_pos (decide_eq_true e),if_pos e]
  ·rw [if_neg (by simpa using e),if_neg e,EE (by have:=ht.1;omega)]
 ·unfold DN
  rw [if_neg (by simp;omega)]
theorem ZU {t:Ab} (ht:Hm t):Ev (λ n=>whl (λ (x:Int)=>F5 n t x) n 0) (scan t.Rules.length (JS t)):=by
 refine GV _ _ (λ i hi=>?_) (Ev.all λ n=>?_)
 ·unfold F5
  refine Ev.iteT (Tf hi) (Ev.bindC (Ie hi) (Ev.bind (Jdr (ht.get hi).1 (ht.get hi).2 t.Modes) ?_))
  unfold JS
  cases CL (t.Rules.getD i default) t.Modes with
  | false=>exact Ev.iteT rfl Ev.const
  | true=>
   refine Ev.iteF rfl (Ev.bind (ZT ht hi) ?_)
   cases WJ t i with
   | inl u=>refine Ev.all λ n=>?_;simp [EE (show i<9223372036854775807 by have:=ht.1;omega)]
   | inr p=>exact Ev.const
 ·unfold F5
  rw [if_neg (by simp)]
theorem X2 {t:Ab} (ht:Hm t):Ev (λ n=>whl (λ (x:Int)=>DO n t x) n 0) (scan t.Rules.length (JS t)):=by
 refine GV _ _ (λ i hi=>?_) (Ev.all λ n=>?_)
 ·unfold DO
  refine Ev.iteT (Tf hi) (Ev.bindC (Ie hi) (Ev.bind (ZS (ht.get hi).1 (ht.get hi).2 t.Modes) ?_))
  unfold JS
  cases CL (t.Rules.getD i default) t.Modes with
  | false=>exact Ev.iteT rfl Ev.const
  | true=>
   refine Ev.iteF rfl (Ev.bindC (GU (by omega)) (Ev.bind (X1 ht hi) ?_))
   cases WJ t i with
   | inl u=>refine Ev.all λ n=>?_;simp [EE (show i<9223372036854775807 by have:=ht.1;omega)]
   | inr p=>exact Ev.const
 ·unfold DO
  rw [if_neg (by simp)]
theorem Jdw {t:Ab} (ht:Hm t):Ev (λ n=>MC n t) (Po t):=by
 unfold MC Po
 refine Ev.bindC (y:=()) ?_ ?_
 ·split
  ·rename_i h
   simp only [Bool.not_eq_true',Bool.or_eq_false_iff,decide_eq_false_iff_not] at h
   exact JP (by simp;omega)
  ·rfl
 ·show Ev (λ n=>if X0 t=true then _ else _) _
  cases X0 t with
  | true=>exact Ev.iteT rfl Ev.const
  | false=>
   refine Ev.iteF rfl (Ev.bind (ZU ht) ?_)
   generalize scan t.Rules.length _=z
   cases z<;>exact Ev.const
theorem ZV {t:Ab} (ht:Hm t):Ev (λ n=>HM n t) (Po t):=by
 unfold HM Po X0
 cases h1:((decide (t.Modes<1))||(decide (t.Modes>8))) with
 | true=>exact Ev.iteT rfl (by simp only [Bool.true_or,if_true];exact Ev.const)
 | false=>
  refine Ev.iteF rfl (Ev.bindC (y:=()) ?_ ?_)
  ·split
   ·simp only [Bool.or_eq_false_iff,decide_eq_false_iff_not] at h1
    exact JP (by simp;omega)
   ·rfl
  ·simp only [Bool.false_or]
   cases h2:((t.Accept==0)||(decide (IntKind.i64.wrap t.Accept>=Ry .i64 1 t.Modes))) with
   | true=>exact Ev.iteT rfl (by simp only [Bool.true_or,if_true];exact Ev.const)
   | false=>
    refine Ev.iteF rfl ?_
    simp only [Bool.false_or]
    cases h3:((decide (((t.Rules.length:Nat):Int)<1))||(decide (((t.Rules.length:Nat):Int)>64))) with
    | true=>exact Ev.iteT rfl (by simp only [if_true];exact Ev.const)
    | false=>
     refine Ev.iteF rfl (Ev.bind (X2 ht) ?_)
     simp only [JkH,if_false]
     generalize scan t.Rules.length _=z
     cases z<;>exact Ev.const
def GE (t:Ab):Bool:=!X0 t&&t.Rules.all (λ r=>CL r t.Modes)&&decide t.Rules.Nodup
theorem OD (t:Ab):((Po t).2==0)=GE t:=by
 unfold Po GE
 cases X0 t with
 | true=>rfl
 | false=>
  simp only [JkH,if_false,Bool.not_false,Bool.true_and]
  have h20:∀ i p,JS t i=some p->p.2=20:=by
   intro i p h
   unfold JS at h
   split at h
   ·split at h
    ·cases h
    ·rename_i q hq
     cases h
     unfold WJ scan at hq
     split at hq
     ·rename_i r hr
      cases hq
      obtain ⟨k,_,hk⟩:=List.exists_of_findSome?_eq_some hr
      split at hk
      ·cases hk;rfl
      ·cases hk
     ·cases hq
   ·cases h;rfl
  have hiff:(∀ i,i<t.Rules.length->JS t i=none)↔(t.Rules.all (λ r=>CL r t.Modes)&&decide t.Rules.Nodup)=true:=by
   simp only [Jkx,List.all_eq_true,decide_eq_true_eq]
   constructor
   ·intro h
    have hs:∀ i,i<t.Rules.length->CL (t.Rules.getD i default) t.Modes=true:=by
     intro i hi
     have:=h i hi
     unfold JS at this
     split at this
     ·assumption
     ·cases this
    refine ⟨λ r hr=>?_,?_⟩
    ·obtain ⟨i,hi,e⟩:=List.getElem_of_mem hr
     have:=hs i hi
     rwa [Ck hi,e] at this
    ·rw [List.Nodup,List.pairwise_iff_getElem]
     intro k i hk hi hlt e
     have h0:=h i hi
     unfold JS at h0
     rw [if_pos (hs i hi)] at h0
     obtain ⟨_,r,_,_,hsc⟩:=HS (N:=i) (stop:=λ k=>if t.Rules.getD k default=t.Rules.getD i default then some ((i:Int),(20:Int)) else none) hlt (by rw [Ck hk,Ck hi,if_pos e];rfl)
     unfold WJ at h0
     rw [hsc] at h0
     cases h0
   ·rintro ⟨h1,h2⟩ i hi
    unfold JS
    rw [if_pos (by rw [Ck hi];exact h1 _ (List.getElem_mem hi))]
    have:WJ t i=.inl ():=HR λ k hk=>by
     rw [Ck (show k<t.Rules.length by omega),Ck hi,if_neg]
     rw [List.Nodup,List.pairwise_iff_getElem] at h2
     exact h2 k i (by omega) hi hk
    rw [this]
  cases hv:(t.Rules.all (λ r=>CL r t.Modes)&&decide t.Rules.Nodup) with
  | true=>rw [HR (hiff.2 hv)];rfl
  | false=>
   have:¬∀ i,i<t.Rules.length->JS t i=none:=λ h=>by rw [hiff.1 h] at hv;cases hv
   have:∃ i,i<t.Rules.length/\JS t i≠none:=Classical.byContradiction λ hn=>this λ i hi=>Classical.byContradiction λ hc=>hn ⟨i,hi,hc⟩
   obtain ⟨i,hi,hne⟩:=this
   obtain ⟨k,r,_,hr,hs⟩:=HS hi (Option.isSome_iff_ne_none.2 hne)
   rw [hs]
   show (r.2==0)=false
   rw [h20 k r hr];rfl
theorem Jdx {t:Ab} (ht:Hm t):Ev (λ n=>O5 n t) (GE t):=by
 rw [← OD]
 exact Ev.bind (Jdw ht) Ev.const
theorem Pp {t:Ab} (ht:Hm t):Ev (λ n=>Gy n t) (GE t):=by
 rw [← OD]
 exact Ev.bind (ZV ht) Ev.const
theorem X3 {t:Ab} {l:List Au} (h:GE t=true) (hl:l.Sublist t.Rules) (h1:1<=l.length):GE ⟨t.Modes,t.Accept,l⟩=true:=by
 unfold GE X0 at h ⊢
 simp only [Jkx,Bool.not_eq_true',Bool.or_eq_false_iff,decide_eq_false_iff_not,List.all_eq_true,decide_eq_true_eq] at h ⊢
 have hle:=hl.length_le
 exact ⟨⟨⟨⟨h.1.1.1.1,by omega⟩,by omega⟩,λ r hr=>h.1.2 r (hl.subset hr)⟩,hl.nodup h.2⟩
theorem OE {t:Ab} (h:GE t=true):∀ r∈t.Rules,CL r t.Modes=true:=by
 unfold GE at h
 simp only [Jkx,List.all_eq_true] at h
 exact h.1.2
end Go.AI
end
section
namespace Go.AI
def OF (r:Int):Ab:=(Js 0 r).getD default
theorem OG (n:Nat) (k:Int) (h0:0<=k):Js n k=some (OF (C4 k 8))/\0<=C4 k 8/\C4 k 8<8:=by
 have e:C4 k 8=k % 8:=by unfold C4;rw [Int.tmod_eq_emod_of_nonneg h0]
 have hr:C4 k 8=0\/C4 k 8=1\/C4 k 8=2\/C4 k 8=3\/C4 k 8=4\/C4 k 8=5\/C4 k 8=6\/C4 k 8=7:=by rw [e];omega
 rcases hr with h|h|h|h|h|h|h|h
 all_goals
  refine ⟨?_,by omega,by omega⟩
  unfold Js
  rw [h]
  rfl
def Vb (r:Au):Bool:=decide (0<=r.To)&&decide (r.To<2)&&decide (0<=r.Right)&&decide (r.Right<=63)&&decide (r.Print.length<=3)
theorem X4 {r:Au} (h:Vb r=true):NE r:=by
 simp only [Vb,Jkx,decide_eq_true_eq] at h
 obtain ⟨⟨⟨⟨h1,h2⟩,h3⟩,h4⟩,h5⟩:=h
 exact ⟨h1,h2,h3,h4,h5⟩
def Vc (t:Ab):Bool:=decide (t.Rules.length<=8)&&t.Rules.all Vb&&decide (1<=t.Modes)&&decide (t.Modes<=2)&&GE t
theorem JeT {r:Int} (h:0<=r) (h':r<8):Vc (OF r)=true:=by
 have:∀ k:Nat,k<8->Vc (OF (k:Int))=true:=by decide +kernel
 have e:=this r.toNat (by omega)
 rwa [Int.toNat_of_nonneg h] at e
def U8 (n:Int):Prop:=0<=n/\n<256
def YJ (x:DE):Prop:=(∀ a∈x.P,U8 a)/\(∀ a∈x.C,U8 a)/\U8 x.L/\U8 x.R/\U8 x.W.a0/\U8 x.W.a1
theorem EG {a m:Int} (h:0<=a) (hm:0<m):0<=C4 a m/\C4 a m<m:=(ZK h hm).2
theorem NG {α:Type} {l:List α} {i:Int} (h:0<=i) (h':i<l.length):∃ x,x∈l/\idx l i=some x:=by
 have hl:i.toNat<l.length:=by omega
 refine ⟨l[i.toNat],List.getElem_mem hl,?_⟩
 unfold idx
 rw [if_pos h]
 exact Jkw hl
theorem JeU {α:Type} {l:List α} {i:Int} (h:0<=i) (h':i<l.length):∃ z,z.length=1/\sub l i (i+1)=some z:=by
 refine ⟨(l.take (i+1).toNat).drop i.toNat,?_,?_⟩
 ·simp;omega
 ·unfold sub
  rw [if_pos (by omega)]
def YK (a b:Au):Prop:=a.Left=b.Left/\a.Right=b.Right/\a.From=b.From/\a.To=b.To
theorem Jdy (x:DE) (hx:∀ a∈x.P,U8 a) (r0:Au) (h0:r0.Print=[]):Tot (λ n=>whl (λ (y:(Au×Int))=>FH n x y.1 y.2) n (r0,0)) (λ r=>r.Print.length<=3/\YK r r0):=by
 refine Tot.upto (body:=λ n y=>FH n x y.1 y.2) (min x.P.length 3) (λ i y=>y.2=(i:Int)/\y.1.Print.length=i/\YK y.1 r0) ?_ ?_ (r0,0) ⟨rfl,by simp [h0],rfl,rfl,rfl,rfl⟩
 ·rintro i ⟨r,i'⟩ hi ⟨h1,h2,h3⟩
  simp only at h1 h2 h3
  subst h1
  obtain ⟨c,hcm,hci⟩:=NG (l:=x.P) (i:=(i:Int)) (by omega) (by omega)
  have hu:=hx c hcm
  have hr:=EG (m:=9) hu.1 (by omega)
  have hw:IntKind.i64.wrap (C4 c 9)=C4 c 9:=NC (by omega) (by omega)
  obtain ⟨z,hz1,hz⟩:=JeU (l:=([97,98,99,65,66,49,50,45,46]:List UInt8)) (i:=C4 c 9) hr.1 (by simpa using hr.2)
  unfold FH
  refine Tot.iteT (by simp only [Jkx,decide_eq_true_eq];omega) (Tot.bindC hci ?_)
  simp only [hw]
  rw [Jfr (by omega) (by omega)]
  refine Tot.bindC hz (Tot.bindC (Jdn (by omega)) (Tot.pure ⟨EE (by omega),by simp [h2,hz1],h3⟩))
 ·rintro ⟨r,i'⟩ ⟨h1,h2,h3⟩
  simp only at h1 h2 h3
  subst h1
  unfold FH
  exact Tot.iteF (by rw [← Bool.not_eq_true];simp only [Jkx,decide_eq_true_eq];omega) (Tot.pure ⟨by show r.Print.length<=3;omega,h3⟩)
theorem Jdz (x:DE) (hx:∀ a∈x.C,U8 a) (r0:Au) (h0:r0.Cells.length=1):Tot (λ n=>whl (λ (y:(Au×Int))=>FI n x y.1 y.2) n (r0,0)) (λ r=>(r.Cells.length<=3/\1<=r.Cells.length)/\r.Print=r0.Print/\YK r r0):=by
 refine Tot.upto (body:=λ n y=>FI n x y.1 y.2) (min x.C.length 2) (λ i y=>y.2=(i:Int)/\y.1.Cells.length=i+1/\y.1.Print=r0.Print/\YK y.1 r0) ?_ ?_ (r0,0) ⟨rfl,by simp [h0],rfl,rfl,rfl,rfl,rfl⟩
 ·rintro i ⟨r,i'⟩ hi ⟨h1,h2,h3,h4⟩
  simp only at h1 h2 h3 h4
  subst h1
  obtain ⟨c,hcm,hci⟩:=NG (l:=x.C) (i:=(i:Int)) (by omega) (by omega)
  have hu:=hx c hcm
  have hr:=EG (m:=8) hu.1 (by omega)
  obtain ⟨z,_,hz⟩:=NG (l:=([1,3,9,5,7,32,44,60]:List Int)) (i:=C4 c 8) hr.1 (by simpa using hr.2)
  unfold FI
  refine Tot.iteT (by simp only [Jkx,decide_eq_true_eq];omega) (Tot.bindC hci (Tot.bindC hz (Tot.bindC (NF (by simp;omega)) (Tot.pure ⟨EE (by omega),by simp [h2],h3,h4⟩))))
 ·rintro ⟨r,i'⟩ ⟨h1,h2,h3,h4⟩
  simp only at h1 h2 h3 h4
  subst h1
  unfold FI
  exact Tot.iteF (by rw [← Bool.not_eq_true];simp only [Jkx,decide_eq_true_eq];omega) (Tot.pure ⟨by show r.Cells.length<=3/\1<=r.Cells.length;omega,h3,h4⟩)
theorem JeV {x:DE} (hx:YJ x) {m:Int} (hm:1<=m) (hm':m<=2):Tot (λ n=>Od n x m) (λ r=>NE r/\(r.Cells.length<=3/\1<=r.Cells.length)/\0<=r.From/\r.From<m/\0<=r.To/\r.To<m):=by
 obtain ⟨hP,hC,hL,hR,hW0,hW1⟩:=hx
 have l8:=EG (m:=8) hL.1 (by omega)
 have r8:=EG (m:=8) hR.1 (by omega)
 obtain ⟨a,ham,ha⟩:=NG (l:=([63,63,2,8,17,62,4,1]:List Int)) (i:=C4 x.L 8) l8.1 (by simpa using l8.2)
 obtain ⟨b,hbm,hb⟩:=NG (l:=([63,63,2,8,17,62,4,1]:List Int)) (i:=C4 x.R 8) r8.1 (by simpa using r8.2)
 have hq:0<=Jeg .u8 x.L 8:=by unfold Jeg;exact (Wz _).1
 have q8:=EG (m:=8) hq (by omega)
 obtain ⟨c,_,hc⟩:=NG (l:=([1,3,9,5,7,32,44,60]:List Int)) (i:=C4 (Jeg .u8 x.L 8) 8) q8.1 (by simpa using q8.2)
 have hg:Ek (!(m==0))=some ():=JP (by simp;omega)
 have w0:IntKind.i64.wrap x.W.a0=x.W.a0:=NC (by have:=hW0.1;omega) (by have:=hW0.2;omega)
 have w1:IntKind.i64.wrap x.W.a1=x.W.a1:=NC (by have:=hW1.1;omega) (by have:=hW1.2;omega)
 have hfr:=EG (a:=x.W.a0) (m:=m) hW0.1 (by omega)
 have hto:=EG (a:=x.W.a1) (m:=m) hW1.1 (by omega)
 have hbr:0<=b/\b<=63:=by
  simp at hbm
  omega
 unfold Od
 refine Tot.bindC ha (Tot.bindC hb (Tot.bindC hg (Tot.bindC hg (Tot.bind (Jdy x hP _ rfl) ?_))))
 rintro r1 ⟨p1,p2,p3,p4,p5⟩
 refine Tot.bindC hc (Tot.bind (Jdz x hC _ rfl) ?_)
 rintro r2 ⟨q1,q2,q3,q4,q5,q6⟩
 simp only at q2 q3 q4 q5 q6
 rw [p3] at q4
 rw [p4] at q5
 rw [p5] at q6
 simp only [w0,w1] at q5 q6 q4
 refine Tot.pure ⟨⟨?_,?_,?_,?_,?_⟩,q1,?_,?_,?_,?_⟩
 all_goals first|(rw [q6];omega)|(rw [q4];omega)|(rw [q5];omega)|(rw [q2];exact p1)
def SA (x:MM):Prop:=0<=x.Base/\∀ r∈x.More,YJ r
structure Br (t:Ab):Prop where
 tab:Fn t
 lo:1<=t.Modes
 hi:t.Modes<=2
 valid:GE t=true
theorem Br.sound {t:Ab} (h:Br t):∀ r∈t.Rules,CL r t.Modes=true:=OE h.valid
theorem GG {r:Au} {m:Int} (h:CL r m=true):r.Print.length<=4/\1<=r.Cells.length/\r.Cells.length<=4:=by
 simp only [CL,Jkx,decide_eq_true_eq] at h
 omega
theorem Br.small {t:Ab} (h:Br t):Hm t:=⟨by have:=h.tab.1;omega,λ r hr=>by have:=GG (h.sound r hr);exact ⟨by omega,by omega⟩⟩
theorem JdA (x:MM) (b:Ab) (hb:b.Rules.length<=8):Tot (λ n=>whl (λ (y:(Ab×Int))=>FJ n x b y.1 y.2) n (({ Modes:=b.Modes,Accept:=b.Accept,Rules:=[] }:Ab),0)) (λ t=>t.Modes=b.Modes/\t.Accept=b.Accept/\t.Rules.Sublist b.Rules):=by
 refine Tot.upto (body:=λ n y=>FJ n x b y.1 y.2) b.Rules.length (λ i y=>y.2=(i:Int)/\y.1.Modes=b.Modes/\y.1.Accept=b.Accept/\y.1.Rules.Sublist (b.Rules.take i)) ?_ ?_ _ ⟨rfl,rfl,rfl,by simp⟩
 ·rintro i ⟨t,i'⟩ hi ⟨h1,h2,h3,h4⟩
  simp only at h1 h2 h3 h4
  subst h1
  have ht:b.Rules.take (i+1)=b.Rules.take i++[b.Rules.getD i default]:=by rw [List.take_add_one,Ck hi,Jkw hi];rfl
  have hlen:=h4.length_le
  rw [List.length_take] at hlen
  unfold FJ
  refine Tot.iteT (Tf hi) (Tot.bindC (JP (by simp)) (Tot.ite (λ _=>Tot.bindC (Ie hi) (Tot.bindC (NF (by simp;omega)) ?_)) λ _=>?_))
  ·unfold G3
   exact Tot.pure ⟨EE (by omega),h2,h3,by rw [ht];exact h4.append (List.Sublist.refl _)⟩
  ·unfold G3
   exact Tot.pure ⟨EE (by omega),h2,h3,by rw [ht];exact h4.trans (List.sublist_append_left _ _)⟩
 ·rintro ⟨t,i'⟩ ⟨h1,h2,h3,h4⟩
  simp only at h1 h2 h3 h4
  subst h1
  rw [List.take_length] at h4
  unfold FJ
  exact Tot.iteF (by simp) (Tot.pure ⟨h2,h3,h4⟩)
structure JiO (b t:Ab):Prop where
 modes:t.Modes=b.Modes
 accept:t.Accept=b.Accept
 rules:∀ r∈t.Rules,NE r/\r.Cells.length<=4
 valid:t.Rules=[]\/GE t=true
theorem ZW {t:Ab} (hl:t.Rules.length<=11) (h:∀ r∈t.Rules,NE r/\r.Cells.length<=4):Hm t:=⟨by omega,λ r hr=>⟨by have:=(h r hr).1.2.2.2.2;omega,by have:=(h r hr).2;omega⟩⟩
end Go.AI
end
section
namespace Go.AI
def Dz (t:Ab) (k:Int):Au:=t.Rules[k.toNat]?.getD default
def QC (t:Ab):List Int->List UInt8->List Int->Nat->Aa->Jgm
 | [],tx,cs,a,s=>⟨tx,cs,a,s,AG t s⟩
 | k::p,tx,cs,a,s=>if (AU t s k).2=true then QC t p (tx++(Dz t k).Print) (cs++(Dz t k).Cells) (a+1) (AU t s k).1 else ⟨tx,cs,a,s,false⟩
theorem Ig {t:Ab} {s:Aa} {k:Int} (h:(AU t s k).2=true):0<=k/\k<t.Rules.length:=by
 unfold AU at h
 split at h
 ·cases h
 ·rename_i hk
  simp only [JkO,decide_eq_true_eq,not_or] at hk
  omega
theorem JT {t:Ab} {k:Int} (h:0<=k) (h':k<t.Rules.length):idx t.Rules k=some (Dz t k):=Ss h h'
theorem C1 {t:Ab} {k:Int} (h:0<=k) (h':k<t.Rules.length):Dz t k∈t.Rules:=by
 unfold Dz
 rw [Jkw (by omega)]
 exact List.getElem_mem _
theorem Br.print {t:Ab} (ht:Br t) {r:Au} (hr:r∈t.Rules):r.Print.length<=4/\r.Cells.length<=4:=by
 have:=ht.sound r hr
 unfold CL at this
 simp only [Jkx,decide_eq_true_eq] at this
 omega
theorem OH (s:List UInt8):Zu (BE s)=some s:=by
 have hb:∀ b:UInt8,b.toNat<256:=λ b=>b.toNat_lt
 have h1:(BE s).all (λ n=>decide (0<=n)&&decide (n<256))=true:=by
  rw [List.all_eq_true]
  intro x hx
  unfold BE at hx
  obtain ⟨b,_,rfl⟩:=List.mem_map.1 hx
  have:=hb b
  simp;omega
 unfold Zu
 rw [if_pos h1]
 unfold BE
 rw [List.map_map]
 congr 1
 conv=>rhs;rw [← List.map_id s]
 refine List.map_congr_left λ b _=>?_
 simp
theorem Ih (a b:List UInt8):BE (a++b)=BE a++BE b:=by simp [BE]
theorem EH (a:List UInt8):(BE a).length=a.length:=by simp [BE]
theorem SB {α:Type} {l:List α} {i:Nat} (h:i<l.length):l.drop i=l[i]::l.drop (i+1):=List.drop_eq_getElem_cons h
structure Vd (t:Ab) (p:List Int) (i:Nat) (tx:List UInt8) (cs:List Int) (s:Aa):Prop where
 eq:QC t p [] [] 0 BD=QC t (p.drop i) tx cs i s
 tl:tx.length<=4*i
 cl:cs.length<=4*i
theorem Vd.start (t:Ab) (p:List Int):Vd t p 0 [] [] BD:=⟨rfl,by simp,by simp⟩
theorem Vd.next {t:Ab} (ht:Br t) {p:List Int} {i:Nat} {tx:List UInt8} {cs:List Int} {s:Aa} (h:Vd t p i tx cs s) (hi:i<p.length) (hs:(AU t s p[i]).2=true):Vd t p (i+1) (tx++(Dz t p[i]).Print) (cs++(Dz t p[i]).Cells) (AU t s p[i]).1:=by
 have hk:=Ig hs
 have:=ht.print (C1 hk.1 hk.2)
 refine ⟨?_,?_,?_⟩
 ·rw [h.eq,SB hi,QC,if_pos hs]
 ·have:=h.tl;simp only [List.length_append];omega
 ·have:=h.cl;simp only [List.length_append];omega
theorem Vd.stop {t:Ab} {p:List Int} {i:Nat} {tx:List UInt8} {cs:List Int} {s:Aa} (h:Vd t p i tx cs s) (hi:i<p.length) (hs:(AU t s p[i]).2=false):QC t p [] [] 0 BD=⟨tx,cs,i,s,false⟩:=by
 rw [h.eq,SB hi,QC,if_neg (by rw [hs];simp)]
theorem Vd.last {t:Ab} {p:List Int} {tx:List UInt8} {cs:List Int} {s:Aa} (h:Vd t p p.length tx cs s):QC t p [] [] 0 BD=⟨tx,cs,p.length,s,AG t s⟩:=by
 rw [h.eq,List.drop_length,QC]
end Go.AI
end
section
namespace Go.AI
theorem X5 {st:List Aa} (hn:st.Nodup) {i:Nat} {s:Aa} (h:st[i]? = some s):Ic st s=(i:Int):=by
 unfold Ic
 rw [Dq hn h]
theorem QO {st:List Aa} (hn:st.Nodup) {i j:Nat} {s:Aa} (h:st[i]? = some s) (h':st[j]? = some s):i=j:=by
 have a:=Dq hn h
 rw [Dq hn h'] at a
 cases a;rfl
theorem CG {i:Nat} (h:i<9223372036854775807):Bl .i64 (i:Int) 1=((i+1:Nat):Int):=by
 rw [Mo (by omega) (by omega)];rfl
theorem TY {st:List Aa} {s:Aa} (h:s∈st):∃ i:Nat,Ic st s=i/\st[i]? = some s:=by
 unfold Ic
 cases hf:st.findIdx? (λ x=>decide (x=s)) with
 | none=>
  rw [List.findIdx?_eq_none_iff] at hf
  have:=hf s h
  simp at this
 | some i=>
  rw [List.findIdx?_eq_some_iff_getElem] at hf
  obtain ⟨hi,h1,_⟩:=hf
  refine ⟨i,rfl,?_⟩
  rw [Jkw hi]
  simpa using h1
theorem X6 {st:List Aa} {s:Aa} (h:s ∉ st):Ic st s=-1:=by
 unfold Ic
 rw [HG h]
theorem SC {st:List Aa} {s:Aa}:Ic st s<0↔s ∉ st:=by
 constructor
 ·intro h hm
  obtain ⟨i,e,_⟩:=TY hm
  omega
 ·intro h
  rw [X6 h];omega
theorem WK {t:Ab} (ht:Fn t) {st:List Aa} (hF:EC t st) {i:Nat} {s:Aa} (hi:st[i]? = some s):Tot (λ n=>whl (λ (x:((List Aa)×Int))=>CO n t (i:Int) x.1 x.2) n (st,0)) (λ r=>r=JN t s t.Rules.length st):=by
 have hr:=ht.1
 refine Tot.upto (body:=λ n x=>CO n t (i:Int) x.1 x.2) t.Rules.length (λ k x=>x.2=(k:Int)/\x.1=JN t s k st) ?_ ?_ _ ⟨rfl,rfl⟩
 ·rintro k ⟨l,k'⟩ hk ⟨e1,e2⟩
  simp only at e1 e2
  subst e1 e2
  have hFk:=hF.exp ht hi k (by omega)
  have hik:=OB (Hf t s st k) hi
  have hlen:=hFk.len
  unfold CO
  refine Tot.iteT (by simpa using hk) (Tot.bindC (ED hik) (Tot.bindA (λ n=>Oz ht.short n s k) (Tot.guard (R:=λ z=>z=Ic (JN t s k st) (AU t s k).1) (λ _=>(Sv (by dsimp only;omega)).tot rfl) (λ z hz=>?_))))
  have hJ:∀ l',l'=JN t s (k+1) st->Tot (λ n=>Dw n (k:Int) l') (Rd2 (λ x:List Aa×Int=>x.2=((k+1:Nat):Int)/\x.1=JN t s (k+1) st) (λ r=>r=JN t s t.Rules.length st)):=by
   intro l' hl'
   unfold Dw
   exact Tot.pure ⟨CG (by omega),hl'⟩
  have hx:JN t s (k+1) st=KB t s (JN t s k st) k:=JO t s k st
  refine Tot.ite (λ hc=>?_) (λ hc=>?_)
  ·simp only [Jkx,decide_eq_true_eq] at hc
   refine Tot.bindC (NF (by simp;omega)) (hJ _ ?_)
   rw [hx]
   unfold KB
   rw [if_pos ⟨hc.1,SC.1 (by rw [← hz hc.1];exact hc.2)⟩]
  ·refine hJ _ ?_
   rw [hx]
   unfold KB
   rw [if_neg]
   rintro ⟨h1,h2⟩
   rw [h1,hz h1,decide_eq_true (SC.2 h2)] at hc
   cases hc
 ·rintro ⟨l,k'⟩ ⟨e1,e2⟩
  simp only at e1 e2
  subst e1 e2
  unfold CO
  exact Tot.iteF (by simp) (Tot.pure rfl)
theorem JiP (t:Ab):EC t [BD]:=⟨by simp,λ s hs=>by simp at hs;subst hs;exact ⟨by decide,by decide,by decide,by decide,by decide,by decide⟩,rfl,λ j s hj h0=>by cases j with|zero=>omega|succ j=>simp at hj⟩
theorem P3 {t:Ab} (ht:Fn t):Ev (λ n=>FA n t) (AN t):=by
 have loop:Tot (λ n=>whl (λ (x:((List Aa)×Int))=>Dx n t x.1 x.2) n ([BD],0)) (λ r=>r=AN t):=by
  refine Tot.whl (body:=λ n x=>Dx n t x.1 x.2) (λ k x=>∃ i:Nat,i<=x.1.length/\k=800-i/\Sw t (800-i) i x.1=AN t/\x.2=(i:Int)/\EC t x.1) ?_ 800 _ ⟨0,by simp,by omega,rfl,rfl,JiP t⟩
  rintro k ⟨st,i'⟩ ⟨i,hil,rfl,hb,hi',hF⟩
  simp only at hil hb hi' hF
  subst hi'
  have hlen:=hF.len
  unfold Dx
  refine Tot.ite (λ hc=>?_) (λ hc=>?_)
  ·have hlt:i<st.length:=by simpa using hc
   have hi:st[i]? = some st[i]:=Jkw hlt
   have hexp:=hF.exp ht hi _ (Nat.le_refl _)
   refine Tot.bind (WK ht hF hi) ?_
   rintro _ rfl
   refine Tot.pure ⟨800-(i+1),by omega,i+1,?_,rfl,?_,?_,hexp⟩
   ·have:=(Hf t st[i] st t.Rules.length).length_le
    dsimp only
    omega
   ·dsimp only
    rw [← hb]
    have e:800-i=(800-(i+1))+1:=by omega
    rw [e]
    simp only [Sw,hi]
   ·exact CG (by omega)
  ·have hge:st.length<=i:=by simpa using hc
   have e:i=st.length:=by omega
   subst e
   refine Tot.pure ?_
   show st=AN t
   rw [← hb]
   have e:800-st.length=(800-(st.length+1))+1:=by omega
   rw [e]
   simp [Sw]
 refine Tot.ev ?_
 unfold FA
 exact Tot.bindA (y:=BD) (λ n=>rfl) (Tot.bind loop λ _ h=>Tot.pure h)
end Go.AI
end
section
namespace Go.AI
def Edge (t:Ab) (st:List Aa) (i:Nat) (k:Nat) (j:Nat):Prop:=∃ s s',st[i]? = some s/\k<t.Rules.length/\st[j]? = some s'/\AU t s (k:Nat)=(s',true)
inductive FB (t:Ab) (st:List Aa):Nat->Prop
 | acc (i:Nat) (s:Aa) (h:st[i]? = some s) (ha:AG t s=true):FB t st i
 | step (i k j:Nat) (h:Edge t st i k j) (hj:FB t st j):FB t st i
def Ge (t:Ab) (st:List Aa) (l:List Bool):Prop:=l.length=st.length/\∀ i:Nat,l[i]? = some true↔FB t st i
theorem FB.lt {t:Ab} {st:List Aa} {i:Nat} (h:FB t st i):i<st.length:=by
 cases h with
 | acc _ s h ha=>exact Aq h
 | step _ k j h hj=>obtain ⟨s,s',h,_⟩:=h;exact Aq h
theorem Ge.uniq {t:Ab} {st:List Aa} {l m:List Bool} (h:Ge t st l) (h':Ge t st m):l=m:=by
 refine List.ext_getElem? λ i=>?_
 rcases Nat.lt_or_ge i st.length with hi|hi
 ·have h1:i<l.length:=by rw [h.1];exact hi
  have h2:i<m.length:=by rw [h'.1];exact hi
  have e:=(h.2 i).trans (h'.2 i).symm
  rw [Jkw h1,Jkw h2] at e ⊢
  cases ha:l[i]<;>cases hb:m[i]<;>simp_all
 ·rw [List.getElem?_eq_none_iff.2 (by rw [h.1];exact hi),List.getElem?_eq_none_iff.2 (by rw [h'.1];exact hi)]
theorem Ge.of {t:Ab} {st:List Aa} {l:List Bool} (hl:l.length=st.length) (hs:∀ i,l[i]? = some true->FB t st i) (ha:∀ (i:Nat) s,st[i]? = some s->AG t s=true->l[i]? = some true) (hc:∀ i k j,Edge t st i k j->l[j]? = some true->l[i]? = some true):Ge t st l:=by
 refine ⟨hl,λ i=>⟨hs i,λ h=>?_⟩⟩
 induction h with
 | acc i s h h'=>exact ha i s h h'
 | step i k j h _ ih=>exact hc i k j h ih
def Is (l:List Bool):Nat:=l.count false
theorem WL {l:List Bool} {i:Nat} (h:l[i]? = some false):Is (l.set i true)+1=Is l:=by
 have hi:=Aq h
 rw [Jkw hi] at h
 have h':l[i]=false:=by simpa using h
 have hp:0<List.count false l:=List.count_pos_iff.2 (h'▸List.getElem_mem hi)
 unfold Is
 rw [List.count_set hi,h']
 simp
 omega
theorem JeW (l:List Bool):Is l<=l.length:=List.count_le_length
structure Hy (t:Ab) (st:List Aa) (out0 out:List Bool) (g:Bool) (i m:Nat):Prop where
 len:out.length=st.length
 snd:∀ j:Nat,out[j]? = some true->FB t st j
 acc:∀ (j:Nat) s,st[j]? = some s->AG t s=true->out[j]? = some true
 same:g=false->out=out0
 less:g=true->Is out<Is out0
 cl:g=false->∀ i' k j,(i'<i\/(i'=i/\k<m))->Edge t st i' k j->out[j]? = some true->out[i']? = some true
theorem Hy.stop {t:Ab} {st:List Aa} {out0 out:List Bool} {g:Bool} {i m:Nat} (h:Hy t st out0 out g i m) (hm:t.Rules.length<=m\/out[i]? = some true):Hy t st out0 out g (i+1) 0:=by
 refine ⟨h.len,h.snd,h.acc,h.same,h.less,λ hg i' k j hi he hj=>?_⟩
 rcases Nat.lt_or_ge i' i with hlt|hge
 ·exact h.cl hg i' k j (.inl hlt) he hj
 ·have:i'=i:=by omega
  subst this
  rcases hm with hm|hm
  ·obtain ⟨s,s',_,hk,_⟩:=id he
   exact h.cl hg i' k j (.inr ⟨rfl,by omega⟩) he hj
  ·exact hm
theorem X7 {t:Ab} (ht:Fn t) {st:List Aa} (hF:EC t st) (hD:∀ i,Sx t i st) {out0 out:List Bool} {g:Bool} {i:Nat} {s:Aa} (hi:st[i]? = some s) (h0:Hy t st out0 out g i 0) :
  Tot (λ n=>whl (λ (x:((List Bool)×Bool×Int))=>Cu n t st (i:Int) x.1 x.2.1 x.2.2) n (out,g,0)) (λ r=>Hy t st out0 r.1 r.2 (i+1) 0):=by
 have hr:=ht.1
 have hil:=Aq hi
 have hlen:=hF.len
 have last:∀ k (x:List Bool×Bool×Int),k<=t.Rules.length->x.2.2=(k:Int)->Hy t st out0 x.1 x.2.1 i k->(k=t.Rules.length\/x.1[i]? = some true)->Tot (λ n=>Cu n t st (i:Int) x.1 x.2.1 x.2.2) (Rd2 (λ _=>False) (λ r=>Hy t st out0 r.1 r.2 (i+1) 0)):=by
  rintro k ⟨l,g,k'⟩ hk e1 hP hx
  simp only at e1 hP hx
  subst e1
  have hll:i<l.length:=by rw [hP.len];exact hil
  unfold Cu
  refine Tot.guard (R:=λ z=>l[i]? = some z) (λ _=>Tot.all (λ n=>Bj hll) (Jkw hll)) (λ z hz=>?_)
  refine Tot.iteF ?_ (Tot.pure (hP.stop (hx.imp (λ h=>by omega) id)))
  rcases hx with rfl|hx
  ·simp
  ·rw [← Bool.not_eq_true]
   simp only [Jkx,decide_eq_true_eq,Bool.not_eq_true',not_and,Bool.not_eq_false]
   intro hlt
   have:=hz (by simpa using hlt)
   rw [hx] at this
   exact (Option.some.inj this).symm
 refine Tot.whl (body:=λ n x=>Cu n t st (i:Int) x.1 x.2.1 x.2.2) (λ c x=>∃ k,k<=t.Rules.length/\c=t.Rules.length-k/\x.2.2=(k:Int)/\Hy t st out0 x.1 x.2.1 i k) ?_ t.Rules.length _ ⟨0,by omega,by omega,rfl,h0⟩
 rintro c ⟨l,g,k'⟩ ⟨k,hk,rfl,e1,hP⟩
 simp only at e1 hP
 subst e1
 have fin:∀ hh:(k=t.Rules.length\/l[i]? = some true),Tot (λ n=>Cu n t st (i:Int) l g (k:Int)) (Rd2 (λ y:List Bool×Bool×Int=>∃ c',c'<t.Rules.length-k/\∃ k,k<=t.Rules.length/\c'=t.Rules.length-k/\y.2.2=(k:Int)/\Hy t st out0 y.1 y.2.1 i k) (λ r=>Hy t st out0 r.1 r.2 (i+1) 0)):=λ hh=>(last k (l,g,(k:Int)) hk rfl hP hh).mono λ z hz=>by
  cases z with
  | inl y=>exact hz.elim
  | inr r=>exact hz
 by_cases hx:k=t.Rules.length\/l[i]? = some true
 ·exact fin hx
 ·rw [not_or] at hx
  have hll:i<l.length:=by rw [hP.len];exact hil
  have hlf:l[i]? = some false:=by
   have:=Jkw hll
   cases hb:l[i] with
   | true=>rw [hb] at this;exact absurd this hx.2
   | false=>rw [hb] at this;exact this
  have hkl:k<t.Rules.length:=by omega
  unfold Cu
  have hc1:decide ((k:Int)<((t.Rules.length:Nat):Int))=true:=by simpa using hkl
  refine Tot.bindA (y:=false) (λ n=>by rw [if_pos hc1,ED hlf]) (Tot.iteT (by rw [hc1];rfl) (Tot.bindC (ED hi) (Tot.bindA (λ n=>Oz ht.short n s k) ?_)))
  have hJ:∀ l' g',Hy t st out0 l' g' i (k+1)->Tot (λ n=>DT n (k:Int) l' g') (Rd2 (λ y:List Bool×Bool×Int=>∃ c',c'<t.Rules.length-k/\∃ k,k<=t.Rules.length/\c'=t.Rules.length-k/\y.2.2=(k:Int)/\Hy t st out0 y.1 y.2.1 i k) (λ r=>Hy t st out0 r.1 r.2 (i+1) 0)):=by
   intro l' g' hP'
   unfold DT
   exact Tot.pure ⟨t.Rules.length-(k+1),by omega,k+1,by omega,rfl,CG (by omega),hP'⟩
  cases hs:(AU t s (k:Nat)).2 with
  | false=>
   simp only
   refine Tot.bindC rfl (Tot.bindC rfl (Tot.iteF (by simp) (hJ l g ⟨hP.len,hP.snd,hP.acc,hP.same,hP.less,λ hg i' k' j hi' he hj=>?_⟩)))
   rcases hi' with hi'|⟨rfl,hi'⟩
   ·exact hP.cl hg i' k' j (.inl hi') he hj
   ·rcases Nat.lt_or_ge k' k with h|h
    ·exact hP.cl hg i' k' j (.inr ⟨rfl,h⟩) he hj
    ·have:k'=k:=by omega
     subst this
     obtain ⟨s1,s2,a1,a2,a3,a4⟩:=he
     rw [hi] at a1
     cases a1
     rw [a4] at hs
     cases hs
  | true=>
   have hmem:(AU t s (k:Nat)).1∈st:=hD (i+1) i s (by omega) hi k hkl hs
   obtain ⟨j,hj1,hj2⟩:=TY hmem
   have hjl:j<l.length:=by rw [hP.len];exact Aq hj2
   have hE:Edge t st i k j:=⟨s,_,hi,hkl,hj2,Prod.ext rfl hs⟩
   simp only [if_true]
   have hix:=Sv (l:=st) (s:=(AU t s (k:Nat)).1) (by omega)
   rw [hj1] at hix
   refine Tot.bindE hix (Tot.bindC (Bj hjl) (Tot.ite (λ hc=>?_) (λ hc=>?_)))
   ·have hlj:l[j]? = some true:=by rw [Jkw hjl];simpa using hc
    refine Tot.bindC (Bj hll) (Tot.bindC (Sz hll) (hJ _ _ ⟨by rw [JkM];exact hP.len,λ j' hj'=>?_,λ j' s' h1 h2=>?_,by simp,λ _=>?_,by simp⟩))
    ·by_cases e:i=j'
     ·subst e;exact .step i k j hE (hP.snd j hlj)
     ·rw [JkL e] at hj';exact hP.snd j' hj'
    ·by_cases e:i=j'
     ·subst e;rw [JkG hll]
     ·rw [JkL e];exact hP.acc j' s' h1 h2
    ·have:=WL hlf
     cases hg:g with
     | true=>have:=hP.less hg;omega
     | false=>have:=hP.same hg;subst this;omega
   ·refine hJ l g ⟨hP.len,hP.snd,hP.acc,hP.same,hP.less,λ hg i' k' j' hi' he hj'=>?_⟩
    rcases hi' with hi'|⟨rfl,hi'⟩
    ·exact hP.cl hg i' k' j' (.inl hi') he hj'
    ·rcases Nat.lt_or_ge k' k with h|h
     ·exact hP.cl hg i' k' j' (.inr ⟨rfl,h⟩) he hj'
     ·have:k'=k:=by omega
      subst this
      obtain ⟨s1,s2,a1,a2,a3,a4⟩:=he
      rw [hi] at a1
      cases a1
      rw [a4] at hj2
      have:=QO hF.nodup a3 hj2
      subst this
      rw [Jkw hjl] at hj'
      simp only [Bool.true_and] at hc
      rw [hc] at hj'
      cases hj'
theorem X8 {t:Ab} (ht:Fn t) {st:List Aa} (hF:EC t st) (hD:∀ i,Sx t i st) {out0:List Bool} (h0:Hy t st out0 out0 false 0 0) :
  Tot (λ n=>whl (λ (x:((List Bool)×Bool×Int))=>Dp n t st x.1 x.2.1 x.2.2) n (out0,false,0)) (λ r=>Hy t st out0 r.1 r.2 st.length 0):=by
 have hlen:=hF.len
 refine Tot.upto (body:=λ n x=>Dp n t st x.1 x.2.1 x.2.2) st.length (λ i x=>x.2.2=(i:Int)/\Hy t st out0 x.1 x.2.1 i 0) ?_ ?_ _ ⟨rfl,h0⟩
 ·rintro i ⟨l,g,i'⟩ hi ⟨e,hP⟩
  simp only at e hP
  subst e
  unfold Dp
  refine Tot.iteT (by simpa using hi) (Tot.bind (X7 ht hF hD (Jkw hi) hP) λ y hy=>Tot.pure ⟨CG (by omega),hy⟩)
 ·rintro ⟨l,g,i'⟩ ⟨e,hP⟩
  simp only at e hP
  subst e
  unfold Dp
  exact Tot.iteF (by simp) (Tot.pure hP)
theorem ZX {t:Ab} (ht:Fn t):Tot (λ n=>HP n t) (Ge t (AN t)):=by
 obtain ⟨hF,hD⟩:=CF ht
 have hS:=P3 ht
 unfold HP
 refine Tot.bindE hS ?_
 generalize AN t=st at *
 have hlen:=hF.len
 have l1:Tot (λ n=>whl (λ (x:((List Bool)×Int))=>Do n t st x.1 x.2) n (([]:List Bool),0)) (λ l=>l=st.map (AG t)):=by
  refine Tot.upto (body:=λ n x=>Do n t st x.1 x.2) st.length (λ i x=>x.2=(i:Int)/\x.1=(st.take i).map (AG t)) ?_ ?_ _ ⟨rfl,rfl⟩
  ·rintro i ⟨l,i'⟩ hi ⟨e1,e2⟩
   simp only at e1 e2
   subst e1 e2
   unfold Do
   refine Tot.iteT (by simpa using hi) (Tot.bindC (Bj hi) (Tot.bindA (λ n=>P0 n t _) (Tot.bindC (NF (by simp;omega)) (Tot.pure ⟨CG (by omega),?_⟩))))
   simp only
   rw [List.take_add_one,Jkw hi,Option.toList_some,List.map_append];rfl
  ·rintro ⟨l,i'⟩ ⟨e1,e2⟩
   simp only at e1 e2
   subst e1 e2
   unfold Do
   exact Tot.iteF (by simp) (Tot.pure (by show _=_;rw [List.take_length]))
 refine Tot.bind l1 ?_
 rintro _ rfl
 refine Tot.bind (R:=Ge t st) ?_ λ y hy=>Tot.pure hy
 let Good:=λ l:List Bool=>l.length=st.length/\(∀ j:Nat,l[j]? = some true->FB t st j)/\(∀ (j:Nat) s,st[j]? = some s->AG t s=true->l[j]? = some true)
 refine Tot.whl (body:=λ n x=>EQ n t st x.1 x.2) (λ c x=>Good x.1/\((x.2=true/\c=Is x.1+1)\/(x.2=false/\c=0/\Ge t st x.1))) ?_ _ _ ⟨⟨by simp,λ j hj=>?_,λ j s h1 h2=>?_⟩,.inl ⟨rfl,rfl⟩⟩
 ·rintro c ⟨l,g⟩ ⟨⟨g1,g2,g3⟩,hg⟩
  simp only at g1 g2 g3 hg
  unfold EQ
  rcases hg with ⟨rfl,rfl⟩|⟨rfl,rfl,hA⟩
  ·refine Tot.iteT rfl (Tot.bind (X8 ht hF hD ⟨g1,g2,g3,λ _=>rfl,by simp,λ _ i' k j hi=>by omega⟩) λ y hy=>Tot.pure ?_)
   obtain ⟨l',g'⟩:=y
   simp only at hy
   cases g' with
   | true=>exact ⟨Is l'+1,by have:=hy.less rfl;omega,⟨hy.len,hy.snd,hy.acc⟩,.inl ⟨rfl,rfl⟩⟩
   | false=>exact ⟨0,by omega,⟨hy.len,hy.snd,hy.acc⟩,.inr ⟨rfl,rfl,Ge.of hy.len hy.snd hy.acc λ i k j he hj=>hy.cl rfl i k j (.inl (by obtain ⟨s,s',h,_⟩:=he;exact Aq h)) he hj⟩⟩
  ·exact Tot.iteF rfl (Tot.pure hA)
 ·rw [JkA] at hj
  cases hs:st[j]? with
  | none=>rw [hs] at hj;cases hj
  | some s=>rw [hs] at hj;exact .acc j s hs (Option.some.inj hj)
 ·rw [JkA,h1];simp [h2]
end Go.AI
end
section
namespace Go.AI
def YL (t:Ab) (st:List Aa) (near:List Bool) (out:List Int) (D:Nat):Prop:=
 ∃ rk:Nat->Nat,∀ j:Nat,near[j]? = some true->rk j<=D/\((∃ s,st[j]? = some s/\AG t s=true)\/∃ k j':Nat,out[j]? = some (k:Int)/\Edge t st j k j'/\near[j']? = some true/\rk j'<rk j)
structure WM (t:Ab) (st:List Aa) (near ring:List Bool) (out:List Int) (D:Nat) (g:Bool) (i m:Nat):Prop where
 len:ring.length=st.length
 oln:out.length=st.length
 sub:∀ j:Nat,near[j]? = some true->ring[j]? = some true
 new:∀ j:Nat,ring[j]? = some true->near[j]? = some true\/∃ k j':Nat,out[j]? = some (k:Int)/\Edge t st j k j'/\near[j']? = some true
 hom:YL t st near out D
 same:g=false->ring=near
 less:g=true->Is ring<Is near
 cl:g=false->∀ i' k j,(i'<i\/(i'=i/\k<m))->Edge t st i' k j->near[j]? = some true->ring[i']? = some true
theorem WM.stop {t:Ab} {st:List Aa} {near ring:List Bool} {out:List Int} {D:Nat} {g:Bool} {i m:Nat} (h:WM t st near ring out D g i m) (hm:t.Rules.length<=m\/ring[i]? = some true):WM t st near ring out D g (i+1) 0:=by
 refine ⟨h.len,h.oln,h.sub,h.new,h.hom,h.same,h.less,λ hg i' k j hi he hj=>?_⟩
 rcases Nat.lt_or_ge i' i with hlt|hge
 ·exact h.cl hg i' k j (.inl hlt) he hj
 ·have:i'=i:=by omega
  subst this
  rcases hm with hm|hm
  ·obtain ⟨s,s',_,hk,_⟩:=id he
   exact h.cl hg i' k j (.inr ⟨rfl,by omega⟩) he hj
  ·exact hm
theorem YL.live {t:Ab} {st:List Aa} {near:List Bool} {out:List Int} {D:Nat} (h:YL t st near out D):∀ j,near[j]? = some true->FB t st j:=by
 obtain ⟨rk,h⟩:=h
 have:∀ d j,rk j<d->near[j]? = some true->FB t st j:=by
  intro d
  induction d with
  | zero=>intro j hj;omega
  | succ d ih=>
   intro j hj hn
   obtain ⟨_,⟨s,h1,h2⟩|⟨k,j',_,he,hj',hlt⟩⟩:=h j hn
   ·exact .acc j s h1 h2
   ·exact .step j k j' he (ih j' (by omega) hj')
 intro j
 exact this (rk j+1) j (by omega)
theorem WM.ring {t:Ab} {st:List Aa} {near ring:List Bool} {out:List Int} {D:Nat} {g:Bool} {i m:Nat} (h:WM t st near ring out D g i m):YL t st ring out (D+1):=by
 obtain ⟨rk,hrk⟩:=h.hom
 refine ⟨λ j=>if near[j]? = some true then rk j else D+1,λ j hj=>?_⟩
 by_cases hn:near[j]? = some true
 ·simp only [hn,if_true]
  obtain ⟨h1,h2⟩:=hrk j hn
  refine ⟨by omega,h2.imp id ?_⟩
  rintro ⟨k,j',a,b,c,d⟩
  exact ⟨k,j',a,b,h.sub j' c,by rw [if_pos c];exact d⟩
 ·simp only [if_neg hn]
  refine ⟨by omega,?_⟩
  rcases h.new j hj with hh|⟨k,j',a,b,c⟩
  ·exact absurd hh hn
  ·exact .inr ⟨k,j',a,b,h.sub j' c,by rw [if_pos c];have:=(hrk j' c).1;omega⟩
end Go.AI
end
section
namespace Go.AI
def E7 (t:Ab) (s:Aa):List Int->Aa->Prop
 | [],s'=>s=s'
 | k::p,s'=>(AU t s k).2=true/\E7 t (AU t s k).1 p s'
theorem E7.snoc {t:Ab}:∀ {p:List Int} {s s':Aa} {k:Int},E7 t s p s'->(AU t s' k).2=true->E7 t s (p++[k]) (AU t s' k).1
 | [],s,s',k,h,h'=>by
  unfold E7 at h
  subst h
  exact ⟨h',rfl⟩
 | a::p,s,s',k,h,h'=>⟨h.1,E7.snoc h.2 h'⟩
theorem E7.mem {t:Ab}:∀ {p:List Int} {s s':Aa},E7 t s p s'->∀ k∈p,0<=k/\k<t.Rules.length
 | [],_,_,_,k,hk=>by cases hk
 | a::p,s,s',h,k,hk=>by
  rcases List.mem_cons.1 hk with rfl|hk
  ·exact Ig h.1
  ·exact E7.mem h.2 k hk
def JdB (t:Ab) (p:List Int):Prop:=p.length<=1000/\∃ s,E7 t BD p s/\AG t s=true
def Jc (t:Ab) (p:List Int):List UInt8:=p.flatMap λ k=>(Dz t k).Print
def cellsOf (t:Ab) (p:List Int):List Int:=p.flatMap λ k=>(Dz t k).Cells
theorem TZ {t:Ab}:∀ {p:List Int} {s s':Aa} (tx:List UInt8) (cs:List Int) (a:Nat),E7 t s p s'->QC t p tx cs a s=⟨tx++Jc t p,cs++cellsOf t p,(a+p.length:Nat),s',AG t s'⟩
 | [],s,s',tx,cs,a,h=>by
  unfold E7 at h
  subst h
  simp [QC,Jc,cellsOf]
 | k::p,s,s',tx,cs,a,h=>by
  unfold QC
  rw [if_pos h.1,TZ _ _ _ h.2]
  simp only [Jc,cellsOf,List.flatMap_cons,List.append_assoc,List.length_cons]
  congr 1
  omega
theorem JdB.run {t:Ab} {p:List Int} (h:JdB t p):∃ s,E7 t BD p s/\AG t s=true/\QC t p [] [] 0 BD=⟨Jc t p,cellsOf t p,(p.length:Nat),s,true⟩:=by
 obtain ⟨_,s,h1,h2⟩:=h
 refine ⟨s,h1,h2,?_⟩
 rw [TZ [] [] 0 h1,h2]
 simp
end Go.AI
end
section
namespace Go.AI
def ltB (a b:List UInt8):Prop:=Op.bytesLess a b=true
theorem Ve (a:List UInt8):¬ltB a []:=by cases a<;>simp [ltB,Op.bytesLess]
theorem JU {a b:UInt8} {x y:List UInt8}:ltB (a::x) (b::y)↔a<b\/(a=b/\ltB x y):=by
 simp [ltB,Op.bytesLess]
theorem Ii:∀ a:List UInt8,¬ltB a a
 | []=>Ve _
 | a::x=>by
  rw [JU]
  rintro (h|⟨_,h⟩)
  ·exact UInt8.lt_irrefl a h
  ·exact Ii x h
theorem Pq:∀ {a b c:List UInt8},ltB a b->ltB b c->ltB a c
 | a,[],c,h,_=>absurd h (Ve a)
 | _,_::_,[],_,h=>absurd h (Ve _)
 | [],_::_,_::_,_,_=>rfl
 | a::x,b::y,c::z,h,h'=>by
  rw [JU] at *
  rcases h with h|⟨rfl,h⟩
  ·rcases h' with h'|⟨rfl,_⟩
   ·exact .inl (UInt8.lt_trans h h')
   ·exact .inl h
  ·rcases h' with h'|⟨rfl,h'⟩
   ·exact .inl h'
   ·exact .inr ⟨rfl,Pq h h'⟩
theorem T1:∀ (a b:List UInt8),a=b\/ltB a b\/ltB b a
 | [],[]=>.inl rfl
 | [],_::_=>.inr (.inl rfl)
 | _::_,[]=>.inr (.inr rfl)
 | a::x,b::y=>by
  rw [JU,JU]
  by_cases h:a=b
  ·subst h
   rcases T1 x y with rfl|h|h
   ·exact .inl rfl
   ·exact .inr (.inl (.inr ⟨rfl,h⟩))
   ·exact .inr (.inr (.inr ⟨rfl,h⟩))
  ·rcases Nat.lt_or_gt_of_ne (λ e=>h (UInt8.toNat_inj.1 e)) with h1|h1
   ·exact .inr (.inl (.inl (UInt8.lt_iff_toNat_lt.2 h1)))
   ·exact .inr (.inr (.inl (UInt8.lt_iff_toNat_lt.2 h1)))
theorem ZY {a b:List UInt8} (h:ltB a b):¬ltB b a:=λ h'=>Ii a (Pq h h')
def Eb (l:List (List UInt8)):Prop:=l.Pairwise ltB
theorem Eb.ext:∀ {l m:List (List UInt8)},Eb l->Eb m->(∀ x,x∈l↔x∈m)->l=m
 | [],[],_,_,_=>rfl
 | [],b::m,_,_,h=>by have:=(h b).2 (by simp);cases this
 | a::l,[],_,_,h=>by have:=(h a).1 (by simp);cases this
 | a::l,b::m,hl,hm,h=>by
  have h1:=List.pairwise_cons.1 hl
  have h2:=List.pairwise_cons.1 hm
  have e:a=b:=by
   rcases List.mem_cons.1 ((h a).1 (by simp)) with e|e
   ·exact e
   ·rcases List.mem_cons.1 ((h b).2 (by simp)) with e'|e'
    ·exact e'.symm
    ·exact absurd (h1.1 b e') (ZY (h2.1 a e))
  subst e
  congr 1
  refine Eb.ext h1.2 h2.2 λ x=>⟨λ hx=>?_,λ hx=>?_⟩
  ·rcases List.mem_cons.1 ((h x).1 (by simp [hx])) with e|e
   ·subst e;exact absurd (h1.1 x hx) (Ii x)
   ·exact e
  ·rcases List.mem_cons.1 ((h x).2 (by simp [hx])) with e|e
   ·subst e;exact absurd (h2.1 x hx) (Ii x)
   ·exact e
def Hg (s:List UInt8) (done:Bool):List (List UInt8)->List (List UInt8)
 | []=>if done then [] else [s]
 | x::r=>if (!(done||(x==s))&&!(Op.bytesLess x s||x==s))=true then s::x::Hg s true r else x::Hg s (done||(x==s)) r
theorem JV (s:List UInt8):∀ l,Hg s true l=l
 | []=>rfl
 | x::r=>by unfold Hg;simp [JV s r]
theorem OI (s y:List UInt8):∀ l,y∈Hg s false l↔y=s\/y∈l
 | []=>by simp [Hg]
 | x::r=>by
  unfold Hg
  by_cases h:x=s
  ·subst h;simp [JV]
  ·simp only [beq_eq_false_iff_ne.2 h,Bool.or_false,Bool.not_false,Bool.true_and]
   split
   ·simp [JV]
   ·simp only [List.mem_cons,OI s y r];constructor
    ·rintro (h|h|h)<;>simp [h]
    ·rintro (h|h|h)<;>simp [h]
theorem Pr (s:List UInt8):∀ l,Eb l->Eb (Hg s false l)
 | [],_=>by simp [Hg,Eb]
 | x::r,hl=>by
  have h1:=List.pairwise_cons.1 hl
  unfold Hg
  by_cases h:x=s
  ·subst h;simp only [beq_self_eq_true,Bool.or_true,Bool.not_true,Bool.false_and,JkH,if_false,JV];exact hl
  ·simp only [beq_eq_false_iff_ne.2 h,Bool.or_false,Bool.not_false,Bool.true_and,Bool.not_eq_true']
   split
   ·rename_i hx
    have hsx:ltB s x:=by
     rcases T1 x s with e|e|e
     ·exact absurd e h
     ·rw [show Op.bytesLess x s=true from e] at hx;cases hx
     ·exact e
    rw [JV]
    refine List.pairwise_cons.2 ⟨λ y hy=>?_,hl⟩
    rcases List.mem_cons.1 hy with rfl|hy
    ·exact hsx
    ·exact Pq hsx (h1.1 y hy)
   ·rename_i hx
    have hxs:ltB x s:=by simpa [ltB] using hx
    refine List.pairwise_cons.2 ⟨λ y hy=>?_,Pr s r h1.2⟩
    rcases (OI s y r).1 hy with rfl|hy
    ·exact hxs
    ·exact h1.1 y hy
end Go.AI
end
section
namespace Go.AI
def Way (t:Ab) (q:Aa) (x:List UInt8) (p:List Int):Prop:=(∃ q',E7 t q p q'/\AG t q'=true)/\Jc t p=x
def ZZ (t:Ab) (p:List Int):Nat:=(cellsOf t p).length
def SD (t:Ab) (q:Aa) (x:List UInt8) (v:Int):Prop:=(v=-1/\∀ p,¬Way t q x p)\/∃ p,Way t q x p/\v=(ZZ t p:Nat)/\∀ p',Way t q x p'->ZZ t p<=ZZ t p'
theorem JeX (t:Ab) (q:Aa) (x:List UInt8):∃ v,SD t q x v:=by
 by_cases h:∃ p,Way t q x p
 ·obtain ⟨p,hp⟩:=h
  have key:∀ (n:Nat) (p:List Int),ZZ t p=n->Way t q x p->∃ v,SD t q x v:=by
   intro n
   induction n using Nat.strongRecOn with
   | _ n ih=>
    intro p hn hp
    by_cases hm:∃ p',Way t q x p'/\ZZ t p'<n
    ·obtain ⟨p',h1,h2⟩:=hm
     exact ih _ h2 p' rfl h1
    ·exact ⟨(ZZ t p:Nat),.inr ⟨p,hp,rfl,λ p' hp'=>Nat.le_of_not_lt λ hlt=>hm ⟨p',hp',by omega⟩⟩⟩
  exact key _ p rfl hp
 ·exact ⟨-1,.inl ⟨rfl,λ p hp=>h ⟨p,hp⟩⟩⟩
theorem SD.uniq {t:Ab} {q:Aa} {x:List UInt8} {v w:Int} (h:SD t q x v) (h':SD t q x w):v=w:=by
 rcases h with ⟨h1,h2⟩|⟨p,h1,h2,h3⟩
 ·rcases h' with ⟨g1,g2⟩|⟨p',g1,g2,g3⟩
  ·omega
  ·exact absurd g1 (h2 p')
 ·rcases h' with ⟨g1,g2⟩|⟨p',g1,g2,g3⟩
  ·exact absurd h1 (g2 p)
  ·have:=h3 p' g1
   have:=g3 p h1
   omega
noncomputable def T3 (t:Ab) (q:Aa) (x:List UInt8):Int:=Classical.choose (JeX t q x)
abbrev prt (t:Ab) (k:Int):List UInt8:=(Dz t k).Print
abbrev cls (t:Ab) (k:Int):List Int:=(Dz t k).Cells
theorem IQ (t:Ab) (k:Int) (p:List Int):Jc t (k::p)=prt t k++Jc t p:=by simp [Jc]
theorem Way.cons {t:Ab} {q:Aa} {x:List UInt8} {p:List Int} {k:Int} (hk:(AU t q k).2=true) (h:Way t (AU t q k).1 x p):Way t q (prt t k++x) (k::p):=by
 obtain ⟨⟨q',h1,h2⟩,h3⟩:=h
 exact ⟨⟨q',⟨hk,h1⟩,h2⟩,by rw [IQ,h3]⟩
theorem Way.nil {t:Ab} {q:Aa} {x:List UInt8} (h:Way t q x []):x=[]/\AG t q=true:=by
 obtain ⟨⟨q',h1,h2⟩,h3⟩:=h
 unfold E7 at h1
 subst h1
 exact ⟨h3.symm,h2⟩
noncomputable def JdC (t:Ab) (q:Aa) (x:List UInt8) (k:Int):Int:=
 if (AU t q k).2=true/\prt t k <+: x/\0<=T3 t (AU t q k).1 (x.drop (prt t k).length) then T3 t (AU t q k).1 (x.drop (prt t k).length)+(cls t k).length else -1
inductive Ps (t:Ab):Aa->List UInt8->List Int->Prop
 | nil {q:Aa} {x:List UInt8} (h:T3 t q x<=0):Ps t q x []
 | cons {q:Aa} {x:List UInt8} {k:Nat} {p:List Int} (h:0<T3 t q x) (hk:JdC t q x k=T3 t q x) (hm:∀ j:Nat,j<k->JdC t q x j≠T3 t q x) (hp:Ps t (AU t q k).1 (x.drop (prt t k).length) p):Ps t q x (k::p)
theorem Ps.uniq {t:Ab} {q:Aa} {x:List UInt8} {p p':List Int} (h:Ps t q x p) (h':Ps t q x p'):p=p':=by
 induction h generalizing p' with
 | nil h=>
  cases h' with
  | nil=>rfl
  | cons g=>omega
 | cons h hk hm _ ih=>
  cases h' with
  | nil g=>omega
  | cons g gk gm gp=>
   rename_i k _ _ k' _
   have:k=k':=by
    rcases Nat.lt_trichotomy k k' with hlt|he|hgt
    ·exact absurd hk (gm _ hlt)
    ·exact he
    ·exact absurd gk (hm _ hgt)
   subst this
   rw [ih gp]
end Go.AI
end
section
namespace Go.AI
def RP (t:Ab) (q:Aa) (l:List Int) (x:List UInt8):Prop:=∃ p q',E7 t q p q'/\AG t q'=true/\cellsOf t p=l/\Jc t p=x
def GO (t:Ab) (q:Aa) (l:List Int):Prop:=∃ p q',E7 t q p q'/\AG t q'=true/\l <+: cellsOf t p
theorem ES (t:Ab) (k:Int) (p:List Int):cellsOf t (k::p)=cls t k++cellsOf t p:=rfl
theorem RP.nil {t:Ab} {q:Aa} (h:AG t q=true):RP t q [] []:=⟨[],q,rfl,h,rfl,rfl⟩
theorem RP.cons {t:Ab} {q:Aa} {k:Int} {l:List Int} {x:List UInt8} (hk:(AU t q k).2=true) (h:RP t (AU t q k).1 l x):RP t q (cls t k++l) (prt t k++x):=by
 obtain ⟨p,q',h1,h2,rfl,rfl⟩:=h
 exact ⟨k::p,q',⟨hk,h1⟩,h2,ES ..,IQ ..⟩
theorem RP.inv {t:Ab} {q:Aa} {l:List Int} {x:List UInt8} (h:RP t q l x):(l=[]/\x=[]/\AG t q=true)\/∃ k:Nat,k<t.Rules.length/\(AU t q k).2=true/\∃ l' x',l=cls t k++l'/\x=prt t k++x'/\RP t (AU t q k).1 l' x':=by
 obtain ⟨p,q',h1,h2,rfl,rfl⟩:=h
 cases p with
 | nil=>unfold E7 at h1;subst h1;exact .inl ⟨rfl,rfl,h2⟩
 | cons k p=>
  have hk:=Ig h1.1
  obtain ⟨k,rfl⟩:∃ m:Nat,k=m:=⟨k.toNat,by omega⟩
  exact .inr ⟨k,by omega,h1.1,_,_,ES ..,IQ ..,p,q',h1.2,h2,rfl,rfl⟩
theorem Vf {t:Ab} {st:List Aa}:∀ {i:Nat},FB t st i->∀ q,st[i]? = some q->GO t q []:=by
 intro i h
 induction h with
 | acc i s h ha=>intro q hq;rw [h] at hq;cases hq;exact ⟨[],_,rfl,ha,List.nil_prefix⟩
 | step i k j h _ ih=>
  intro q hq
  obtain ⟨s,s',h1,h2,h3,h4⟩:=h
  rw [h1] at hq;cases hq
  obtain ⟨p,q',g1,g2,_⟩:=ih _ h3
  refine ⟨(k:Int)::p,q',⟨by rw [h4],by rw [h4];exact g1⟩,g2,List.nil_prefix⟩
theorem MF {t:Ab} {st:List Aa} (hD:∀ i,Sx t i st):∀ (p:List Int) (q q':Aa) (i:Nat),E7 t q p q'->AG t q'=true->st[i]? = some q->FB t st i:=by
 intro p
 induction p with
 | nil=>intro q q' i h ha hi;unfold E7 at h;subst h;exact .acc i _ hi ha
 | cons k p ih=>
  intro q q' i h ha hi
  have hk:=Ig h.1
  obtain ⟨k,rfl⟩:∃ m:Nat,k=m:=⟨k.toNat,by omega⟩
  have hm:=hD (i+1) i q (by omega) hi k (by omega) h.1
  obtain ⟨j,hj,e⟩:=List.getElem_of_mem hm
  have hj':st[j]? = some (AU t q (k:Nat)).1:=by rw [Jkw hj,e]
  exact .step i k j ⟨q,_,hi,by omega,hj',Prod.ext rfl h.1⟩ (ih _ _ j h.2 ha hj')
structure GA where
 print:List UInt8
 cells:List Int
 to:Nat
def Arc (t:Ab) (st:List Aa) (i:Nat) (a:GA):Prop:=∃ k:Nat,Edge t st i k a.to/\FB t st a.to/\a.print=prt t k/\a.cells=cls t k
inductive RG (t:Ab) (st:List Aa):Nat->List Int->List UInt8->Prop
 | nil {i:Nat} {q:Aa} (hi:st[i]? = some q) (ha:AG t q=true):RG t st i [] []
 | cons {i:Nat} {a:GA} {l:List Int} {x:List UInt8} (ha:Arc t st i a) (h:RG t st a.to l x):RG t st i (a.cells++l) (a.print++x)
theorem RG.rp {t:Ab} {st:List Aa} {i:Nat} {l:List Int} {x:List UInt8} (h:RG t st i l x):∀ q,st[i]? = some q->RP t q l x:=by
 induction h with
 | nil hi ha=>intro q hq;rw [hi] at hq;cases hq;exact .nil ha
 | cons ha _ ih=>
  intro q hq
  obtain ⟨k,⟨s,s',h1,h2,h3,h4⟩,_,e1,e2⟩:=ha
  rw [h1] at hq;cases hq
  rw [e1,e2]
  have:=ih _ h3
  refine RP.cons (by rw [h4]) (by rw [h4];exact this)
theorem JjS {t:Ab} {st:List Aa} (hD:∀ i,Sx t i st):∀ (p:List Int) (q q':Aa) (i:Nat),E7 t q p q'->AG t q'=true->st[i]? = some q->RG t st i (cellsOf t p) (Jc t p):=by
 intro p
 induction p with
 | nil=>intro q q' i h ha hi;unfold E7 at h;subst h;exact .nil hi ha
 | cons k p ih=>
  intro q q' i h ha hi
  have hk:=Ig h.1
  obtain ⟨k,rfl⟩:∃ m:Nat,k=m:=⟨k.toNat,by omega⟩
  have hm:=hD (i+1) i q (by omega) hi k (by omega) h.1
  obtain ⟨j,hj,e⟩:=List.getElem_of_mem hm
  have hj':st[j]? = some (AU t q (k:Nat)).1:=by rw [Jkw hj,e]
  rw [ES,IQ]
  exact RG.cons (a:=⟨prt t k,cls t k,j⟩) ⟨k,⟨q,_,hi,by omega,hj',Prod.ext rfl h.1⟩,MF hD p _ _ j h.2 ha hj',rfl,rfl⟩ (ih _ _ j h.2 ha hj')
theorem X9 {t:Ab} {st:List Aa} (hD:∀ i,Sx t i st) {i:Nat} {q:Aa} (hi:st[i]? = some q) {l:List Int} {x:List UInt8}:RG t st i l x↔RP t q l x:=by
 refine ⟨λ h=>h.rp q hi,?_⟩
 rintro ⟨p,q',h1,h2,rfl,rfl⟩
 exact JjS hD p q q' i h1 h2 hi
theorem RG.live {t:Ab} {st:List Aa} {i:Nat} {l:List Int} {x:List UInt8} (h:RG t st i l x):FB t st i:=by
 cases h with
 | nil hi ha=>exact .acc i _ hi ha
 | cons ha _=>obtain ⟨k,h1,h2,_⟩:=ha;exact .step i k _ h1 h2
inductive Rc (t:Ab) (st:List Aa) (L:List Int):Nat->Nat->Prop
 | start (h:FB t st 0):Rc t st L 0 0
 | step {i j:Nat} {a:GA} (h:Rc t st L i j) (ha:Arc t st j a) (hc:a.cells <+: L.drop i):Rc t st L (i+a.cells.length) a.to
theorem Rc.live {t:Ab} {st:List Aa} {L:List Int} {i j:Nat} (h:Rc t st L i j):FB t st j:=by
 cases h with
 | start h=>exact h
 | step _ ha _=>obtain ⟨_,_,h2,_⟩:=ha;exact h2
theorem Rc.le {t:Ab} {st:List Aa} {L:List Int} {i j:Nat} (h:Rc t st L i j):i<=L.length:=by
 induction h with
 | start=>omega
 | @step i j a _ _ hc ih=>have:=hc.length_le;rw [List.length_drop] at this;omega
def C5:List Int->List Int->Nat
 | a::x,b::y=>if a=b then C5 x y+1 else 0
 | _,_=>0
theorem Vg:∀ (x y:List Int),C5 x y<=x.length/\C5 x y<=y.length
 | [],y=>by simp [C5]
 | _::_,[]=>by simp [C5]
 | a::x,b::y=>by
  unfold C5
  have:=Vg x y
  split<;>simp<;>omega
theorem Pt:∀ (x y:List Int),x.take (C5 x y)=y.take (C5 x y)
 | [],y=>by simp [C5]
 | _::_,[]=>by simp [C5]
 | a::x,b::y=>by
  unfold C5
  split
  ·rename_i h;subst h;simp [Pt x y]
  ·simp
theorem Ij {x y:List Int}:C5 x y=x.length↔x <+: y:=by
 refine ⟨λ h=>?_,λ h=>?_⟩
 ·have:=Pt x y
  rw [h,List.take_length] at this
  rw [this];exact List.take_prefix _ _
 ·obtain ⟨z,rfl⟩:=h
  induction x with
  | nil=>simp [C5]
  | cons a x ih=>simp [C5,ih]
theorem YM:∀ {x y:List Int} {n:Nat},n<=x.length->n<=y.length->x.take n=y.take n->n<=C5 x y
 | [],y,n,h,_,_=>by simp at h;omega
 | _::_,[],n,_,h,_=>by simp at h;omega
 | a::x,b::y,0,_,_,_=>by omega
 | a::x,b::y,n+1,h,h',e=>by
  simp only [List.take_succ_cons,List.cons.injEq] at e
  unfold C5
  rw [if_pos e.1]
  have:=YM (x:=x) (y:=y) (n:=n) (by simpa using h) (by simpa using h') e.2
  omega
section
variable {t:Ab} {st:List Aa} (hD:∀ i,Sx t i st) {q:Aa} (h0:st[0]? = some q) {L:List Int}
include hD h0
omit hD in
theorem Rc.goes {i j:Nat} (h:Rc t st L i j):∃ p q',E7 t q p q'/\st[j]? = some q'/\cellsOf t p=L.take i:=by
 induction h with
 | start=>exact ⟨[],q,rfl,h0,rfl⟩
 | @step i j a h ha hc ih=>
  obtain ⟨p,q',h1,h2,h3⟩:=ih
  obtain ⟨k,⟨s,s',g1,g2,g3,g4⟩,_,e1,e2⟩:=ha
  rw [g1] at h2;cases h2
  refine ⟨p++[(k:Int)],s',?_,g3,?_⟩
  ·have:=E7.snoc h1 (k:=(k:Int)) (by rw [g4])
   rwa [g4] at this
  ·have e3:cellsOf t (p++[(k:Int)])=cellsOf t p++cls t k:=by simp [cellsOf]
   rw [e3,h3,← e2]
   obtain ⟨z,hz⟩:=hc
   have e4:L.take (i+a.cells.length)=L.take i++(L.drop i).take a.cells.length:=List.take_add
   rw [e4,← hz,List.take_left]
structure Z0 (t:Ab) (st:List Aa) (L:List Int) (m:Nat):Prop where
 alive:FB t st 0
 up:∀ i j a,Rc t st L i j->Arc t st j a->i+C5 a.cells (L.drop i)<=m
 at_:m=0\/∃ i j a,Rc t st L i j/\Arc t st j a/\m=i+C5 a.cells (L.drop i)
omit hD h0 in
theorem JiQ {m:Nat} (hM:Z0 t st L m) {n:Nat} (hn:n<=L.length):∀ (p:List Int) (q q':Aa) (i j:Nat),Rc t st L i j->st[j]? = some q->(∀ (i:Nat),Sx t i st)->E7 t q p q'->AG t q'=true->(L.take n).drop i <+: cellsOf t p->n<=m:=by
 intro p
 induction p with
 | nil=>
  intro q q' i j hr hj hD h ha hp
  have h1:=hp.length_le
  simp only [cellsOf,List.flatMap_nil,List.length_nil,Nat.le_zero] at h1
  rw [List.length_drop,List.length_take] at h1
  have h2:i<=m:=by
   cases hr with
   | start=>omega
   | @step i0 j0 a h ha hc=>have:=hM.up _ _ _ h ha;rw [Ij.2 hc] at this;exact this
  omega
 | cons k p ih=>
  intro q q' i j hr hj hD h ha hp
  have hk:=Ig h.1
  obtain ⟨k,rfl⟩:∃ m:Nat,k=m:=⟨k.toNat,by omega⟩
  have hm:=hD (j+1) j q (by omega) hj k (by omega) h.1
  obtain ⟨j',hj',e⟩:=List.getElem_of_mem hm
  have hj'':st[j']? = some (AU t q (k:Nat)).1:=by rw [Jkw hj',e]
  have ha':Arc t st j ⟨prt t k,cls t k,j'⟩:=⟨k,⟨q,_,hj,by omega,hj'',Prod.ext rfl h.1⟩,MF hD p _ _ j' h.2 ha hj'',rfl,rfl⟩
  rw [ES] at hp
  have hu:=hM.up _ _ _ hr ha'
  rcases Nat.lt_or_ge n (i+(cls t k).length+1) with hlt|hge
  ·have hi:=hr.le
   rcases Nat.lt_or_ge n i with h3|h3
   ·omega
   ·have:n-i<=C5 (cls t k) (L.drop i):=by
     refine YM (by omega) (by rw [List.length_drop];omega) ?_
     obtain ⟨z,hz⟩:=hp
     have e1:((L.take n).drop i).length=n-i:=by rw [List.length_drop,List.length_take];omega
     have e2:(cls t k++cellsOf t p).take (n-i)=(cls t k).take (n-i):=List.take_append_of_le_length (by omega)
     rw [← e2,← hz,← e1,List.take_left,e1,List.drop_take]
    simp only at hu;omega
  ·have hc:cls t k <+: L.drop i:=by
    obtain ⟨z,hz⟩:=hp
    have e1:(cls t k++cellsOf t p).take (cls t k).length=cls t k:=List.take_left
    have e2:((L.take n).drop i).length=n-i:=by rw [List.length_drop,List.length_take];omega
    rw [← hz,List.take_append_of_le_length (by omega),List.drop_take,List.take_take] at e1
    rw [← e1];exact List.take_prefix _ _
   have hr':=Rc.step hr ha' hc
   refine ih _ _ _ _ hr' hj'' hD h.2 ha ?_
   show (L.take n).drop (i+(cls t k).length) <+: cellsOf t p
   obtain ⟨z,hz⟩:=hp
   refine ⟨z,?_⟩
   have e2:((L.take n).drop i).length=n-i:=by rw [List.length_drop,List.length_take];omega
   have:=congrArg (List.drop (cls t k).length) hz
   rwa [List.drop_left,List.drop_append_of_le_length (by omega),List.drop_drop] at this
theorem YN {m:Nat} (hM:Z0 t st L m) {n:Nat} (hn:n<=L.length):GO t q (L.take n)↔n<=m:=by
 constructor
 ·rintro ⟨p,q',h1,h2,h3⟩
  exact JiQ hM hn p q q' 0 0 (.start hM.alive) h0 hD h1 h2 (by simpa using h3)
 ·intro hle
  rcases hM.at_ with e|⟨i,j,a,hr,ha,e⟩
  ·have:n=0:=by omega
   subst this;exact Vf hM.alive q h0
  ·obtain ⟨p,q',h1,h2,h3⟩:=hr.goes h0
   obtain ⟨k,⟨s,s',g1,g2,g3,g4⟩,hl,e1,e2⟩:=ha
   rw [g1] at h2;cases h2
   obtain ⟨p',q'',k1,k2,_⟩:=Vf hl s' g3
   refine ⟨p++(k:Int)::p',q'',?_,k2,?_⟩
   ·have:∀ (p:List Int) (q:Aa),E7 t q p q'->E7 t q (p++(k:Int)::p') q'':=by
     intro p
     induction p with
     | nil=>intro q h;unfold E7 at h;subst h;exact ⟨by rw [g4],by rw [g4];exact k1⟩
     | cons b p ih=>intro q h;exact ⟨h.1,ih _ h.2⟩
    exact this p q h1
   ·have e3:cellsOf t (p++(k:Int)::p')=L.take i++(a.cells++cellsOf t p'):=by rw [e2,← h3];simp [cellsOf]
    rw [e3]
    have hi:=hr.le
    have e5:L.take n=L.take i++(L.drop i).take (n-i)\/n<i:=by
     rcases Nat.lt_or_ge n i with h|h
     ·exact .inr h
     ·left
      have e4:L.take (i+(n-i))=L.take i++(L.drop i).take (n-i):=List.take_add
      rwa [show i+(n-i)=n by omega] at e4
    rcases e5 with e5|e5
    ·rw [e5]
     refine (List.prefix_append_right_inj _).2 ?_
     have h5:=Pt a.cells (L.drop i)
     have h6:(L.drop i).take (n-i) <+: (L.drop i).take (C5 a.cells (L.drop i)):=by
      rw [show (L.drop i).take (n-i)=((L.drop i).take (C5 a.cells (L.drop i))).take (n-i) by rw [List.take_take,Nat.min_eq_left (by omega)]]
      exact List.take_prefix _ _
     rw [← h5] at h6
     exact (h6.trans (List.take_prefix _ _)).trans (List.prefix_append _ _)
    ·have h7:L.take n <+: L.take i:=by
      rw [show L.take n=(L.take i).take n by rw [List.take_take,Nat.min_eq_left (by omega)]]
      exact List.take_prefix _ _
     exact h7.trans (List.prefix_append _ _)
end
end Go.AI
end
section
namespace Go.AI
theorem YO:∀ l:List (List UInt8),∃ m,Eb m/\∀ x,x∈m↔x∈l
 | []=>⟨[],List.Pairwise.nil,λ _=>Iff.rfl⟩
 | a::l=>by
  obtain ⟨m,h1,h2⟩:=YO l
  exact ⟨Hg a false m,Pr a m h1,λ x=>by rw [OI,h2,List.mem_cons]⟩
structure HD where
 at_:Nat
 sta:Nat
 rest:List UInt8
section
variable {t:Ab} (hc:∀ r∈t.Rules,1<=r.Cells.length) {st:List Aa} {L:List Int}
theorem RG.inv {i:Nat} {l:List Int} {x:List UInt8} (h:RG t st i l x):(l=[]/\x=[]/\∃ q,st[i]? = some q/\AG t q=true)\/∃ a y,Arc t st i a/\a.cells <+: l/\RG t st a.to (l.drop a.cells.length) y/\x=a.print++y:=by
 cases h with
 | nil hi ha=>exact .inl ⟨rfl,rfl,_,hi,ha⟩
 | @cons _ a l x ha h=>exact .inr ⟨a,x,ha,List.prefix_append _ _,by rwa [List.drop_left],rfl⟩
theorem RG.of {i:Nat} {l:List Int} {a:GA} {y:List UInt8} (ha:Arc t st i a) (hp:a.cells <+: l) (h:RG t st a.to (l.drop a.cells.length) y):RG t st i l (a.print++y):=by
 obtain ⟨z,rfl⟩:=hp
 rw [List.drop_left] at h
 exact .cons ha h
theorem Arc.cells {i:Nat} {a:GA} (ha:Arc t st i a):∃ k:Nat,k<t.Rules.length/\a.to<st.length/\a.print=prt t k/\a.cells=cls t k:=by
 obtain ⟨k,⟨s,s',h1,h2,h3,h4⟩,_,e1,e2⟩:=ha
 exact ⟨k,h2,Aq h3,e1,e2⟩
include hc
theorem Arc.pos {i:Nat} {a:GA} (ha:Arc t st i a):1<=a.cells.length:=by
 obtain ⟨k,h1,_,_,e⟩:=ha.cells
 rw [e];exact hc _ (C1 (by omega) (by omega))
open Classical in
theorem JiR:∀ (n:Nat) (l:List Int) (i:Nat),l.length<=n->∃ T:List (List UInt8),∀ x,RG t st i l x↔x∈T:=by
 intro n
 induction n with
 | zero=>
  intro l i hl
  have:l=[]:=List.length_eq_zero_iff.1 (by omega)
  subst this
  refine ⟨if RG t st i [] [] then [[]] else [],λ x=>?_⟩
  constructor
  ·intro h
   have:x=[]:=by
    rcases h.inv with ⟨_,h,_⟩|⟨a,y,ha,hp,_⟩
    ·exact h
    ·have h1:=ha.pos hc;have h2:=hp.length_le;rw [List.length_nil] at h2;omega
   subst this;rw [if_pos h];simp
  ·intro h
   split at h
   ·simp at h;subst h;assumption
   ·cases h
 | succ n ih=>
  intro l i hl
  have ih':∀ (a:GA),∃ T:List (List UInt8),Arc t st i a->∀ x,RG t st a.to (l.drop a.cells.length) x↔x∈T:=λ a=>by
   by_cases ha:Arc t st i a
   ·obtain ⟨T,hT⟩:=ih (l.drop a.cells.length) a.to (by have:=ha.pos hc;rw [List.length_drop];omega)
    exact ⟨T,λ _=>hT⟩
   ·exact ⟨[],λ h=>absurd h ha⟩
  refine ⟨(if RG t st i l [] then [[]] else [])++(List.range t.Rules.length).flatMap λ k:Nat=>(List.range st.length).flatMap λ j=>if Arc t st i ⟨prt t k,cls t k,j⟩/\cls t k <+: l then (Classical.choose (ih' ⟨prt t k,cls t k,j⟩)).map (prt t k++·) else [],λ x=>?_⟩
  simp only [List.mem_append,List.mem_flatMap,List.mem_range]
  constructor
  ·intro h
   rcases h.inv with ⟨rfl,rfl,_⟩|⟨a,y,ha,hp,hy,rfl⟩
   ·left;rw [if_pos h];simp
   ·right
    obtain ⟨k,h1,h2,e1,e2⟩:=ha.cells
    obtain ⟨p,c,j⟩:=a
    simp only at e1 e2 h2 hp hy;subst e1 e2
    refine ⟨k,h1,j,h2,?_⟩
    rw [if_pos ⟨ha,hp⟩]
    exact List.mem_map.2 ⟨y,(Classical.choose_spec (ih' ⟨prt t k,cls t k,j⟩) ha y).1 hy,rfl⟩
  ·rintro (h|⟨k,h1,j,h2,h⟩)
   ·split at h
    ·simp at h;subst h;assumption
    ·cases h
   ·split at h
    ·rename_i hh
     obtain ⟨y,h3,rfl⟩:=List.mem_map.1 h
     exact RG.of hh.1 hh.2 ((Classical.choose_spec (ih' ⟨prt t k,cls t k,j⟩) hh.1 y).2 h3)
    ·cases h
def KD (t:Ab) (st:List Aa) (L:List Int) (H:List HD) (T:List (List UInt8)):Prop:=Eb T/\∀ x,x∈T↔∃ h∈H,∃ y,RG t st h.sta (L.drop h.at_) y/\x=h.rest++y
theorem T4:∀ H:List HD,∃ T,KD t st L H T:=by
 intro H
 have:∃ T:List (List UInt8),∀ x,x∈T↔∃ h∈H,∃ y,RG t st h.sta (L.drop h.at_) y/\x=h.rest++y:=by
  induction H with
  | nil=>exact ⟨[],by simp⟩
  | cons h H ih=>
   obtain ⟨T,hT⟩:=ih
   obtain ⟨T0,h0⟩:=JiR (st:=st) hc _ (L.drop h.at_) h.sta (Nat.le_refl _)
   refine ⟨T0.map (h.rest++·)++T,λ x=>?_⟩
   simp only [List.mem_append,List.mem_map,hT,List.mem_cons,exists_eq_or_imp]
   constructor
   ·rintro (⟨y,h1,rfl⟩|h1)
    ·exact .inl ⟨y,(h0 y).2 h1,rfl⟩
    ·exact .inr h1
   ·rintro (⟨y,h1,rfl⟩|h1)
    ·exact .inl ⟨y,(h0 y).1 h1,rfl⟩
    ·exact .inr h1
 obtain ⟨T,hT⟩:=this
 obtain ⟨m,h1,h2⟩:=YO T
 exact ⟨m,h1,λ x=>by rw [h2,hT]⟩
end
section
variable {t:Ab} {st:List Aa} {L:List Int}
theorem KD.uniq {H:List HD} {T T':List (List UInt8)} (h:KD t st L H T) (h':KD t st L H T'):T=T':=h.1.ext h'.1 λ x=>by rw [h.2,h'.2]
def Hn (b:UInt8) (H:List HD):List HD:=H.filterMap λ h=>match h.rest with
 | c::r=>if c=b then some ⟨h.at_,h.sta,r⟩ else none
 | []=>none
theorem JW {b:UInt8} {H:List HD} {g:HD}:g∈Hn b H↔⟨g.at_,g.sta,b::g.rest⟩∈H:=by
 unfold Hn
 rw [List.mem_filterMap]
 constructor
 ·rintro ⟨⟨i,j,r⟩,h1,h2⟩
  cases r with
  | nil=>cases h2
  | cons c r=>
   simp only at h2
   split at h2
   ·rename_i e;subst e;cases h2;exact h1
   ·cases h2
 ·intro h;exact ⟨_,h,by simp⟩
def ge1 (n:Nat) (x:List UInt8):Bool:=match x with
 | c::_=>decide (n<=c.toNat)
 | []=>false
def Pu (T:List (List UInt8)) (n:Nat):List (List UInt8):=T.filter (ge1 n)
theorem Eb.filter {l:List (List UInt8)} (h:Eb l) (p:List UInt8->Bool):Eb (l.filter p):=List.Pairwise.sublist List.filter_sublist h
def OJ (H:List HD):Prop:=∀ h∈H,h.rest≠[]
theorem Z1 {H:List HD} {T:List (List UInt8)} (hT:KD t st L H T) (hO:OJ H) {n:Nat} (hn:∀ h∈H,ge1 n h.rest=false):Pu T n=[]:=by
 refine List.filter_eq_nil_iff.2 λ x hx=>?_
 obtain ⟨h,h1,y,_,rfl⟩:=(hT.2 x).1 hx
 have:=hn h h1
 have h0:=hO h h1
 cases hr:h.rest with
 | nil=>exact absurd hr h0
 | cons c r=>rw [hr] at this;simpa [ge1] using this
theorem Ya {H:List HD} {T T':List (List UInt8)} (hT:KD t st L H T) (hO:OJ H) {n:Nat} {b:UInt8} (hb:n<=b.toNat) (hl:∀ h∈H,ge1 n h.rest=true->ge1 b.toNat h.rest=true) (hT':KD t st L (Hn b H) T'):Pu T n=T'.map (b::·)++Pu T (b.toNat+1):=by
 have hgt:∀ x,x∈Pu T (b.toNat+1)->∃ c r,x=c::r/\b<c:=λ x hx=>by
  have:=(List.mem_filter.1 hx).2
  cases x with
  | nil=>cases this
  | cons c r=>exact ⟨c,r,rfl,UInt8.lt_iff_toNat_lt.2 (by simp only [ge1,decide_eq_true_eq] at this;omega)⟩
 refine Eb.ext (hT.1.filter _) ?_ λ x=>?_
 ·refine List.pairwise_append.2 ⟨?_,hT.1.filter _,?_⟩
  ·exact List.pairwise_map.2 (hT'.1.imp λ h=>JU.2 (.inr ⟨rfl,h⟩))
  ·intro x hx y hy
   obtain ⟨z,_,rfl⟩:=List.mem_map.1 hx
   obtain ⟨c,r,rfl,h⟩:=hgt y hy
   exact JU.2 (.inl h)
 ·simp only [Pu,List.mem_append,List.mem_map,List.mem_filter]
  constructor
  ·rintro ⟨h1,h2⟩
   obtain ⟨h,g1,y,g2,rfl⟩:=(hT.2 x).1 h1
   have h0:=hO h g1
   obtain ⟨i,j,r⟩:=h
   cases r with
   | nil=>exact absurd rfl h0
   | cons c r=>
    have h3:=hl _ g1 (by simpa [ge1] using h2)
    by_cases e:c=b
    ·subst e
     exact .inl ⟨r++y,(hT'.2 _).2 ⟨⟨i,j,r⟩,JW.2 g1,y,g2,rfl⟩,rfl⟩
    ·refine .inr ⟨h1,?_⟩
     simp only [ge1,List.cons_append,decide_eq_true_eq] at h3 ⊢
     have:c.toNat≠b.toNat:=λ e'=>e (UInt8.toNat_inj.1 e')
     omega
  ·rintro (⟨z,h1,rfl⟩|⟨h1,h2⟩)
   ·obtain ⟨h,g1,y,g2,rfl⟩:=(hT'.2 z).1 h1
    exact ⟨(hT.2 _).2 ⟨_,JW.1 g1,y,g2,rfl⟩,by simp [ge1,hb]⟩
   ·refine ⟨h1,?_⟩
    cases x with
    | nil=>cases h2
    | cons c r=>simp only [ge1,decide_eq_true_eq] at h2 ⊢;omega
structure Vh (t:Ab) (st:List Aa) (L:List Int) (H F:List HD) (e:Bool):Prop where
 opn:OJ F
 good:∀ h∈F,Rc t st L h.at_ h.sta/\∃ y,RG t st h.sta (L.drop h.at_) y
 ends:e=true↔∃ h∈H,h.rest=[]/\RG t st h.sta (L.drop h.at_) []
 same:∀ x,x≠[]->((∃ h∈F,∃ y,RG t st h.sta (L.drop h.at_) y/\x=h.rest++y)↔∃ h∈H,∃ y,RG t st h.sta (L.drop h.at_) y/\x=h.rest++y)
theorem Vh.tx {H F:List HD} {e:Bool} (h:Vh t st L H F e) {T T':List (List UInt8)} (hT:KD t st L H T) (hT':KD t st L F T'):T=(if e=true then [[]] else [])++T':=by
 have hne:∀ x∈T',x≠[]:=λ x hx=>by
  obtain ⟨g,g1,y,_,rfl⟩:=(hT'.2 x).1 hx
  have:=h.opn g g1
  intro e;exact this (List.append_eq_nil_iff.1 e).1
 refine Eb.ext hT.1 ?_ λ x=>?_
 ·refine List.pairwise_append.2 ⟨by split<;>simp,hT'.1,λ x hx y hy=>?_⟩
  split at hx
  ·simp at hx;subst hx
   have:=hne y hy
   cases y with
   | nil=>exact absurd rfl this
   | cons b y=>rfl
  ·cases hx
 ·rw [List.mem_append,hT.2]
  by_cases hx:x=[]
  ·subst hx
   constructor
   ·rintro ⟨g,g1,y,g2,g3⟩
    have:=List.append_eq_nil_iff.1 g3.symm
    left
    rw [if_pos (h.ends.2 ⟨g,g1,this.1,by rw [this.2] at g2;exact g2⟩)];simp
   ·rintro (h1|h1)
    ·split at h1
     ·rename_i he
      obtain ⟨g,g1,g2,g3⟩:=h.ends.1 he
      exact ⟨g,g1,[],g3,by rw [g2];rfl⟩
     ·cases h1
    ·exact absurd rfl (hne _ h1)
  ·rw [← h.same x hx,hT'.2]
   constructor
   ·exact .inr
   ·rintro (h1|h1)
    ·split at h1
     ·simp at h1;exact absurd h1 hx
     ·cases h1
    ·exact h1
theorem KD.behind {H:List HD} {T:List (List UInt8)} {g:HD} (hg:g∈H) (hy:∃ y,RG t st g.sta (L.drop g.at_) y) (hT:KD t st L H T):T≠[]:=by
 obtain ⟨y,hy⟩:=hy
 intro e0
 have:=(hT.2 (g.rest++y)).2 ⟨g,hg,y,hy,rfl⟩
 rw [e0] at this;cases this
def QE:List (List (List UInt8)×Nat)->List UInt8->List (List UInt8)
 | [],_=>[]
 | (T,n)::S,p=>(Pu T n).map (p++·)++QE S p.dropLast
def SE (T:List (List UInt8)):Nat:=(T.map λ x=>2*x.length).sum
def NH:List (List (List UInt8)×Nat)->Nat
 | []=>0
 | (T,n)::S=>SE (Pu T n)+1+NH S
theorem WN (a b:List (List UInt8)):SE (a++b)=SE a+SE b:=by simp [SE]
theorem T5 (b:UInt8):∀ T:List (List UInt8),SE (T.map (b::·))=SE T+2*T.length
 | []=>rfl
 | x::T=>by
  have:=T5 b T
  simp only [SE,List.map_cons,List.sum_cons,List.length_cons] at this ⊢
  omega
theorem JdD {H F:List HD} {e:Bool} {T T' TF:List (List UInt8)} {n:Nat} {b:UInt8} {S:List (List (List UInt8)×Nat)} {p:List UInt8} (hT:KD t st L H T) (hO:OJ H) (hb:n<=b.toNat) (hl:∀ h∈H,ge1 n h.rest=true->ge1 b.toNat h.rest=true) (hT':KD t st L (Hn b H) T') (hne:T'≠[]) (hs:Vh t st L (Hn b H) F e) (hF:KD t st L F TF) :
  QE ((T,n)::S) p=(if e=true then [p++[b]] else [])++QE ((TF,0)::(T,b.toNat+1)::S) (p++[b])/\NH ((TF,0)::(T,b.toNat+1)::S)<NH ((T,n)::S):=by
 have h1:=Ya hT hO hb hl hT'
 have h2:=hs.tx hT' hF
 have h3:Pu TF 0=TF:=by
  refine List.filter_eq_self.2 λ x hx=>?_
  obtain ⟨g,g1,y,_,rfl⟩:=(hF.2 x).1 hx
  have:=hs.opn g g1
  cases hr:g.rest with
  | nil=>exact absurd hr this
  | cons c r=>simp [ge1]
 constructor
 ·simp only [QE,h1,h3,List.dropLast_concat,List.map_append,List.append_assoc]
  rw [h2]
  split
  ·simp
  ·simp
 ·simp only [NH,h1,h3,WN,T5]
  have h4:1<=T'.length:=List.length_pos_iff.2 hne
  have h5:SE TF<=SE T':=by
   rw [h2,WN];omega
  omega
theorem JdE {H:List HD} {T:List (List UInt8)} {n:Nat} {S:List (List (List UInt8)×Nat)} {p:List UInt8} (hT:KD t st L H T) (hO:OJ H) (hn:∀ h∈H,ge1 n h.rest=false):QE ((T,n)::S) p=QE S p.dropLast/\NH S<NH ((T,n)::S):=by
 simp only [QE,NH,Z1 hT hO hn,List.map_nil,List.nil_append,true_and,SE]
 omega
end
end Go.AI
end
section
namespace Go.AI
def Gd (t:Ab) (st:List Aa) (L:List Int) (i j:Nat):Prop:=Rc t st L i j/\∃ y,RG t st j (L.drop i) y
def Drv (t:Ab) (st:List Aa) (L:List Int) (H:List HD) (h:HD):Prop:=∀ y,RG t st h.sta (L.drop h.at_) y->∃ g∈H,∃ y',RG t st g.sta (L.drop g.at_) y'/\g.rest++y'=h.rest++y
def DnH (t:Ab) (st:List Aa) (L:List Int) (K:HD->Prop) (e:Bool) (h:HD):Prop:=(h.at_=L.length->(∃ q,st[h.sta]? = some q/\AG t q=true)->e=true)/\∀ a,Arc t st h.sta a->a.cells <+: L.drop h.at_->Gd t st L (h.at_+a.cells.length) a.to->K ⟨h.at_+a.cells.length,a.to,a.print⟩
structure SI (t:Ab) (st:List Aa) (L:List Int) (H:List HD) (K X:HD->Prop) (op fd:List HD) (e:Bool):Prop where
 kg:∀ h,K h->Gd t st L h.at_ h.sta/\Drv t st L H h
 opn:∀ h∈op,K h/\h.rest=[]
 fnd:∀ h∈fd,K h/\h.rest≠[]
 cf:∀ h,K h->h.rest≠[]->h∈fd
 co:∀ h,K h->h.rest=[]->h∈op\/X h\/DnH t st L K e h
 en:e=true->∃ h,K h/\h.rest=[]/\h.at_=L.length/\∃ q,st[h.sta]? = some q/\AG t q=true
section
variable {t:Ab} {st:List Aa} {L:List Int} {H:List HD} {K X:HD->Prop} {op fd:List HD} {e:Bool}
theorem DnH.mono {K':HD->Prop} {e':Bool} (hK:∀ h,K h->K' h) (he:e=true->e'=true) {h:HD} (hd:DnH t st L K e h):DnH t st L K' e' h:=⟨λ h1 h2=>he (hd.1 h1 h2),λ a h1 h2 h3=>hK _ (hd.2 a h1 h2 h3)⟩
theorem SI.start:SI t st L H (λ _=>False) X [] [] false:=⟨λ _ h=>h.elim,λ _ h=>by simp at h,λ _ h=>by simp at h,λ _ h=>h.elim,λ _ h=>h.elim,λ h=>by cases h⟩
theorem SI.addO (hS:SI t st L H K X op fd e) {h:HD} (hg:Gd t st L h.at_ h.sta) (hd:Drv t st L H h) (hr:h.rest=[]):SI t st L H (λ g=>K g\/g=h) X (op++[h]) fd e:=by
 refine ⟨?_,?_,λ g hg=>⟨.inl (hS.fnd g hg).1,(hS.fnd g hg).2⟩,?_,?_,λ he=>?_⟩
 ·rintro g (hg'|rfl)
  ·exact hS.kg g hg'
  ·exact ⟨hg,hd⟩
 ·intro g hg'
  rcases List.mem_append.1 hg' with h1|h1
  ·exact ⟨.inl (hS.opn g h1).1,(hS.opn g h1).2⟩
  ·simp at h1;subst h1;exact ⟨.inr rfl,hr⟩
 ·rintro g (hg'|rfl) hn
  ·exact hS.cf g hg' hn
  ·exact absurd hr hn
 ·rintro g (hg'|rfl) hn
  ·rcases hS.co g hg' hn with h1|h1|h1
   ·exact .inl (by simp [h1])
   ·exact .inr (.inl h1)
   ·exact .inr (.inr (h1.mono (λ _=>.inl) id))
  ·exact .inl (by simp)
 ·obtain ⟨g,h1,h2⟩:=hS.en he;exact ⟨g,.inl h1,h2⟩
theorem SI.addF (hS:SI t st L H K X op fd e) {h:HD} (hg:Gd t st L h.at_ h.sta) (hd:Drv t st L H h) (hr:h.rest≠[]):SI t st L H (λ g=>K g\/g=h) X op (fd++[h]) e:=by
 refine ⟨?_,λ g hg=>⟨.inl (hS.opn g hg).1,(hS.opn g hg).2⟩,?_,?_,?_,λ he=>?_⟩
 ·rintro g (hg'|rfl)
  ·exact hS.kg g hg'
  ·exact ⟨hg,hd⟩
 ·intro g hg'
  rcases List.mem_append.1 hg' with h1|h1
  ·exact ⟨.inl (hS.fnd g h1).1,(hS.fnd g h1).2⟩
  ·simp at h1;subst h1;exact ⟨.inr rfl,hr⟩
 ·rintro g (hg'|rfl) hn
  ·have:=hS.cf g hg' hn;simp [this]
  ·simp
 ·rintro g (hg'|rfl) hn
  ·rcases hS.co g hg' hn with h1|h1|h1
   ·exact .inl h1
   ·exact .inr (.inl h1)
   ·exact .inr (.inr (h1.mono (λ _=>.inl) id))
  ·exact absurd hn hr
 ·obtain ⟨g,h1,h2⟩:=hS.en he;exact ⟨g,.inl h1,h2⟩
theorem SI.drv (hS:SI t st L H K X op fd e) {h:HD} (hk:K h) (hr:h.rest=[]) {a:GA} (ha:Arc t st h.sta a) (hp:a.cells <+: L.drop h.at_):Drv t st L H ⟨h.at_+a.cells.length,a.to,a.print⟩:=by
 intro y hy
 have h1:=(hS.kg h hk).2 (a.print++y) (RG.of ha hp (by rw [List.drop_drop];exact hy))
 rw [hr] at h1
 exact h1
theorem SI.pop {h:HD} (hS:SI t st L H K (λ _=>False) (op++[h]) fd e) {e':Bool} (he:e'=true↔e=true\/(h.at_=L.length/\∃ q,st[h.sta]? = some q/\AG t q=true)):SI t st L H K (λ g=>g=h) op fd e':=by
 have hk:=hS.opn h (by simp)
 refine ⟨hS.kg,λ g hg=>hS.opn g (by simp [hg]),hS.fnd,hS.cf,λ g hg hr=>?_,λ h1=>?_⟩
 ·rcases hS.co g hg hr with h1|h1|h1
  ·rcases List.mem_append.1 h1 with h1|h1
   ·exact .inl h1
   ·simp at h1;exact .inr (.inl h1)
  ·exact h1.elim
  ·exact .inr (.inr (h1.mono (λ _=>id) λ h2=>he.2 (.inl h2)))
 ·rcases he.1 h1 with h2|⟨h2,h3⟩
  ·exact hS.en h2
  ·exact ⟨h,hk.1,hk.2,h2,h3⟩
theorem SI.close {h:HD} (hS:SI t st L H K (λ g=>g=h) op fd e) (hd:DnH t st L K e h):SI t st L H K (λ _=>False) op fd e:=by
 refine ⟨hS.kg,hS.opn,hS.fnd,hS.cf,λ g hg hr=>?_,hS.en⟩
 rcases hS.co g hg hr with h1|rfl|h1
 ·exact .inl h1
 ·exact .inr (.inr hd)
 ·exact .inr (.inr h1)
theorem SI.fin (hc:∀ r∈t.Rules,1<=r.Cells.length) (hS:SI t st L H K (λ _=>False) [] fd e) (hK:∀ h∈H,Gd t st L h.at_ h.sta->K h) (hH:∀ h∈H,(∃ y,RG t st h.sta (L.drop h.at_) y)->Rc t st L h.at_ h.sta):Vh t st L H fd e:=by
 have dn:∀ h,K h->h.rest=[]->DnH t st L K e h:=λ h hk hr=>by
  rcases hS.co h hk hr with h1|h1|h1
  ·cases h1
  ·exact h1.elim
  ·exact h1
 refine ⟨λ h hh=>(hS.fnd h hh).2,λ h hh=>(hS.kg h (hS.fnd h hh).1).1,⟨λ he=>?_,?_⟩,λ x hx=>⟨?_,?_⟩⟩
 ·obtain ⟨h,hk,hr,hN,q,h1,h2⟩:=hS.en he
  have hy:RG t st h.sta (L.drop h.at_) []:=by rw [hN,List.drop_length];exact .nil h1 h2
  obtain ⟨g,g1,y,g2,g3⟩:=(hS.kg h hk).2 [] hy
  rw [hr] at g3
  obtain ⟨k1,k2⟩:=List.append_eq_nil_iff.1 g3
  subst k2
  exact ⟨g,g1,k1,g2⟩
 ·rintro ⟨g,g1,g2,g3⟩
  have main:∀ (n:Nat) (h:HD),K h->h.rest=[]->L.length-h.at_<=n->RG t st h.sta (L.drop h.at_) []->e=true:=by
   intro n
   induction n with
   | zero=>
    intro h hk hr hn hy
    have hle:=(hS.kg h hk).1.1.le
    have hN:h.at_=L.length:=by omega
    rw [hN,List.drop_length] at hy
    rcases hy.inv with ⟨_,_,q,h1,h2⟩|⟨a,y,ha,hp,_⟩
    ·exact (dn h hk hr).1 hN ⟨q,h1,h2⟩
    ·have h1:=ha.pos hc;have h2:=hp.length_le;rw [List.length_nil] at h2;omega
   | succ n ih=>
    intro h hk hr hn hy
    have hle:=(hS.kg h hk).1.1.le
    rcases hy.inv with ⟨h0,_,q,h1,h2⟩|⟨a,y,ha,hp,h1,h2⟩
    ·have:h.at_=L.length:=by have:=List.drop_eq_nil_iff.1 h0;omega
     exact (dn h hk hr).1 this ⟨q,h1,h2⟩
    ·obtain ⟨k1,k2⟩:=List.append_eq_nil_iff.1 h2.symm
     subst k2
     rw [List.drop_drop] at h1
     have hk':=(dn h hk hr).2 a ha hp ⟨.step (hS.kg h hk).1.1 ha hp,_,h1⟩
     exact ih _ hk' k1 (by have:=ha.pos hc;show L.length-(h.at_+a.cells.length)<=n;omega) h1
  exact main _ g (hK g g1 ⟨hH g g1 ⟨_,g3⟩,_,g3⟩) g2 (Nat.le_refl _) g3
 ·rintro ⟨h,h1,y,h2,rfl⟩
  obtain ⟨g,g1,y',g2,g3⟩:=(hS.kg h (hS.fnd h h1).1).2 y h2
  exact ⟨g,g1,y',g2,g3.symm⟩
 ·rintro ⟨g,g1,y,g2,rfl⟩
  have main:∀ (n:Nat) (h:HD),K h->L.length-h.at_<=n->∀ y,RG t st h.sta (L.drop h.at_) y->h.rest++y≠[]->∃ f∈fd,∃ y',RG t st f.sta (L.drop f.at_) y'/\h.rest++y=f.rest++y':=by
   intro n
   induction n with
   | zero=>
    intro h hk hn y hy hne
    by_cases hr:h.rest=[]
    ·have hle:=(hS.kg h hk).1.1.le
     have hN:h.at_=L.length:=by omega
     rw [hN,List.drop_length] at hy
     rcases hy.inv with ⟨_,h2,_⟩|⟨a,y,ha,hp,_⟩
     ·rw [hr,h2] at hne;exact absurd rfl hne
     ·have h1:=ha.pos hc;have h2:=hp.length_le;rw [List.length_nil] at h2;omega
    ·exact ⟨h,hS.cf h hk hr,y,hy,rfl⟩
   | succ n ih=>
    intro h hk hn y hy hne
    by_cases hr:h.rest=[]
    ·rcases hy.inv with ⟨_,h2,_⟩|⟨a,y',ha,hp,h1,h2⟩
     ·rw [hr,h2] at hne;exact absurd rfl hne
     ·subst h2
      rw [List.drop_drop] at h1
      have hk':=(dn h hk hr).2 a ha hp ⟨.step (hS.kg h hk).1.1 ha hp,_,h1⟩
      rw [hr] at hne ⊢
      have hle:=(hS.kg h hk).1.1.le
      exact ih _ hk' (by have:=ha.pos hc;show L.length-(h.at_+a.cells.length)<=n;omega) y' h1 hne
    ·exact ⟨h,hS.cf h hk hr,y,hy,rfl⟩
  exact main _ g (hK g g1 ⟨hH g g1 ⟨_,g2⟩,_,g2⟩) (Nat.le_refl _) y g2 hx
end
end Go.AI
end
section
namespace Go.AI
structure Nf (t:Ab) (st:List Aa) (al:List Bool) (op:List Int) (q:Option (Nat×List Int×Nat)):Prop where
 len:al.length=st.length
 snd:∀ j:Nat,al[j]? = some true->FB t st j
 acc:∀ (j:Nat) s,st[j]? = some s->AG t s=true->al[j]? = some true
 opn:∀ x∈op,∃ j:Nat,x=(j:Int)/\al[j]? = some true
 cl:∀ i k j,Edge t st i k j->al[j]? = some true->al[i]? = some true\/(j:Int)∈op\/∃ l m p,q=some (j,l,m)/\m<=p/\l[p]? = some (i:Int)
 siz:2*Is al+op.length<=3000
theorem JdF {t:Ab} {st:List Aa} (hF:EC t st) (fr:List (List Int)):Tot (λ n=>whl (λ (x:((List Bool)×(List Int)×Int))=>Dj n t (st,fr) x.1 x.2.1 x.2.2) n (List.replicate st.length false,([]:List Int),0)) (λ r=>Nf t st r.1 r.2 none):=by
 have hlen:=hF.len
 refine Tot.upto (body:=λ n x=>Dj n t (st,fr) x.1 x.2.1 x.2.2) st.length (λ i x=>x.2.2=(i:Int)/\x.1.length=st.length/\(∀ j:Nat,x.1[j]? = some true↔j<i/\∃ s,st[j]? = some s/\AG t s=true)/\(∀ y∈x.2.1,∃ j:Nat,y=(j:Int)/\x.1[j]? = some true)/\(∀ j:Nat,x.1[j]? = some true->(j:Int)∈x.2.1)/\x.2.1.length<=i) ?_ ?_ _ ⟨rfl,by simp,λ j=>?_,by simp,λ j hj=>?_,by simp⟩
 ·rintro i ⟨al,op,i'⟩ hi ⟨e,h1,h2,h3,h4,h5⟩
  simp only at e h1 h2 h3 h4 h5
  subst e
  have hal:i<al.length:=by rw [h1];exact hi
  have hgi:st[i]? = some st[i]:=Jkw hi
  unfold Dj
  have hJ:∀ al' op',(al'.length=st.length/\(∀ j:Nat,al'[j]? = some true↔j<i+1/\∃ s,st[j]? = some s/\AG t s=true)/\(∀ y∈op',∃ j:Nat,y=(j:Int)/\al'[j]? = some true)/\(∀ j:Nat,al'[j]? = some true->(j:Int)∈op')/\op'.length<=i+1)->Tot (λ n=>DP n (i:Int) al' op') (Rd2 (λ x:List Bool×List Int×Int=>x.2.2=((i+1:Nat):Int)/\x.1.length=st.length/\(∀ j:Nat,x.1[j]? = some true↔j<i+1/\∃ s,st[j]? = some s/\AG t s=true)/\(∀ y∈x.2.1,∃ j:Nat,y=(j:Int)/\x.1[j]? = some true)/\(∀ j:Nat,x.1[j]? = some true->(j:Int)∈x.2.1)/\x.2.1.length<=i+1) (λ r=>Nf t st r.1 r.2 none)):=by
   intro al' op' h
   unfold DP
   exact Tot.pure ⟨CG (by omega),h⟩
  refine Tot.iteT (by simpa using hi) (Tot.bindC (Bj hi) (Tot.bindA (λ n=>Su n t _) (Tot.ite (λ hc=>?_) (λ hc=>?_))))
  ·refine Tot.bindC (Bj hal) (Tot.bindC (Sz hal) (Tot.bindC (NF (by simp;omega)) (hJ _ _ ⟨by rw [JkM];exact h1,λ j=>?_,λ y hy=>?_,λ j hj=>?_,by simp only [List.length_append,List.length_singleton];omega⟩)))
   ·by_cases e:i=j
    ·subst e
     rw [JkG hal]
     exact ⟨λ _=>⟨by omega,_,hgi,hc⟩,λ _=>rfl⟩
    ·rw [JkL e,h2 j]
     exact ⟨λ h=>⟨by omega,h.2⟩,λ h=>⟨by omega,h.2⟩⟩
   ·rcases List.mem_append.1 hy with hy|hy
    ·obtain ⟨j,rfl,hj⟩:=h3 y hy
     refine ⟨j,rfl,?_⟩
     by_cases e:i=j
     ·subst e;rw [JkG hal]
     ·rw [JkL e];exact hj
    ·simp at hy
     exact ⟨i,hy,JkG hal⟩
   ·by_cases e:i=j
    ·subst e;simp
    ·rw [JkL e] at hj
     exact List.mem_append_left _ (h4 j hj)
  ·refine hJ _ _ ⟨h1,λ j=>?_,h3,h4,Nat.le_succ_of_le h5⟩
   rw [h2 j]
   refine ⟨λ h=>⟨by omega,h.2⟩,λ h=>⟨?_,h.2⟩⟩
   rcases Nat.lt_or_ge j i with hj|hj
   ·exact hj
   ·have:j=i:=by omega
    subst this
    obtain ⟨_,s,hs,ha⟩:=h
    rw [hgi] at hs
    cases hs
    rw [ha] at hc
    cases hc
 ·rintro ⟨al,op,i'⟩ ⟨e,h1,h2,h3,h4,h5⟩
  simp only at e h1 h2 h3 h4 h5
  subst e
  unfold Dj
  refine Tot.iteF (by simp) (Tot.pure ⟨h1,λ j hj=>?_,λ j s hs ha=>?_,h3,λ i k j he hj=>.inr (.inl (h4 j hj)),?_⟩)
  ·obtain ⟨_,s,hs,ha⟩:=(h2 j).1 hj
   exact .acc j s hs ha
  ·exact (h2 j).2 ⟨Aq hs,s,hs,ha⟩
  ·have:=JeW al
   simp only
   omega
 ·rw [List.getElem?_replicate]
  constructor
  ·intro h;split at h<;>cases h
  ·intro h;omega
 ·simp only at hj
  rw [List.getElem?_replicate] at hj
  split at hj<;>cases hj
theorem JdG {t:Ab} {st:List Aa} {fr:List (List Int)} (hF:EC t st) (hR:Dy t st fr st.length 0) {q:Nat} {l:List Int} (hl:fr[q]? = some l) (hq:FB t st q) {al:List Bool} {op:List Int} (h0:Nf t st al op (some (q,l,0))) :
  Tot (λ n=>whl (λ (x:((List Bool)×(List Int)×Int))=>Dk n (st,fr) l x.1 x.2.1 x.2.2) n (al,op,0)) (λ r=>Nf t st r.1 r.2 none/\2*Is r.1+r.2.length<=2*Is al+op.length):=by
 have hlen:=hF.len
 have hll:=hR.small q l hl
 refine Tot.upto (body:=λ n x=>Dk n (st,fr) l x.1 x.2.1 x.2.2) l.length (λ m x=>x.2.2=(m:Int)/\Nf t st x.1 x.2.1 (some (q,l,m))/\2*Is x.1+x.2.1.length<=2*Is al+op.length) ?_ ?_ _ ⟨rfl,h0,Nat.le_refl _⟩
 ·rintro m ⟨al',op',m'⟩ hm ⟨e,hB,hc⟩
  simp only at e hB hc
  subst e
  have hgm:l[m]? = some l[m]:=Jkw hm
  obtain ⟨b,sb,kb,sq,hb,hsb,hkb,hsq,hst⟩:=hR.sound q l hl _ (List.getElem_mem hm)
  have hbl:b<al'.length:=by rw [hB.len];exact Aq hsb
  have hE:Edge t st b kb q:=⟨sb,sq,hsb,hkb,hsq,hst⟩
  have hJ:∀ al'' op'',Nf t st al'' op'' (some (q,l,m+1))->2*Is al''+op''.length<=2*Is al+op.length->Tot (λ n=>DQ n (m:Int) al'' op'') (Rd2 (λ x:List Bool×List Int×Int=>x.2.2=((m+1:Nat):Int)/\Nf t st x.1 x.2.1 (some (q,l,m+1))/\2*Is x.1+x.2.1.length<=2*Is al+op.length) (λ r=>Nf t st r.1 r.2 none/\2*Is r.1+r.2.length<=2*Is al+op.length)):=by
   intro al'' op'' h h'
   unfold DQ
   exact Tot.pure ⟨CG (by omega),h,h'⟩
  unfold Dk
  refine Tot.iteT (by simpa using hm) (Tot.bindC (Bj hm) ?_)
  rw [hb]
  rw [hb] at hgm
  refine Tot.bindC (Bj hbl) (Tot.ite (λ hf=>?_) (λ hf=>?_))
  ·have hbf:al'[b]? = some false:=by rw [Jkw hbl];simpa using hf
   have hcs:=WL hbf
   have hsz:=hB.siz
   refine Tot.bindC (Bj hbl) (Tot.bindC (Sz hbl) (Tot.bindC (NF (by simp;omega)) (hJ _ _ ⟨by rw [JkM];exact hB.len,λ j hj=>?_,λ j s h1 h2=>?_,λ x hx=>?_,λ i k j he hj=>?_,?_⟩ ?_)))
   ·by_cases e:b=j
    ·subst e;exact .step b kb q hE hq
    ·rw [JkL e] at hj;exact hB.snd j hj
   ·by_cases e:b=j
    ·subst e;rw [JkG hbl]
    ·rw [JkL e];exact hB.acc j s h1 h2
   ·rcases List.mem_append.1 hx with hx|hx
    ·obtain ⟨j,rfl,hj⟩:=hB.opn x hx
     refine ⟨j,rfl,?_⟩
     by_cases e:b=j
     ·subst e;rw [JkG hbl]
     ·rw [JkL e];exact hj
    ·simp at hx
     exact ⟨b,hx,JkG hbl⟩
   ·by_cases ei:b=i
    ·subst ei;rw [JkG hbl];exact .inl rfl
    ·rw [JkL ei]
     by_cases e:b=j
     ·subst e;exact .inr (.inl (by simp))
     ·rw [JkL e] at hj
      rcases hB.cl i k j he hj with h|h|⟨l',m',p,h1,h2,h3⟩
      ·exact .inl h
      ·exact .inr (.inl (List.mem_append_left _ h))
      ·cases h1
       refine .inr (.inr ⟨l,m+1,p,rfl,?_,h3⟩)
       rcases Nat.lt_or_ge m p with h|h
       ·exact h
       ·have:p=m:=by omega
        subst this
        rw [hgm] at h3
        exact absurd (Int.ofNat_inj.1 (Option.some.inj h3)) ei
   ·simp only [List.length_append,List.length_singleton];omega
   ·simp only [List.length_append,List.length_singleton];omega
  ·have hbt:al'[b]? = some true:=by rw [Jkw hbl];simpa using hf
   refine hJ _ _ ⟨hB.len,hB.snd,hB.acc,hB.opn,λ i k j he hj=>?_,hB.siz⟩ hc
   rcases hB.cl i k j he hj with h|h|⟨l',m',p,h1,h2,h3⟩
   ·exact .inl h
   ·exact .inr (.inl h)
   ·cases h1
    rcases Nat.lt_or_ge m p with h|h
    ·exact .inr (.inr ⟨l,m+1,p,rfl,h,h3⟩)
    ·have:p=m:=by omega
     subst this
     rw [hgm] at h3
     have:=Int.ofNat_inj.1 (Option.some.inj h3)
     subst this
     exact .inl hbt
 ·rintro ⟨al',op',m'⟩ ⟨e,hB,hc⟩
  simp only at e hB hc
  subst e
  unfold Dk
  refine Tot.iteF (by simp) (Tot.pure ⟨⟨hB.len,hB.snd,hB.acc,hB.opn,λ i k j he hj=>?_,hB.siz⟩,hc⟩)
  rcases hB.cl i k j he hj with h|h|⟨l',m',p,h1,h2,h3⟩
  ·exact .inl h
  ·exact .inr (.inl h)
  ·cases h1
   have:=Aq h3
   omega
theorem Z2 {t:Ab} (ht:Fn t):Tot (λ n=>HN n t) (Ge t (AN t)):=by
 obtain ⟨hF,hD⟩:=CF ht
 obtain ⟨fr,hR,hE⟩:=Sy ht
 unfold HN
 refine Tot.bindE hE ?_
 generalize AN t=st at *
 have hlen:=hF.len
 have hmk:mkl 1 ((st.length:Nat):Int) false=some (List.replicate st.length false):=by
  unfold mkl
  rw [if_pos (by simp;omega),Int.toNat_natCast]
 refine Tot.bindC hmk (Tot.bind (JdF hF fr) ?_)
 rintro ⟨al,op⟩ hB
 simp only at hB
 refine Tot.bind (R:=Ge t st) ?_ λ y hy=>Tot.pure hy
 refine Tot.whl (body:=λ n x=>EM n (st,fr) x.1 x.2) (λ c x=>c=2*Is x.1+x.2.length/\Nf t st x.1 x.2 none) ?_ _ _ ⟨rfl,hB⟩
 rintro c ⟨al,op⟩ ⟨rfl,hB⟩
 simp only at hB
 unfold EM
 refine Tot.ite (λ hc=>?_) (λ hc=>?_)
 ·have hpos:0<op.length:=by simpa using hc
  have hsz:=hB.siz
  obtain ⟨op',x,rfl⟩:∃ op' x,op=op'++[x]:=⟨op.dropLast,op.getLast (by intro h;subst h;simp at hpos),(List.dropLast_concat_getLast _).symm⟩
  have hn:Ec .i64 ((List.length (op'++[x]):Nat):Int) 1=(op'.length:Int):=by
   simp only [List.length_append,List.length_singleton] at hsz ⊢
   rw [ND (by omega) (by omega)];omega
  have hx:(op'++[x])[op'.length]? = some x:=by simp
  have hsub:sub (op'++[x]) 0 (op'.length:Int)=some op':=by
   unfold sub
   rw [if_pos (by simp;omega)]
   simp
  obtain ⟨q,rfl,hq⟩:=hB.opn x (by simp)
  have hqF:q<fr.length:=by rw [hR.len,← hB.len];exact Aq hq
  simp only [hn]
  refine Tot.bindC (ED hx) (Tot.bindC hsub (Tot.bindC (Bj hqF) ?_))
  have hlq:fr[q]? = some fr[q]:=Jkw hqF
  have hB':Nf t st al op' (some (q,fr[q],0)):=by
   refine ⟨hB.len,hB.snd,hB.acc,λ y hy=>hB.opn y (List.mem_append_left _ hy),λ i k j he hj=>?_,by simp at hsz;omega⟩
   rcases hB.cl i k j he hj with h|h|⟨_,_,_,h,_⟩
   ·exact .inl h
   ·rcases List.mem_append.1 h with h|h
    ·exact .inr (.inl h)
    ·simp at h
     have hjq:j=q:=by omega
     subst hjq
     obtain ⟨s,s',a1,a2,a3,a4⟩:=he
     have hm:=hR.compl j _ hlq i s k s' (.inl (Aq a1)) a1 a2 a3 a4
     obtain ⟨p,hp,hp'⟩:=List.getElem_of_mem hm
     exact .inr (.inr ⟨_,0,p,rfl,by omega,by rw [Jkw hp,hp']⟩)
   ·cases h
  refine Tot.bind (JdG hF hR hlq (hB.snd q hq) hB') λ y hy=>Tot.pure ⟨_,?_,rfl,hy.1⟩
  have:=hy.2
  simp only [List.length_append,List.length_singleton]
  omega
 ·have h0:op=[]:=by
   have:¬ 0<op.length:=by simpa using hc
   exact List.eq_nil_of_length_eq_zero (by omega)
  subst h0
  refine Tot.pure (Ge.of hB.len hB.snd hB.acc λ i k j he hj=>?_)
  rcases hB.cl i k j he hj with h|h|⟨_,_,_,h,_⟩
  ·exact h
  ·simp at h
  ·cases h
end Go.AI
end
section
namespace Go.AI
theorem Z3 (a b:Int) (x y:List Int):C5 (a::x) (b::y)=if a=b then C5 x y+1 else 0:=rfl
theorem JdH (y:List Int):C5 [] y=0:=by cases y<;>rfl
theorem Z4 (x:List Int):C5 x []=0:=by cases x<;>rfl
theorem Pv (x y:List Int) (hx:x.length<9223372036854775807):Ev (λ n=>Er n x y) ((C5 x y:Nat):Int):=by
 refine Tot.ev ?_
 unfold Er
 refine Tot.bind (R:=λ r=>r=((C5 x y:Nat):Int)) ?_ (λ r hr=>by subst hr;exact Tot.pure rfl)
 refine Tot.whl (body:=λ n s=>D0 n x y s) (λ k s=>∃ i:Nat,s=(i:Int)/\k=x.length-i/\i<=x.length/\i+C5 (x.drop i) (y.drop i)=C5 x y) ?_ x.length 0 ⟨0,rfl,rfl,by omega,by simp⟩
 rintro k s ⟨i,rfl,rfl,hi,he⟩
 unfold D0
 by_cases hc:i<x.length/\i<y.length
 ·obtain ⟨h1,h2⟩:=hc
  have hc:(decide ((i:Int)<((x.length:Nat):Int))&&decide ((i:Int)<((y.length:Nat):Int)))=true:=by simp;omega
  rw [List.drop_eq_getElem_cons h1,List.drop_eq_getElem_cons h2,Z3] at he
  refine Tot.bindC (y:=x[i]) (by rw [if_pos hc];exact Bj h1) (Tot.bindC (y:=y[i]) (by rw [if_pos hc];exact Bj h2) ?_)
  by_cases e:x[i]=y[i]
  ·rw [if_pos e] at he
   exact Tot.iteT (by rw [hc];simp [e]) (Tot.pure ⟨x.length-(i+1),by omega,i+1,EE (by omega),rfl,by omega,by omega⟩)
  ·rw [if_neg e] at he
   refine Tot.iteF (by rw [hc];simp [e]) (Tot.pure ?_)
   show (i:Int)=((C5 x y:Nat):Int)
   omega
 ·have hc':(decide ((i:Int)<((x.length:Nat):Int))&&decide ((i:Int)<((y.length:Nat):Int)))=false:=by
   rw [Bool.eq_false_iff];intro h;simp at h;omega
  have h0:C5 (x.drop i) (y.drop i)=0:=by
   by_cases h:i<x.length
   ·rw [List.drop_eq_nil_of_le (show y.length<=i by omega),Z4]
   ·rw [List.drop_eq_nil_of_le (show x.length<=i by omega),JdH]
  refine Tot.bindC (y:=default) (by rw [if_neg (by rw [hc'];simp)]) (Tot.bindC (y:=default) (by rw [if_neg (by rw [hc'];simp)]) (Tot.iteF (by rw [hc'];rfl) (Tot.pure ?_)))
  show (i:Int)=((C5 x y:Nat):Int)
  omega
structure Mp (t:Ab) (st:List Aa) (i m:Nat) (l:List K7):Prop where
 len:l.length<=m
 snd:∀ a∈l,∃ j k:Nat,a.To=(j:Int)/\Edge t st i k j/\FB t st j/\a.Print=prt t k/\a.Cells=cls t k
 cov:∀ k j:Nat,k<m->Edge t st i k j->FB t st j->(⟨prt t k,cls t k,(j:Int)⟩:K7)∈l
structure Tg (t:Ab) (st:List Aa) (g:An):Prop where
 len:g.Arcs.length=st.length
 acc:∀ (i:Nat) s,st[i]? = some s->g.Accepts[i]? = some (AG t s)
 alive:Ge t st g.Alive
 arcs:∀ (i:Nat) l,g.Arcs[i]? = some l->Mp t st i t.Rules.length l
structure GJ (t:Ab) (st:List Aa) (al:List Bool) (i m c:Nat) (g:An):Prop where
 len:g.Arcs.length=st.length
 aln:g.Accepts.length=st.length
 acc:∀ (j:Nat) s,j<c->st[j]? = some s->g.Accepts[j]? = some (AG t s)
 alive:g.Alive=al
 arcs:∀ (j:Nat) l,g.Arcs[j]? = some l->(j<i->Mp t st j t.Rules.length l)/\(j=i->Mp t st i m l)/\(i<j->l=[])
theorem Mp.nil (t:Ab) (st:List Aa) (i:Nat):Mp t st i 0 []:=⟨Nat.le_refl _,λ a h=>by simp at h,λ k j h=>by omega⟩
theorem Z5 {t:Ab} (ht:Fn t) {st:List Aa} (hF:EC t st) (hD:∀ i,Sx t i st) {nb:List (Aa×Int)} (hN:K4 st nb) {al:List Bool} (hal:Ge t st al) (r24:List Aa) {i:Nat} {s:Aa} (hi:st[i]? = some s) {g:An} (hg:GJ t st al i 0 (i+1) g) :
  Tot (λ n=>whl (λ (x:(An×Int))=>Cg n t r24 nb (i:Int) s x.1 x.2) n (g,0)) (GJ t st al (i+1) 0 (i+1)):=by
 have hil:=Aq hi
 have h768:=hF.len
 have hr:=ht.1
 refine Tot.upto (body:=λ n (x:An×Int)=>Cg n t r24 nb (i:Int) s x.1 x.2) t.Rules.length (λ m x=>x.2=(m:Int)/\GJ t st al i m (i+1) x.1) ?_ ?_ _ ⟨rfl,hg⟩
 ·rintro m ⟨g,_⟩ hm ⟨rfl,hg⟩
  unfold Cg
  refine Tot.iteT (by simp;omega) (Tot.bindC (JT (k:=(m:Int)) (by omega) (by omega)) (Tot.bindA (λ n=>QN ht.short n s (m:Nat)) ?_))
  have same:∀ (no:¬∃ j,Edge t st i m j/\FB t st j),GJ t st al i (m+1) (i+1) g:=λ no=>by
   refine ⟨hg.len,hg.aln,hg.acc,hg.alive,λ j l hl=>?_⟩
   obtain ⟨h1,h2,h3⟩:=hg.arcs j l hl
   refine ⟨h1,λ e=>?_,h3⟩
   obtain ⟨q1,q2,q3⟩:=h2 e
   refine ⟨by omega,q2,λ k j hk hE hL=>?_⟩
   by_cases e:k=m
   ·subst e;exact absurd ⟨j,hE,hL⟩ no
   ·exact q3 k j (by omega) hE hL
  have nxt:∀ g',GJ t st al i (m+1) (i+1) g'->Tot (λ n=>C9 n (m:Int) g') (Rd2 (λ x=>x.2=((m+1:Nat):Int)/\GJ t st al i (m+1) (i+1) x.1) (GJ t st al (i+1) 0 (i+1))):=λ g' hg'=>Tot.pure ⟨CG (by omega),hg'⟩
  by_cases hs:(AU t s (m:Nat)).2=true
  ·have hmem:=hD (i+1) i s (by omega) hi m hm hs
   obtain ⟨j,hjl,hj⟩:=List.mem_iff_getElem.1 hmem
   have hj':st[j]? = some (AU t s (m:Nat)).1:=by rw [Jkw hjl,hj]
   have hE:Edge t st i m j:=⟨s,_,hi,hm,hj',by rw [← hs]⟩
   have hnum:Option.getD (Dg (AU t s (m:Nat)).1 nb) 0=(j:Int):=by rw [hN,Dq hF.nodup hj'];rfl
   have hjal:j<al.length:=by rw [hal.1];exact hjl
   refine Tot.bindC (y:=al[j]) (by rw [if_pos hs,hnum,hg.alive];exact Bj hjal) ?_
   by_cases hL:al[j]=true
   ·have hLj:FB t st j:=(hal.2 j).1 (by rw [Jkw hjal,hL])
    have hial:i<g.Arcs.length:=by rw [hg.len];exact hil
    have hai:=Jkw hial
    obtain ⟨_,hA,_⟩:=hg.arcs i _ hai
    have hA:=hA rfl
    refine Tot.iteT (by rw [hs,hL];rfl) (Tot.bindC (Bj hial) (Tot.bindC (DH (by have:=hA.len;simp;omega)) (nxt _ ?_)))
    refine ⟨by simpa using hg.len,hg.aln,hg.acc,hg.alive,λ j' l hl=>?_⟩
    rw [hnum,Int.toNat_natCast,List.getElem?_set] at hl
    split at hl
    ·rename_i e
     subst e
     try rw [if_pos hial] at hl
     cases hl
     refine ⟨λ h=>absurd h (Nat.lt_irrefl _),λ _=>⟨by have:=hA.len;simp;omega,λ a ha=>?_,λ k j2 hk hE2 hL2=>?_⟩,λ h=>absurd h (Nat.lt_irrefl _)⟩
     ·rcases List.mem_append.1 ha with h|h
      ·exact hA.snd a h
      ·simp only [List.mem_singleton] at h
       subst h
       exact ⟨j,m,rfl,hE,hLj,rfl,rfl⟩
     ·by_cases e:k=m
      ·subst e
       obtain ⟨s1,s2,k1,_,k3,k4⟩:=hE2
       rw [hi] at k1;cases k1
       have:j2=j:=QO hF.nodup (s:=s2) k3 (by rw [hj'];rw [k4])
       subst this
       exact List.mem_append_right _ (List.mem_singleton.2 rfl)
      ·exact List.mem_append_left _ (hA.cov k j2 (by omega) hE2 hL2)
    ·rename_i e
     obtain ⟨h1,h2,h3⟩:=hg.arcs j' l hl
     exact ⟨h1,λ h=>absurd h.symm e,h3⟩
   ·have hL':al[j]=false:=by simpa using hL
    refine Tot.iteF (by rw [hs,hL'];rfl) (nxt _ (same ?_))
    rintro ⟨j2,⟨s1,s2,k1,_,k3,k4⟩,hL2⟩
    rw [hi] at k1;cases k1
    have:j2=j:=QO hF.nodup (s:=s2) k3 (by rw [hj'];rw [k4])
    subst this
    have:=(hal.2 j2).2 hL2
    rw [Jkw hjal,hL'] at this
    cases this
  ·have hs':(AU t s (m:Nat)).2=false:=by simpa using hs
   refine Tot.bindC (y:=default) (by rw [if_neg hs]) (Tot.iteF (by rw [hs'];rfl) (nxt _ (same ?_)))
   rintro ⟨j2,⟨s1,s2,k1,_,k3,k4⟩,hL2⟩
   rw [hi] at k1;cases k1
   rw [k4] at hs';cases hs'
 ·rintro ⟨g,_⟩ ⟨rfl,hg⟩
  unfold Cg
  refine Tot.iteF (by simp) (Tot.pure ⟨hg.len,hg.aln,hg.acc,hg.alive,λ j l hl=>?_⟩)
  obtain ⟨h1,h2,h3⟩:=hg.arcs j l hl
  refine ⟨λ h=>?_,λ h=>?_,λ h=>h3 (by omega)⟩
  ·by_cases e:j=i
   ·subst e;exact h2 rfl
   ·exact h1 (by omega)
  ·have:=h3 (by omega);subst this;exact .nil _ _ _
theorem WO {t:Ab} (ht:Fn t):Tot (λ n=>DR n t) (Tg t (AN t)):=by
 obtain ⟨hF,hD⟩:=CF ht
 have h768:=hF.len
 unfold DR
 refine Tot.bindE (XY ht) (Tot.bind (R:=K4 (AN t)) ?_ λ nb hN=>Tot.bindC (Jdp (by omega) (by omega)) (Tot.bindC (Jdp (by omega) (by omega)) (Tot.bind (Z2 ht) λ al hal=>Tot.bind (R:=Tg t (AN t)) ?_ λ g hg=>Tot.pure hg)))
 ·refine Tot.upto (body:=λ n (x:(List (Aa×Int))×Int)=>CH n t (AN t) x.1 x.2) (AN t).length (λ i x=>x.2=(i:Int)/\K4 ((AN t).take i) x.1) ?_ ?_ _ ⟨rfl,λ s=>rfl⟩
  ·rintro i ⟨nb,_⟩ hi ⟨rfl,hN⟩
   unfold CH
   refine Tot.iteT (by simp;omega) (Tot.bindC (Bj hi) (Tot.pure ⟨CG (by omega),?_⟩))
   rw [List.take_add_one,Jkw hi,Option.toList_some]
   have:=hN.snoc (p:=(AN t)[i]) (hF.nodup.sublist (List.take_sublist _ _)) (λ h=>by
    obtain ⟨j,hj,e⟩:=List.mem_iff_getElem.1 h
    rw [List.getElem_take] at e
    have hj':j<i:=by rw [List.length_take] at hj;omega
    have:=QO hF.nodup (i:=i) (j:=j) (Jkw hi) (by rw [Jkw (show j<(AN t).length by omega),e])
    omega)
   rw [List.length_take,Nat.min_eq_left (by omega)] at this
   exact this
  ·rintro ⟨nb,_⟩ ⟨rfl,hN⟩
   unfold CH
   refine Tot.iteF (by simp) (Tot.pure ?_)
   rw [List.take_length] at hN;exact hN
 ·refine Tot.upto (body:=λ n (x:An×Int)=>CI n t (AN t) nb x.1 x.2) (AN t).length (λ i x=>x.2=(i:Int)/\GJ t (AN t) al i 0 i x.1) ?_ ?_ _ ⟨rfl,by simp,by simp,λ j s h=>by omega,rfl,λ j l hl=>?_⟩
  ·rintro i ⟨g,_⟩ hi ⟨rfl,hg⟩
   have hia:i<g.Accepts.length:=by rw [hg.aln];exact hi
   have hsi:=Jkw hi
   unfold CI
   refine Tot.iteT (by simp;omega) (Tot.bindC (Bj hi) (Tot.bindA (λ n=>Su n t _) (Tot.bindC (Bj hia) (Tot.bindC (Sz hia) (Tot.bind (Z5 ht hF hD hN hal _ hsi ?_) λ g' hg'=>Tot.pure ⟨CG (by omega),hg'⟩)))))
   refine ⟨hg.len,by simpa using hg.aln,λ j s hj hs=>?_,hg.alive,hg.arcs⟩
   rw [List.getElem?_set]
   split
   ·rename_i e;subst e
    rw [hsi] at hs;cases hs
    first|rfl|rw [if_pos hia]
   ·exact hg.acc j s (by omega) hs
  ·rintro ⟨g,_⟩ ⟨rfl,hg⟩
   unfold CI
   refine Tot.iteF (by simp) (Tot.pure ⟨hg.len,λ i s hs=>hg.acc i s (Aq hs) hs,?_,λ i l hl=>?_⟩)
   ·rw [hg.alive];exact hal
   ·exact (hg.arcs i l hl).1 (by have:=Aq hl;rw [hg.len] at this;exact this)
  ·have:l=[]:=by
    rw [List.getElem?_replicate] at hl
    split at hl
    ·exact (Option.some.inj hl).symm
    ·cases hl
   subst this
   exact ⟨λ h=>by omega,λ _=>.nil _ _ _,λ _=>rfl⟩
end Go.AI
end
section
namespace Go.AI
abbrev spt (i j:Nat):Ae:=⟨(i:Int),(j:Int)⟩
theorem KE {i j i' j':Nat}:spt i j=spt i' j'↔i=i'/\j=j':=by
 simp only [spt,Ae.mk.injEq];omega
abbrev toG (a:GA):K7:=⟨a.print,a.cells,(a.to:Int)⟩
theorem Mp.arc {t:Ab} {st:List Aa} {i:Nat} {l:List K7} (h:Mp t st i t.Rules.length l):(∀ x∈l,∃ a:GA,x=toG a/\Arc t st i a)/\∀ a,Arc t st i a->toG a∈l:=by
 refine ⟨λ x hx=>?_,λ a ha=>?_⟩
 ·obtain ⟨j,k,h1,h2,h3,h4,h5⟩:=h.snd x hx
  obtain ⟨p,c,o⟩:=x
  simp only at h1 h4 h5
  subst h1;subst h4;subst h5
  exact ⟨⟨prt t k,cls t k,j⟩,rfl,k,h2,h3,rfl,rfl⟩
 ·obtain ⟨k,h1,h2,h3,h4⟩:=ha
  have:=h.cov k a.to (by obtain ⟨_,_,_,q,_⟩:=h1;exact q) h1 h2
  rw [← h3,← h4] at this;exact this
theorem Z6 {l m:List Int} (h:l.Nodup) (hs:∀ x∈l,x∈m):l.length<=m.length:=by
 induction l generalizing m with
 | nil=>simp
 | cons a l ih=>
  rw [List.nodup_cons] at h
  have ha:=hs a (by simp)
  have hlen:(m.erase a).length=m.length-1:=List.length_erase_of_mem ha
  have hpos:0<m.length:=List.length_pos_of_mem ha
  have:=ih (m:=m.erase a) h.2 λ x hx=>by
   have hne:x≠a:=λ e=>h.1 (e▸hx)
   exact (List.mem_erase_of_ne hne).2 (hs x (by simp [hx]))
  simp
  omega
theorem Z7 {l:List Int} {N:Nat} (h:l.Nodup) (hs:∀ x∈l,∃ j:Nat,x=(j:Int)/\j<N):l.length<=N:=by
 have:=Z6 (m:=(List.range N).map λ (j:Nat)=>(j:Int)) h λ x hx=>by
  obtain ⟨j,rfl,hj⟩:=hs x hx
  exact List.mem_map.2 ⟨j,List.mem_range.2 hj,rfl⟩
 simpa using this
def Rw (rows:List (Bool×List Int)) (i j:Nat):Prop:=∃ row,rows[i]? = some row/\(j:Int)∈row.2
structure W (t:Ab) (st:List Aa) (L:List Int) (i:Nat) (Dn:Nat->GA->Prop) (rows:List (Bool×List Int)) (add:List (Ae×Bool)) (most:Nat):Prop where
 len:rows.length=L.length+1
 mem:∀ i j:Nat,Option.getD (Dg (spt i j) add) false=true↔Rw rows i j
 snd:∀ (i:Nat) row,rows[i]? = some row->row.2.Nodup/\∀ x∈row.2,∃ j:Nat,x=(j:Int)/\Rc t st L i j
 tag:∀ (i':Nat) row,i<i'->rows[i']? = some row->row.1=false
 cl:∀ i' j a,Rw rows i' j->Arc t st j a->(i'<i\/(i'=i/\Dn j a))->i'+C5 a.cells (L.drop i')<=most/\(a.cells <+: L.drop i'->Rw rows (i'+a.cells.length) a.to)
 at_:most=0\/∃ i j a,Rc t st L i j/\Arc t st j a/\most=i+C5 a.cells (L.drop i)
 fst:Rw rows 0 0
section
variable {t:Ab} {st:List Aa} {L:List Int} {i:Nat} {Dn:Nat->GA->Prop} {rows:List (Bool×List Int)} {add:List (Ae×Bool)} {most:Nat}
theorem W.small (hW:W t st L i Dn rows add most) {a:Nat} {row:Bool×List Int} (h:rows[a]? = some row):row.2.length<=st.length:=by
 obtain ⟨h1,h2⟩:=hW.snd a row h
 refine Z7 h1 λ x hx=>?_
 obtain ⟨j,rfl,hj⟩:=h2 x hx
 exact ⟨j,rfl,hj.live.lt⟩
theorem JiS {i2 j2:Nat} {row:Bool×List Int} (h:rows[i2]? = some row) (a b:Nat):Rw (rows.set i2 (false,row.2++[(j2:Int)])) a b↔Rw rows a b\/(a=i2/\b=j2):=by
 have hlt:=Aq h
 unfold Rw
 rw [List.getElem?_set]
 by_cases e:i2=a
 ·subst e
  simp only [if_pos hlt,if_true,JkF,exists_eq_left',List.mem_append,List.mem_singleton,true_and]
  rw [h]
  simp only [JkF,exists_eq_left']
  constructor
  ·rintro (q|q)
   ·exact .inl q
   ·exact .inr (by omega)
  ·rintro (q|q)
   ·exact .inl q
   ·exact .inr (by omega)
 ·rw [if_neg e]
  constructor
  ·exact .inl
  ·rintro (q|⟨q,_⟩)
   ·exact q
   ·exact absurd q.symm e
theorem W.ins (hst:st.length<=768) (hW:W t st L i Dn rows add most) {i2 j2:Nat} (hR:Rc t st L i2 j2) (hlt:i<i2):∃ rows' add',(∀ n,Bs n (spt i2 j2) add rows=some (add',rows'))/\W t st L i Dn rows' add' most/\Rw rows' i2 j2/\rows'[i]? = rows[i]? := by
 have hle:=hR.le
 have hi2:i2<rows.length:=by rw [hW.len];omega
 by_cases h:Option.getD (Dg (spt i2 j2) add) false=true
 ·exact ⟨rows,add,λ n=>by unfold Bs;rw [if_neg (by rw [h];simp)],hW,(hW.mem _ _).1 h,rfl⟩
 ·have hrow:=Jkw hi2
  have htag:=hW.tag i2 _ hlt hrow
  have hsm:=hW.small hrow
  have hno:¬Rw rows i2 j2:=λ q=>h ((hW.mem _ _).2 q)
  have hset:=@JiS rows i2 j2 _ hrow
  refine ⟨rows.set i2 (false,rows[i2].2++[(j2:Int)]),El (spt i2 j2) true add,λ n=>?_,?_,(hset _ _).2 (.inr ⟨rfl,rfl⟩),by rw [JkL (by omega)]⟩
  ·unfold Bs
   rw [if_pos (by simpa using h)]
   have e1:XB rows (spt i2 j2).At=some rows[i2].2:=by
    unfold XB
    rw [Bj hi2,Option.bind_some,htag];rfl
   rw [e1,Option.bind_some,DH (by simp;omega),Option.bind_some]
   rfl
  ·refine ⟨by simpa using hW.len,λ a b=>?_,λ a row hr=>?_,λ a row ha hr=>?_,λ a b g hr hg hd=>?_,hW.at_,(hset _ _).2 (.inl hW.fst)⟩
   ·rw [hset,Pn]
    by_cases e:spt a b=spt i2 j2
    ·rw [if_pos e];have:=KE.1 e;simp [this]
    ·rw [if_neg e,hW.mem]
     constructor
     ·exact .inl
     ·rintro (q|q)
      ·exact q
      ·exact absurd (KE.2 q) e
   ·rw [List.getElem?_set] at hr
    by_cases e:i2=a
    ·subst e
     rw [if_pos rfl,if_pos hi2] at hr
     cases hr
     obtain ⟨h1,h2⟩:=hW.snd i2 _ hrow
     refine ⟨List.nodup_append.2 ⟨h1,by simp,λ x hx y hy=>?_⟩,λ x hx=>?_⟩
     ·simp only [List.mem_singleton] at hy
      subst hy
      rintro rfl
      exact hno ⟨_,hrow,hx⟩
     ·rcases List.mem_append.1 hx with q|q
      ·exact h2 x q
      ·simp only [List.mem_singleton] at q;exact ⟨j2,q,hR⟩
    ·rw [if_neg e] at hr;exact hW.snd a row hr
   ·rw [List.getElem?_set] at hr
    by_cases e:i2=a
    ·subst e
     rw [if_pos rfl,if_pos hi2] at hr
     cases hr;rfl
    ·rw [if_neg e] at hr;exact hW.tag a row ha hr
   ·have hr':Rw rows a b:=by
     rcases (hset _ _).1 hr with q|q
     ·exact q
     ·omega
    obtain ⟨q1,q2⟩:=hW.cl a b g hr' hg hd
    exact ⟨q1,λ q=>(hset _ _).2 (.inl (q2 q))⟩
theorem W.more (hW:W t st L i Dn rows add most) {j:Nat} {a:GA} (hR:Rc t st L i j) (ha:Arc t st j a) (hp:a.cells <+: L.drop i->Rw rows (i+a.cells.length) a.to):W t st L i (λ j' a'=>Dn j' a'\/(j'=j/\a'=a)) rows add (max most (i+C5 a.cells (L.drop i))):=by
 refine ⟨hW.len,hW.mem,hW.snd,hW.tag,λ i' j' a' hr hg hd=>?_,?_,hW.fst⟩
 ·rcases hd with h|⟨h,h'|⟨rfl,rfl⟩⟩
  ·obtain ⟨q1,q2⟩:=hW.cl i' j' a' hr hg (.inl h);exact ⟨by omega,q2⟩
  ·obtain ⟨q1,q2⟩:=hW.cl i' j' a' hr hg (.inr ⟨h,h'⟩);exact ⟨by omega,q2⟩
  ·subst h;exact ⟨by omega,hp⟩
 ·by_cases h:most<=i+C5 a.cells (L.drop i)
  ·exact .inr ⟨i,j,a,hR,ha,by omega⟩
  ·rcases hW.at_ with h1|⟨i',j',a',h1,h2,h3⟩
   ·omega
   ·exact .inr ⟨i',j',a',h1,h2,by omega⟩
theorem W.dn (hW:W t st L i Dn rows add most) {Dn':Nat->GA->Prop} (h:∀ j a,Rw rows i j->Arc t st j a->Dn' j a->Dn j a):W t st L i Dn' rows add most:=
 ⟨hW.len,hW.mem,hW.snd,hW.tag,λ i' j' a' hr hg hd=>hW.cl i' j' a' hr hg (by
  rcases hd with h1|⟨h1,h2⟩
  ·exact .inl h1
  ·exact .inr ⟨h1,h j' a' (h1▸hr) hg h2⟩),hW.at_,hW.fst⟩
theorem Mq {i:Nat} (h:i<=L.length):sub L (i:Int) ((L.length:Nat):Int)=some (L.drop i):=by
 rw [Jdo (by omega) (by omega) (by omega)];simp
theorem JiT {m k:Nat} {x:Int} (hx:x=(k:Int)):(if x>(m:Int) then x else (m:Int))=((max m k:Nat):Int):=by
 subst hx
 split<;>omega
theorem Z8 (hc:∀ r∈t.Rules,1<=r.Cells.length/\r.Cells.length<=1000) (hst:st.length<=768) (hrl:t.Rules.length<=11) (hL:L.length<=1000) {g:An} (r28:(List (Ae×Bool))×(List (Bool×(List Int)))) {j:Nat} (hR:Rc t st L i j) {l:List K7} (hl:Mp t st j t.Rules.length l) (x34:Bool×List Int) (x22:Int) {R:Bool×List Int} (hrow:rows[i]? = some R) (hW:W t st L i Dn rows add most) :
  Tot (λ n=>whl (λ (x:((List (Bool×(List Int)))×(List (Ae×Bool))×Int×Int))=>Bz n L g r28 (i:Int) x34 x22 l x.1 x.2.1 x.2.2.1 x.2.2.2) n (rows,add,(most:Int),0)) (λ r=>∃ m:Nat,r.2.2=(m:Int)/\W t st L i (λ j' a=>Dn j' a\/j'=j) r.1 r.2.1 m/\r.1[i]? = some R):=by
 have hile:=hR.le
 obtain ⟨hA1,hA2⟩:=hl.arc
 refine Tot.upto (body:=λ n (x:(List (Bool×(List Int)))×(List (Ae×Bool))×Int×Int)=>Bz n L g r28 (i:Int) x34 x22 l x.1 x.2.1 x.2.2.1 x.2.2.2) l.length (λ q x=>x.2.2.2=(q:Int)/\∃ m:Nat,x.2.2.1=(m:Int)/\W t st L i (λ j' a=>Dn j' a\/(j'=j/\toG a∈l.take q)) x.1 x.2.1 m/\x.1[i]? = some R) ?_ ?_ _ ⟨rfl,most,rfl,hW.dn λ j' a _ _ h=>by simpa using h,hrow⟩
 ·rintro q ⟨rows,add,_,_⟩ hq ⟨rfl,m,rfl,hW,hrow⟩
  obtain ⟨a,ea,ha⟩:=hA1 _ (List.getElem_mem hq)
  have hcl:a.cells.length<=1000/\1<=a.cells.length:=by
   obtain ⟨k,h1,_,_,e⟩:=ha.cells
   have:=hc _ (C1 (k:=(k:Int)) (by omega) (by omega))
   rw [e];exact ⟨this.2,this.1⟩
  have hcl2:=Vg a.cells (L.drop i)
  have hld:(L.drop i).length=L.length-i:=List.length_drop
  have hadd:Bl .i64 (i:Int) ((C5 a.cells (L.drop i):Nat):Int)=((i+C5 a.cells (L.drop i):Nat):Int):=by rw [Mo (by omega) (by omega)];omega
  have stepD:∀ {rows:List (Bool×List Int)} {add:List (Ae×Bool)} {m:Nat},W t st L i (λ j' a'=>(Dn j' a'\/(j'=j/\toG a'∈l.take q))\/(j'=j/\a'=a)) rows add m->W t st L i (λ j' a'=>Dn j' a'\/(j'=j/\toG a'∈l.take (q+1))) rows add m:=λ h=>h.dn λ j' a' _ _ hd=>by
   rcases hd with hd|⟨h1,h2⟩
   ·exact .inl (.inl hd)
   ·rw [List.take_add_one,Jkw hq,Option.toList_some,List.mem_append,List.mem_singleton,ea] at h2
    rcases h2 with h2|h2
    ·exact .inl (.inr ⟨h1,h2⟩)
    ·refine .inr ⟨h1,?_⟩
     obtain ⟨p1,c1,o1⟩:=a
     obtain ⟨p2,c2,o2⟩:=a'
     simp only [toG,K7.mk.injEq] at h2
     simp only [GA.mk.injEq]
     exact ⟨h2.1,h2.2.1,by omega⟩
  unfold Bz
  refine Tot.iteT (by simp;omega) (Tot.bindC (y:=toG a) (by rw [Bj hq,ea]) (Tot.bindC (Mq hile) (Tot.bindE (Pv a.cells (L.drop i) (by omega)) ?_)))
  rw [JiT hadd]
  by_cases hp:a.cells <+: L.drop i
  ·have hcm:=Ij.2 hp
   have hR2:=Rc.step hR ha hp
   obtain ⟨rows',add',e1,hW',hrw,e2⟩:=hW.ins hst hR2 (by omega)
   have espt:(⟨Bl .i64 (i:Int) ((C5 a.cells (L.drop i):Nat):Int),(toG a).To⟩:Ae)=spt (i+a.cells.length) a.to:=by
    rw [hadd,hcm]
   refine Tot.iteT (by rw [hcm];exact beq_self_eq_true _) (Tot.bindA (y:=(add',rows')) (λ n=>by rw [espt];exact e1 n) (Tot.pure ⟨CG (by have:=hl.len;omega),_,rfl,stepD (hW'.more hR ha λ _=>hrw),by rw [e2];exact hrow⟩))
  ·have hcm:C5 a.cells (L.drop i)≠a.cells.length:=λ h=>hp (Ij.1 h)
   refine Tot.iteF (by rw [beq_eq_false_iff_ne];intro h;exact hcm (Int.ofNat_inj.1 h)) (Tot.pure ⟨CG (by have:=hl.len;omega),_,rfl,stepD (hW.more hR ha λ h=>absurd h hp),hrow⟩)
 ·rintro ⟨rows,add,_,_⟩ ⟨rfl,m,rfl,hW,hrow⟩
  unfold Bz
  refine Tot.iteF (by simp) (Tot.pure ⟨m,rfl,hW.dn λ j' a _ hg hd=>?_,hrow⟩)
  rcases hd with hd|rfl
  ·exact .inl hd
  ·rw [List.take_length];exact .inr ⟨rfl,hA2 a hg⟩
theorem Z9 (hc:∀ r∈t.Rules,1<=r.Cells.length/\r.Cells.length<=1000) (hst:st.length<=768) (hrl:t.Rules.length<=11) (hL:L.length<=1000) {g:An} (hg:Tg t st g) (r28:(List (Ae×Bool))×(List (Bool×(List Int)))) (b:Bool) {R:Bool×List Int} (hrow:rows[i]? = some R) (hW:W t st L i Dn rows add most) :
  Tot (λ n=>whl (λ (x:((List (Bool×(List Int)))×(List (Ae×Bool))×Int×Int))=>BA n L g r28 (i:Int) (b,R.2) x.1 x.2.1 x.2.2.1 x.2.2.2) n (rows,add,(most:Int),0)) (λ r=>∃ m:Nat,r.2.2=(m:Int)/\W t st L (i+1) (λ _ _=>False) r.1 r.2.1 m):=by
 refine Tot.upto (body:=λ n (x:(List (Bool×(List Int)))×(List (Ae×Bool))×Int×Int)=>BA n L g r28 (i:Int) (b,R.2) x.1 x.2.1 x.2.2.1 x.2.2.2) R.2.length (λ q x=>x.2.2.2=(q:Int)/\∃ m:Nat,x.2.2.1=(m:Int)/\W t st L i (λ j' _=>(j':Int)∈R.2.take q) x.1 x.2.1 m/\x.1[i]? = some R) ?_ ?_ _ ⟨rfl,most,rfl,hW.dn λ j' a _ _ h=>by simp at h,hrow⟩
 ·rintro q ⟨rows,add,_,_⟩ hq ⟨rfl,m,rfl,hW,hrow⟩
  obtain ⟨j,ej,hR⟩:=(hW.snd i R hrow).2 _ (List.getElem_mem hq)
  have hsm:=hW.small hrow
  have hjl:j<g.Arcs.length:=by rw [hg.len];exact hR.live.lt
  unfold BA
  refine Tot.iteT (by simp;omega) (Tot.bindC (y:=(j:Int)) ((Bj hq).trans (by rw [ej])) (Tot.bindC (Bj hjl) (Tot.bind (Z8 hc hst hrl hL r28 hR (hg.arcs j _ (Jkw hjl)) _ _ hrow hW) ?_)))
  rintro ⟨rows',add',_⟩ ⟨m',rfl,hW',hrow'⟩
  refine Tot.pure ⟨CG (by omega),m',rfl,hW'.dn λ j' a _ _ hd=>?_,hrow'⟩
  rw [List.take_add_one,Jkw hq,Option.toList_some,List.mem_append,List.mem_singleton,ej] at hd
  rcases hd with hd|hd
  ·exact .inl hd
  ·exact .inr (by omega)
 ·rintro ⟨rows,add,_,_⟩ ⟨rfl,m,rfl,hW,hrow⟩
  unfold BA
  refine Tot.iteF (by simp) (Tot.pure ⟨m,rfl,hW.len,hW.mem,hW.snd,λ i' row h=>hW.tag i' row (by omega),λ i' j a hr ha hd=>hW.cl i' j a hr ha ?_,hW.at_,hW.fst⟩)
  rcases hd with hd|⟨_,hd⟩
  ·by_cases e:i'=i
   ·subst e
    refine .inr ⟨rfl,?_⟩
    obtain ⟨row,h1,h2⟩:=hr
    rw [hrow] at h1;cases h1
    rw [List.take_length];exact h2
   ·exact .inl (by omega)
  ·exact hd.elim
end
structure WOK (t:Ab) (st:List Aa) (L:List Int) (r:List (Bool×List Int)×Int):Prop where
 len:r.1.length=L.length+1
 rows:∀ i j:Nat,Rw r.1 i j↔Rc t st L i j
 nat:∀ (i:Nat) row,r.1[i]? = some row->row.2.length<=768/\∀ x∈row.2,∃ j:Nat,x=(j:Int)
 most:(FB t st 0/\∃ m:Nat,r.2=(m:Int)/\Z0 t st L m)\/(¬FB t st 0/\r.2=-1)
theorem WQ {t:Ab} {st:List Aa} {L:List Int} (hc:∀ r∈t.Rules,1<=r.Cells.length/\r.Cells.length<=1000) (hst:st.length<=768) (h0:0<st.length) (hrl:t.Rules.length<=11) (hL:L.length<=1000) {g:An} (hg:Tg t st g):Tot (λ n=>CJ n L g) (WOK t st L):=by
 have hal:0<g.Alive.length:=by rw [hg.alive.1];exact h0
 have hadd:Bl .i64 ((L.length:Nat):Int) 1=((L.length+1:Nat):Int):=CG (by omega)
 unfold CJ
 refine Tot.bindC (y:=List.replicate (L.length+1) (false,[])) (by rw [hadd,Jdp (by omega) (by omega)];rfl) (Tot.bindC (Bj (i:=0) hal) ?_)
 by_cases hL0:g.Alive[0]=true
 ·have hlv:FB t st 0:=(hg.alive.2 0).1 (by rw [Jkw hal,hL0])
  have hw:∀ n,Bs n (⟨0,0⟩:Ae) [] (List.replicate (L.length+1) (false,[]))=some ([(spt 0 0,true)],(List.replicate (L.length+1) (false,[])).set 0 (false,[0])):=by
   intro n
   unfold Bs
   rw [if_pos (by rfl)]
   have:XB (List.replicate (L.length+1) (false,([]:List Int))) (0:Int)=some []:=by
    unfold XB
    show (idx _ ((0:Nat):Int)).bind _=_
    rw [Bj (l:=List.replicate (L.length+1) (false,([]:List Int))) (i:=0) (by simp)]
    simp
   rw [this,Option.bind_some,DH (by simp),Option.bind_some]
   rfl
  have hz:∀ (i:Nat) row,((List.replicate (L.length+1) (false,([]:List Int))).set 0 (false,[0]))[i]? = some row->row=if i=0 then (false,[0]) else (false,[]):=by
   intro i row h
   rw [List.getElem?_set] at h
   by_cases e:0=i
   ·subst e
    rw [if_pos rfl,if_pos (by simp)] at h
    cases h;rfl
   ·rw [if_neg e,List.getElem?_replicate] at h
    split at h
    ·cases h;rw [if_neg (Ne.symm e)]
    ·cases h
  have h00:((List.replicate (L.length+1) (false,([]:List Int))).set 0 (false,[0]))[0]? = some (false,[0]):=by rw [List.getElem?_set];simp
  have hW0:W t st L 0 (λ _ _=>False) ((List.replicate (L.length+1) (false,[])).set 0 (false,[0])) [(spt 0 0,true)] 0:=by
   have hrw:∀ i j:Nat,Rw ((List.replicate (L.length+1) (false,([]:List Int))).set 0 (false,[0])) i j↔i=0/\j=0:=by
    intro i j
    constructor
    ·rintro ⟨row,h1,h2⟩
     have:=hz i row h1
     subst this
     split at h2
     ·rename_i e;simp at h2;omega
     ·simp at h2
    ·rintro ⟨rfl,rfl⟩;exact ⟨_,h00,by simp⟩
   refine ⟨by simp,λ i j=>?_,λ i row h=>?_,λ i row _ h=>?_,λ i' j a _ _ hd=>?_,.inl rfl,(hrw 0 0).2 ⟨rfl,rfl⟩⟩
   ·rw [hrw]
    unfold Dg
    by_cases e:spt i j=spt 0 0
    ·rw [if_pos e];simpa using KE.1 e
    ·rw [if_neg e]
     constructor
     ·intro h;cases h
     ·intro h;exact absurd (KE.2 h) e
   ·have:=hz i row h
    subst this
    by_cases e:i=0
    ·subst e
     refine ⟨by simp,λ x hx=>⟨0,by simpa using hx,.start hlv⟩⟩
    ·rw [if_neg e];exact ⟨List.nodup_nil,λ x hx=>by simp at hx⟩
   ·have:=hz i row h
    subst this
    split<;>rfl
   ·rcases hd with hd|⟨_,hd⟩
    ·omega
    ·exact hd.elim
  refine Tot.iteF (by rw [hL0];rfl) (Tot.bindA hw (Tot.bind (R:=WOK t st L) ?_ λ r hr=>Tot.pure hr))
  refine Tot.upto (body:=λ n (x:(List (Bool×(List Int)))×(List (Ae×Bool))×Int×Int)=>BX n L g ([(spt 0 0,true)],(List.replicate (L.length+1) (false,[])).set 0 (false,[0])) x.1 x.2.1 x.2.2.1 x.2.2.2) (L.length+1) (λ i x=>x.2.2.2=(i:Int)/\∃ m:Nat,x.2.2.1=(m:Int)/\W t st L i (λ _ _=>False) x.1 x.2.1 m) ?_ ?_ _ ⟨rfl,0,rfl,hW0⟩
  ·rintro i ⟨rows,add,_,_⟩ hi ⟨rfl,m,rfl,hW⟩
   have hil:i<rows.length:=by rw [hW.len];exact hi
   have hrow:=Jkw hil
   unfold BX
   refine Tot.iteT (by simp;omega) (Tot.bindC (Bj hil) ?_)
   have hrw:∀ a b:Nat,Rw (rows.set i (true,rows[i].2)) a b↔Rw rows a b:=by
    intro a b
    unfold Rw
    rw [List.getElem?_set]
    by_cases e:i=a
    ·subst e
     rw [if_pos rfl,if_pos hil,hrow];simp
    ·rw [if_neg e]
   have hW':W t st L i (λ _ _=>False) (rows.set i (true,rows[i].2)) add m:=by
    refine ⟨by simpa using hW.len,λ a b=>by rw [hrw];exact hW.mem a b,λ a row h=>?_,λ a row ha h=>?_,λ a b c hr hc hd=>?_,hW.at_,(hrw _ _).2 hW.fst⟩
    ·rw [List.getElem?_set] at h
     by_cases e:i=a
     ·subst e
      rw [if_pos rfl,if_pos hil] at h
      cases h;have q:=hW.snd i rows[i] hrow;exact q
     ·rw [if_neg e] at h;exact hW.snd a row h
    ·rw [List.getElem?_set,if_neg (by omega)] at h;exact hW.tag a row ha h
    ·obtain ⟨q1,q2⟩:=hW.cl a b c ((hrw _ _).1 hr) hc hd
     exact ⟨q1,λ q=>(hrw _ _).2 (q2 q)⟩
   refine Tot.bind (Z9 hc hst hrl hL hg _ rows[i].1 (R:=(true,rows[i].2)) (rows:=rows.set i (true,rows[i].2)) (by rw [List.getElem?_set,if_pos rfl,if_pos hil]) hW') ?_
   rintro ⟨rows',add',_⟩ ⟨m',rfl,hW''⟩
   exact Tot.pure ⟨CG (by omega),m',rfl,hW''⟩
  ·rintro ⟨rows,add,_,_⟩ ⟨rfl,m,rfl,hW⟩
   have hall:∀ i j,Rc t st L i j->Rw rows i j:=λ i j h=>by
    induction h with
    | start=>exact hW.fst
    | step h ha hp ih=>exact (hW.cl _ _ _ ih ha (.inl (by have:=h.le;omega))).2 hp
   unfold BX
   refine Tot.iteF (by simp) (Tot.pure ⟨hW.len,λ i j=>⟨λ ⟨row,h1,h2⟩=>?_,hall i j⟩,λ i row h=>⟨?_,λ x hx=>?_⟩,.inl ⟨hlv,m,rfl,hlv,λ i j a h1 h2=>(hW.cl i j a (hall i j h1) h2 (.inl (by have:=h1.le;omega))).1,hW.at_⟩⟩)
   ·obtain ⟨j',e,hR⟩:=(hW.snd i row h1).2 _ h2
    have:j=j':=by omega
    subst this;exact hR
   ·have:=hW.small h;omega
   ·obtain ⟨j',e,_⟩:=(hW.snd i row h).2 _ hx
    exact ⟨j',e⟩
 ·have hL0':g.Alive[0]=false:=by simpa using hL0
  have hlv:¬FB t st 0:=λ h=>by
   have:=(hg.alive.2 0).2 h
   rw [Jkw hal,hL0'] at this;cases this
  have hz:∀ (i:Nat) row,(List.replicate (L.length+1) (false,([]:List Int)))[i]? = some row->row=(false,[]):=by
   intro i row h
   rw [List.getElem?_replicate] at h
   split at h
   ·cases h;rfl
   ·cases h
  refine Tot.iteT (by rw [hL0'];rfl) (Tot.pure ⟨by simp,λ i j=>⟨λ ⟨row,h1,h2⟩=>?_,λ h=>?_⟩,λ i row h=>?_,.inr ⟨hlv,rfl⟩⟩)
  ·have:=hz i row h1;subst this;simp at h2
  ·exfalso
   refine hlv ?_
   induction h with
   | start h=>exact h
   | step _ _ _ ih=>exact ih
  ·have:=hz i row h;subst this;simp
end Go.AI
end
section
namespace Go.AI
def gud (mp:List (Ae×Bool)) (i j:Nat):Prop:=Option.getD (Dg (spt i j) mp) false=true
theorem YP {mp:List (Ae×Bool)} {a b i j:Nat}:gud (El (spt a b) true mp) i j↔gud mp i j\/(i=a/\j=b):=by
 unfold gud
 rw [Pn]
 by_cases e:spt i j=spt a b
 ·rw [if_pos e];simp [KE.1 e]
 ·rw [if_neg e]
  constructor
  ·exact .inl
  ·rintro (q|q)
   ·exact q
   ·exact absurd (KE.2 q) e
section
variable {t:Ab} {st:List Aa} {L:List Int}
theorem JjT (n:Nat) (s:List UInt8) (p b:Ae) (l:List Int) (g:An) (mp:List (Ae×Bool)):CT n s p b l g mp=some (if Option.getD (Dg p mp) false=true then (2,El b true mp) else (0,mp)):=by
 unfold CT
 split<;>rfl
def Fit (t:Ab) (st:List Aa) (L:List Int) (S:Nat->Nat->Prop) (i j:Nat):Prop:=∃ a,Arc t st j a/\a.cells <+: L.drop i/\S (i+a.cells.length) a.to
theorem QP (hc:∀ r∈t.Rules,1<=r.Cells.length/\r.Cells.length<=1000) {j:Nat} {a:GA} (ha:Arc t st j a):1<=a.cells.length/\a.cells.length<=1000:=by
 obtain ⟨k,h1,_,_,e⟩:=ha.cells
 rw [e];exact hc _ (C1 (k:=(k:Int)) (by omega) (by omega))
theorem YQ {i:Nat} {a:GA} (hi:i<=1000) (ha:a.cells.length<=1000):(⟨Bl .i64 (i:Int) ((List.length (toG a).Cells:Nat):Int),(toG a).To⟩:Ae)=spt (i+a.cells.length) a.to:=by
 have:Bl .i64 (i:Int) ((List.length (toG a).Cells:Nat):Int)=((i+a.cells.length:Nat):Int):=by
  rw [Mo (by simp;omega) (by simp;omega)];simp
 rw [this]
theorem YR {a b:GA} (h:toG a=toG b):a=b:=by
 obtain ⟨p1,c1,o1⟩:=a
 obtain ⟨p2,c2,o2⟩:=b
 simp only [toG,K7.mk.injEq] at h
 simp only [GA.mk.injEq]
 exact ⟨h.1,h.2.1,by omega⟩
theorem JdI (hc:∀ r∈t.Rules,1<=r.Cells.length/\r.Cells.length<=1000) (hrl:t.Rules.length<=11) (hL:L.length<=1000) {g:An} (hg:Tg t st g) {i j:Nat} (hR:Rc t st L i j) (mp:List (Ae×Bool)) :
  Tot (λ n=>Cp n (spt i j) (spt i j) L g mp) (λ r=>(r=(2,El (spt i j) true mp)/\Fit t st L (gud mp) i j)\/(r=(0,mp)/\¬Fit t st L (gud mp) i j)):=by
 have hile:=hR.le
 have hjl:j<g.Arcs.length:=by rw [hg.len];exact hR.live.lt
 obtain ⟨l,hlj⟩:∃ l,g.Arcs[j]? = some l:=⟨_,Jkw hjl⟩
 have hl:=hg.arcs j _ hlj
 obtain ⟨hA1,hA2⟩:=hl.arc
 have hll:=hl.len
 unfold Cp
 refine Tot.bindC (ED hlj) (Tot.bind (R:=λ y=>(y=.inr (2,El (spt i j) true mp)/\Fit t st L (gud mp) i j)\/(y=.inl mp/\¬Fit t st L (gud mp) i j)) ?_ ?_)
 ·refine Tot.upto (body:=λ n (x:(List (Ae×Bool))×Int)=>Bt n (spt i j) (spt i j) L g l x.1 x.2) l.length (λ q x=>x.2=(q:Int)/\x.1=mp/\∀ a,toG a∈l.take q->¬(a.cells <+: L.drop i/\gud mp (i+a.cells.length) a.to)) ?_ ?_ _ ⟨rfl,rfl,λ a h=>by simp at h⟩
  ·rintro q ⟨mp,_⟩ hq ⟨rfl,rfl,hno⟩
   obtain ⟨a,ea,ha⟩:=hA1 _ (List.getElem_mem hq)
   have hcl:=QP hc ha
   have nxt:¬(a.cells <+: L.drop i/\gud mp (i+a.cells.length) a.to)->Tot (λ n=>BS n (q:Int) mp) (Rd2 (λ x=>x.2=((q+1:Nat):Int)/\x.1=mp/\∀ a,toG a∈l.take (q+1)->¬(a.cells <+: L.drop i/\gud mp (i+a.cells.length) a.to)) λ y=>(y=.inr (2,El (spt i j) true mp)/\Fit t st L (gud mp) i j)\/(y=.inl mp/\¬Fit t st L (gud mp) i j)):=λ h=>by
    refine Tot.pure ⟨CG (by omega),rfl,λ a' ha'=>?_⟩
    rw [List.take_add_one,Jkw hq,Option.toList_some,List.mem_append,List.mem_singleton,ea] at ha'
    rcases ha' with h'|h'
    ·exact hno a' h'
    ·have:=YR h';subst this;exact h
   unfold Bt
   refine Tot.iteT (by simp;omega) (Tot.bindC (y:=toG a) (by rw [Bj hq,ea]) (Tot.bindC (Mq hile) (Tot.bindE (Pv a.cells (L.drop i) (by omega)) ?_)))
   by_cases hp:a.cells <+: L.drop i
   ·have hcm:=Ij.2 hp
    have hbe:(((C5 a.cells (L.drop i):Nat):Int)==((List.length (toG a).Cells:Nat):Int))=true:=by rw [hcm];exact beq_self_eq_true _
    have hsp:=YQ (i:=i) (a:=a) (by omega) hcl.2
    by_cases hG:gud mp (i+a.cells.length) a.to
    ·exact Tot.iteT hbe (Tot.bindA (y:=(2,El (spt i j) true mp)) (λ n=>by rw [hsp];exact (JjT n _ _ _ _ _ _).trans (congrArg some (if_pos hG))) (Tot.iteT (by rw [hbe];rfl) (Tot.pure (.inl ⟨rfl,a,ha,hp,hG⟩))))
    ·exact Tot.iteT hbe (Tot.bindA (y:=(0,mp)) (λ n=>by rw [hsp];exact (JjT n _ _ _ _ _ _).trans (congrArg some (if_neg hG))) (Tot.iteF (by rw [hbe];rfl) (nxt λ h=>hG h.2)))
   ·have hcm:C5 a.cells (L.drop i)≠a.cells.length:=λ h=>hp (Ij.1 h)
    have hbe:(((C5 a.cells (L.drop i):Nat):Int)==((List.length (toG a).Cells:Nat):Int))=false:=by rw [beq_eq_false_iff_ne];intro h;exact hcm (Int.ofNat_inj.1 h)
    exact Tot.iteF hbe (Tot.iteF (by rw [hbe];rfl) (nxt λ h=>hp h.1))
  ·rintro ⟨mp,_⟩ ⟨rfl,rfl,hno⟩
   unfold Bt
   refine Tot.iteF (by simp) (Tot.pure (.inr ⟨rfl,?_⟩))
   rintro ⟨a,ha,h1,h2⟩
   exact hno a (by rw [List.take_length];exact hA2 a ha) ⟨h1,h2⟩
 ·rintro y (⟨rfl,h⟩|⟨rfl,h⟩)
  ·exact Tot.pure (.inl ⟨rfl,h⟩)
  ·exact Tot.pure (.inr ⟨rfl,h⟩)
theorem JiU {i j:Nat}:Gd t st L i j↔Rc t st L i j/\((i=L.length/\∃ q,st[j]? = some q/\AG t q=true)\/Fit t st L (Gd t st L) i j):=by
 constructor
 ·rintro ⟨hR,y,hy⟩
  refine ⟨hR,?_⟩
  rcases hy.inv with ⟨h0,_,h1⟩|⟨a,y',ha,hp,h1,_⟩
  ·have:=hR.le;have:=List.drop_eq_nil_iff.1 h0
   exact .inl ⟨by omega,h1⟩
  ·rw [List.drop_drop] at h1
   exact .inr ⟨a,ha,hp,.step hR ha hp,y',h1⟩
 ·rintro ⟨hR,⟨rfl,q,h1,h2⟩|⟨a,ha,hp,_,y,hy⟩⟩
  ·exact ⟨hR,[],by rw [List.drop_length];exact .nil h1 h2⟩
  ·exact ⟨hR,_,RG.of ha hp (by rw [List.drop_drop];exact hy)⟩
def GM (t:Ab) (st:List Aa) (L:List Int) (i:Nat) (S:Nat->Prop) (mp:List (Ae×Bool)):Prop:=∀ i' j,gud mp i' j↔Gd t st L i' j/\(i<i'\/(i'=i/\S j))
theorem SF (hc:∀ r∈t.Rules,1<=r.Cells.length/\r.Cells.length<=1000) (hrl:t.Rules.length<=11) (hL:L.length<=1000) {g:An} (hg:Tg t st g) {i:Nat} {rows:List (Bool×List Int)} (hrows:∀ i j:Nat,Rw rows i j↔Rc t st L i j) {R:Bool×List Int} (hrow:rows[i]? = some R) (hR:R.2.length<=768/\∀ x∈R.2,∃ j:Nat,x=(j:Int)) {mp:List (Ae×Bool)} (hm:GM t st L i (λ _=>False) mp) (r34:(List (Bool×(List Int)))×Int) (rs:List (Bool×List Int)) :
  Tot (λ n=>whl (λ (x:((List (Ae×Bool))×Int))=>BQ n L g r34 rs (i:Int) R x.1 x.2) n (mp,0)) (GM t st L i λ _=>True):=by
 refine Tot.upto (body:=λ n (x:(List (Ae×Bool))×Int)=>BQ n L g r34 rs (i:Int) R x.1 x.2) R.2.length (λ q x=>x.2=(q:Int)/\GM t st L i (λ j=>(j:Int)∈R.2.take q) x.1) ?_ ?_ _ ⟨rfl,λ i' j=>(hm i' j).trans (by simp)⟩
 ·rintro q ⟨mp,_⟩ hq ⟨rfl,hm⟩
  obtain ⟨j,ej⟩:=hR.2 _ (List.getElem_mem hq)
  have hrc:Rc t st L i j:=(hrows i j).1 ⟨R,hrow,by rw [← ej];exact List.getElem_mem hq⟩
  have hjl:=hrc.live.lt
  have hac:=hg.acc j _ (Jkw hjl)
  have hile:=hrc.le
  have key:∀ (mp1:List (Ae×Bool)) (A:Prop),(∀ i' j',gud mp1 i' j'↔gud mp i' j'\/(A/\i'=i/\j'=j))->(A↔i=L.length/\∃ q,st[j]? = some q/\AG t q=true)->Tot (λ n=>B9 n L g (i:Int) (q:Int) (j:Int) mp1) (Rd2 (λ x=>x.2=((q+1:Nat):Int)/\GM t st L i (λ j=>(j:Int)∈R.2.take (q+1)) x.1) (GM t st L i λ _=>True)):=by
   intro mp1 A h1 hA
   have hfit:Fit t st L (gud mp1) i j↔Fit t st L (Gd t st L) i j:=by
    constructor
    ·rintro ⟨a,ha,hp,h⟩
     have:=(QP hc ha).1
     rcases (h1 _ _).1 h with q1|q1
     ·exact ⟨a,ha,hp,((hm _ _).1 q1).1⟩
     ·omega
    ·rintro ⟨a,ha,hp,h⟩
     have:=(QP hc ha).1
     exact ⟨a,ha,hp,(h1 _ _).2 (.inl ((hm _ _).2 ⟨h,.inl (by omega)⟩))⟩
   have hgd:=JiU (t:=t) (st:=st) (L:=L) (i:=i) (j:=j)
   have fin:∀ mp2:List (Ae×Bool),(∀ i' j',gud mp2 i' j'↔gud mp i' j'\/(Gd t st L i j/\i'=i/\j'=j))->GM t st L i (λ j=>(j:Int)∈R.2.take (q+1)) mp2:=by
    intro mp2 h2 i' j'
    have hmem:((j':Nat):Int)∈R.2.take (q+1)↔((j':Nat):Int)∈R.2.take q\/((j':Nat):Int)=(j:Int):=by
     rw [List.take_add_one,Jkw hq,Option.toList_some,List.mem_append,List.mem_singleton,ej]
    show gud mp2 i' j'↔Gd t st L i' j'/\(i<i'\/(i'=i/\((j':Nat):Int)∈R.2.take (q+1)))
    rw [h2,hm i' j',hmem]
    constructor
    ·rintro (⟨h,q1|⟨q1,q2⟩⟩|⟨h,rfl,rfl⟩)
     ·exact ⟨h,.inl q1⟩
     ·exact ⟨h,.inr ⟨q1,.inl q2⟩⟩
     ·exact ⟨h,.inr ⟨rfl,.inr rfl⟩⟩
    ·rintro ⟨h,q1|⟨rfl,q2|q2⟩⟩
     ·exact .inl ⟨h,.inl q1⟩
     ·exact .inl ⟨h,.inr ⟨rfl,q2⟩⟩
     ·have:j'=j:=by omega
      subst this
      exact .inr ⟨h,rfl,rfl⟩
   have hq':(q:Nat)<9223372036854775807:=by have:=hR.1;omega
   unfold B9
   refine Tot.bindA (f:=λ _=>some ()) (y:=()) (λ _=>rfl) (Tot.bind (JdI hc hrl hL hg hrc mp1) ?_)
   rintro r (⟨rfl,h⟩|⟨rfl,h⟩)
   ·refine Tot.iteF rfl (Tot.iteT rfl (Tot.pure ⟨CG hq',fin _ λ i' j'=>?_⟩))
    have hG:Gd t st L i j:=hgd.2 ⟨hrc,.inr (hfit.1 h)⟩
    rw [YP,h1]
    constructor
    ·rintro ((h|⟨_,h⟩)|h)
     ·exact .inl h
     ·exact .inr ⟨hG,h⟩
     ·exact .inr ⟨hG,h⟩
    ·rintro (h|⟨_,h⟩)
     ·exact .inl (.inl h)
     ·exact .inr h
   ·refine Tot.iteT rfl (Tot.pure ⟨CG hq',fin _ λ i' j'=>?_⟩)
    rw [h1]
    constructor
    ·rintro (h|⟨h,h'⟩)
     ·exact .inl h
     ·exact .inr ⟨hgd.2 ⟨hrc,.inl (hA.1 h)⟩,h'⟩
    ·rintro (h'|⟨hG,h'⟩)
     ·exact .inl h'
     ·rcases (hgd.1 hG).2 with h2|h2
      ·exact .inr ⟨hA.2 h2,h'⟩
      ·exact absurd (hfit.2 h2) h
  unfold BQ
  refine Tot.iteT (by simp;omega) (Tot.bindC (y:=(j:Int)) ((Bj hq).trans (by rw [ej])) ?_)
  by_cases hi:i=L.length
  ·have hbe:(((i:Nat):Int)==((L.length:Nat):Int))=true:=by rw [hi];exact beq_self_eq_true _
   refine Tot.bindC (y:=AG t st[j]) (by rw [if_pos hbe];exact ED hac) ?_
   by_cases ha:AG t st[j]=true
   ·refine Tot.iteT (by rw [hbe,ha];rfl) (key _ True (λ i' j'=>?_) ⟨λ _=>⟨hi,_,Jkw hjl,ha⟩,λ _=>trivial⟩)
    rw [YP];simp
   ·refine Tot.iteF (by rw [hbe];simpa using ha) (key _ False (λ i' j'=>by simp) ⟨λ h=>h.elim,λ ⟨_,q,h1,h2⟩=>?_⟩)
    rw [Jkw hjl] at h1;cases h1;exact ha h2
  ·have hbe:(((i:Nat):Int)==((L.length:Nat):Int))=false:=by rw [beq_eq_false_iff_ne];intro h;exact hi (Int.ofNat_inj.1 h)
   refine Tot.bindC (y:=default) (by rw [if_neg (by rw [hbe];simp)]) (Tot.iteF (by rw [hbe];rfl) (key _ False (λ i' j'=>by simp) ⟨λ h=>h.elim,λ h=>absurd h.1 hi⟩))
 ·rintro ⟨mp,_⟩ ⟨rfl,hm⟩
  unfold BQ
  refine Tot.iteF (by simp) (Tot.pure λ i' j=>(hm i' j).trans ?_)
  constructor
  ·rintro ⟨h,q1|⟨q1,_⟩⟩
   ·exact ⟨h,.inl q1⟩
   ·exact ⟨h,.inr ⟨q1,trivial⟩⟩
  ·rintro ⟨h,q1|⟨rfl,_⟩⟩
   ·exact ⟨h,.inl q1⟩
   ·refine ⟨h,.inr ⟨rfl,?_⟩⟩
    obtain ⟨row,e1,e2⟩:=(hrows _ _).2 h.1
    rw [hrow] at e1;cases e1
    rw [List.take_length];exact e2
end
structure JeY (t:Ab) (st:List Aa) (L:List Int) (r:An×(List (Ae×Bool))×Int):Prop where
 graph:Tg t st r.1
 good:∀ i j,gud r.2.1 i j↔Gd t st L i j
 most:(FB t st 0/\∃ m:Nat,r.2.2=(m:Int)/\Z0 t st L m)\/(¬FB t st 0/\r.2.2=-1)
theorem Ng {t:Ab} (ht:Fn t) (hc:∀ r∈t.Rules,1<=r.Cells.length/\r.Cells.length<=1000) {L:List Int} (hL:L.length<=1000):Tot (λ n=>CY n t L) (JeY t (AN t) L):=by
 obtain ⟨hF,_⟩:=CF ht
 have hrl:=ht.1
 unfold CY
 refine Tot.bind (WO ht) λ g hg=>Tot.bind (WQ hc hF.len (Aq hF.first) hrl hL hg) λ w hw=>Tot.bind (R:=λ mp=>∀ i j,gud mp i j↔Gd t (AN t) L i j) ?_ λ mp hmp=>Tot.pure ⟨hg,hmp,hw.most⟩
 refine Tot.upto (body:=λ n (x:(List (Bool×(List Int)))×(List (Ae×Bool))×Int)=>Ca n L g w x.1 x.2.1 x.2.2) (L.length+1) (λ k x=>x.2.2=(L.length:Int)-k/\x.1.length=L.length+1/\(∀ i j,Rw x.1 i j↔Rc t (AN t) L i j)/\(∀ (i:Nat) row,x.1[i]? = some row->row.2.length<=768/\∀ x∈row.2,∃ j:Nat,x=(j:Int))/\∀ i j,gud x.2.1 i j↔Gd t (AN t) L i j/\L.length<i+k) ?_ ?_ _ ⟨by simp,hw.len,hw.rows,hw.nat,λ i j=>?_⟩
 ·rintro k ⟨rows,mp,_⟩ hk ⟨rfl,hlen,hrows,hnat,hm⟩
  obtain ⟨i,hi⟩:∃ i:Nat,i=L.length-k:=⟨_,rfl⟩
  have ei:(L.length:Int)-(k:Int)=(i:Int):=by omega
  have hil:i<rows.length:=by have:rows.length=L.length+1:=hlen;omega
  have hrow:=Jkw hil
  unfold Ca
  simp only [ei]
  refine Tot.iteT (by simp) (Tot.bindC (Bj hil) (Tot.bind (SF hc hrl hL hg hrows hrow (hnat i _ hrow) (mp:=mp) (λ i' j=>(hm i' j).trans ?_) _ _) λ mp' hm'=>Tot.pure ⟨?_,by simpa using hlen,λ a b=>?_,λ a row h=>?_,λ i' j=>(hm' i' j).trans ?_⟩))
  ·constructor
   ·rintro ⟨h,h'⟩;exact ⟨h,.inl (by omega)⟩
   ·rintro ⟨h,h'|⟨_,h'⟩⟩
    ·exact ⟨h,by omega⟩
    ·exact h'.elim
  ·show Ec .i64 (i:Int) 1=_
   rw [ND (by omega) (by omega)];omega
  ·refine Iff.trans ?_ (hrows a b)
   unfold Rw
   rw [Int.toNat_natCast,List.getElem?_set]
   by_cases e:i=a
   ·subst e
    rw [if_pos rfl,if_pos hil,hrow];simp
   ·rw [if_neg e]
  ·rw [Int.toNat_natCast,List.getElem?_set] at h
   by_cases e:i=a
   ·subst e
    rw [if_pos rfl,if_pos hil] at h
    cases h;have q:=hnat i _ hrow;exact q
   ·rw [if_neg e] at h;exact hnat a row h
  ·constructor
   ·rintro ⟨h,h'|⟨h',_⟩⟩
    ·exact ⟨h,by omega⟩
    ·exact ⟨h,by omega⟩
   ·rintro ⟨h,h'⟩
    by_cases e:i<i'
    ·exact ⟨h,.inl e⟩
    ·exact ⟨h,.inr ⟨by omega,trivial⟩⟩
 ·rintro ⟨rows,mp,_⟩ ⟨rfl,hlen,hrows,hnat,hm⟩
  unfold Ca
  refine Tot.iteF (by simp;omega) (Tot.pure λ i j=>(hm i j).trans ⟨λ h=>h.1,λ h=>⟨h,by omega⟩⟩)
 ·constructor
  ·intro h;unfold gud at h;simp [Dg] at h
  ·rintro ⟨h,h'⟩
   have:=h.1.le
   omega
end Go.AI
end
section
namespace Go.AI
abbrev toH (h:HD):Ac:=⟨spt h.at_ h.sta,h.rest⟩
theorem QQ {a b:HD}:toH a=toH b↔a=b:=by
 obtain ⟨a1,a2,a3⟩:=a
 obtain ⟨b1,b2,b3⟩:=b
 simp only [toH,Ac.mk.injEq,KE,HD.mk.injEq,and_assoc]
instance:DecidableEq HD:=λ a b=>decidable_of_iff (toH a=toH b) QQ
def mkK (ks:List HD):List (Ac×Bool):=ks.map λ h=>(toH h,true)
theorem SG (h:HD):∀ ks:List HD,Option.getD (Dg (toH h) (mkK ks)) false=true↔h∈ks
 | []=>by simp [mkK,Dg]
 | a::ks=>by
  have ih:=SG h ks
  unfold mkK at *
  simp only [List.map_cons,Dg]
  by_cases e:toH h=toH a
  ·rw [if_pos e];simp [QQ.1 e]
  ·rw [if_neg e,ih,List.mem_cons]
   constructor
   ·exact .inr
   ·rintro (q|q)
    ·exact absurd (QQ.2 q) e
    ·exact q
theorem SH {h:HD}:∀ {ks:List HD},h ∉ ks->El (toH h) true (mkK ks)=mkK (ks++[h])
 | [],_=>rfl
 | a::ks,hn=>by
  have ih:=SH (h:=h) (ks:=ks) (λ q=>hn (by simp [q]))
  unfold mkK at *
  simp only [List.map_cons,List.cons_append,El]
  rw [if_neg (λ e=>hn (by simp [QQ.1 e])),ih]
def SK:List UInt8->List (List UInt8)
 | []=>[[]]
 | a::l=>(a::l)::SK l
theorem WR:∀ l:List UInt8,(SK l).length=l.length+1
 | []=>rfl
 | _::l=>by simp [SK,WR l]
theorem T6 (l:List UInt8):l∈SK l:=by cases l<;>simp [SK]
theorem T7 {b:UInt8} {r:List UInt8}:∀ {l:List UInt8},b::r∈SK l->r∈SK l
 | [],h=>by simp [SK] at h
 | a::l,h=>by
  simp only [SK,List.mem_cons] at h ⊢
  rcases h with h|h
  ·cases h;exact .inr (T6 _)
  ·exact .inr (T7 h)
def Th (t:Ab):List (List UInt8):=[]::t.Rules.flatMap λ r=>SK r.Print
structure UH (t:Ab) (L:List Int) (h:HD):Prop where
 at_:h.at_<=L.length
 sta:h.sta<768
 rest:h.rest∈Th t
theorem UH.tail {t:Ab} {L:List Int} {a j:Nat} {b:UInt8} {r:List UInt8} (h:UH t L ⟨a,j,b::r⟩):UH t L ⟨a,j,r⟩:=by
 refine ⟨h.at_,h.sta,?_⟩
 have:=h.rest
 simp only [Th,List.mem_cons,List.mem_flatMap] at this ⊢
 rcases this with h|⟨x,hx,h⟩
 ·cases h
 ·exact .inr ⟨x,hx,T7 h⟩
theorem UH.of {t:Ab} {L:List Int} {a j k:Nat} (ha:a<=L.length) (hj:j<768) (hk:k<t.Rules.length):UH t L ⟨a,j,prt t k⟩:=by
 refine ⟨ha,hj,?_⟩
 simp only [Th,List.mem_cons,List.mem_flatMap]
 exact .inr ⟨_,C1 (k:=(k:Int)) (by omega) (by omega),T6 _⟩
def uni (t:Ab) (L:List Int):List HD:=(List.range (L.length+1)).flatMap λ a=>(List.range 768).flatMap λ j=>(Th t).map λ r=>⟨a,j,r⟩
theorem Mr {α β:Type} {f:α->List β} {b:Nat}:∀ {l:List α},(∀ x∈l,(f x).length<=b)->(l.flatMap f).length<=l.length*b
 | [],_=>by simp
 | a::l,h=>by
  have h1:=h a (by simp)
  have h2:=Mr (l:=l) λ x hx=>h x (by simp [hx])
  rw [List.flatMap_cons,List.length_append,List.length_cons,Nat.succ_mul]
  omega
theorem JeZ {t:Ab} {L:List Int} (hL:L.length<=1000) (hr:t.Rules.length<=11) (hp:∀ r∈t.Rules,r.Print.length<=4):(uni t L).length<=60000000:=by
 have h1:(Th t).length<=56:=by
  have:=Mr (f:=λ r:Au=>SK r.Print) (b:=5) (l:=t.Rules) λ r h=>by have:=hp r h;rw [WR];omega
  simp only [Th,List.length_cons];omega
 have h2:∀ a:Nat,((List.range 768).flatMap λ j=>(Th t).map λ r=>(⟨a,j,r⟩:HD)).length<=768*56:=λ a=>by
  have:=Mr (f:=λ j:Nat=>(Th t).map λ r=>(⟨a,j,r⟩:HD)) (b:=56) (l:=List.range 768) λ j _=>by simpa using h1
  simpa using this
 have h3:=Mr (f:=λ a:Nat=>(List.range 768).flatMap λ j=>(Th t).map λ r=>(⟨a,j,r⟩:HD)) (b:=768*56) (l:=List.range (L.length+1)) λ a _=>h2 a
 rw [List.length_range] at h3
 unfold uni
 omega
theorem UH.mem {t:Ab} {L:List Int} {h:HD} (hu:UH t L h):h∈uni t L:=by
 obtain ⟨a,j,r⟩:=h
 have h1:=hu.at_;have h2:=hu.sta;have h3:=hu.rest
 simp only [uni,List.mem_flatMap,List.mem_range,List.mem_map]
 exact ⟨a,by simp only at h1;omega,j,h2,r,h3,rfl⟩
theorem Jaa {l m:List HD} (h:l.Nodup) (hs:∀ x∈l,x∈m):l.length<=m.length:=by
 induction l generalizing m with
 | nil=>simp
 | cons a l ih=>
  rw [List.nodup_cons] at h
  have ha:=hs a (by simp)
  have hlen:(m.erase a).length=m.length-1:=List.length_erase_of_mem ha
  have hpos:0<m.length:=List.length_pos_of_mem ha
  have:=ih (m:=m.erase a) h.2 λ x hx=>by
   have hne:x≠a:=λ e=>h.1 (e▸hx)
   exact (List.mem_erase_of_ne hne).2 (hs x (by simp [hx]))
  simp
  omega
structure SJ (t:Ab) (st:List Aa) (L:List Int) (H:List HD) (X:HD->Prop) (ks op fd:List HD) (e:Bool):Prop where
 si:SI t st L H (λ g=>g∈ks) X op fd e
 nd:ks.Nodup
 un:∀ h∈ks,UH t L h
 le:op.length+fd.length<=ks.length
section
variable {t:Ab} {st:List Aa} {L:List Int} {H:List HD} {X:HD->Prop} {ks op fd:List HD} {e:Bool}
theorem SJ.small (hB:(uni t L).length<=60000000) (hS:SJ t st L H X ks op fd e):ks.length<=60000000:=Nat.le_trans (Jaa hS.nd λ x hx=>(hS.un x hx).mem) hB
theorem SJ.ins (hB:(uni t L).length<=60000000) (hS:SJ t st L H X ks op fd e) {h:HD} (hg:Gd t st L h.at_ h.sta) (hd:Drv t st L H h) (hu:UH t L h):∃ ks' op' fd',(∀ n,A3 n (toH h) (mkK ks) (op.map toH) (fd.map toH)=some (mkK ks',op'.map toH,fd'.map toH))/\SJ t st L H X ks' op' fd' e/\h∈ks'/\(∀ g∈ks,g∈ks')/\op'.length+2*ks.length<=op.length+2*ks'.length:=by
 by_cases hk:h∈ks
 ·refine ⟨ks,op,fd,λ n=>?_,hS,hk,λ _ h=>h,Nat.le_refl _⟩
  unfold A3
  rw [if_pos ((SG _ _).2 hk)]
 ·have hnn:¬Option.getD (Dg (toH h) (mkK ks)) false=true:=λ q=>hk ((SG _ _).1 q)
  have hks:(λ g=>g∈ks++[h])=λ g=>g∈ks\/g=h:=by funext g;simp
  have hnd:(ks++[h]).Nodup:=List.nodup_append.2 ⟨hS.nd,by simp,λ x hx y hy=>by simp at hy;subst hy;rintro rfl;exact hk hx⟩
  have hun:∀ g∈ks++[h],UH t L g:=λ g hg=>by
   rcases List.mem_append.1 hg with q|q
   ·exact hS.un g q
   ·simp at q;subst q;exact hu
  have hle:=hS.le
  have hsm:=hS.small hB
  by_cases hr:h.rest=[]
  ·refine ⟨ks++[h],op++[h],fd,λ n=>?_,⟨by rw [hks];exact hS.si.addO hg hd hr,hnd,hun,by simp;omega⟩,by simp,λ g hg=>by simp [hg],by simp;omega⟩
   unfold A3
   rw [if_neg hnn,if_pos (by simp [hr]),DH (by simp;omega),Option.bind_some,SH hk]
   simp
  ·refine ⟨ks++[h],op,fd++[h],λ n=>?_,⟨by rw [hks];exact hS.si.addF hg hd hr,hnd,hun,by simp;omega⟩,by simp,λ g hg=>by simp [hg],by simp;omega⟩
   unfold A3
   rw [if_neg hnn,if_neg (by simpa using hr),DH (by simp;omega),Option.bind_some,SH hk]
   simp
theorem Jab (hc:∀ r∈t.Rules,1<=r.Cells.length/\r.Cells.length<=1000) (hrl:t.Rules.length<=11) (hst:st.length<=768) (hL:L.length<=1000) (hB:(uni t L).length<=60000000) {g:An} (hg:Tg t st g) {mp:List (Ae×Bool)} (hm:∀ i j,gud mp i j↔Gd t st L i j) {h:HD} (hk:h∈ks) (hr:h.rest=[]) (he:h.at_=L.length->(∃ q,st[h.sta]? = some q/\AG t q=true)->e=true) (hS:SJ t st L H (λ g=>g=h) ks op fd e) :
  Tot (λ n=>BN n (spt h.at_ h.sta) L g mp (mkK ks) (op.map toH) (fd.map toH)) (λ r=>∃ ks' op' fd',r=(mkK ks',op'.map toH,fd'.map toH)/\SJ t st L H (λ _=>False) ks' op' fd' e/\(∀ g∈ks,g∈ks')/\op'.length+2*ks.length<=op.length+2*ks'.length):=by
 have hR:=(hS.si.kg h hk).1.1
 have hile:=hR.le
 have hjl:h.sta<g.Arcs.length:=by rw [hg.len];exact hR.live.lt
 obtain ⟨l,hlj⟩:∃ l,g.Arcs[h.sta]? = some l:=⟨_,Jkw hjl⟩
 have hl:=hg.arcs _ _ hlj
 obtain ⟨hA1,hA2⟩:=hl.arc
 have hll:=hl.len
 unfold BN
 refine Tot.bindC (ED hlj) (Tot.bind (R:=λ y=>∃ ks' op' fd',y=.inl (mkK ks',op'.map toH,fd'.map toH)/\SJ t st L H (λ _=>False) ks' op' fd' e/\(∀ g∈ks,g∈ks')/\op'.length+2*ks.length<=op.length+2*ks'.length) ?_ ?_)
 ·refine Tot.upto (body:=λ n (x:(List (Ac×Bool))×(List Ac)×(List Ac)×Int)=>Bn n (spt h.at_ h.sta) L g mp l x.1 x.2.1 x.2.2.1 x.2.2.2) l.length (λ q x=>x.2.2.2=(q:Int)/\∃ ks' op' fd',x.1=mkK ks'/\x.2.1=op'.map toH/\x.2.2.1=fd'.map toH/\SJ t st L H (λ g=>g=h) ks' op' fd' e/\(∀ g∈ks,g∈ks')/\op'.length+2*ks.length<=op.length+2*ks'.length/\∀ a,toG a∈l.take q->a.cells <+: L.drop h.at_->Gd t st L (h.at_+a.cells.length) a.to->(⟨h.at_+a.cells.length,a.to,a.print⟩:HD)∈ks') ?_ ?_ _ ⟨rfl,ks,op,fd,rfl,rfl,rfl,hS,λ _ h=>h,Nat.le_refl _,λ a h=>by simp at h⟩
  ·rintro q ⟨_,_,_,_⟩ hq ⟨rfl,ks',op',fd',rfl,rfl,rfl,hS',hsub,hms,hcl⟩
   obtain ⟨a,ea,ha⟩:=hA1 _ (List.getElem_mem hq)
   have hal:=QP hc ha
   have nxt:∀ ks2 op2 fd2,SJ t st L H (λ g=>g=h) ks2 op2 fd2 e->(∀ g∈ks',g∈ks2)->op2.length+2*ks'.length<=op'.length+2*ks2.length->(a.cells <+: L.drop h.at_->Gd t st L (h.at_+a.cells.length) a.to->(⟨h.at_+a.cells.length,a.to,a.print⟩:HD)∈ks2) ->
     Tot (λ n=>BF n (q:Int) (mkK ks2) (op2.map toH) (fd2.map toH)) (Rd2 (λ x=>x.2.2.2=((q+1:Nat):Int)/\∃ ks' op' fd',x.1=mkK ks'/\x.2.1=op'.map toH/\x.2.2.1=fd'.map toH/\SJ t st L H (λ g=>g=h) ks' op' fd' e/\(∀ g∈ks,g∈ks')/\op'.length+2*ks.length<=op.length+2*ks'.length/\∀ a,toG a∈l.take (q+1)->a.cells <+: L.drop h.at_->Gd t st L (h.at_+a.cells.length) a.to->(⟨h.at_+a.cells.length,a.to,a.print⟩:HD)∈ks') λ y=>∃ ks' op' fd',y=.inl (mkK ks',op'.map toH,fd'.map toH)/\SJ t st L H (λ _=>False) ks' op' fd' e/\(∀ g∈ks,g∈ks')/\op'.length+2*ks.length<=op.length+2*ks'.length):=by
    intro ks2 op2 fd2 h1 h2 h3 h4
    refine Tot.pure ⟨CG (by omega),ks2,op2,fd2,rfl,rfl,rfl,h1,λ g hg=>h2 g (hsub g hg),by omega,λ a' ha'=>?_⟩
    rw [List.take_add_one,Jkw hq,Option.toList_some,List.mem_append,List.mem_singleton,ea] at ha'
    rcases ha' with h'|h'
    ·exact λ u v=>h2 _ (hcl a' h' u v)
    ·have:=YR h';subst this;exact h4
   unfold Bn
   refine Tot.iteT (by simp;omega) (Tot.bindC (y:=toG a) (by rw [Bj hq,ea]) (Tot.bindC (Mq hile) (Tot.bindE (Pv a.cells (L.drop h.at_) (by omega)) ?_)))
   by_cases hp:a.cells <+: L.drop h.at_
   ·have hcm:=Ij.2 hp
    have hbe:(((C5 a.cells (L.drop h.at_):Nat):Int)==((List.length (toG a).Cells:Nat):Int))=true:=by rw [hcm];exact beq_self_eq_true _
    have hsp:=YQ (i:=h.at_) (a:=a) (by omega) hal.2
    have hpl:h.at_+a.cells.length<=L.length:=by have:=hp.length_le;rw [List.length_drop] at this;omega
    by_cases hG:gud mp (h.at_+a.cells.length) a.to
    ·obtain ⟨k,hk1,hk2,hk3,_⟩:=ha.cells
     have hgd:=(hm _ _).1 hG
     obtain ⟨ks2,op2,fd2,q1,q2,q3,q4,q5⟩:=hS'.ins hB (h:=⟨h.at_+a.cells.length,a.to,a.print⟩) hgd (hS'.si.drv (hsub h hk) hr ha hp) (by rw [hk3];exact .of hpl (by omega) hk1)
     refine Tot.iteT hbe (Tot.bindA (y:=(mkK ks2,op2.map toH,fd2.map toH)) (λ n=>?_) (Tot.iteF (by rw [hbe];rfl) (nxt ks2 op2 fd2 q2 q4 q5 λ _ _=>q3)))
     rw [hsp]
     unfold B0
     refine (if_pos hG).trans ?_
     have:=q1 n
     rw [show (⟨spt (h.at_+a.cells.length) a.to,(toG a).Print⟩:Ac)=toH ⟨h.at_+a.cells.length,a.to,a.print⟩ from rfl,this]
     rfl
    ·refine Tot.iteT hbe (Tot.bindA (y:=(mkK ks',op'.map toH,fd'.map toH)) (λ n=>?_) (Tot.iteF (by rw [hbe];rfl) (nxt ks' op' fd' hS' (λ _ h=>h) (Nat.le_refl _) λ _ h2=>absurd ((hm _ _).2 h2) hG)))
     rw [hsp]
     unfold B0
     exact if_neg hG
   ·have hcm:C5 a.cells (L.drop h.at_)≠a.cells.length:=λ h=>hp (Ij.1 h)
    have hbe:(((C5 a.cells (L.drop h.at_):Nat):Int)==((List.length (toG a).Cells:Nat):Int))=false:=by rw [beq_eq_false_iff_ne];intro h;exact hcm (Int.ofNat_inj.1 h)
    exact Tot.iteF hbe (Tot.iteF (by rw [hbe];rfl) (nxt ks' op' fd' hS' (λ _ h=>h) (Nat.le_refl _) λ h1 _=>absurd h1 hp))
  ·rintro ⟨_,_,_,_⟩ ⟨rfl,ks',op',fd',rfl,rfl,rfl,hS',hsub,hms,hcl⟩
   unfold Bn
   refine Tot.iteF (by simp) (Tot.pure ⟨ks',op',fd',rfl,⟨hS'.si.close ⟨he,λ a ha hp hgd=>hcl a (by rw [List.take_length];exact hA2 a ha) hp hgd⟩,hS'.nd,hS'.un,hS'.le⟩,hsub,hms⟩)
 ·rintro y ⟨ks',op',fd',rfl,h1,h2,h3⟩
  exact Tot.pure ⟨ks',op',fd',rfl,h1,h2,h3⟩
theorem SL (hc:∀ r∈t.Rules,1<=r.Cells.length/\r.Cells.length<=1000) (hrl:t.Rules.length<=11) (hst:st.length<=768) (hL:L.length<=1000) (hB:(uni t L).length<=60000000) {g:An} (hg:Tg t st g) {mp:List (Ae×Bool)} (hm:∀ i j,gud mp i j↔Gd t st L i j) (hU:∀ h∈H,UH t L h) (hHl:H.length<=60000000) (hH:∀ h∈H,(∃ y,RG t st h.sta (L.drop h.at_) y)->Rc t st L h.at_ h.sta) :
  Tot (λ n=>Bd n L g (H.map toH) mp) (λ r=>∃ F,r.1=F.map toH/\Vh t st L H F r.2/\(∀ h∈F,UH t L h)/\F.length<=60000000):=by
 unfold Bd
 refine Tot.bind (R:=λ y=>∃ ks op fd,y=(op.map toH,fd.map toH,mkK ks)/\SJ t st L H (λ _=>False) ks op fd false/\∀ h∈H,Gd t st L h.at_ h.sta->h∈ks) ?_ ?_
 ·refine Tot.upto (body:=λ n (x:(List Ac)×(List Ac)×(List (Ac×Bool))×Int)=>Bo n L g (H.map toH) mp x.1 x.2.1 x.2.2.1 x.2.2.2) H.length (λ q x=>x.2.2.2=(q:Int)/\∃ ks op fd,x.1=op.map toH/\x.2.1=fd.map toH/\x.2.2.1=mkK ks/\SJ t st L H (λ _=>False) ks op fd false/\∀ h∈H.take q,Gd t st L h.at_ h.sta->h∈ks) ?_ ?_ _ ⟨rfl,[],[],[],rfl,rfl,rfl,⟨by simpa using SI.start,List.nodup_nil,λ h hh=>by simp at hh,Nat.le_refl _⟩,λ h hh=>by simp at hh⟩
  ·rintro q ⟨_,_,_,_⟩ hq ⟨rfl,ks,op,fd,rfl,rfl,rfl,hS,hin⟩
   have hmem:=List.getElem_mem hq
   have nxt:∀ ks2 op2 fd2,SJ t st L H (λ _=>False) ks2 op2 fd2 false->(∀ g∈ks,g∈ks2)->(Gd t st L H[q].at_ H[q].sta->H[q]∈ks2)->Tot (λ n=>BG n (q:Int) (op2.map toH) (fd2.map toH) (mkK ks2)) (Rd2 (λ x=>x.2.2.2=((q+1:Nat):Int)/\∃ ks op fd,x.1=op.map toH/\x.2.1=fd.map toH/\x.2.2.1=mkK ks/\SJ t st L H (λ _=>False) ks op fd false/\∀ h∈H.take (q+1),Gd t st L h.at_ h.sta->h∈ks) λ y=>∃ ks op fd,y=(op.map toH,fd.map toH,mkK ks)/\SJ t st L H (λ _=>False) ks op fd false/\∀ h∈H,Gd t st L h.at_ h.sta->h∈ks):=by
    intro ks2 op2 fd2 h1 h2 h3
    refine Tot.pure ⟨CG (by omega),ks2,op2,fd2,rfl,rfl,rfl,h1,λ h' hh=>?_⟩
    rw [List.take_add_one,Jkw hq,Option.toList_some,List.mem_append,List.mem_singleton] at hh
    rcases hh with hh|rfl
    ·exact λ u=>h2 _ (hin h' hh u)
    ·exact h3
   unfold Bo
   refine Tot.iteT (by simp;omega) (Tot.bindC (y:=toH H[q]) (ED (by rw [JkA,Jkw hq];rfl)) ?_)
   by_cases hG:gud mp H[q].at_ H[q].sta
   ·obtain ⟨ks2,op2,fd2,q1,q2,q3,q4,_⟩:=hS.ins hB ((hm _ _).1 hG) (λ y hy=>⟨H[q],hmem,y,hy,rfl⟩) (hU _ hmem)
    exact Tot.iteT hG (Tot.bindA q1 (nxt ks2 op2 fd2 q2 q4 λ _=>q3))
   ·exact Tot.iteF (by simpa [gud] using hG) (nxt ks op fd hS (λ _ h=>h) λ h=>absurd ((hm _ _).2 h) hG)
  ·rintro ⟨_,_,_,_⟩ ⟨rfl,ks,op,fd,rfl,rfl,rfl,hS,hin⟩
   unfold Bo
   refine Tot.iteF (by simp) (Tot.pure ⟨ks,op,fd,rfl,hS,λ h hh=>hin h (by rw [List.take_length];exact hh)⟩)
 ·rintro y ⟨ks,op,fd,rfl,hS,hin⟩
  refine Tot.bind (R:=λ r:(List Ac)×Bool=>∃ F,r.1=F.map toH/\Vh t st L H F r.2/\(∀ h∈F,UH t L h)/\F.length<=60000000) ?_ ?_
  ·refine Tot.whl (body:=λ n (x:(List Ac)×(List Ac)×(List (Ac×Bool))×Bool)=>BH n L g (H.map toH) mp x.1 x.2.1 x.2.2.1 x.2.2.2) (λ k x=>∃ ks op fd,x.1=op.map toH/\x.2.1=fd.map toH/\x.2.2.1=mkK ks/\SJ t st L H (λ _=>False) ks op fd x.2.2.2/\(∀ h∈H,Gd t st L h.at_ h.sta->h∈ks)/\k=2*(60000000-ks.length)+op.length) ?_ _ _ ⟨ks,op,fd,rfl,rfl,rfl,hS,hin,rfl⟩
   rintro k ⟨_,_,_,e⟩ ⟨ks,op,fd,rfl,rfl,rfl,hS,hin,rfl⟩
   have hsm:=hS.small hB
   have hle:=hS.le
   unfold BH
   rcases List.eq_nil_or_concat op with rfl|⟨op0,h,rfl⟩
   ·refine Tot.iteF (by simp) (Tot.pure ⟨fd,rfl,SI.fin (λ r hr=>(hc r hr).1) hS.si hin hH,λ h hh=>hS.un h (hS.si.fnd h hh).1,by omega⟩)
   ·rw [List.concat_eq_append] at *
    have hlen:((op0++[h]).map toH).length=op0.length+1:=by simp
    have hle':op0.length+1<=60000000:=by simp at hle;omega
    have hsb:Ec .i64 ((List.length ((op0++[h]).map toH):Nat):Int) 1=(op0.length:Int):=by rw [hlen,ND (by omega) (by omega)];omega
    obtain ⟨hk,hr⟩:=hS.si.opn h (by simp)
    have hR:=(hS.si.kg h hk).1.1
    have hjl:=hR.live.lt
    have hac:=hg.acc _ _ (Jkw hjl)
    have go:∀ e':Bool,(e'=true↔e=true\/(h.at_=L.length/\∃ q,st[h.sta]? = some q/\AG t q=true))->Tot (λ n=>Bp n L g mp (fd.map toH) (mkK ks) (toH h) (op0.map toH) e') (Rd2 (λ y=>∃ j,j<2*(60000000-ks.length)+(op0++[h]).length/\∃ ks op fd,y.1=op.map toH/\y.2.1=fd.map toH/\y.2.2.1=mkK ks/\SJ t st L H (λ _=>False) ks op fd y.2.2.2/\(∀ h∈H,Gd t st L h.at_ h.sta->h∈ks)/\j=2*(60000000-ks.length)+op.length) λ r=>∃ F,r.1=F.map toH/\Vh t st L H F r.2/\(∀ h∈F,UH t L h)/\F.length<=60000000):=by
     intro e' he'
     unfold Bp
     refine Tot.bindA (f:=λ _=>some ()) (y:=()) (λ _=>rfl) (Tot.bind (Jab hc hrl hst hL hB hg hm (H:=H) (ks:=ks) (op:=op0) (fd:=fd) (e:=e') hk hr (λ h1 h2=>he'.2 (.inr ⟨h1,h2⟩)) ⟨hS.si.pop he',hS.nd,hS.un,by simp at hle;omega⟩) ?_)
     rintro r ⟨ks',op',fd',rfl,h1,h2,h3⟩
     have hsm':=h1.small hB
     exact Tot.iteT rfl (Tot.pure ⟨_,by simp;omega,ks',op',fd',rfl,rfl,rfl,h1,λ x hx hx'=>h2 _ (hin x hx hx'),rfl⟩)
    refine Tot.iteT (by simp) (Tot.bindC (y:=toH h) (by rw [hsb];exact ED (by simp)) (Tot.bindC (y:=op0.map toH) (by rw [hsb];rw [GU (by simp)];simp) ?_))
    by_cases hi:h.at_=L.length
    ·have hbe:(((h.at_:Nat):Int)==((L.length:Nat):Int))=true:=by rw [hi];exact beq_self_eq_true _
     refine Tot.bindC (y:=AG t st[h.sta]) ((if_pos hbe).trans (ED hac)) ?_
     by_cases ha:AG t st[h.sta]=true
     ·exact Tot.iteT (by rw [ha];exact (congrArg (·&&true) hbe)) (go true ⟨λ _=>.inr ⟨hi,_,Jkw hjl,ha⟩,λ _=>rfl⟩)
     ·refine Tot.iteF (by rw [Bool.eq_false_iff.2 ha,Bool.and_false]) (go e ⟨.inl,λ h=>?_⟩)
      rcases h with h|⟨_,q,h1,h2⟩
      ·exact h
      ·rw [Jkw hjl] at h1;cases h1;exact absurd h2 ha
    ·have hbe:(((h.at_:Nat):Int)==((L.length:Nat):Int))=false:=by rw [beq_eq_false_iff_ne];intro h;exact hi (Int.ofNat_inj.1 h)
     refine Tot.bindC (y:=default) (if_neg (by rw [hbe];simp)) (Tot.iteF (congrArg (·&&default) hbe) (go e ⟨.inl,λ h=>?_⟩))
     rcases h with h|⟨h,_⟩
     ·exact h
     ·exact absurd h hi
  ·rintro ⟨r1,r2⟩ ⟨F,rfl,h1,h2,h3⟩
   refine Tot.bindA (y:=F.map toH) (λ n=>?_) (Tot.pure ⟨F,rfl,h1,h2,h3⟩)
   unfold Jr
   rw [GU (l:=F.map toH) (k:=(F.map toH).length) (Nat.le_refl _),Option.bind_some,List.take_length]
theorem JdJ (n:Nat) (H:List Ac) (l:List Int) (g:An) (mp:List (Ae×Bool)):BY n H l g mp=Bd n l g H mp:=rfl
end
end Go.AI
end
section
namespace Go.AI
section
variable {t:Ab} {st:List Aa} {L:List Int}
def MG (F:List HD) (nx:Nat) (G:List HD) (v:Int):Prop:=(v=-1/\∀ h∈G,ge1 nx h.rest=false)\/∃ b:UInt8,v=(b.toNat:Int)/\nx<=b.toNat/\(∀ h∈G,ge1 nx h.rest=true->ge1 b.toNat h.rest=true)/\∃ h∈F,∃ r,h.rest=b::r
theorem WS {F:List HD} (hO:OJ F) (hF:F.length<=60000000) (nx:Nat):Tot (λ n=>Cq n ⟨F.map toH,(nx:Int)⟩) (MG F nx F):=by
 unfold Cq
 refine Tot.bind (R:=MG F nx F) ?_ λ v hv=>Tot.pure hv
 refine Tot.upto (body:=λ n (x:Int×Int)=>BM n ⟨F.map toH,(nx:Int)⟩ x.1 x.2) F.length (λ q x=>x.2=(q:Int)/\MG F nx (F.take q) x.1) ?_ ?_ _ ⟨rfl,.inl ⟨rfl,λ h hh=>by simp at hh⟩⟩
 ·rintro q ⟨v,_⟩ hq ⟨rfl,hv⟩
  have hmem:=List.getElem_mem hq
  obtain ⟨c,r,hcr⟩:∃ c r,F[q].rest=c::r:=List.exists_cons_of_ne_nil (hO _ hmem)
  have hc256:c.toNat<256:=c.toNat_lt
  have hwr:IntKind.i64.wrap (EF c)=(c.toNat:Int):=NC (by unfold EF;omega) (by unfold EF;omega)
  have hge:ge1 nx F[q].rest=decide (nx<=c.toNat):=by rw [hcr];rfl
  have htk:∀ h,h∈F.take (q+1)↔h∈F.take q\/h=F[q]:=λ h=>by
   rw [List.take_add_one,Jkw hq,Option.toList_some,List.mem_append,List.mem_singleton]
  have nxt:∀ v',MG F nx (F.take (q+1)) v'->Tot (λ n=>Cb n (q:Int) v') (Rd2 (λ x=>x.2=((q+1:Nat):Int)/\MG F nx (F.take (q+1)) x.1) (MG F nx F)):=λ v' h=>Tot.pure ⟨CG (by omega),h⟩
  unfold BM
  refine Tot.iteT (by simp;omega) (Tot.bindC (y:=toH F[q]) (ED (by rw [JkA,Jkw hq];rfl)) (Tot.bindC (y:=EF c) (JR (i:=0) (by show F[q].rest[0]? = _;rw [hcr];rfl)) ?_))
  rw [hwr]
  by_cases hn:nx<=c.toNat
  ·rcases hv with ⟨e,h0⟩|⟨b,e,h1,h2,h3⟩
   ·have e:v=-1:=e
    subst e
    refine Tot.iteT (by simp;omega) (nxt _ (.inr ⟨c,rfl,hn,λ h hh hg=>?_,_,hmem,r,hcr⟩))
    rcases (htk h).1 hh with hh|rfl
    ·rw [h0 h hh] at hg;cases hg
    ·rw [hcr];simp [ge1]
   ·have e:v=(b.toNat:Int):=e
    subst e
    by_cases hlt:c.toNat<b.toNat
    ·refine Tot.iteT (by simp;omega) (nxt _ (.inr ⟨c,rfl,hn,λ h hh hg=>?_,_,hmem,r,hcr⟩))
     rcases (htk h).1 hh with hh|rfl
     ·have:=h2 h hh hg
      unfold ge1 at this ⊢
      split at this
      ·simp only [decide_eq_true_eq] at this ⊢;omega
      ·cases this
     ·rw [hcr];simp [ge1]
    ·refine Tot.iteF (by simp;omega) (nxt _ (.inr ⟨b,rfl,h1,λ h hh hg=>?_,h3⟩))
     rcases (htk h).1 hh with hh|rfl
     ·exact h2 h hh hg
     ·rw [hcr];simp [ge1];omega
  ·have hgf:ge1 nx F[q].rest=false:=by rw [hge];simpa using hn
   refine Tot.iteF (by simp;omega) (nxt _ ?_)
   rcases hv with ⟨e,h0⟩|⟨b,e,h1,h2,h3⟩
   ·refine .inl ⟨e,λ h hh=>?_⟩
    rcases (htk h).1 hh with hh|rfl
    ·exact h0 h hh
    ·exact hgf
   ·refine .inr ⟨b,e,h1,λ h hh hg=>?_,h3⟩
    rcases (htk h).1 hh with hh|rfl
    ·exact h2 h hh hg
    ·rw [hgf] at hg;cases hg
 ·rintro ⟨v,_⟩ ⟨rfl,hv⟩
  unfold BM
  rw [List.take_length] at hv
  exact Tot.iteF (by simp) (Tot.pure hv)
theorem T8 {F:List HD} (hO:OJ F) (hF:F.length<=60000000) (b:UInt8) {o0:List AY} {p0:Int} {nx:Int} (h0:idx o0 p0=some ⟨F.map toH,nx⟩):Tot (λ n=>BZ n p0 (EF b) o0) (λ r=>r=(Hn b F).map toH):=by
 unfold BZ
 refine Tot.bindC h0 (Tot.bind (R:=λ r=>r=(Hn b F).map toH) ?_ λ v hv=>Tot.pure hv)
 refine Tot.upto (body:=λ n (x:(List Ac)×Int)=>Bu n (EF b) o0 ⟨F.map toH,nx⟩ x.1 x.2) F.length (λ q x=>x.2=(q:Int)/\x.1=(Hn b (F.take q)).map toH) ?_ ?_ _ ⟨rfl,rfl⟩
 ·rintro q ⟨_,_⟩ hq ⟨rfl,rfl⟩
  have hmem:=List.getElem_mem hq
  obtain ⟨c,r,hcr⟩:∃ c r,F[q].rest=c::r:=List.exists_cons_of_ne_nil (hO _ hmem)
  have htk:Hn b (F.take (q+1))=Hn b (F.take q)++Hn b [F[q]]:=by
   rw [List.take_add_one,Jkw hq,Option.toList_some]
   unfold Hn
   rw [List.filterMap_append]
  have hl:(Hn b (F.take q)).length<=60000000:=by
   have h1:(Hn b (F.take q)).length<=(F.take q).length:=List.length_filterMap_le _ _
   have h2:=List.length_take_le q F
   rw [List.length_take] at h1;omega
  have h1:Hn b [F[q]]=if c=b then [⟨F[q].at_,F[q].sta,r⟩] else []:=by
   unfold Hn
   simp only [List.filterMap_cons,List.filterMap_nil,hcr]
   split<;>rename_i h<;>(split at h<;>simp_all)
  unfold Bu
  refine Tot.iteT (by simp;omega) (Tot.bindC (y:=toH F[q]) (ED (by rw [JkA,Jkw hq];rfl)) (Tot.bindC (y:=EF c) (JR (i:=0) (by show F[q].rest[0]? = _;rw [hcr];rfl)) ?_))
  by_cases e:c=b
  ·subst e
   refine Tot.iteT (beq_self_eq_true _) (Tot.bindC (y:=r) ?_ (Tot.bindC (DH (by simp;omega)) (Tot.pure ⟨CG (by omega),?_⟩)))
   ·show sub F[q].rest 1 ((List.length F[q].rest:Nat):Int)=some r
    rw [hcr,Jdo (by omega) (by simp only [List.length_cons];omega) (by simp)];simp
   ·show _=_
    rw [htk,h1,if_pos rfl,List.map_append]
    rfl
  ·have hne:(EF c==EF b)=false:=by
    rw [beq_eq_false_iff_ne]
    intro h
    unfold EF at h
    exact e (UInt8.toNat_inj.1 (by omega))
   refine Tot.iteF hne (Tot.pure ⟨CG (by omega),?_⟩)
   show _=_
   rw [htk,h1,if_neg e,List.append_nil]
 ·rintro ⟨_,_⟩ ⟨rfl,rfl⟩
  unfold Bu
  refine Tot.iteF (by simp) (Tot.pure ?_)
  show _=_
  rw [List.take_length]
structure BR where
 heads:List HD
 next:Nat
 texts:List (List UInt8)
structure Je0 (t:Ab) (st:List Aa) (L:List Int) (x:BR):Prop where
 opn:OJ x.heads
 good:∀ h∈x.heads,Rc t st L h.at_ h.sta/\∃ y,RG t st h.sta (L.drop h.at_) y
 un:∀ h∈x.heads,UH t L h
 len:x.heads.length<=60000000
 tx:KD t st L x.heads x.texts
 nx:x.next<=256
abbrev toB (x:BR):AY:=⟨x.heads.map toH,(x.next:Int)⟩
abbrev prB (x:BR):List (List UInt8)×Nat:=(x.texts,x.next)
structure TI (t:Ab) (st:List Aa) (L:List Int) (T0 out:List (List UInt8)) (S:List BR) (p:List UInt8):Prop where
 ok:∀ x∈S,Je0 t st L x
 len:S=[]\/p.length+1=S.length
 rem:out++QE (S.map prB) p=T0
 short:∀ x∈T0,x.length<=4000
 pl:p.length<=4000
theorem TI.back {T0 out:List (List UInt8)} {S:List BR} {x:BR} {p:List UInt8} (h:TI t st L T0 out (x::S) p) (hn:∀ g∈x.heads,ge1 x.next g.rest=false):TI t st L T0 out S p.dropLast/\NH (S.map prB)<NH ((x::S).map prB):=by
 have hx:=h.ok x (by simp)
 obtain ⟨e1,e2⟩:=JdE (S:=S.map prB) (p:=p) hx.tx hx.opn hn
 refine ⟨⟨λ y hy=>h.ok y (by simp [hy]),?_,by rw [← h.rem,List.map_cons,e1],h.short,by have:=h.pl;rw [List.length_dropLast];omega⟩,e2⟩
 cases S with
 | nil=>exact .inl rfl
 | cons y S=>
  right
  rcases h.len with q|q
  ·cases q
  ·rw [List.length_dropLast];simp only [List.length_cons] at q ⊢;omega
theorem TI.step (hc:∀ r∈t.Rules,1<=r.Cells.length) {T0 out:List (List UInt8)} {S:List BR} {x:BR} {p:List UInt8} {b:UInt8} {F:List HD} {e:Bool} {TF:List (List UInt8)} (h:TI t st L T0 out (x::S) p) (hb:x.next<=b.toNat) (hl:∀ g∈x.heads,ge1 x.next g.rest=true->ge1 b.toNat g.rest=true) (hin:∃ g∈x.heads,∃ r,g.rest=b::r) (hs:Vh t st L (Hn b x.heads) F e) (hu:∀ h∈F,UH t L h) (hlen:F.length<=60000000) (hF:KD t st L F TF) :
  TI t st L T0 (out++if e=true then [p++[b]] else []) (⟨F,0,TF⟩::⟨x.heads,b.toNat+1,x.texts⟩::S) (p++[b])/\NH ((⟨F,0,TF⟩::⟨x.heads,b.toNat+1,x.texts⟩::S:List BR).map prB)<NH ((x::S).map prB):=by
 have hx:=h.ok x (by simp)
 obtain ⟨T',hT'⟩:=T4 (t:=t) hc (st:=st) (L:=L) (Hn b x.heads)
 obtain ⟨g,hg,r,hr⟩:=hin
 have hgb:(⟨g.at_,g.sta,r⟩:HD)∈Hn b x.heads:=JW.2 (by rw [← hr];exact hg)
 have hne:T'≠[]:=hT'.behind hgb (hx.good g hg).2
 obtain ⟨e1,e2⟩:=JdD (S:=S.map prB) (p:=p) hx.tx hx.opn hb hl hT' hne hs hF
 have hrem:=h.rem
 rw [List.map_cons,e1] at hrem
 have hb256:b.toNat<256:=b.toNat_lt
 have hpl:p.length+1<=4000:=by
  obtain ⟨y,hy⟩:=List.exists_mem_of_ne_nil _ hne
  obtain ⟨h2,hh2,y2,hy2,hy3⟩:=(hT'.2 y).1 hy
  have hq:=JW.1 hh2
  have hbx:b::y∈x.texts:=(hx.tx.2 _).2 ⟨_,hq,y2,hy2,by rw [hy3];rfl⟩
  have hmem:p++(b::y)∈T0:=by
   rw [← h.rem,List.map_cons]
   refine List.mem_append_right _ ?_
   show _∈(Pu x.texts x.next).map (p++·)++_
   refine List.mem_append_left _ (List.mem_map.2 ⟨_,?_,rfl⟩)
   unfold Pu
   rw [List.mem_filter]
   exact ⟨hbx,by simp [ge1,hb]⟩
  have:=h.short _ hmem
  rw [List.length_append,List.length_cons] at this
  omega
 refine ⟨⟨λ y hy=>?_,.inr ?_,by rw [← hrem,List.append_assoc];rfl,h.short,by simpa using hpl⟩,e2⟩
 ·simp only [List.mem_cons] at hy
  rcases hy with rfl|rfl|hy
  ·exact ⟨hs.opn,hs.good,hu,hlen,hF,by simp⟩
  ·exact ⟨hx.opn,hx.good,hx.un,hx.len,hx.tx,by simp;omega⟩
  ·exact h.ok y (by simp [hy])
 ·rcases h.len with q|q
  ·cases q
  ·simp only [List.length_append,List.length_cons,List.length_nil] at q ⊢;omega
theorem Je0.beh {x:BR} (hx:Je0 t st L x) (b:UInt8):(∀ h∈Hn b x.heads,UH t L h)/\(Hn b x.heads).length<=60000000/\∀ h∈Hn b x.heads,(∃ y,RG t st h.sta (L.drop h.at_) y)->Rc t st L h.at_ h.sta:=by
 refine ⟨λ h hh=>?_,?_,λ h hh _=>?_⟩
 ·have:=hx.un _ (JW.1 hh)
  exact this.tail
 ·have h1:(Hn b x.heads).length<=x.heads.length:=List.length_filterMap_le _ _
  have:=hx.len;omega
 ·exact (hx.good _ (JW.1 hh)).1
theorem RG.len {k:Nat} (hp:∀ r∈t.Rules,1<=r.Cells.length/\r.Print.length<=k) {i:Nat} {l:List Int} {x:List UInt8} (h:RG t st i l x):x.length<=k*l.length:=by
 induction h with
 | nil=>simp
 | @cons i a l x ha _ ih=>
  obtain ⟨j,h1,_,e1,e2⟩:=ha.cells
  have h3:=hp _ (C1 (k:=(j:Int)) (by omega) (by omega))
  rw [List.length_append,List.length_append,e1,e2]
  have:k*((cls t j).length+l.length)>=k*1+k*l.length:=by
   rw [Nat.mul_add]
   exact Nat.add_le_add_right (Nat.mul_le_mul_left k h3.1) _
  have h4:(prt t j).length<=k:=h3.2
  omega
end
end Go.AI
end
section
namespace Go.AI
structure En (t:Ab) (st:List Aa) (L:List Int) (g:An) (mp:List (Ae×Bool)):Prop where
 hc:∀ r∈t.Rules,1<=r.Cells.length/\r.Cells.length<=1000
 hrl:t.Rules.length<=11
 hst:st.length<=768
 hL:L.length<=1000
 hB:(uni t L).length<=60000000
 hg:Tg t st g
 hm:∀ i j,gud mp i j↔Gd t st L i j
theorem JdK (x:BR) (S:List BR):((x::S).map toB).reverse=(S.map toB).reverse++[toB x]:=by simp
theorem JdL {α:Type} {l:List α} (y:α) (h:l.length<=10000):Ec .i64 ((List.length (l++[y]):Nat):Int) 1=((l.length:Nat):Int):=by
 have:(l++[y]).length=l.length+1:=by simp
 rw [this,ND (by omega) (by omega)];omega
theorem WT {p:List UInt8} (h:p.length<=10000):sub (BE p) 0 (if 0>Ec .i64 ((List.length (BE p):Nat):Int) 1 then 0 else Ec .i64 ((List.length (BE p):Nat):Int) 1)=some (BE p.dropLast):=by
 have hl:=EH p
 rcases List.eq_nil_or_concat p with rfl|⟨q,b,rfl⟩
 ·rfl
 ·rw [List.concat_eq_append] at *
  rw [List.length_append,List.length_singleton] at h
  have e:Ec .i64 ((List.length (BE (q++[b])):Nat):Int) 1=((q.length:Nat):Int):=by
   rw [hl,List.length_append,List.length_singleton,ND (by omega) (by omega)];omega
  rw [e,if_neg (by omega),GU (by rw [hl];simp),List.dropLast_concat,Ih]
  rw [List.take_append_of_le_length (by rw [EH];exact Nat.le_refl _),← EH q,List.take_length]
theorem YS {α:Type} (l:List α) (y z:α):put (l++[y]) ((l.length:Nat):Int) z=some (l++[z]):=by
 rw [Sz (by simp)];simp
section
variable {t:Ab} {st:List Aa} {L:List Int} {g:An} {mp:List (Ae×Bool)}
theorem En.spread (h:En t st L g mp) {x:BR} (hx:Je0 t st L x) (b:UInt8):Tot (λ n=>Bd n L g ((Hn b x.heads).map toH) mp) (λ r=>∃ F,r.1=F.map toH/\Vh t st L (Hn b x.heads) F r.2/\(∀ h∈F,UH t L h)/\F.length<=60000000):=by
 obtain ⟨q1,q2,q3⟩:=hx.beh b
 exact SL h.hc h.hrl h.hst h.hL h.hB h.hg h.hm q1 q2 q3
theorem JjU {F:List HD} {T:List (List UInt8)} (hO:OJ F) (hT:KD t st L F T):Pu T 0=T:=by
 unfold Pu
 rw [List.filter_eq_self]
 intro x hx
 obtain ⟨h,hh,y,_,rfl⟩:=(hT.2 x).1 hx
 obtain ⟨c,r,e⟩:=List.exists_cons_of_ne_nil (hO h hh)
 rw [e];simp [ge1]
theorem JdM (hE:En t st L g mp) (b2:List Int) {T0:List (List UInt8)} (x0:List UInt8) (a0 e0:Int) {S:List BR} {p:List UInt8} (hT:TI t st L T0 [] S p) :
  Tot (λ n=>whl (λ (x:((List UInt8)×Int×Int×(List Int)×(List AY)))=>A7 n b2 L g mp x.1 x.2.1 x.2.2.1 x.2.2.2.1 x.2.2.2.2) n (x0,a0,e0,BE p,(S.map toB).reverse)) (λ y=>(T0=[]/\y=.inl (x0,a0,e0))\/∃ s r,T0=s::r/\y=.inr (2,s,((b2.length:Nat):Int),0)):=by
 refine Tot.whl (body:=λ n (x:(List UInt8)×Int×Int×(List Int)×(List AY))=>A7 n b2 L g mp x.1 x.2.1 x.2.2.1 x.2.2.2.1 x.2.2.2.2) (λ k x=>∃ S p,x=(x0,a0,e0,BE p,(S.map toB).reverse)/\TI t st L T0 [] S p/\k=NH (S.map prB)) ?_ _ _ ⟨S,p,rfl,hT,rfl⟩
 rintro k _ ⟨S,p,rfl,hT,rfl⟩
 cases S with
 | nil=>
  unfold A7
  refine Tot.iteF (by simp) (Tot.pure (.inl ⟨?_,rfl⟩))
  have:=hT.rem
  simpa [QE] using this.symm
 | cons x S=>
  have hx:=hT.ok x (by simp)
  have hpl:=hT.pl
  have hlen:p.length+1=S.length+1:=by
   rcases hT.len with q|q
   ·cases q
   ·simpa using q
  have hl0:((S.map toB).reverse).length<=10000:=by simp;omega
  have htop:=λ y:AY=>JdL y hl0
  unfold A7
  simp only [JdK]
  refine Tot.iteT (by simp) (Tot.bindC (y:=toB x) (by rw [htop];exact ED (by simp)) (Tot.bind (WS hx.opn hx.len x.next) ?_))
  rintro v (⟨rfl,hno⟩|⟨b,rfl,hb,hl,hin⟩)
  ·obtain ⟨q1,q2⟩:=hT.back hno
   refine Tot.iteT rfl (Tot.bindC (y:=(S.map toB).reverse) (by rw [htop,GU (by simp)];simp) (Tot.bindC (WT (by omega)) (Tot.pure ⟨_,q2,S,p.dropLast,rfl,q1,rfl⟩)))
  ·have hb256:b.toNat<256:=b.toNat_lt
   have hw:IntKind.u8.wrap ((b.toNat:Nat):Int)=EF b:=Jdd (by omega) (by omega)
   have hnx:Bl .i64 ((b.toNat:Nat):Int) 1=((b.toNat+1:Nat):Int):=CG (by omega)
   have hbs:BE p++[EF b]=BE (p++[b]):=by rw [Ih];rfl
   refine Tot.iteF (by simp) (Tot.bindC (y:=(S.map toB).reverse++[toB ⟨x.heads,b.toNat+1,x.texts⟩]) ?_ (Tot.bindC (y:=BE (p++[b])) (by rw [hw,DH (by rw [EH];simp;omega),hbs]) ?_))
   ·rw [htop,hnx];exact YS _ _ _
   ·rw [hw,htop]
    refine Tot.bind (T8 hx.opn hx.len b (nx:=((b.toNat+1:Nat):Int)) (ED (by simp))) λ r50 h50=>?_
    subst h50
    refine Tot.bind (hE.spread hx b) ?_
    rintro ⟨_,e⟩ ⟨F,rfl,hs,hu,hFl⟩
    obtain ⟨TF,hTF⟩:=T4 (t:=t) (λ r hr=>(hE.hc r hr).1) (st:=st) (L:=L) F
    obtain ⟨q1,q2⟩:=hT.step (λ r hr=>(hE.hc r hr).1) hb hl hin hs hu hFl hTF
    cases e with
    | true=>
     refine Tot.iteT rfl (Tot.bindC (OH _) (Tot.bindA (f:=λ _=>some ()) (y:=()) (λ _=>rfl) (Tot.iteT rfl (Tot.pure (.inr ⟨_,_,q1.rem.symm,rfl⟩)))))
    | false=>
     refine Tot.iteF (by simp) (Tot.iteF rfl ?_)
     unfold BI
     refine Tot.bindC (DH (by simp;omega)) (Tot.pure ⟨_,q2,_,p++[b],?_,q1,rfl⟩)
     simp
def Lk (t:Ab) (st:List Aa) (L:List Int) (T:List (List UInt8)):Prop:=Eb T/\∀ x,x∈T↔RG t st 0 L x
theorem Lk.ofTx {T:List (List UInt8)} (h:KD t st L [⟨0,0,[]⟩] T):Lk t st L T:=by
 refine ⟨h.1,λ x=>(h.2 x).trans ?_⟩
 constructor
 ·rintro ⟨a,ha,y,hy,rfl⟩
  simp at ha;subst ha
  simpa using hy
 ·intro hx
  exact ⟨⟨0,0,[]⟩,by simp,x,by simpa using hx,rfl⟩
theorem Lk.uniq {T T':List (List UInt8)} (h:Lk t st L T) (h':Lk t st L T'):T=T':=h.1.ext h'.1 λ x=>(h.2 x).trans (h'.2 x).symm
theorem WU (hE:En t st L g mp) (hp:∀ r∈t.Rules,r.Print.length<=4) {T:List (List UInt8)} (hT:Lk t st L T):Tot (λ n=>BY n ([({ Spot:=({ At:=0,State:=0 }:Ae),Rest:=[] }:Ac)]) L g mp) (λ r=>∃ F TF,r.1=F.map toH/\T=(if r.2=true then [[]] else [])++TF/\TI t st L T (if r.2=true then [[]] else []) [⟨F,0,TF⟩] []):=by
 have hu:∀ h∈[(⟨0,0,[]⟩:HD)],UH t L h:=λ h hh=>by
  simp at hh;subst hh
  exact ⟨by simp,by simp,by simp [Th]⟩
 refine Tot.congr (Tot.mono (SL hE.hc hE.hrl hE.hst hE.hL hE.hB hE.hg hE.hm (H:=[⟨0,0,[]⟩]) hu (by simp) (λ h hh hy=>?_)) ?_) (λ n=>JdJ n _ L g mp)
 ·simp at hh;subst hh
  obtain ⟨y,hy⟩:=hy
  exact .start hy.live
 ·rintro ⟨_,e⟩ ⟨F,rfl,hs,hU,hFl⟩
  obtain ⟨TF,hTF⟩:=T4 (t:=t) (λ r hr=>(hE.hc r hr).1) (st:=st) (L:=L) F
  obtain ⟨T2,hT2⟩:=T4 (t:=t) (λ r hr=>(hE.hc r hr).1) (st:=st) (L:=L) [⟨0,0,[]⟩]
  have:=hT.uniq (Lk.ofTx hT2)
  subst this
  have e1:=hs.tx hT2 hTF
  refine ⟨F,TF,rfl,e1,⟨λ x hx=>?_,.inr rfl,?_,λ x hx=>?_,by simp⟩⟩
  ·simp at hx;subst hx
   exact ⟨hs.opn,hs.good,hU,hFl,hTF,by simp⟩
  ·show _++((Pu TF 0).map ([]++·)++QE [] _)=T
   rw [JjU hs.opn hTF]
   simp only [List.nil_append,List.map_id',QE,List.append_nil]
   exact e1.symm
  ·have:=((hT.2 x).1 hx).len (k:=4) (λ r hr=>⟨(hE.hc r hr).1,hp r hr⟩)
   have:=hE.hL
   omega
theorem Jac (hE:En t st L g mp) (hp:∀ r∈t.Rules,r.Print.length<=4) {T:List (List UInt8)} (hT:Lk t st L T) (b2:List Int) (x0:List UInt8) (a0 e0:Int) :
  Tot (λ n=>Cc n b2 x0 a0 e0 L g mp) (λ r=>(T=[]/\r=(0,x0,a0,e0))\/∃ s r',T=s::r'/\r=(2,s,((b2.length:Nat):Int),0)):=by
 unfold Cc
 refine Tot.bind (WU hE hp hT) ?_
 rintro ⟨_,e⟩ ⟨F,TF,rfl,hTT,hTI⟩
 cases e with
 | true=>exact Tot.iteT rfl (Tot.bindA (f:=λ _=>some ()) (y:=()) (λ _=>rfl) (Tot.iteT rfl (Tot.pure (.inr ⟨[],TF,hTT,rfl⟩))))
 | false=>
  refine Tot.iteF (by simp) (Tot.iteF rfl ?_)
  unfold BJ
  refine Tot.bind (JdM hE b2 x0 a0 e0 (S:=[⟨F,0,TF⟩]) (p:=[]) hTI) ?_
  rintro y (⟨h1,rfl⟩|⟨s,r,h1,rfl⟩)
  ·exact Tot.pure (.inl ⟨h1,rfl⟩)
  ·exact Tot.pure (.inr ⟨s,r,h1,rfl⟩)
theorem QR (n:Nat) (s:List UInt8) (lim:Nat) (e3:Int) (o5 o6:List (List UInt8)) (hl:o6.length<=1099511627776):Es n s (lim:Int) e3 o5 o6=some (if o6.length=lim then (2,2,[],o6) else (0,e3,o5,o6++[s])):=by
 unfold Es
 by_cases h:o6.length=lim
 ·rw [if_pos (by rw [h];exact beq_self_eq_true _),if_pos h]
 ·rw [if_neg (by simp;omega),if_neg h,DH (by simp;omega)];rfl
theorem Jad (hE:En t st L g mp) (lim:Nat) {T0:List (List UInt8)} (hcap:∀ k,k<=lim->k<=T0.length->k<=1099511627776) {out:List (List UInt8)} (ho:out.length<=lim) {S:List BR} {p:List UInt8} (hT:TI t st L T0 out S p) :
  Tot (λ n=>whl (λ (x:(Int×(List Int)×(List AY)×(List (List UInt8))×(List (List UInt8))))=>A6 n (lim:Int) L g mp x.1 x.2.1 x.2.2.1 x.2.2.2.1 x.2.2.2.2) n (0,BE p,(S.map toB).reverse,[],out)) (λ y=>(T0.length<=lim/\y=.inl (0,[],T0))\/(lim<T0.length/\∃ o,y=.inr (2,2,[],o))):=by
 refine Tot.whl (body:=λ n (x:Int×(List Int)×(List AY)×(List (List UInt8))×(List (List UInt8)))=>A6 n (lim:Int) L g mp x.1 x.2.1 x.2.2.1 x.2.2.2.1 x.2.2.2.2) (λ k x=>∃ S p out,x=(0,BE p,(S.map toB).reverse,[],out)/\out.length<=lim/\TI t st L T0 out S p/\k=NH (S.map prB)) ?_ _ _ ⟨S,p,out,rfl,ho,hT,rfl⟩
 rintro k _ ⟨S,p,out,rfl,ho,hT,rfl⟩
 cases S with
 | nil=>
  unfold A6
  have:=hT.rem
  simp only [List.map_nil,QE,List.append_nil] at this
  subst this
  exact Tot.iteF (by simp) (Tot.pure (.inl ⟨ho,rfl⟩))
 | cons x S=>
  have hx:=hT.ok x (by simp)
  have hpl:=hT.pl
  have hlen:p.length+1=S.length+1:=by
   rcases hT.len with q|q
   ·cases q
   ·simpa using q
  have hl0:((S.map toB).reverse).length<=10000:=by simp;omega
  have htop:=λ y:AY=>JdL y hl0
  have hol:out.length<=1099511627776:=hcap _ ho (by rw [← hT.rem];simp)
  unfold A6
  simp only [JdK]
  refine Tot.iteT (by simp) (Tot.bindC (y:=toB x) (by rw [htop];exact ED (by simp)) (Tot.bind (WS hx.opn hx.len x.next) ?_))
  rintro v (⟨rfl,hno⟩|⟨b,rfl,hb,hl,hin⟩)
  ·obtain ⟨q1,q2⟩:=hT.back hno
   refine Tot.iteT rfl (Tot.bindC (y:=(S.map toB).reverse) (by rw [htop,GU (by simp)];simp) (Tot.bindC (WT (by omega)) (Tot.pure ⟨_,q2,S,p.dropLast,out,rfl,ho,q1,rfl⟩)))
  ·have hb256:b.toNat<256:=b.toNat_lt
   have hw:IntKind.u8.wrap ((b.toNat:Nat):Int)=EF b:=Jdd (by omega) (by omega)
   have hnx:Bl .i64 ((b.toNat:Nat):Int) 1=((b.toNat+1:Nat):Int):=CG (by omega)
   have hbs:BE p++[EF b]=BE (p++[b]):=by rw [Ih];rfl
   refine Tot.iteF (by simp) (Tot.bindC (y:=(S.map toB).reverse++[toB ⟨x.heads,b.toNat+1,x.texts⟩]) ?_ (Tot.bindC (y:=BE (p++[b])) (by rw [hw,DH (by rw [EH];simp;omega),hbs]) ?_))
   ·rw [htop,hnx];exact YS _ _ _
   ·rw [hw,htop]
    refine Tot.bind (T8 hx.opn hx.len b (nx:=((b.toNat+1:Nat):Int)) (ED (by simp))) λ r50 h50=>?_
    subst h50
    refine Tot.bind (hE.spread hx b) ?_
    rintro ⟨_,e⟩ ⟨F,rfl,hs,hu,hFl⟩
    obtain ⟨TF,hTF⟩:=T4 (t:=t) (λ r hr=>(hE.hc r hr).1) (st:=st) (L:=L) F
    obtain ⟨q1,q2⟩:=hT.step (λ r hr=>(hE.hc r hr).1) hb hl hin hs hu hFl hTF
    have go:∀ out',out'.length<=lim->TI t st L T0 out' (⟨F,0,TF⟩::⟨x.heads,b.toNat+1,x.texts⟩::S) (p++[b])->Tot (λ n=>Bg n ((S.map toB).reverse++[toB ⟨x.heads,b.toNat+1,x.texts⟩]) (BE (p++[b])) (F.map toH,e) 0 [] out') (Rd2 (λ y=>∃ j,j<NH ((x::S).map prB)/\∃ S p out,y=(0,BE p,(S.map toB).reverse,[],out)/\out.length<=lim/\TI t st L T0 out S p/\j=NH (S.map prB)) λ y=>(T0.length<=lim/\y=.inl (0,[],T0))\/(lim<T0.length/\∃ o,y=.inr (2,2,[],o))):=by
     intro out' ho' hT'
     unfold Bg
     refine Tot.bindC (DH (by simp;omega)) (Tot.pure ⟨_,q2,_,p++[b],out',?_,ho',hT',rfl⟩)
     simp
    cases e with
    | true=>
     refine Tot.iteT rfl (Tot.bindC (OH _) ?_)
     rw [if_pos rfl] at q1
     by_cases h:out.length=lim
     ·refine Tot.bindA (λ n=>(QR n _ lim 0 [] out hol).trans (congrArg some (if_pos h))) (Tot.iteT rfl (Tot.pure (.inr ⟨?_,_,rfl⟩)))
      have:=q1.rem
      rw [← this];simp;omega
     ·refine Tot.bindA (λ n=>(QR n _ lim 0 [] out hol).trans (congrArg some (if_neg h))) (Tot.iteF rfl (go _ (by simp;omega) q1))
    | false=>
     refine Tot.iteF (by simp) (Tot.iteF rfl (go out ho ?_))
     simpa using q1
theorem Yb (hE:En t st L g mp) (hp:∀ r∈t.Rules,r.Print.length<=4) {T:List (List UInt8)} (hT:Lk t st L T) (lim:Nat) (hcap:∀ k,k<=lim->k<=T.length->k<=1099511627776) :
  Tot (λ n=>B1 n (lim:Int) 0 L g [] [] mp) (λ r=>(T.length<=lim/\r=(0,0,[],T))\/(lim<T.length/\∃ o,r=(2,2,[],o))):=by
 unfold B1
 refine Tot.bind (WU hE hp hT) ?_
 rintro ⟨_,e⟩ ⟨F,TF,rfl,hTT,hTI⟩
 have go:∀ out:List (List UInt8),out.length<=lim->TI t st L T out [⟨F,0,TF⟩] []->Tot (λ n=>Bh n (lim:Int) L g mp (F.map toH,e) 0 [] out) (λ r=>(T.length<=lim/\r=(0,0,[],T))\/(lim<T.length/\∃ o,r=(2,2,[],o))):=by
  intro out ho hTI
  unfold Bh
  refine Tot.bind (Jad hE lim hcap ho (S:=[⟨F,0,TF⟩]) (p:=[]) hTI) ?_
  rintro y (⟨h1,rfl⟩|⟨h1,o,rfl⟩)
  ·exact Tot.pure (.inl ⟨h1,rfl⟩)
  ·exact Tot.pure (.inr ⟨h1,o,rfl⟩)
 cases e with
 | true=>
  refine Tot.iteT rfl ?_
  by_cases h:lim=0
  ·refine Tot.bindA (λ n=>(QR n _ lim 0 [] [] (by simp)).trans (congrArg some (if_pos h.symm))) (Tot.iteT rfl (Tot.pure (.inr ⟨?_,_,rfl⟩)))
   rw [hTT];simp;omega
  ·exact Tot.bindA (λ n=>(QR n _ lim 0 [] [] (by simp)).trans (congrArg some (if_neg λ q=>h q.symm))) (Tot.iteF rfl (go _ (by simp;omega) hTI))
 | false=>exact Tot.iteF (by simp) (Tot.iteF rfl (go [] (by simp) hTI))
end
end Go.AI
end
section
namespace Go.AI
section
variable {t:Ab} {L:List Int}
theorem Br.cells4 (ht:Br t):∀ r∈t.Rules,1<=r.Cells.length/\r.Cells.length<=1000:=λ r hr=>by
 have:=GG (ht.sound r hr);omega
theorem Br.cells1 (ht:Br t):∀ r∈t.Rules,1<=r.Cells.length:=λ r hr=>(ht.cells4 r hr).1
theorem Br.prints4 (ht:Br t):∀ r∈t.Rules,r.Print.length<=4:=λ r hr=>(GG (ht.sound r hr)).1
theorem Br.en (ht:Br t) (hL:L.length<=1000) {r:An×(List (Ae×Bool))×Int} (hr:JeY t (AN t) L r):En t (AN t) L r.1 r.2.1:=
 ⟨ht.cells4,ht.tab.1,(CF ht.tab).1.len,hL,JeZ hL ht.tab.1 ht.prints4,hr.graph,hr.good⟩
theorem Br.first (ht:Br t):(AN t)[0]? = some BD:=(CF ht.tab).1.first
theorem YT (ht:Br t) {l:List Int} (h:GO t BD l):FB t (AN t) 0:=by
 obtain ⟨p,q',h1,h2,_⟩:=h
 exact MF (CF ht.tab).2 p _ q' 0 h1 h2 ht.first
def Far (t:Ab) (L:List Int) (m:Nat):Prop:=m<=L.length/\∀ n,1<=n->n<=L.length->(GO t BD (L.take n)↔n<=m)
theorem Far.uniq {m m':Nat} (h:Far t L m) (h':Far t L m'):m=m':=by
 obtain ⟨a,b⟩:=h
 obtain ⟨a',b'⟩:=h'
 by_cases e:m<m'
 ·have:=(b m' (by omega) a').1 ((b' m' (by omega) a').2 (Nat.le_refl _));omega
 ·by_cases e':m'<m
  ·have:=(b' m (by omega) a).1 ((b m (by omega) a).2 (Nat.le_refl _));omega
  ·omega
theorem Z0.le {st:List Aa} {m:Nat} (h:Z0 t st L m):m<=L.length:=by
 rcases h.at_ with rfl|⟨i,j,a,h1,_,rfl⟩
 ·omega
 ·have:=h1.le;have h2:=(Vg a.cells (L.drop i)).2;rw [List.length_drop] at h2;omega
theorem JeY.far (ht:Br t) {r:An×(List (Ae×Bool))×Int} (hr:JeY t (AN t) L r):∃ m:Nat,(if 0>r.2.2 then 0 else r.2.2)=(m:Int)/\Far t L m:=by
 rcases hr.most with ⟨_,m,e,hM⟩|⟨hl,e⟩
 ·exact ⟨m,by rw [e,if_neg (by omega)],hM.le,λ n _ h2=>YN (CF ht.tab).2 ht.first hM h2⟩
 ·refine ⟨0,by rw [e];rfl,by omega,λ n h1 _=>⟨λ h=>absurd (YT ht h) hl,λ h=>by omega⟩⟩
theorem Je1 (ht:Br t):∃ T,Lk t (AN t) L T:=by
 obtain ⟨T,hT⟩:=T4 (t:=t) ht.cells1 (st:=AN t) (L:=L) [⟨0,0,[]⟩]
 exact ⟨T,.ofTx hT⟩
theorem JdN (ht:Br t) (hL:L.length<=1000) {T:List (List UInt8)} (hT:Lk t (AN t) L T):Tot (λ n=>FZ n t L) (λ r=>(∃ s r',T=s::r'/\r=(s,((L.length:Nat):Int),0))\/(T=[]/\∃ m:Nat,Far t L m/\r=([],(m:Int),40))):=by
 unfold FZ
 refine Tot.bindE (Pp ht.small) (Tot.iteF (by rw [ht.valid];rfl) (Tot.bind (Ng ht.tab ht.cells4 hL) λ r hr=>Tot.bindA (f:=λ _=>some ()) (y:=()) (λ _=>rfl) (Tot.bind (Jac (ht.en hL hr) ht.prints4 hT L [] 0 0) ?_)))
 rintro y (⟨h1,rfl⟩|⟨s,r',h1,rfl⟩)
 ·obtain ⟨m,e,hm⟩:=hr.far ht
  exact Tot.iteT rfl (Tot.pure (.inr ⟨h1,m,hm,by rw [e]⟩))
 ·exact Tot.iteF rfl (Tot.iteT rfl (Tot.pure (.inl ⟨s,r',h1,rfl⟩)))
def Ms (T:List (List UInt8)) (lim:Int):List (List UInt8)×Int:=if lim<0 then ([],1) else if (T.length:Int)>lim then ([],2) else (T,0)
theorem Jae (ht:Br t) (hL:L.length<=1000) {T:List (List UInt8)} (hT:Lk t (AN t) L T) (lim:Int) (hcap:∀ k:Nat,(k:Int)<=lim->k<=T.length->k<=1099511627776):Tot (λ n=>EN n t L lim) (λ r=>r=Ms T lim):=by
 unfold EN Ms
 by_cases h0:lim<0
 ·exact Tot.iteT (by simpa using h0) (Tot.pure (by rw [if_pos h0]))
 ·obtain ⟨k,rfl⟩:∃ k:Nat,lim=(k:Int):=⟨lim.toNat,by omega⟩
  refine Tot.iteF (by simp) (Tot.bindE (Pp ht.small) (Tot.iteF (by rw [ht.valid];rfl) (Tot.bind (Ng ht.tab ht.cells4 hL) λ r hr=>Tot.bindA (f:=λ _=>some ()) (y:=()) (λ _=>rfl) (Tot.bind (Yb (ht.en hL hr) ht.prints4 hT k λ j h1 h2=>hcap j (by omega) h2) ?_))))
  rintro y (⟨h1,rfl⟩|⟨h1,o,rfl⟩)
  ·exact Tot.iteT rfl (Tot.pure (by rw [if_neg h0,if_neg (by omega)]))
  ·exact Tot.iteF rfl (Tot.iteT rfl (Tot.pure (by rw [if_neg h0,if_pos (by omega)])))
theorem JdO (ht:Br t) (hL:L.length<=1000):Tot (λ n=>G2 n t L) (λ b=>b=true↔GO t BD L):=by
 obtain ⟨hF,hD⟩:=CF ht.tab
 unfold G2
 refine Tot.bindE (Pp ht.small) (Tot.iteF (by rw [ht.valid];rfl) (Tot.bind (WO ht.tab) λ g hg=>Tot.bind (WQ ht.cells4 hF.len (Aq hF.first) ht.tab.1 hL hg) λ r hr=>Tot.pure ?_))
 rcases hr.most with ⟨_,m,e,hM⟩|⟨hl,e⟩
 ·have h1:=YN hD ht.first hM (Nat.le_refl L.length)
  have h2:=hM.le
  rw [List.take_length] at h1
  rw [h1,e]
  simp only [beq_iff_eq]
  omega
 ·rw [e]
  constructor
  ·intro h;simp only [beq_iff_eq] at h;omega
  ·intro h;exact absurd (YT ht h) hl
end
end Go.AI
end
section
namespace Go.AI
theorem WV:Ev (λ n=>H3 n) true:=Ev.of (λ n m h=>Tb h) (n:=60) (by kernel_rfl)
theorem JdP {t:Ab} (hc:∀ r∈t.Rules,1<=r.Cells.length/\r.Cells.length<=1000) (hrl:t.Rules.length<=11) {l:List Int} (hl:∀ a∈l,U8 a) (lim:Nat) (hlim:lim<=100):Tot (λ n=>MD n t l (lim:Int)) (λ r=>r.length<=lim):=by
 unfold MD
 refine Tot.bind (R:=λ r=>r.length<=lim+1000) ?_ λ y hy=>Tot.bindC (y:=y.take lim) ?_ (Tot.pure (List.length_take_le _ _))
 ·refine Tot.whl (body:=λ n (x:List Int×Int)=>HC n t l (lim:Int) x.1 x.2) (λ k x=>∃ i:Nat,x.2=(i:Int)/\i<=x.1.length/\x.1.length<=lim+1000/\k=lim+1000-x.1.length) ?_ (lim+1000) _ ⟨0,rfl,Nat.le_refl _,by simp,by simp⟩
  rintro k ⟨out,_⟩ ⟨i,rfl,hi,ho,rfl⟩
  simp only at hi ho
  unfold HC
  by_cases hcd:i<l.length/\out.length<lim/\0<t.Rules.length
  ·obtain ⟨h1,h2,h3⟩:=hcd
   have hu:=hl _ (List.getElem_mem h1)
   have hw:IntKind.i64.wrap l[i]=l[i]:=by obtain ⟨a,b⟩:=hu;exact NC (by omega) (by omega)
   have hir:=EG (a:=l[i]) (m:=((t.Rules.length:Nat):Int)) hu.1 (by omega)
   obtain ⟨r,hr,hri⟩:=NG (l:=t.Rules) hir.1 hir.2
   have hrc:=hc r hr
   have hout:∀ z:List Int,1<=z.length->z.length<=1000->Tot (λ n=>HB n (i:Int) (out++z)) (Rd2 (λ y=>∃ j,j<lim+1000-out.length/\∃ i:Nat,y.2=(i:Int)/\i<=y.1.length/\y.1.length<=lim+1000/\j=lim+1000-y.1.length) λ r=>r.length<=lim+1000):=λ z hz hz'=>
    Tot.pure ⟨lim+1000-(out++z).length,by rw [List.length_append];omega,i+1,CG (by omega),by rw [List.length_append];omega,by rw [List.length_append];omega,rfl⟩
   refine Tot.iteT (by simp;omega) (Tot.bindC (Bj h1) (Tot.bindC (JP (by simp;intro e;rw [e] at h3;simp at h3)) (Tot.bindC (by rw [hw];exact hri) (Tot.bindC (Bj h1) (Tot.ite (λ _=>Tot.bindC (Bj h1) (Tot.bindC (DH (by simp;omega)) (hout _ (by simp) (by simp)))) λ _=>Tot.bindC (DH (by simp only;omega)) (hout _ hrc.1 hrc.2))))))
  ·refine Tot.iteF ?_ (Tot.pure ho)
   rw [Bool.eq_false_iff]
   intro h
   simp only [Jkx,decide_eq_true_eq] at h
   exact hcd ⟨by omega,by omega,by omega⟩
 ·by_cases h:lim<y.length
  ·rw [if_pos (by omega),GU (by omega)]
  ·rw [if_neg (by omega),GU (Nat.le_refl _),List.take_length,List.take_of_length_le (by omega)]
section
variable {t:Ab} {L:List Int}
theorem Je2 {q:Aa} {l:List Int} (h:GO t q l) (k:Nat):GO t q (l.take k):=by
 obtain ⟨p,q',h1,h2,h3⟩:=h
 exact ⟨p,q',h1,h2,(List.take_prefix _ _).trans h3⟩
theorem Lk.go (ht:Br t) {T:List (List UInt8)} (hT:Lk t (AN t) L T) {s:List UInt8} (h:s∈T):GO t BD L:=by
 obtain ⟨p,q',h1,h2,h3,_⟩:=(X9 (CF ht.tab).2 ht.first).1 ((hT.2 s).1 h)
 exact ⟨p,q',h1,h2,by rw [h3];exact List.prefix_rfl⟩
end
theorem E7.take {t:Ab}:∀ {p:List Int} {s s':Aa} (k:Nat),E7 t s p s'->∃ s2,E7 t s (p.take k) s2
 | _,s,_,0,_=>⟨s,by simp [E7]⟩
 | [],s,_,_+1,_=>⟨s,rfl⟩
 | a::p,s,s',k+1,h=>by
  obtain ⟨s2,h2⟩:=E7.take k h.2
  exact ⟨s2,h.1,h2⟩
end Go.AI
end
section
namespace Go.AI
theorem Mt {n:Int} (h:okI .u8 n):U8 n:=by
 unfold okI Lit.wf at h
 have:IntKind.u8.min=0/\IntKind.u8.max=255:=by decide
 unfold U8
 simp only [Jkx,decide_eq_true_eq] at h
 omega
theorem Ti {r:DE} (h:Kr r):YJ r:=by
 obtain ⟨a,b,c,d,e,f⟩:=h
 exact ⟨λ y hy=>Mt (a y hy),λ y hy=>Mt (b y hy),Mt c,Mt d,Mt e,Mt f⟩
theorem Jaf {x:MM} (h:XV x):SA x:=⟨(Mt h.1).1,λ r hr=>Ti (h.2.2 r hr)⟩
theorem JiV {l:List Int} (h:∀ a∈l,okI .u8 a):∀ a∈l,U8 a:=λ a ha=>Mt (h a ha)
end Go.AI
end
section
namespace Go.AI
theorem T9 {l m:List (List UInt8)} (h:l.Nodup) (hs:∀ x∈l,x∈m):l.length<=m.length:=by
 induction l generalizing m with
 | nil=>simp
 | cons a l ih=>
  rw [List.nodup_cons] at h
  have ha:=hs a (by simp)
  have hlen:(m.erase a).length=m.length-1:=List.length_erase_of_mem ha
  have hpos:0<m.length:=List.length_pos_of_mem ha
  have:=ih (m:=m.erase a) h.2 λ x hx=>by
   have hne:x≠a:=λ e=>h.1 (e▸hx)
   exact (List.mem_erase_of_ne hne).2 (hs x (by simp [hx]))
  simp
  omega
theorem Eb.nodup {l:List (List UInt8)} (h:Eb l):l.Nodup:=List.Pairwise.imp (λ {a b} h=>λ e=>by subst e;exact Ii _ h) h
theorem Jag (s:List UInt8) (d:Bool) (x:List UInt8) (r:List (List UInt8)):Hg s d (x::r)=if (!(d||(x==s))&&!(Op.bytesLess x s||x==s))=true then s::x::Hg s true r else x::Hg s (d||(x==s)) r:=rfl
theorem Jah (l:List (List UInt8)) (s:List UInt8) (hl:l.length<=1099511627776):Tot (λ n=>Fy n l s) (λ r=>r=Hg s false l):=by
 unfold Fy
 refine Tot.bind (R:=λ y:List (List UInt8)×Bool=>y.1++(if y.2=true then [] else [s])=Hg s false l/\y.1.length<=l.length+1) ?_ ?_
 ·refine Tot.upto (body:=λ n (x:List (List UInt8)×Bool×Int)=>Du n l s x.1 x.2.1 x.2.2) l.length (λ i x=>x.2.2=(i:Int)/\x.1++Hg s x.2.1 (l.drop i)=Hg s false l/\x.1.length<=i+1/\(x.2.1=false->x.1.length<=i)) ?_ ?_ _ ⟨rfl,rfl,by simp,by simp⟩
  ·rintro i ⟨out,d,_⟩ hi ⟨rfl,he,hlen,hlen'⟩
   have hd:=List.drop_eq_getElem_cons hi
   rw [hd,Jag] at he
   have key:∀ d',d'=(d||(l[i]==s))->Tot (λ n=>Dt n l s out (i:Int) d') (Rd2 (λ x=>x.2.2=((i+1:Nat):Int)/\x.1++Hg s x.2.1 (l.drop (i+1))=Hg s false l/\x.1.length<=i+1+1/\(x.2.1=false->x.1.length<=i+1)) λ y=>y.1++(if y.2=true then [] else [s])=Hg s false l/\y.1.length<=l.length+1):=by
    intro d' hd'
    simp only at he hlen hlen'
    rw [← hd'] at he
    have fin:∀ out' d2,out'++(l[i]::Hg s d2 (l.drop (i+1)))=Hg s false l->out'.length<=i+1->(d2=false->out'.length<=i)->Tot (λ n=>Ds n l (i:Int) out' d2) (Rd2 (λ x=>x.2.2=((i+1:Nat):Int)/\x.1++Hg s x.2.1 (l.drop (i+1))=Hg s false l/\x.1.length<=i+1+1/\(x.2.1=false->x.1.length<=i+1)) λ y=>y.1++(if y.2=true then [] else [s])=Hg s false l/\y.1.length<=l.length+1):=λ out' d2 h1 h2 h3=>by
     unfold Ds
     exact Tot.bindC (Bj hi) (Tot.bindC (DH (by simp;omega)) (Tot.pure ⟨CG (by omega),by simpa using h1,by simp;omega,λ h=>by have:=h3 h;simp;omega⟩))
    unfold Dt
    cases hb:d' with
    | true=>
     refine Tot.bindC (y:=default) rfl (Tot.iteF rfl (fin _ _ ?_ hlen (λ h=>by cases h)))
     rw [hb] at he
     simpa using he
    | false=>
     have hdf:d=false:=by
      rw [hb] at hd'
      cases d with
      | true=>simp at hd'
      | false=>rfl
     have hlen2:=hlen' hdf
     refine Tot.bindC (y:=l[i]) ((if_pos rfl).trans (Bj hi)) ?_
     by_cases hc:(!(Op.bytesLess l[i] s||l[i]==s))=true
     ·refine Tot.iteT (by rw [hc];rfl) (Tot.bindC (DH (by simp;omega)) (fin _ _ ?_ (by simp;omega) (λ h=>by cases h)))
      rw [hb,if_pos (by rw [hc];rfl)] at he
      rw [← he];simp
     ·refine Tot.iteF (by rw [Bool.eq_false_iff.2 hc];rfl) (fin _ _ ?_ (by omega) (λ _=>hlen2))
      rw [hb,if_neg (by rw [Bool.eq_false_iff.2 hc];simp)] at he
      exact he
   unfold Du
   refine Tot.iteT (by simp;omega) (Tot.bindC (Bj hi) (Tot.ite (λ h=>key _ (by rw [h,Bool.or_true])) λ h=>key _ (by rw [h,Bool.or_false])))
  ·rintro ⟨out,d,_⟩ ⟨rfl,he,hlen,_⟩
   unfold Du
   rw [List.drop_length] at he
   exact Tot.iteF (by simp) (Tot.pure ⟨he,hlen⟩)
 ·rintro ⟨out,d⟩ ⟨he,hlen⟩
  cases d with
  | true=>
   refine Tot.iteF rfl (Tot.pure ?_)
   rw [← he];simp
  | false=>
   simp only at hlen
   exact Tot.iteT rfl (Tot.bindC (DH (by simp;omega)) (Tot.pure he))
theorem Yc (a b:Nat):(if ((b:Nat):Int)<((a:Nat):Int) then ((b:Nat):Int) else ((a:Nat):Int))=((min a b:Nat):Int):=by split<;>omega
theorem Ua (a l:List Int) (hl:l.length<=1000):Tot (λ n=>Eu n a l) (λ r=>r.1=((min a.length l.length:Nat):Int)/\(r.2=true↔a.take (min a.length l.length)=l.take (min a.length l.length))):=by
 unfold Eu
 rw [Yc]
 refine Tot.bind (R:=λ y:Unit⊕(Int×Bool)=>(y=.inl ()/\a.take (min a.length l.length)=l.take (min a.length l.length))\/(y=.inr (((min a.length l.length:Nat):Int),false)/\a.take (min a.length l.length)≠l.take (min a.length l.length))) ?_ ?_
 ·refine Tot.upto (body:=λ n x=>Dv n a l x) (min a.length l.length) (λ i x=>x=(i:Int)/\a.take i=l.take i) ?_ ?_ _ ⟨rfl,rfl⟩
  ·rintro i _ hi ⟨rfl,he⟩
   have h1:i<a.length:=by omega
   have h2:i<l.length:=by omega
   unfold Dv
   rw [Yc]
   refine Tot.iteT (by simp only [decide_eq_true_eq];omega) (Tot.bindC (Bj h1) (Tot.bindC (Bj h2) ?_))
   by_cases e:a[i]=l[i]
   ·refine Tot.iteF (by simp [e]) (Tot.pure ⟨CG (by omega),?_⟩)
    rw [List.take_add_one,List.take_add_one,he,Jkw h1,Jkw h2,e]
   ·refine Tot.iteT (by simp [e]) (Tot.pure (.inr ⟨rfl,λ h=>e ?_⟩))
    have q1:(a.take (min a.length l.length))[i]? = some a[i]:=by rw [List.getElem?_take,if_pos hi,Jkw h1]
    have q2:(l.take (min a.length l.length))[i]? = some l[i]:=by rw [List.getElem?_take,if_pos hi,Jkw h2]
    rw [h,q2] at q1
    exact (Option.some.inj q1).symm
  ·rintro _ ⟨rfl,he⟩
   unfold Dv
   rw [Yc]
   exact Tot.iteF (by simp) (Tot.pure (.inl ⟨rfl,he⟩))
 ·rintro y (⟨rfl,h⟩|⟨rfl,h⟩)
  ·exact Tot.pure ⟨rfl,by simp [h]⟩
  ·exact Tot.pure ⟨rfl,by simp [h]⟩
theorem SM {a l:List Int}:(a.take (min a.length l.length)=l.take (min a.length l.length)/\min a.length l.length=a.length)↔a <+: l:=by
 constructor
 ·rintro ⟨h,e⟩
  rw [e,List.take_length] at h
  rw [h];exact List.take_prefix _ _
 ·intro h
  have hle:=h.length_le
  refine ⟨?_,by omega⟩
  rw [Nat.min_eq_left hle,List.take_length]
  exact (List.prefix_iff_eq_take.1 h)
theorem Tot.gT {α β:Type} {P:α->Prop} {c:Bool} {f:Nat->Option β} {d:β} {g:Nat->β->Option α} {R:β->Prop} (hc:c=true) (h:Tot f R) (k:∀ x,R x->Tot (λ n=>g n x) P):Tot (λ n=>(if c=true then f n else some d).bind (g n)) P:=Tot.guard (λ _=>h) λ x hx=>k x (hx hc)
section
variable {t:Ab}
abbrev Jku:=(List UInt8)->Aa->(List Int)->Ao->Option Ao
def CS (t:Ab) (T:List (List UInt8)) (p:List UInt8) (q:Aa) (l:List Int) (f:Nat->Ao->Option Ao):Prop:=∀ M:List (List UInt8),Eb M->(∀ x∈M,x∈T)->Tot (λ n=>f n ⟨t,M⟩) (λ r=>r.T=t/\Eb r.L/\∀ y,y∈r.L↔y∈M\/∃ x,RP t q l x/\y=p++x)
theorem OK (ht:Br t) {T:List (List UInt8)} (hT:T.length<=1099511627776-1) {d:Nat} (rec:Nat->Jku) (ih:∀ p q l,l.length<d->l.length<=1000->p.length+4*l.length<=4000->(∀ x,RP t q l x->p++x∈T)->CS t T p q l (λ n=>rec n p q l)) (p:List UInt8) (q:Aa) (l:List Int) (hl:l.length<d+1) (hl2:l.length<=1000) (hpl:p.length+4*l.length<=4000) (hR:∀ x,RP t q l x->p++x∈T) :
  CS t T p q l (λ n=>A1 n (rec n) p q l):=by
 intro M hM hMT
 have hMl:=Nat.le_trans (T9 hM.nodup hMT) hT
 have hrl:=ht.tab.1
 unfold A1
 have main:∀ M1:List (List UInt8),Eb M1->(∀ y,y∈M1↔y∈M\/(l=[]/\AG t q=true/\y=p))->Tot (λ n=>BC n (rec n) p q l ⟨t,M1⟩) (λ r=>r.T=t/\Eb r.L/\∀ y,y∈r.L↔y∈M\/∃ x,RP t q l x/\y=p++x):=by
  intro M1 hM1 hm1
  unfold BC
  refine Tot.bind (R:=λ r=>r.T=t/\Eb r.L/\∀ y,y∈r.L↔y∈M\/∃ x,RP t q l x/\y=p++x) ?_ λ r hr=>Tot.pure hr
  refine Tot.upto (body:=λ n (x:Ao×Int)=>BB n (rec n) p q l x.1 x.2) t.Rules.length (λ k x=>x.2=(k:Int)/\x.1.T=t/\Eb x.1.L/\∀ y,y∈x.1.L↔(y∈M\/(l=[]/\AG t q=true/\y=p))\/∃ j:Nat,j<k/\(AU t q j).2=true/\cls t j <+: l/\∃ x,RP t (AU t q j).1 (l.drop (cls t j).length) x/\y=p++(prt t j++x)) ?_ ?_ _ ⟨rfl,rfl,hM1,λ y=>(hm1 y).trans (by simp)⟩
  ·rintro k ⟨⟨tt,M2⟩,_⟩ hk ⟨rfl,e0,hM2,hm2⟩
   have e0:t=tt:=e0.symm
   subst e0
   simp only at hM2 hm2
   have hcls:=GG (ht.sound _ (C1 (t:=t) (k:=(k:Int)) (by omega) (by omega)))
   have hMT2:∀ x∈M2,x∈T:=λ y hy=>by
    rcases (hm2 y).1 hy with (h|⟨rfl,ha,rfl⟩)|⟨j,_,h1,⟨z,hz⟩,x,hx,rfl⟩
    ·exact hMT y h
    ·have:=hR [] (RP.nil ha);rwa [List.append_nil] at this
    ·refine hR _ ?_
     rw [← hz,List.drop_left] at hx
     rw [← hz]
     exact RP.cons h1 hx
   unfold BB
   refine Tot.iteT (by simp;omega) (Tot.bindC (JT (t:=t) (k:=(k:Int)) (by omega) (by omega)) (Tot.bind (Ua (Dz t k).Cells l hl2) ?_))
   rintro ⟨_,o⟩ ⟨rfl,ho⟩
   simp only at ho
   refine Tot.bindA (λ n=>Oz ht.tab.short n q (k:Nat)) ?_
   by_cases hc:cls t k <+: l/\(AU t q k).2=true
   ·obtain ⟨hp,hs⟩:=hc
    obtain ⟨q1,q2⟩:=SM.2 hp
    have ho1:o=true:=ho.2 q1
    have hb:(o&&(AU t q k).2)=true:=by rw [ho1,hs];rfl
    have hld:(l.drop (cls t k).length).length=l.length-(cls t k).length:=List.length_drop
    have hple:=hp.length_le
    have hlt2:(l.drop (cls t k).length).length<d:=by
     have h1:1<=(cls t k).length:=hcls.2.1
     rw [hld];exact Nat.lt_of_lt_of_le (Nat.sub_lt (Nat.lt_of_lt_of_le h1 hple) h1) (Nat.le_of_lt_succ hl)
    obtain ⟨z,hz⟩:=id hp
    refine Tot.bindC (y:=Dz t k) ((if_pos hb).trans (JT (t:=t) (k:=(k:Int)) (by omega) (by omega))) (Tot.iteT (by rw [hb,q2];exact beq_self_eq_true _) (Tot.bindC (JT (t:=t) (k:=(k:Int)) (by omega) (by omega)) (Tot.bindC (Jdn (by have:=hcls.1;omega)) (Tot.bindC (y:=l.drop (cls t k).length) (by rw [q2];exact Mq hple) ?_))))
    refine Tot.bind (ih (p++prt t k) (AU t q k).1 (l.drop (cls t k).length) hlt2 (by omega) (by rw [List.length_append];have h1:1<=(cls t k).length:=hcls.2.1;have h2:(prt t k).length<=4:=hcls.1;clear q2 q1 ho;omega) (λ x hx=>?_) M2 hM2 hMT2) ?_
    ·have:=hR (prt t k++x) (by
      have hcs:=RP.cons hs hx
      rw [← hz,List.drop_left] at hcs
      rw [← hz];exact hcs)
     rwa [← List.append_assoc] at this
    ·rintro ⟨tt,M3⟩ ⟨e0,h3,hm3⟩
     have e0:t=tt:=e0.symm
     subst e0
     simp only at h3 hm3
     refine Tot.pure ⟨CG (by omega),rfl,h3,λ y=>?_⟩
     show y∈M3↔_
     rw [hm3,hm2]
     constructor
     ·rintro ((h|⟨j,hj,h⟩)|⟨x,hx,rfl⟩)
      ·exact .inl h
      ·exact .inr ⟨j,by omega,h⟩
      ·exact .inr ⟨k,by omega,hs,hp,x,hx,by rw [List.append_assoc]⟩
     ·rintro (h|⟨j,hj,h⟩)
      ·exact .inl (.inl h)
      ·by_cases e:j=k
       ·subst e
        obtain ⟨_,_,x,hx,rfl⟩:=h
        exact .inr ⟨x,hx,by rw [List.append_assoc]⟩
       ·exact .inl (.inr ⟨j,by omega,h⟩)
   ·have hcF:∀ r:Au,r=(if (o&&(AU t q k).2)=true then Dz t k else default)->((o&&(AU t q k).2)&&(((min (Dz t k).Cells.length l.length:Nat):Int)==((r.Cells.length:Nat):Int)))=false:=by
     intro r hr
     by_cases hb:(o&&(AU t q k).2)=true
     ·rw [if_pos hb] at hr
      subst hr
      rw [hb,Bool.true_and,beq_eq_false_iff_ne]
      intro e
      simp only [Jkx] at hb
      exact hc ⟨SM.1 ⟨ho.1 hb.1,Int.ofNat_inj.1 e⟩,hb.2⟩
     ·rw [Bool.eq_false_iff.2 hb];rfl
    refine Tot.bindC (y:=if (o&&(AU t q k).2)=true then Dz t k else default) ?_ (Tot.iteF (hcF _ rfl) (Tot.pure ⟨CG (by omega),rfl,hM2,λ y=>?_⟩))
    ·split
     ·exact JT (t:=t) (k:=(k:Int)) (by omega) (by omega)
     ·rfl
    ·show y∈M2↔_
     rw [hm2]
     constructor
     ·rintro (h|⟨j,hj,h⟩)
      ·exact .inl h
      ·exact .inr ⟨j,by omega,h⟩
     ·rintro (h|⟨j,hj,h⟩)
      ·exact .inl h
      ·by_cases e:j=k
       ·subst e;exact absurd ⟨h.2.1,h.1⟩ hc
       ·exact .inr ⟨j,by omega,h⟩
  ·rintro ⟨⟨tt,M2⟩,_⟩ ⟨rfl,e0,hM2,hm2⟩
   have e0:t=tt:=e0.symm
   subst e0
   unfold BB
   refine Tot.iteF (by simp) (Tot.pure ⟨rfl,hM2,λ y=>(hm2 y).trans ?_⟩)
   constructor
   ·rintro ((h|⟨rfl,ha,rfl⟩)|⟨j,_,h1,⟨z,hz⟩,x,hx,rfl⟩)
    ·exact .inl h
    ·exact .inr ⟨[],RP.nil ha,by simp⟩
    ·refine .inr ⟨_,?_,rfl⟩
     rw [← hz,List.drop_left] at hx
     rw [← hz]
     exact RP.cons h1 hx
   ·rintro (h|⟨x,hx,rfl⟩)
    ·exact .inl (.inl h)
    ·rcases hx.inv with ⟨rfl,rfl,ha⟩|⟨k,hk,hs,l',x',rfl,rfl,h⟩
     ·exact .inl (.inr ⟨rfl,ha,by simp⟩)
     ·exact .inr ⟨k,hk,hs,List.prefix_append _ _,x',by rw [List.drop_left];exact h,rfl⟩
 by_cases hl0:l=[]
 ·have hbe:(((l.length:Nat):Int)==0)=true:=by rw [hl0];rfl
  refine Tot.bindA (f:=λ n=>if (((l.length:Nat):Int)==0)=true then CN n t q else some default) (y:=AG t q) (λ n=>(if_pos hbe).trans (P0 n t q)) ?_
  by_cases ha:AG t q=true
  ·refine Tot.iteT (by rw [hbe,ha];rfl) (Tot.bind (Jah M p (by omega)) λ r hr=>?_)
   subst hr
   exact main _ (Pr p M hM) λ y=>(OI p y M).trans ⟨λ h=>h.elim (λ h=>.inr ⟨hl0,ha,h⟩) .inl,λ h=>h.elim .inr λ h=>.inl h.2.2⟩
  ·exact Tot.iteF (by rw [hbe,Bool.eq_false_iff.2 ha];rfl) (main M hM λ y=>⟨.inl,λ h=>h.elim id λ h=>absurd h.2.1 ha⟩)
 ·have hbe:(((l.length:Nat):Int)==0)=false:=by
   rw [beq_eq_false_iff_ne];intro h;exact hl0 (List.length_eq_zero_iff.1 (by omega))
  refine Tot.bindA (f:=λ n=>if (((l.length:Nat):Int)==0)=true then CN n t q else some default) (y:=default) (λ n=>if_neg (by rw [hbe];simp)) ?_
  exact Tot.iteF (by rw [hbe];rfl) (main M hM λ y=>⟨.inl,λ h=>h.elim id λ h=>absurd h.1 hl0⟩)
theorem Jai (ht:Br t) {T:List (List UInt8)} (hT:T.length<=1099511627776-1):∀ (d:Nat) (p:List UInt8) (q:Aa) (l:List Int),l.length<d->l.length<=1000->p.length+4*l.length<=4000->(∀ x,RP t q l x->p++x∈T)->CS t T p q l (λ n=>Nm (λ _ _ _ _=>none) (A1 n) d p q l):=by
 intro d
 induction d with
 | zero=>intro p q l h;omega
 | succ d ih=>intro p q l h1 h2 h3 h4;exact OK ht hT (λ n=>Nm (λ _ _ _ _=>none) (A1 n) d) ih p q l h1 h2 h3 h4
theorem Yd (n:Nat):∀ (x y:Nat),x<=y->∀ a b c d,Le (Nm (λ _ _ _ _=>none) (A1 n) x a b c d) (Nm (λ _ _ _ _=>none) (A1 n) y a b c d):=by
 intro x
 induction x with
 | zero=>intro y _ _ _ _ _ z hz;cases hz
 | succ x ih=>
  intro y hy _ _ _ _
  cases y with
  | zero=>omega
  | succ y=>exact Kz (Nat.le_refl n) (ih y (by omega)) _ _ _ _
theorem Ye (ht:Br t) {T:List (List UInt8)} (hT:T.length<=1099511627776-1) (p:List UInt8) (q:Aa) (l:List Int) (hl:l.length<=1000) (hpl:p.length+4*l.length<=4000) (hR:∀ x,RP t q l x->p++x∈T):CS t T p q l (λ n=>Ea n p q l):=by
 intro M hM hMT
 obtain ⟨z,hz,N,hN⟩:=Jai ht hT (l.length+1) p q l (by omega) hl hpl hR M hM hMT
 exact ⟨z,hz,max N (l.length+1),λ m hm=>Yd m (l.length+1) m (by omega) _ _ _ _ _ (hN m (by omega))⟩
theorem WW (ht:Br t) {T:List (List UInt8)} (hT:T.length<=1099511627776-1) (p:List UInt8) (q:Aa) (l:List Int) (hl:l.length<=1000) (hpl:p.length+4*l.length<=4000) (hR:∀ x,RP t q l x->p++x∈T):CS t T p q l (λ n=>Fz n p q l):=by
 intro M hM hMT
 obtain ⟨z,hz,N,hN⟩:=OK ht hT (d:=l.length) (λ n=>Ea n) (λ p q l _ h2 h3 h4=>Ye ht hT p q l h2 h3 h4) p q l (by omega) hl hpl hR M hM hMT
 refine ⟨z,hz,max N 1,λ m hm=>?_⟩
 obtain ⟨k,rfl⟩:∃ k,m=k+1:=⟨m-1,by omega⟩
 exact hN (k+1) (by omega)
theorem JdQ (ht:Br t) {L:List Int} (hL:L.length<=1000) {T:List (List UInt8)} (hT:Lk t (AN t) L T) (hTl:T.length<=1099511627776-1):Ev (λ n=>Of n t L) T:=by
 refine Tot.ev ?_
 unfold Of
 have hrg:∀ x,RP t BD L x↔x∈T:=λ x=>((hT.2 x).trans (X9 (CF ht.tab).2 ht.first)).symm
 refine Tot.bindA (y:=BD) (λ n=>rfl) (Tot.bind (WW ht hTl [] BD L hL (by simp;omega) (λ x hx=>(hrg x).1 hx) [] List.Pairwise.nil (λ x hx=>by simp at hx)) ?_)
 rintro ⟨_,M⟩ ⟨_,h2,h3⟩
 refine Tot.pure (Eb.ext h2 hT.1 λ x=>(h3 x).trans ?_)
 constructor
 ·rintro (h|⟨y,hy,rfl⟩)
  ·simp at h
  ·exact (hrg _).1 hy
 ·intro h;exact .inr ⟨x,(hrg _).2 h,rfl⟩
theorem JdR (ht:Br t) {q:Aa} {i:Nat} (hi:(AN t)[i]? = some q):Tot (λ n=>HQ n t q) (λ b=>b=true↔GO t q []):=by
 obtain ⟨hF,hD⟩:=CF ht.tab
 unfold HQ
 refine Tot.bind (ZX ht.tab) λ al hal=>Tot.bindE (P3 ht.tab) (Tot.bindE (Sv (by have:=hF.len;omega)) ?_)
 have hil:i<al.length:=by rw [hal.1];exact Aq hi
 rw [X5 hF.nodup hi]
 have hb:(decide (((i:Nat):Int)>=0)&&decide (((i:Nat):Int)<((al.length:Nat):Int)))=true:=by simp;omega
 refine Tot.bindC (y:=al[i]) ((if_pos hb).trans (Bj hil)) (Tot.pure ?_)
 rw [hb,Bool.true_and]
 have:=hal.2 i
 rw [Jkw hil,JkF] at this
 rw [this]
 constructor
 ·intro h;exact Vf h q hi
 ·rintro ⟨p,q',h1,h2,_⟩;exact MF hD p q q' i h1 h2 hi
theorem JdS {q:Aa} {l:List Int} (hl:l≠[]):GO t q l↔∃ k:Nat,k<t.Rules.length/\(AU t q k).2=true/\(cls t k).take (min (cls t k).length l.length)=l.take (min (cls t k).length l.length)/\GO t (AU t q k).1 (l.drop (min (cls t k).length l.length)):=by
 constructor
 ·rintro ⟨p,q',h1,h2,h3⟩
  cases p with
  | nil=>simp [cellsOf] at h3;exact absurd h3 hl
  | cons a p=>
   obtain ⟨ha,hb⟩:=h1
   obtain ⟨h4,h5⟩:=Ig ha
   obtain ⟨k,rfl⟩:∃ k:Nat,a=(k:Int):=⟨a.toNat,by omega⟩
   rw [ES] at h3
   obtain ⟨z,hz⟩:=h3
   refine ⟨k,by omega,ha,?_⟩
   generalize cls t k=A at hz
   rcases List.append_eq_append_iff.1 hz with ⟨c,e1,e2⟩|⟨c,e1,e2⟩
   ·subst e1
    rw [show min (l++c).length l.length=l.length by simp]
    exact ⟨by simp,p,q',hb,h2,by simp⟩
   ·subst e1
    rw [show min A.length (A++c).length=A.length by simp]
    exact ⟨by simp,p,q',hb,h2,by simp [e2]⟩
 ·rintro ⟨k,hk,hs,he,p,q',h1,h2,h3⟩
  refine ⟨(k:Int)::p,q',⟨hs,h1⟩,h2,?_⟩
  rw [ES]
  generalize cls t k=A at he h3
  by_cases e:A.length<=l.length
  ·rw [Nat.min_eq_left e] at he h3
   rw [List.take_length] at he
   have:=List.take_append_drop A.length l
   rw [← this,← he]
   exact (List.prefix_append_right_inj _).2 (by simpa using h3)
  ·rw [Nat.min_eq_right (by omega),List.take_length] at he
   rw [← he]
   exact (List.take_prefix _ _).trans (List.prefix_append _ _)
theorem Jaj (ht:Br t) {d:Nat} (rec:Nat->Ab->Aa->(List Int)->Option Bool) (ih:∀ (q:Aa) (i:Nat) (l:List Int),(AN t)[i]? = some q->l.length<d->l.length<=1000->Tot (λ n=>rec n t q l) (λ b=>b=true↔GO t q l)) (q:Aa) (i:Nat) (l:List Int) (hi:(AN t)[i]? = some q) (hld:l.length<d+1) (hl2:l.length<=1000) :
  Tot (λ n=>C0 n (rec n) t q l) (λ b=>b=true↔GO t q l):=by
 obtain ⟨hF,hD⟩:=CF ht.tab
 have hrl:=ht.tab.1
 unfold C0
 by_cases hl:l=[]
 ·subst hl
  exact Tot.iteT rfl (Tot.bind (JdR ht hi) λ b hb=>Tot.pure hb)
 ·have hlp:0<l.length:=List.length_pos_iff.2 hl
  refine Tot.iteF (by rw [beq_eq_false_iff_ne];omega) (Tot.bind (R:=λ y:Unit⊕Bool=>(y=.inl ()/\¬GO t q l)\/(y=.inr true/\GO t q l)) ?_ ?_)
  ·refine Tot.upto (body:=λ n x=>Ey n (rec n) t q l x) t.Rules.length (λ r x=>x=(r:Int)/\∀ k:Nat,k<r->¬((AU t q k).2=true/\(cls t k).take (min (cls t k).length l.length)=l.take (min (cls t k).length l.length)/\GO t (AU t q k).1 (l.drop (min (cls t k).length l.length)))) ?_ ?_ _ ⟨rfl,λ k hk=>by omega⟩
   ·rintro r _ hr ⟨rfl,hno⟩
    have nxt:¬((AU t q r).2=true/\(cls t r).take (min (cls t r).length l.length)=l.take (min (cls t r).length l.length)/\GO t (AU t q r).1 (l.drop (min (cls t r).length l.length)))->Tot (λ _=>some (.inl (Bl .i64 (r:Int) 1))) (Rd2 (λ x=>x=((r+1:Nat):Int)/\∀ k:Nat,k<r+1->¬((AU t q k).2=true/\(cls t k).take (min (cls t k).length l.length)=l.take (min (cls t k).length l.length)/\GO t (AU t q k).1 (l.drop (min (cls t k).length l.length)))) λ y:Unit⊕Bool=>(y=.inl ()/\¬GO t q l)\/(y=.inr true/\GO t q l)):=λ h=>Tot.pure ⟨CG (by omega),λ k hk=>by
     by_cases e:k=r
     ·subst e;exact h
     ·exact hno k (by omega)⟩
    unfold Ey
    refine Tot.iteT (by simp;omega) (Tot.bindC (JT (t:=t) (k:=(r:Int)) (by omega) (by omega)) (Tot.bind (Ua (Dz t r).Cells l hl2) ?_))
    rintro ⟨_,o⟩ ⟨rfl,ho⟩
    simp only at ho
    refine Tot.bindA (λ n=>Oz ht.tab.short n q (r:Nat)) ?_
    by_cases hb:(o&&(AU t q r).2)=true
    ·have hb':=hb
     simp only [Jkx] at hb'
     obtain ⟨ho1,hs⟩:=hb'
     have htk:=ho.1 ho1
     have hmem:=hD (i+1) i q (by omega) hi r hr hs
     obtain ⟨j,hjl,hj⟩:=List.mem_iff_getElem.1 hmem
     have hc1:1<=(Dz t r).Cells.length:=(GG (ht.sound _ (C1 (t:=t) (k:=(r:Int)) (by omega) (by omega)))).2.1
     refine Tot.bindC (y:=l.drop (min (Dz t r).Cells.length l.length)) ((if_pos hb).trans (Mq (by omega))) (Tot.gT hb (ih _ j _ (by rw [Jkw hjl,hj]) (by rw [List.length_drop];omega) (by rw [List.length_drop];omega)) ?_)
     intro b hbb
     cases b with
     | true=>
      refine Tot.iteT (by rw [hb];rfl) (Tot.pure (.inr ⟨rfl,(JdS hl).2 ⟨r,hr,hs,htk,hbb.1 rfl⟩⟩))
     | false=>
      refine Tot.iteF (by simp) (nxt λ h=>?_)
      have:=hbb.2 h.2.2;cases this
    ·refine Tot.bindC (y:=default) (if_neg hb) (Tot.gF (Bool.eq_false_iff.2 hb) (Tot.iteF (by rw [Bool.eq_false_iff.2 hb];rfl) (nxt λ h=>hb ?_)))
     rw [ho.2 h.2.1,h.1];rfl
   ·rintro _ ⟨rfl,hno⟩
    unfold Ey
    refine Tot.iteF (by simp) (Tot.pure (.inl ⟨rfl,λ h=>?_⟩))
    obtain ⟨k,hk,h1⟩:=(JdS hl).1 h
    exact hno k hk h1
  ·rintro y (⟨rfl,h⟩|⟨rfl,h⟩)
   ·exact Tot.pure ⟨λ e=>(by cases e),λ e=>absurd e h⟩
   ·exact Tot.pure ⟨λ _=>h,λ _=>rfl⟩
theorem JiW (ht:Br t):∀ (d:Nat) (q:Aa) (i:Nat) (l:List Int),(AN t)[i]? = some q->l.length<d->l.length<=1000->Tot (λ n=>Nm (λ _ _ _=>none) (C0 n) d t q l) (λ b=>b=true↔GO t q l):=by
 intro d
 induction d with
 | zero=>intro q i l _ h;omega
 | succ d ih=>intro q i l h1 h2 h3;exact Jaj ht (λ n=>Nm (λ _ _ _=>none) (C0 n) d) ih q i l h1 h2 h3
theorem Je3 (n:Nat):∀ (x y:Nat),x<=y->∀ a b c,Le (Nm (λ _ _ _=>none) (C0 n) x a b c) (Nm (λ _ _ _=>none) (C0 n) y a b c):=by
 intro x
 induction x with
 | zero=>intro y _ _ _ _ z hz;cases hz
 | succ x ih=>
  intro y hy _ _ _
  cases y with
  | zero=>omega
  | succ y=>exact Td (Nat.le_refl n) (ih y (by omega)) _ _ _
theorem WX (ht:Br t) {l:List Int} (hl:l.length<=1000):Tot (λ n=>LB n t l) (λ b=>b=true↔GO t BD l):=by
 obtain ⟨z,hz,N,hN⟩:=JiW ht (l.length+1) BD 0 l ht.first (by omega) hl
 have h1:Tot (λ n=>RX n t BD l) (λ b=>b=true↔GO t BD l):=⟨z,hz,max N (l.length+1),λ m hm=>Je3 m (l.length+1) m (by omega) _ _ _ _ (hN m (by omega))⟩
 unfold LB
 exact Tot.bindA (y:=BD) (λ n=>rfl) (Tot.bind h1 λ b hb=>Tot.pure hb)
theorem JdT (ht:Br t) {L:List Int} (hL:L.length<=1000) {T:List (List UInt8)} (hT:Lk t (AN t) L T) (hTl:T.length<=1099511627776-1):Tot (λ n=>Og n t L) (λ r=>(∃ s r',T=s::r'/\r=(s,((L.length:Nat):Int),0))\/(T=[]/\∃ m:Nat,Far t L m/\r=([],(m:Int),40))):=by
 unfold Og
 refine Tot.bindE (JdQ ht hL hT hTl) ?_
 cases T with
 | cons s r'=>exact Tot.iteT (by simp) (Tot.bindC (y:=s) rfl (Tot.pure (.inl ⟨s,r',rfl,rfl⟩)))
 | nil=>
  have hng:¬GO t BD L->True:=λ _=>trivial
  refine Tot.iteF (by simp) (Tot.bind (R:=λ y:Int=>∃ m:Nat,y=(m:Int)/\Far t L m) ?_ ?_)
  ·refine Tot.upto (body:=λ n (x:Int×Int)=>G6 n t L x.1 x.2) L.length (λ i x=>x.2=((i+1:Nat):Int)/\∃ m:Nat,x.1=(m:Int)/\m<=i/\∀ k,1<=k->k<=i->(GO t BD (L.take k)↔k<=m)) ?_ ?_ _ ⟨rfl,0,rfl,Nat.le_refl _,λ k h1 h2=>by omega⟩
   ·rintro i ⟨_,_⟩ hi ⟨rfl,m,rfl,hmi,hm⟩
    unfold G6
    refine Tot.iteT (by simp only [decide_eq_true_eq];omega) (Tot.bindC (GU (by omega)) (Tot.bind (WX (l:=L.take (i+1)) ht (by rw [List.length_take];omega)) λ b hb=>?_))
    cases b with
    | true=>
     have hg:=hb.1 rfl
     refine Tot.iteT rfl (Tot.pure ⟨CG (by omega),i+1,rfl,Nat.le_refl _,λ k h1 h2=>⟨λ _=>h2,λ _=>?_⟩⟩)
     have:=Je2 hg k
     rwa [List.take_take,Nat.min_eq_left h2] at this
    | false=>
     refine Tot.iteF (by simp) (Tot.pure ⟨CG (by omega),m,rfl,by omega,λ k h1 h2=>?_⟩)
     by_cases e:k=i+1
     ·subst e
      exact ⟨λ h=>(by have:=hb.2 h;cases this),λ h=>(by omega)⟩
     ·exact hm k h1 (by omega)
   ·rintro ⟨_,_⟩ ⟨rfl,m,rfl,hmi,hm⟩
    unfold G6
    exact Tot.iteF (by simp only [decide_eq_false_iff_not];omega) (Tot.pure ⟨m,rfl,hmi,hm⟩)
  ·rintro _ ⟨m,rfl,hm⟩
   exact Tot.pure (.inr ⟨rfl,m,hm,rfl⟩)
theorem Jak (ht:Br t) {L:List Int} (hL:L.length<=1000) {T:List (List UInt8)} (hT:Lk t (AN t) L T) (hTl:T.length<=1099511627776-1) (lim:Int):Tot (λ n=>ME n t L lim) (λ r=>r=Ms T lim):=by
 unfold ME Ms
 by_cases h0:lim<0
 ·exact Tot.iteT (by simpa using h0) (Tot.pure (by rw [if_pos h0]))
 ·refine Tot.iteF (by simpa using h0) (Tot.bindE (JdQ ht hL hT hTl) ?_)
  by_cases h1:(T.length:Int)>lim
  ·exact Tot.iteT (by simpa using h1) (Tot.pure (by rw [if_neg h0,if_pos h1]))
  ·exact Tot.iteF (by simpa using h1) (Tot.pure (by rw [if_neg h0,if_neg h1]))
theorem Yf (a:List (List UInt8)) (h:a.length<9223372036854775807):Tot (λ n=>Et n a a) (λ b=>b=true):=by
 unfold Et
 refine Tot.iteF (by simp) (Tot.bind (R:=λ y:Unit⊕Bool=>y=.inl ()) ?_ λ y hy=>by subst hy;exact Tot.pure rfl)
 refine Tot.upto (body:=λ n i=>CZ n a a i) a.length (λ i x=>x=(i:Int)) ?_ ?_ _ rfl
 ·rintro i _ hi rfl
  unfold CZ
  exact Tot.iteT (by simp;omega) (Tot.bindC (Bj hi) (Tot.bindC (Bj hi) (Tot.iteF (by simp) (Tot.pure (CG (by omega))))))
 ·rintro _ rfl
  unfold CZ
  exact Tot.iteF (by simp) (Tot.pure rfl)
end
end Go.AI
end
section
namespace Go.AI
def Yg (c:Option Int) (r:Au):Bool:=decide (r.Cells.head? = c)
def Cn (m:Nat) (l:List Au):Prop:=∀ c,c≠none->l.countP (Yg c)<=m
theorem Je4 {r:Int} (h:0<=r) (h':r<8):Cn 4 (OF r).Rules:=by
 have:∀ k:Nat,k<8->((OF (k:Int)).Rules.all λ r=>decide ((OF (k:Int)).Rules.countP (Yg r.Cells.head?)<=4))=true:=by decide +kernel
 have e:=this r.toNat (by omega)
 rw [Int.toNat_of_nonneg h] at e
 intro c _
 by_cases hz:(OF r).Rules.countP (Yg c)=0
 ·omega
 ·obtain ⟨x,hx,hx'⟩:=List.countP_pos_iff.1 (Nat.pos_of_ne_zero hz)
  have e1:=List.all_eq_true.1 e x hx
  unfold Yg at hx'
  rw [decide_eq_true_eq] at hx' e1
  rw [← hx'];exact e1
theorem Cn.sub {m:Nat} {l l':List Au} (h:Cn m l) (hs:l'.Sublist l):Cn m l':=λ c hc=>Nat.le_trans (hs.countP_le) (h c hc)
theorem Cn.snoc {m:Nat} {l:List Au} (h:Cn m l) (r:Au):Cn (m+1) (l++[r]):=λ c hc=>by
 rw [List.countP_append]
 have h1:=h c hc
 have h2:[r].countP (Yg c)<=1:=List.countP_le_length
 omega
theorem Cn.mono {m m':Nat} {l:List Au} (h:Cn m l) (hm:m<=m'):Cn m' l:=λ c hc=>Nat.le_trans (h c hc) hm
theorem Jal (x:MM) (hx:∀ r∈x.More,YJ r) (b t0:Ab) (hlo:1<=b.Modes) (hhi:b.Modes<=2) (h0:JiO b t0) (hl0:t0.Rules.length<=8) (hC:Cn 4 t0.Rules):Tot (λ n=>whl (λ (y:(Ab×Int))=>FK n x b y.1 y.2) n (t0,0)) (λ t=>JiO b t/\t.Rules.length<=10/\Cn 6 t.Rules):=by
 refine Tot.upto (body:=λ n y=>FK n x b y.1 y.2) (min x.More.length 2) (λ i y=>y.2=(i:Int)/\JiO b y.1/\y.1.Rules.length<=8+i/\Cn (4+i) y.1.Rules) ?_ ?_ _ ⟨rfl,h0,by simpa using hl0,hC⟩
 ·rintro i ⟨t,i'⟩ hi ⟨h1,h2,h3,h4⟩
  simp only at h1 h2 h3 h4
  subst h1
  unfold FK
  refine Tot.iteT (by simp only [Jkx,decide_eq_true_eq];omega) (Tot.bindC (Bj (by omega)) ?_)
  rw [h2.modes]
  refine Tot.bind (JeV (hx _ (List.getElem_mem _)) hlo hhi) ?_
  rintro r ⟨hr1,hr2,-⟩
  refine Tot.bindC (NF (by simp;omega)) ?_
  have hall:∀ q∈t.Rules++[r],NE q/\q.Cells.length<=4:=by
   intro q hq
   simp only [List.mem_append,List.mem_singleton] at hq
   rcases hq with hq|rfl
   ·exact h2.rules q hq
   ·exact ⟨hr1,by omega⟩
  refine Tot.bindE (Jdx (ZW (t:=⟨b.Modes,t.Accept,t.Rules++[r]⟩) (by simp;omega) hall)) ?_
  refine Tot.ite (λ _=>?_) λ hv=>?_
  ·have e:Ec .i64 ((List.length (t.Rules++[r]):Nat):Int) 1=(t.Rules.length:Nat):=by
    rw [JjQ (by simp<;>omega) (by simp<;>omega)];simp
   rw [e]
   refine Tot.bindC (GU (by simp)) ?_
   unfold G4
   rw [List.take_left' rfl]
   exact Tot.pure ⟨EE (by omega),⟨rfl,h2.accept,h2.rules,by have:=h2.valid;have hm:=h2.modes;cases t;simp only at hm this ⊢;subst hm;exact this⟩,by simp only;omega,h4.mono (by omega)⟩
  ·unfold G4
   exact Tot.pure ⟨EE (by omega),⟨rfl,h2.accept,hall,.inr (by simpa using hv)⟩,by simp;omega,h4.snoc r⟩
 ·rintro ⟨t,i'⟩ ⟨h1,h2,h3,h4⟩
  simp only at h1 h2 h3 h4
  subst h1
  unfold FK
  exact Tot.iteF (by rw [← Bool.not_eq_true];simp only [Jkx,decide_eq_true_eq];omega) (Tot.pure ⟨h2,by show t.Rules.length<=10;omega,h4.mono (by omega)⟩)
theorem JdU {x:MM} (hx:SA x):∃ t,(Br t/\Cn 6 t.Rules)/\Ev (λ n=>LA n x) t:=by
 have hb:∀ n,Js n x.Base=some (OF (C4 x.Base 8)):=λ n=>(OG n x.Base hx.1).1
 have hok:=JeT (OG 0 x.Base hx.1).2.1 (OG 0 x.Base hx.1).2.2
 have hcn:=Je4 (OG 0 x.Base hx.1).2.1 (OG 0 x.Base hx.1).2.2
 generalize OF (C4 x.Base 8)=b at *
 unfold Vc at hok
 simp only [Jkx,decide_eq_true_eq,List.all_eq_true] at hok
 obtain ⟨⟨⟨⟨o1,o2⟩,o3⟩,o4⟩,o5⟩:=hok
 have gb:∀ r∈b.Rules,NE r/\r.Cells.length<=4:=λ r hr=>⟨X4 (o2 r hr),(GG (OE o5 r hr)).2.2⟩
 have:Tot (λ n=>LA n x) (λ t=>Br t/\Cn 6 t.Rules):=by
  unfold LA
  refine Tot.bindA hb (Tot.bind (JdA x b o1) ?_)
  rintro t1 ⟨a1,a2,a3⟩
  refine Tot.bind (Jal x hx.2 b t1 o3 o4 ⟨a1,a2,λ r hr=>gb r (a3.subset hr),?_⟩ (by have:=a3.length_le;omega) (hcn.sub a3)) ?_
  ·rcases Nat.eq_zero_or_pos t1.Rules.length with h|h
   ·exact .inl (List.length_eq_zero_iff.1 h)
   ·right
    have:=X3 o5 a3 h
    cases t1
    simp only at a1 a2 this ⊢
    subst a1 a2
    exact this
  rintro t2 ⟨b1,b2,b3⟩
  refine Tot.ite (λ h=>?_) λ h=>?_
  ·unfold G5
   have e:(⟨t2.Modes,t2.Accept,b.Rules⟩:Ab)=b:=by rw [b1.modes,b1.accept]
   rw [e]
   exact Tot.pure ⟨⟨⟨by omega,λ r hr=>(gb r hr).1⟩,o3,o4,o5⟩,hcn.mono (by omega)⟩
  ·unfold G5
   have hv:GE t2=true:=b1.valid.resolve_left λ e=>by rw [e] at h;cases h
   exact Tot.pure ⟨⟨⟨by omega,λ r hr=>(b1.rules r hr).1⟩,by rw [b1.modes];exact o3,by rw [b1.modes];exact o4,hv⟩,b3⟩
 obtain ⟨t,ht,hE⟩:=this
 exact ⟨t,ht,hE⟩
section
variable {t:Ab}
def JiX (t:Ab) (c:Option Int):List Nat:=(List.range t.Rules.length).filter λ k=>Yg c (t.Rules.getD k default)
theorem JdV {m:Nat} (h:Cn m t.Rules) {c:Option Int} (hc:c≠none):(JiX t c).length<=m:=by
 have e:t.Rules=(List.range t.Rules.length).map λ k=>t.Rules.getD k default:=by
  refine List.ext_getElem (by simp) λ i h1 h2=>?_
  rw [List.getElem_map,List.getElem_range,Ck h1]
 have:=h c hc
 rw [e,List.countP_map,List.countP_eq_length_filter] at this
 exact this
theorem JiY (hc:∀ r∈t.Rules,1<=r.Cells.length) {C:Nat} (hC:Cn C t.Rules) (h1:1<=C):∀ (n:Nat) (l:List Int) (q:Aa),l.length<=n->∃ T:List (List UInt8),(∀ x,RP t q l x->x∈T)/\T.length<=C ^ n:=by
 intro n
 induction n with
 | zero=>
  intro l q hl
  have:l=[]:=List.length_eq_zero_iff.1 (by omega)
  subst this
  refine ⟨[[]],λ x hx=>?_,by simp⟩
  rcases hx.inv with ⟨_,rfl,_⟩|⟨k,hk,_,l',x',e,_,_⟩
  ·simp
  ·have h2:=hc _ (C1 (t:=t) (k:=(k:Int)) (by omega) (by omega))
   have:=congrArg List.length e
   rw [List.length_append,List.length_nil] at this
   have h3:1<=(cls t k).length:=h2
   omega
 | succ n ih=>
  intro l q hl
  cases l with
  | nil=>
   obtain ⟨T,hT,hl⟩:=ih [] q (by simp)
   exact ⟨T,hT,Nat.le_trans hl (Nat.pow_le_pow_right h1 (by omega))⟩
  | cons c l=>
   have hch:∀ k:Nat,∃ T:List (List UInt8),(k<t.Rules.length->∀ x,RP t (AU t q k).1 ((c::l).drop (cls t k).length) x->x∈T)/\T.length<=C ^ n:=λ k=>by
    by_cases hk:k<t.Rules.length
    ·have h2:1<=(cls t k).length:=hc _ (C1 (t:=t) (k:=(k:Int)) (by omega) (by omega))
     obtain ⟨T,hT,hl'⟩:=ih ((c::l).drop (cls t k).length) (AU t q k).1 (by rw [List.length_drop];omega)
     exact ⟨T,λ _=>hT,hl'⟩
    ·exact ⟨[],λ h=>absurd h hk,by simp⟩
   refine ⟨(JiX t (some c)).flatMap λ k=>(Classical.choose (hch k)).map (prt t k++·),λ x hx=>?_,?_⟩
   ·rcases hx.inv with ⟨e,_⟩|⟨k,hk,_,l',x',e,rfl,h⟩
    ·cases e
    ·refine List.mem_flatMap.2 ⟨k,?_,List.mem_map.2 ⟨x',(Classical.choose_spec (hch k)).1 hk x' ?_,rfl⟩⟩
     ·unfold JiX
      rw [List.mem_filter,List.mem_range]
      refine ⟨hk,?_⟩
      have h2:1<=(cls t k).length:=hc _ (C1 (t:=t) (k:=(k:Int)) (by omega) (by omega))
      have h3:t.Rules.getD k default=Dz t k:=by
       unfold Dz
       rw [Int.toNat_natCast,List.getD_eq_getElem?_getD]
      unfold Yg
      rw [h3,decide_eq_true_eq]
      obtain ⟨a,A,hA⟩:=List.exists_cons_of_ne_nil (l:=cls t k) (λ e0=>by rw [e0] at h2;simp at h2)
      rw [hA] at e
      cases e
      show (cls t k).head? = _
      rw [hA];rfl
     ·rw [e,List.drop_left];exact h
   ·refine Nat.le_trans (Mr (b:=C ^ n) λ k _=>?_) ?_
    ·rw [List.length_map];exact (Classical.choose_spec (hch k)).2
    ·rw [Nat.pow_succ,Nat.mul_comm]
     exact Nat.mul_le_mul_left _ (JdV hC (by simp))
theorem JdW (ht:Br t) (hC:Cn 6 t.Rules) {L:List Int} (hL:L.length<=6) {T:List (List UInt8)} (hT:Lk t (AN t) L T):T.length<=46656:=by
 obtain ⟨T',h1,h2⟩:=JiY ht.cells1 hC (by omega) 6 L BD hL
 refine Nat.le_trans (T9 hT.1.nodup λ x hx=>h1 x ?_) h2
 exact (X9 (CF ht.tab).2 ht.first).1 ((hT.2 x).1 hx)
end
theorem JjV {x:MM} (hx:SA x) {l:List Int} (hl:∀ a∈l,U8 a) (p:Int):Ev (λ n=>BV n x l p) true:=by
 obtain ⟨t,⟨ht,hC⟩,hE⟩:=JdU hx
 refine Tot.ev ?_
 unfold BV
 refine Tot.bindE WV (Tot.bindE hE (Tot.bind (JdP ht.cells4 ht.tab.1 hl 6 (by omega)) λ L hL=>?_))
 obtain ⟨T,hT⟩:=Je1 (L:=L) ht
 have hTl:=JdW ht hC hL hT
 refine Tot.bind (JdN ht (by omega) hT) λ r hr=>Tot.bind (JdT ht (by omega) hT (by omega)) λ r' hr'=>?_
 have e:r=r':=by
  rcases hr with ⟨s,q,e1,rfl⟩|⟨e1,m,hm,rfl⟩<;>rcases hr' with ⟨s',q',e2,rfl⟩|⟨e2,m',hm',rfl⟩
  ·rw [e1] at e2;cases e2;rfl
  ·rw [e1] at e2;cases e2
  ·rw [e1] at e2;cases e2
  ·rw [hm.uniq hm']
 subst e
 refine Tot.bind (Jae ht (by omega) hT (IntKind.i64.wrap p) λ k _ h=>by omega) λ r1 h1=>Tot.bind (Jak ht (by omega) hT (by omega) (IntKind.i64.wrap p)) λ r2 h2=>?_
 subst h1;subst h2
 have hlen:(Ms T (IntKind.i64.wrap p)).1.length<=46656:=by
  unfold Ms
  split
  ·simp
  ·split
   ·simp
   ·exact hTl
 have hb:(((true&&(r.1==r.1))&&(r.2.1==r.2.1))&&(r.2.2==r.2.2))=true:=by simp
 refine Tot.gT hb (Yf _ (by omega)) λ b hbt=>?_
 subst hbt
 have hb2:(((((true&&(r.1==r.1))&&(r.2.1==r.2.1))&&(r.2.2==r.2.2))&&true)&&((Ms T (IntKind.i64.wrap p)).2==(Ms T (IntKind.i64.wrap p)).2))=true:=by simp
 refine Tot.gT hb2 (JdO ht (L:=L) (by omega)) λ c hc=>Tot.gT hb2 (WX ht (l:=L) (by omega)) λ d hd=>Tot.pure ?_
 have:c=d:=by
  rw [Bool.eq_iff_iff,hc,hd]
 rw [hb2,this];simp
end Go.AI
end
section
namespace Go.AI
theorem JiZ:∀ (x:MM) (l:List Int) (p:Int),XV x->(∀ a∈l,okI .u8 a)->okI .i8 p->∃ n,BV n x l p=some true:=λ _ _ p h hl _=>(JjV (Jaf h) (JiV hl) p).out
end Go.AI
end
section
namespace Go.Proofs.Ytjbjbkidckbalaa
open Go.AI Go.ChangeShapes Go.WideShapes Go.ChangeAt Go.RowKit
theorem own:ownKnob Try.prog.godebug=none:=by kernel_rfl
set_option maxRecDepth 100000 in
theorem Ji0 (os:Os) (started:os.Started) (H:Type) (enc:TypeId×Value->H) :
  ReturnsInHanded {} Try.checked os 10 .any (Rows.readbackMatchesReferenceSpec.pre6 enc Try.prog Try.f10 Rows.readbackMatchesReferenceRow.domain false) (Rows.readbackMatchesReferenceSpec.post enc Try.prog Try.f10 false true false false):=by
 refine returnsInHanded_of_change (C:=Try.checked) own started (by kernel_rfl) Try.func10
  (ChangeSpec.witness6 (enc:=enc) (C:=Try.checked) false ⟨#[],#[.agg #[.int .u8 0,.int .u8 0,.slice none 0 0],.slice none 0 0,.int .i8 0],[]⟩ 8 (by kernel_rfl) (by kernel_rfl) (by kernel_rfl) (by kernel_rfl)) ?_
 intro W base args ds gs before hval0 hW hcnd _
 have hval:∀ (j:Nat) t v,Try.f10.params[j]? = some t->args[j]? = some v->Value.okWide Try.prog W .any base t v:=hval0
 have hW':=hW
 obtain ⟨p,q,hA0,hV,rfl,hfz,hnd⟩:=hW
 have hA:DataW.TrodAll enc Try.prog W 0 (λ _=>true) true Try.f10.params.toList args.toList ds p:=hA0
 have hlt:=hA.lt
 rw [Try.params10] at hA hval
 obtain ⟨v0,vs0,d0,ds0,p0,q0,hargs,rfl,rfl,h0,r0⟩:=trodAll_cons hA
 obtain ⟨v1,vs1,d1,ds1,p1,q1,rfl,rfl,rfl,h1,r1⟩:=trodAll_cons r0
 obtain ⟨v2,vs2,d2,ds2,p2,q2,rfl,rfl,rfl,h2,r2⟩:=trodAll_cons r1
 obtain ⟨rfl,rfl,rfl⟩:=trodAll_nil r2
 obtain rfl:args=#[v0,v1,v2]:=by cases args;simp_all
 obtain ⟨rfl,rfl⟩:=trodVars_none hV
 obtain ⟨cs0,hc0,_⟩:=okWide_struct Try.underlying24 (hval 0 24 v0 rfl rfl)
 obtain ⟨a0,k0,rep0⟩:=JeQ hc0 h0 Jks
 obtain ⟨x1,y1,z1,hc1⟩:=okWide_slice Try.underlying50 (hval 1 50 v1 rfl rfl)
 obtain ⟨a1,k1,rep1⟩:=YF (y:=λ a=>.sl (a.map eU8)) (by rw [hc1];rfl) h1 JiL (λ _=>rfl)
 obtain ⟨x2,hc2⟩:=okWide_int Try.underlying34 (hval 2 34 v2 rfl rfl)
 obtain ⟨a2,k2,rep2⟩:=YF (y:=λ a=>.int .i8 a) (by rw [hc2];rfl) h2 Jkt (λ _=>rfl)
 clear hA0 hval0
 simp only [List.append_nil] at hW' hlt
 obtain ⟨n,hn⟩:=JiZ a0 a1 a2 k0 k1 k2
 refine (Jdb (Gg hn) (UY rep0 (UY rep1 (UY rep2 JiK)))).mono λ e W' ⟨he,hg,hold⟩=>?_
 subst he
 exact ⟨_,rfl,ZI (pv:=[]) hW' (λ _ _ _=>(trodAll_cons_mk (shut_bool Try.underlying4 _) trodAll_mk0)) (λ sp hsp=>trodAll_cons_mk (Jdc (by kernel_rfl) (by kernel_rfl) (of_decide_eq_true (by kernel_rfl)) h0 (λ p hp=>hlt p (by simp [hp])) (λ p hp=>hsp p (by simp [hp])) hold) (trodAll_cons_mk (Jdc (by kernel_rfl) (by kernel_rfl) (of_decide_eq_true (by kernel_rfl)) h1 (λ p hp=>hlt p (by simp [hp])) (λ p hp=>hsp p (by simp [hp])) hold) (trodAll_cons_mk (Jdc (by kernel_rfl) (by kernel_rfl) (of_decide_eq_true (by kernel_rfl)) h2 (λ p hp=>hlt p (by simp [hp])) (λ p hp=>hsp p (by simp [hp])) hold) trodAll_mk0))) (λ _ _=>rfl) (by simp) (hg _) hold (ok_one (by kernel_rfl) rfl (okWide_bool_mk Try.underlying4 _))⟩
theorem Jkv:Rows.readbackMatchesReferenceRow.holds Try.pinned (OpenSpec.ofChange Rows.readbackMatchesReferenceSpec):=
 OpenClaim.holds_of_wide 10 Try.f10 rfl rfl rfl rfl rfl rfl rfl ⟨rfl,rfl,rfl,rfl,rfl⟩ rfl rfl rfl rfl rfl (by kernel_rfl) Try.func10 (by kernel_rfl)
  (of_decide_eq_true (by kernel_rfl)) (by unfold Func.isWrapper;first|(rw [if_pos (by decide +kernel)];kernel_rfl)|(rw [if_neg (by decide +kernel)];exact ⟨rfl,rfl⟩))
  (λ os started H enc _=>Ji0 os started H enc)
theorem readbackMatchesReference_holds:Rows.ReadbackMatchesReferenceSaid:=Jkv
end Go.Proofs.Ytjbjbkidckbalaa
end
