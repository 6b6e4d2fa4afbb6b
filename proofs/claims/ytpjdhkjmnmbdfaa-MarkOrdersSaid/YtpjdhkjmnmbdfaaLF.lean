/- The theorem: the last one of this text; part 6 of 6 of its proof. It holds with no condition beyond the given statement. -/
import Derived.Test.YtpjdhkjmnmbdfaaLE
import Derived.KernelRfl
import Derived.Test.YtpjdhkjmnmbdfaaRows
section
namespace Go.AI
theorem Jd2 (a:Int):IntKind.i64.wrap a=if decide (a % 18446744073709551616>=9223372036854775808)=true then a % 18446744073709551616-18446744073709551616 else a % 18446744073709551616:=rfl
theorem w64 {a:Int} (h:-9223372036854775808<=a) (h':a<9223372036854775808):IntKind.i64.wrap a=a:=by
 rw [Jd2]
 simp only [decide_eq_true_eq]
 split<;>omega
theorem Jm {a b:Int} (h:-9223372036854775808<=a+b) (h':a+b<9223372036854775808):Ay .i64 a b=a+b:=w64 h h'
theorem Yi {a b:Int} (h:-9223372036854775808<=a-b) (h':a-b<9223372036854775808):JI .i64 a b=a-b:=w64 h h'
theorem EN {i:Nat} (h:i<9223372036854775807):Ay .i64 (i:Int) 1=((i+1:Nat):Int):=by rw [Jm]<;>omega
theorem OW {a m:Int} (h:0<=a) (hm:0<m):Bz a m=a % m/\0<=Bz a m/\Bz a m<m:=by
 have e:Bz a m=a % m:=by unfold Bz;rw [Int.tmod_eq_emod_of_nonneg h]
 rw [e];exact ⟨rfl,Int.emod_nonneg _ (by omega),Int.emod_lt_of_pos _ hm⟩
variable {α β σ ρ:Type}
theorem JjR [Inhabited α] {l:List α} {i:Int} (h:0<=i) (h':i<l.length):idx l i=some (l.getD i.toNat default):=by
 unfold idx
 rw [if_pos h,JkL,JkC (by omega)];rfl
theorem HV [Inhabited α] {l:List α} {i:Nat} (h:i<l.length):idx l (i:Int)=some (l.getD i default):=by
 rw [JjR (by omega) (by omega),JkM]
theorem Jch {l:List α} {a b:Int} (h:0<=a) (h1:a<=b) (h2:b<=l.length):sub l a b=some ((l.take b.toNat).drop a.toNat):=by
 unfold sub;rw [if_pos ⟨h,h1,h2⟩]
theorem UD {l:List α} {k:Nat} (h:k<=l.length):sub l 0 (k:Int)=some (l.take k):=by
 rw [Jch (by omega) (by omega) (by omega)];simp
theorem NS {eb:Nat} {k:Int} {z:α} (h:0<=k) (h':k.toNat*eb<=70368744177664):mkl eb k z=some (List.replicate k.toNat z):=by
 unfold mkl;rw [if_pos ⟨h,h'⟩]
theorem ED {b:Bool} (h:b=true):CH b=some ():=by subst h;rfl
theorem Xz {body:σ->Option (σ⊕ρ)} {r:ρ} (st:Nat->σ) (k:Nat) (step:∀ i,i<k->body (st i)=some (.inl (st (i+1)))) (last:body (st k)=some (.inr r)):∀ n,k<n->whl body n (st 0)=some r:=by
 have key:∀ (j n i:Nat),i+j=k->j<n->whl body n (st i)=some r:=by
  intro j
  induction j with
  | zero=>
   intro n i hi hn
   cases n with
   | zero=>omega
   | succ n=>
    have:i=k:=by omega
    subst this;simp only [whl,last]
  | succ j ih=>
   intro n i hi hn
   cases n with
   | zero=>omega
   | succ n=>simp only [whl,step i (by omega)];exact ih n (i+1) (by omega) (by omega)
 intro n hn
 exact key k n 0 (by omega) hn
theorem Ev.to {body:Nat->σ->Option (σ⊕ρ)} {r:ρ} (st:Nat->σ) (k:Nat) (h:∃ N,∀ n,N<=n->(∀ i,i<k->body n (st i)=some (.inl (st (i+1))))/\body n (st k)=some (.inr r)):Ev (λ n=>Go.AI.whl (body n) n (st 0)) r:=by
 obtain ⟨N,h⟩:=h
 exact ⟨max N (k+1),λ n hn=>Xz st k (h n (by omega)).1 (h n (by omega)).2 n (by omega)⟩
def ID (N:Nat) (stop:Nat->Option ρ) (d:ρ):ρ:=((List.range N).findSome? stop).getD d
theorem Zl {N:Nat} {stop:Nat->Option ρ} {d:ρ} (h:∀ i,i<N->stop i=none):ID N stop d=d:=by
 unfold ID
 rw [List.findSome?_eq_none_iff.2 λ i hi=>h i (List.mem_range.1 hi)];rfl
theorem Zm {N:Nat} {stop:Nat->Option ρ} {d r:ρ} (k:Nat) (hk:k<N) (hr:stop k=some r) (h:∀ i,i<k->stop i=none):ID N stop d=r:=by
 unfold ID
 have:(List.range N).findSome? stop=some r:=by
  have e:List.range N=List.range k++(List.range (N-k)).map (k+·):=by rw [← List.range_add];congr 1;omega
  rw [e,List.findSome?_append,List.findSome?_eq_none_iff.2 λ i hi=>h i (List.mem_range.1 hi)]
  have:N-k=(N-k-1)+1:=by omega
  rw [this,List.range_succ_eq_map]
  simp [hr]
 rw [this];rfl
theorem SG (N:Nat) (stop:Nat->Option ρ) (d:ρ):((∀ i,i<N->stop i=none)/\ID N stop d=d)\/∃ k r,k<N/\stop k=some r/\(∀ i,i<k->stop i=none)/\ID N stop d=r:=by
 by_cases h:∀ i,i<N->stop i=none
 ·exact .inl ⟨h,Zl h⟩
 ·right
  have hex:∃ k,k<N/\stop k≠none:=by
   apply Classical.byContradiction
   intro hh
   exact h λ i hi=>Classical.byContradiction λ hn=>hh ⟨i,hi,hn⟩
  have key:∀ m,(∃ k,k<m/\k<N/\stop k≠none)->∃ k,k<N/\stop k≠none/\∀ i,i<k->stop i=none:=by
   intro m
   induction m with
   | zero=>rintro ⟨k,hk,_⟩;omega
   | succ m ih=>
    rintro ⟨k,hk,h1,h2⟩
    by_cases hm:∃ k,k<m/\k<N/\stop k≠none
    ·exact ih hm
    ·refine ⟨k,h1,h2,λ i hi=>Classical.byContradiction λ hn=>hm ⟨i,by omega,by omega,hn⟩⟩
  obtain ⟨k0,h1,h2⟩:=hex
  obtain ⟨k,h3,h4,h5⟩:=key (k0+1) ⟨k0,by omega,h1,h2⟩
  obtain ⟨r,hr⟩:=Option.ne_none_iff_exists'.1 h4
  exact ⟨k,r,h3,hr,h5,Zm k h3 hr h5⟩
theorem Zn {body:Int->Option (Int⊕ρ)} {N:Nat} (stop:Nat->Option ρ) {d:ρ} (h1:∀ i,i<N->body (i:Int)=some (match stop i with|some r=>.inr r|none=>.inl ((i+1:Nat):Int))) (h2:body (N:Int)=some (.inr d)):∀ n,N<n->whl body n 0=some (ID N stop d):=by
 intro n hn
 rcases SG N stop d with ⟨h,e⟩|⟨k,r,hk,hr,h,e⟩
 ·rw [e]
  exact Xz (λ i=>(i:Int)) N (λ i hi=>by rw [h1 i hi,h i hi]) h2 n hn
 ·rw [e]
  exact Xz (λ i=>(i:Int)) k (λ i hi=>by rw [h1 i (by omega),h i hi]) (by rw [h1 k hk,hr]) n (by omega)
theorem Ev.first {body:Nat->Int->Option (Int⊕ρ)} {N:Nat} (stop:Nat->Option ρ) {d:ρ} (h:∃ M,∀ n,M<=n->(∀ i,i<N->body n (i:Int)=some (match stop i with|some r=>.inr r|none=>.inl ((i+1:Nat):Int)))/\body n (N:Int)=some (.inr d)):Ev (λ n=>Go.AI.whl (body n) n 0) (ID N stop d):=by
 obtain ⟨M,h⟩:=h
 exact ⟨max M (N+1),λ n hn=>Zn stop (h n (by omega)).1 (h n (by omega)).2 n (by omega)⟩
theorem Tot.gE {P:α->Prop} {c:Bool} {f:Nat->Option β} {d x:β} {g:Nat->β->Option α} (hc:c=true) (h:Ev f x) (k:Tot (λ n=>g n x) P):Tot (λ n=>(if c=true then f n else some d).bind (g n)) P:=by
 subst hc;exact Tot.bindE h k
theorem Tot.gF {P:α->Prop} {c:Bool} {f:Nat->Option β} {d:β} {g:Nat->β->Option α} (hc:c=false) (k:Tot (λ n=>g n d) P):Tot (λ n=>(if c=true then f n else some d).bind (g n)) P:=by
 subst hc;exact k
theorem Ev.many {f:Nat->Nat->Option α} {z:Nat->α} (N:Nat) (h:∀ i,i<N->Ev (λ n=>f n i) (z i)):∃ M,∀ n,M<=n->∀ i,i<N->f n i=some (z i):=by
 induction N with
 | zero=>exact ⟨0,λ n _ i hi=>by omega⟩
 | succ N ih=>
  obtain ⟨M1,h1⟩:=ih λ i hi=>h i (by omega)
  obtain ⟨M2,h2⟩:=h N (by omega)
  exact ⟨max M1 M2,λ n hn i hi=>by
   by_cases e:i=N
   ·subst e;exact h2 n (by omega)
   ·exact h1 n (by omega) i (by omega)⟩
end Go.AI
end
section
namespace Go.AI
def scan {ρ:Type} (N:Nat) (stop:Nat->Option ρ):Unit⊕ρ:=match (List.range N).findSome? stop with
 | some r=>.inr r
 | none=>.inl ()
theorem GI {ρ:Type} {body:Nat->Int->Option (Int⊕(Unit⊕ρ))} (N:Nat) (stop:Nat->Option ρ)
  (h:∀ i,i<N->Ev (λ n=>body n (i:Int)) (match stop i with|some r=>.inr (.inr r)|none=>.inl ((i+1:Nat):Int)))
  (h2:Ev (λ n=>body n (N:Int)) (.inr (.inl ()))):Ev (λ n=>whl (body n) n 0) (AI.scan N stop):=by
 have key:∀ (k i:Nat),i+k=N->(List.range N).findSome? stop=((List.range k).map (i+·)).findSome? stop->∃ M c,∀ n fuel,M<=n->c<=fuel->whl (body n) fuel (i:Int)=some (AI.scan N stop):=by
  intro k
  induction k with
  | zero=>
   intro i hi hf
   have:i=N:=by omega
   subst this
   obtain ⟨M,hM⟩:=h2
   refine ⟨M,1,λ n fuel hn hfu=>?_⟩
   obtain ⟨fuel,rfl⟩:∃ f,fuel=f+1:=⟨fuel-1,by omega⟩
   have e:=hM n hn
   simp only at e
   simp only [AI.whl,e]
   unfold AI.scan
   rw [hf];rfl
  | succ k ih=>
   intro i hi hf
   obtain ⟨M,hM⟩:=h i (by omega)
   have hs:(List.range (k+1)).map (i+·)=i::(List.range k).map ((i+1)+·):=by
    rw [List.range_succ_eq_map]
    simp only [List.map_cons,Nat.add_zero,List.map_map,List.cons.injEq,true_and]
    apply List.map_congr_left
    intro a _
    simp only [Function.comp];omega
   rw [hs,List.findSome?_cons] at hf
   cases hst:stop i with
   | some r=>
    rw [hst] at hf hM
    refine ⟨M,1,λ n fuel hn hfu=>?_⟩
    obtain ⟨fuel,rfl⟩:∃ f,fuel=f+1:=⟨fuel-1,by omega⟩
    have e:=hM n hn
    simp only at e
    simp only [AI.whl,e]
    unfold AI.scan
    rw [hf]
   | none=>
    rw [hst] at hf hM
    obtain ⟨M2,c,h3⟩:=ih (i+1) (by omega) hf
    refine ⟨max M M2,c+1,λ n fuel hn hfu=>?_⟩
    obtain ⟨fuel,rfl⟩:∃ f,fuel=f+1:=⟨fuel-1,by omega⟩
    have e:=hM n (by omega)
    simp only at e
    simp only [AI.whl,e]
    exact h3 n fuel (by omega) (by omega)
 obtain ⟨M,c,hh⟩:=key N 0 (by omega) (by simp)
 exact ⟨max M c,λ m hm=>hh m m (by omega) (by omega)⟩
theorem HA {ρ:Type} {N:Nat} {stop:Nat->Option ρ} (h:∀ i,i<N->stop i=none):scan N stop=.inl ():=by
 unfold scan
 rw [List.findSome?_eq_none_iff.2 λ i hi=>h i (List.mem_range.1 hi)]
theorem HB {ρ:Type} {N:Nat} {stop:Nat->Option ρ} {i:Nat} (hi:i<N) (h:(stop i).isSome=true):∃ k r,k<N/\stop k=some r/\scan N stop=.inr r:=by
 unfold scan
 cases hf:(List.range N).findSome? stop with
 | none=>rw [List.findSome?_eq_none_iff.1 hf i (List.mem_range.2 hi)] at h;cases h
 | some r=>
  obtain ⟨k,hk,hr⟩:=List.exists_of_findSome?_eq_some hf
  exact ⟨k,r,List.mem_range.1 hk,hr,rfl⟩
def NT (b:UInt8):Int:=(b.toNat:Int)
def HW (b:UInt8):Bool:=decide (Cr .u8 (NT b) 127>=32)&&decide (Cr .u8 (NT b) 127<=126)
def D2 (b:UInt8):Bool:=Cr .u8 (NT b) 127==32
theorem NU {s:List UInt8} {i:Nat} {b:UInt8} (h:s[i]? = some b):LL s (i:Int)=some (NT b):=by
 rw [Kb (Aj h)]
 unfold Px NT
 rw [h];rfl
theorem E2 {i n:Nat} (h:i<n):decide ((i:Int)<((n:Nat):Int))=true:=by simpa using h
theorem Py (n:Nat):decide (((n:Nat):Int)<((n:Nat):Int))=false:=by simp
def Dr (s:List UInt8):Int×Int:=match scan s.length (λ i=>if HW (s.getD i 0) then none else some ((i:Int),(60:Int))) with
 | .inl _=>(((s.length:Nat):Int),0)
 | .inr p=>p
theorem Cj {α:Type} {l:List α} {i:Nat} {d:α} (h:i<l.length):l.getD i d=l[i]:=by
 rw [JkL,JkC h];rfl
theorem Yj {s:List UInt8} (hl:s.length<9223372036854775807):Ev (λ n=>HJ n s) (Dr s):=by
 unfold HJ Dr
 refine Ev.bind (GI s.length (λ i=>if HW (s.getD i 0) then none else some ((i:Int),(60:Int))) (λ i hi=>Ev.all λ n=>?_) (Ev.all λ n=>?_)) ?_
 ·unfold Fm
  have hg:s[i]? = some s[i]:=JkC hi
  rw [if_pos (E2 hi),NU hg,Cj hi]
  have hc:DE n (NT s[i])=some (HW s[i]):=rfl
  simp only [Option.bind_some,hc]
  cases HW s[i] with
  | true=>simp [EN (show i<9223372036854775807 by omega)]
  | false=>simp
 ·unfold Fm
  rw [if_neg (by simp)]
 ·generalize scan s.length _=z;cases z<;>exact Ev.const
theorem Wf {s:List UInt8} (hl:s.length<9223372036854775807):Ev (λ n=>K0 n s) (Dr s):=by
 unfold K0 Dr
 refine Ev.bind (GI s.length (λ i=>if HW (s.getD i 0) then none else some ((i:Int),(60:Int))) (λ i hi=>Ev.all λ n=>?_) (Ev.all λ n=>?_)) ?_
 ·unfold Ih
  have hg:s[i]? = some s[i]:=JkC hi
  rw [if_pos (E2 hi),NU hg,Cj hi]
  have hc:IH n (NT s[i])=some (HW s[i]):=rfl
  simp only [Option.bind_some,hc]
  cases HW s[i] with
  | true=>simp [EN (show i<9223372036854775807 by omega)]
  | false=>simp
 ·unfold Ih
  rw [if_neg (by simp)]
 ·generalize scan s.length _=z;cases z<;>exact Ev.const
theorem Wg {s:List UInt8} (h:s.all HW=true):Dr s=(((s.length:Nat):Int),0):=by
 unfold Dr
 rw [HA λ i hi=>by rw [Cj hi,List.all_eq_true.1 h _ (List.getElem_mem hi)];rfl]
theorem Ti {s:List UInt8} (h:s.all HW=false):(Dr s).2=60:=by
 rw [List.all_eq_false] at h
 obtain ⟨b,hb,hc⟩:=h
 obtain ⟨i,hi,e⟩:=List.getElem_of_mem hb
 unfold Dr
 obtain ⟨k,r,hk,hr,hs⟩:=HB (stop:=λ i=>if HW (s.getD i 0) then none else some ((i:Int),(60:Int))) hi (by
  rw [Cj hi,e];simp only [Bool.not_eq_true] at hc;rw [hc];rfl)
 rw [hs]
 simp only at hr ⊢
 split at hr
 ·cases hr
 ·cases hr;rfl
theorem Zo {s:List UInt8} (hl:s.length<9223372036854775807):Ev (λ n=>JL n s) (s.all HW):=by
 unfold JL
 refine Ev.bind (Wf hl) ?_
 cases h:s.all HW with
 | true=>rw [Wg h];exact Ev.const
 | false=>rw [Ti h];exact Ev.const
def CF (r:Av) (m:Int):Bool:=
 r.Print.all HW&&decide (r.Print.length<=4)&&decide (1<=r.Cells.length)&&decide (r.Cells.length<=4) &&
 (decide (1<=r.Left)&&decide (r.Left<=63)&&decide (1<=r.Right)&&decide (r.Right<=63)&&decide (0<=r.From)&&decide (r.From<m)&&decide (0<=r.To)&&decide (r.To<m)) &&
 r.Cells.all (λ c=>decide (c<63)) &&
 (bif r.Print.any D2 then decide (r.Print.length=1)&&decide (r.Cells.length=1)&&r.Cells.any (λ c=>c==0) else !r.Cells.any (λ c=>c==0))
end Go.AI
end
section
namespace Go.AI
theorem Zp {r:Av} (hl:r.Print.length<9223372036854775807):Ev (λ n=>whl (λ (x:(Bool×Int))=>Ey n r x.1 x.2) n (false,0)) (r.Print.any D2):=by
 refine Ev.whl (body:=λ n x=>Ey n r x.1 x.2) (λ k x=>∃ i:Nat,x.2=(i:Int)/\i<=r.Print.length/\k=r.Print.length-i/\x.1=(r.Print.take i).any D2) ?_ r.Print.length (false,0) ⟨0,rfl,by omega,by omega,by simp⟩
 rintro k ⟨b,i'⟩ ⟨i,h1,hi,rfl,h2⟩
 simp only at h1 h2
 subst h1
 subst h2
 rcases Nat.lt_or_ge i r.Print.length with hlt|hge
 ·left
  have hg:r.Print[i]? = some r.Print[i]:=JkC hlt
  have hcond:decide ((i:Int)<((r.Print.length:Nat):Int))=true:=by simpa using hlt
  refine ⟨((r.Print.take (i+1)).any D2,((i+1:Nat):Int)),r.Print.length-(i+1),by omega,⟨i+1,rfl,by omega,rfl,rfl⟩,Ev.all λ n=>?_⟩
  unfold Ey
  rw [if_pos hcond]
  have ht:(r.Print.take (i+1)).any D2=((r.Print.take i).any D2||D2 r.Print[i]):=by
   rw [List.take_add_one,hg];simp only [Option.toList_some,List.any_append,List.any_cons,List.any_nil,Bool.or_false]
  have hsp:∀ n,Oo n (NT r.Print[i])=some (D2 r.Print[i]):=λ n=>rfl
  rw [ht,MN (by omega) (by omega),NU hg]
  cases (r.Print.take i).any D2 with
  | true=>simp
  | false=>simp [hsp]
 ·right
  have e:i=r.Print.length:=by omega
  subst e
  refine Ev.all λ n=>?_
  unfold Ey
  rw [if_neg (by simp),List.take_length]
theorem Ev.upto {σ ρ:Type} {body:Nat->σ->Option (σ⊕ρ)} {R:ρ->Prop} (N:Nat) (I:Nat->σ->Prop)
  (step:∀ i x,i<N->I i x->(∃ y,I (i+1) y/\Ev (λ n=>body n x) (.inl y))\/∃ r,R r/\Ev (λ n=>body n x) (.inr r))
  (last:∀ x,I N x->∃ r,R r/\Ev (λ n=>body n x) (.inr r)) (x:σ) (h0:I 0 x):∃ r,R r/\Ev (λ n=>Go.AI.whl (body n) n x) r:=by
 refine Ev.whlR (body:=body) (λ k x=>∃ i,i<=N/\k=N-i/\I i x) ?_ N x ⟨0,by omega,by omega,h0⟩
 rintro k x ⟨i,hi,rfl,hx⟩
 rcases Nat.lt_or_ge i N with hlt|hge
 ·rcases step i x hlt hx with ⟨y,hy,hE⟩|h
  ·exact .inl ⟨y,N-(i+1),by omega,⟨i+1,by omega,rfl,hy⟩,hE⟩
  ·exact .inr h
 ·have:i=N:=by omega
  subst this
  exact .inr (last x hx)
theorem Zq {r:Av} (hl:r.Cells.length<9223372036854775807) (y:Bool):∃ z:Bool⊕Bool,(if r.Cells.all (λ c=>decide (c<63))=true then z=.inl (r.Cells.any (λ c=>c==0)) else z=.inr false)/\Ev (λ n=>whl (λ (x:(Bool×Int))=>Dx n r y x.1 x.2) n (false,0)) z:=by
 refine Ev.upto (body:=λ n x=>Dx n r y x.1 x.2) r.Cells.length (λ i x=>x.2=(i:Int)/\x.1=(r.Cells.take i).any (λ c=>c==0)/\(r.Cells.take i).all (λ c=>decide (c<63))=true) ?_ ?_ (false,0) ⟨rfl,by simp,by simp⟩
 ·rintro i ⟨b,i'⟩ hlt ⟨h1,h2,h3⟩
  simp only at h1 h2
  subst h1
  subst h2
  have hg:r.Cells[i]? = some r.Cells[i]:=JkC hlt
  have hcond:decide ((i:Int)<((r.Cells.length:Nat):Int))=true:=by simpa using hlt
  by_cases hc:r.Cells[i]<63
  ·left
   refine ⟨((r.Cells.take (i+1)).any (λ c=>c==0),((i+1:Nat):Int)),⟨rfl,rfl,?_⟩,Ev.all λ n=>?_⟩
   ·rw [List.take_add_one,hg];simp only [Option.toList_some,List.all_append,h3,List.all_cons,decide_eq_true hc,List.all_nil,Bool.and_self]
   ·unfold Dx
    have ht:(r.Cells.take (i+1)).any (λ c=>c==0)=((r.Cells.take i).any (λ c=>c==0)||r.Cells[i]==0):=by
     rw [List.take_add_one,hg];simp only [Option.toList_some,List.any_append,List.any_cons,List.any_nil,Bool.or_false]
    rw [if_pos hcond,Kd hg,Option.bind_some,if_neg (by simpa using hc),ht,MN (by omega) (by omega)]
    cases (r.Cells.take i).any (λ c=>c==0) with
    | true=>simp
    | false=>simp
  ·right
   refine ⟨.inr false,?_,Ev.all λ n=>?_⟩
   ·rw [if_neg]
    intro h
    rw [List.all_eq_true] at h
    exact hc (by simpa using h r.Cells[i] (List.getElem_mem hlt))
   ·unfold Dx
    rw [if_pos hcond,Kd hg,Option.bind_some,if_pos (by simp;omega)]
 ·rintro ⟨b,i'⟩ ⟨h1,h2,h3⟩
  simp only at h1 h2
  subst h1
  subst h2
  rw [List.take_length] at h3 ⊢
  refine ⟨.inl (r.Cells.any (λ c=>c==0)),by rw [if_pos h3],Ev.all λ n=>?_⟩
  unfold Dx
  rw [if_neg (by simp)]
theorem Jci {r:Av} (hp:r.Print.length<9223372036854775807) (hc:r.Cells.length<9223372036854775807) (m:Int):Ev (λ n=>LB n r m) (CF r m):=by
 obtain ⟨z,hz,hE⟩:=Zq hc (r.Print.any D2)
 have h1:=Zo hp
 have h2:=Zp (r:=r) hp
 unfold LB
 refine Ev.bind h1 ?_
 unfold CF
 generalize r.Print.all HW=a
 by_cases g1:((((!a)||(decide (((r.Print.length:Nat):Int)>4)))||(decide (((r.Cells.length:Nat):Int)<1)))||(decide (((r.Cells.length:Nat):Int)>4)))=true
 ·simp only [g1,if_true]
  have:(a&&decide (r.Print.length<=4)&&decide (1<=r.Cells.length)&&decide (r.Cells.length<=4))=false:=by
   rw [← Bool.not_eq_true]
   intro h
   simp only [JkD,decide_eq_true_eq] at h
   simp only [JkW,decide_eq_true_eq,Bool.not_eq_true'] at g1
   rcases g1 with ((g|g)|g)|g
   ·rw [g] at h;simp at h
   all_goals omega
  rw [this]
  exact Ev.const
 ·simp only [g1]
  by_cases g2:((((((((decide (r.Left<1))||(decide (r.Left>63)))||(decide (r.Right<1)))||(decide (r.Right>63)))||(decide (r.From<0)))||(decide (r.From>=m)))||(decide (r.To<0)))||(decide (r.To>=m)))=true
  ·simp only [g2,if_true]
   have:(decide (1<=r.Left)&&decide (r.Left<=63)&&decide (1<=r.Right)&&decide (r.Right<=63)&&decide (0<=r.From)&&decide (r.From<m)&&decide (0<=r.To)&&decide (r.To<m))=false:=by
    rw [← Bool.not_eq_true]
    intro h
    simp only [JkD,decide_eq_true_eq] at h
    simp only [JkW,decide_eq_true_eq] at g2
    omega
   rw [this,Bool.and_false]
   exact Ev.const
  ·have e1:(a&&decide (r.Print.length<=4)&&decide (1<=r.Cells.length)&&decide (r.Cells.length<=4))=true:=by
    simp only [JkW,decide_eq_true_eq,Bool.not_eq_true',not_or] at g1
    simp only [JkD,decide_eq_true_eq]
    refine ⟨⟨⟨by simpa using g1.1.1.1,?_⟩,?_⟩,?_⟩<;>omega
   have e2:(decide (1<=r.Left)&&decide (r.Left<=63)&&decide (1<=r.Right)&&decide (r.Right<=63)&&decide (0<=r.From)&&decide (r.From<m)&&decide (0<=r.To)&&decide (r.To<m))=true:=by
    simp only [JkW,decide_eq_true_eq,not_or] at g2
    simp only [JkD,decide_eq_true_eq]
    omega
   rw [e1,e2]
   simp only [g2,JkP,if_false]
   refine Ev.bind h2 (Ev.bind hE ?_)
   split at hz
   ·rename_i h
    subst hz
    rw [h]
    generalize r.Print.any D2=b
    cases b with
    | false=>exact Ev.const
    | true=>
     refine Ev.all λ n=>?_
     simp only [Bool.not_true,JkP,if_false,Bool.and_true,Bool.true_and,cond_true]
     congr 3<;>rw [Bool.eq_iff_iff]<;>simp<;>omega
   ·rename_i h
    subst hz
    rw [Bool.not_eq_true] at h
    rw [h]
    exact Ev.const
end Go.AI
end
section
namespace Go.AI
theorem Ev.iteT {α:Type} {c:Bool} {a b:Nat->Option α} {z:α} (h:c=true) (k:Ev a z):Ev (λ n=>if c=true then a n else b n) z:=by subst h;exact k
theorem Ev.iteF {α:Type} {c:Bool} {a b:Nat->Option α} {z:α} (h:c=false) (k:Ev b z):Ev (λ n=>if c=true then a n else b n) z:=by subst h;exact k
theorem Ev.bindC {α β:Type} {x:Option β} {y:β} {g:Nat->β->Option α} {z:α} (h:x=some y) (k:Ev (λ n=>g n y) z):Ev (λ n=>x.bind (g n)) z:=by subst h;exact k
theorem Ev.guard {α β:Type} {c:Bool} {f:Nat->Option β} {d x:β} {g:Nat->β->Option α} {z:α} (h:c=true->Ev f x) (k:Ev (λ n=>g n (if c=true then x else d)) z):Ev (λ n=>(if c=true then f n else some d).bind (g n)) z:=by
 cases c with
 | true=>exact Ev.bind (h rfl) k
 | false=>exact k
theorem Jcj {α β:Type} {a:List α} {b:List β}:(((a.length:Nat):Int) != ((b.length:Nat):Int))=decide (a.length≠b.length):=by
 rw [Bool.eq_iff_iff]
 simp only [bne_iff_ne,ne_eq,decide_eq_true_eq]
 omega
theorem Tj {α:Type} [DecidableEq α] [Inhabited α] (a b:List α) (h:a.length=b.length):scan a.length (λ i=>if a.getD i default=b.getD i default then none else some false)=if a=b then .inl () else .inr false:=by
 by_cases e:a=b
 ·subst e
  rw [if_pos rfl]
  exact HA λ i _=>by rw [if_pos rfl]
 ·rw [if_neg e]
  have:∃ i,i<a.length/\a.getD i default≠b.getD i default:=by
   apply Classical.byContradiction
   intro hn
   refine e (List.ext_getElem h λ i h1 h2=>?_)
   have:=Classical.byContradiction λ hc=>hn ⟨i,h1,hc⟩
   rwa [Cj h1,Cj h2] at this
  obtain ⟨i,hi,hne⟩:=this
  obtain ⟨k,r,_,hr,hs⟩:=HB (stop:=λ i=>if a.getD i default=b.getD i default then none else some false) hi (by rw [if_neg hne];rfl)
  rw [hs]
  split at hr
  ·cases hr
  ·cases hr;rfl
theorem UE (a b:List Int) (ha:a.length<9223372036854775807):Ev (λ n=>GH n a b) (decide (a=b)):=by
 unfold GH
 rw [Jcj]
 by_cases h:a.length=b.length
 ·refine Ev.iteF (by simp [h]) ?_
  refine Ev.bind (GI a.length (λ i=>if a.getD i default=b.getD i default then none else some false) (λ i hi=>Ev.all λ n=>?_) (Ev.all λ n=>?_)) ?_
  ·unfold Ez
   rw [if_pos (E2 hi),HV hi,HV (by omega)]
   simp only [Option.bind_some]
   by_cases e:a.getD i default=b.getD i default
   ·rw [if_neg (by simp only [bne_iff_ne,ne_eq];exact λ hh=>hh e),if_pos e,EN (by omega)]
   ·rw [if_pos (by simp only [bne_iff_ne,ne_eq];exact e),if_neg e]
  ·unfold Ez
   rw [if_neg (by simp)]
  ·rw [Tj a b h]
   by_cases e:a=b
   ·rw [if_pos e,decide_eq_true e];exact Ev.const
   ·rw [if_neg e,decide_eq_false e];exact Ev.const
 ·refine Ev.iteT (by simp [h]) ?_
  rw [decide_eq_false (λ e=>h (by rw [e]))]
  exact Ev.const
theorem Wh (a b:List Int) (ha:a.length<9223372036854775807):Ev (λ n=>Hv n a b) (decide (a=b)):=by
 unfold Hv
 rw [Jcj]
 by_cases h:a.length=b.length
 ·refine Ev.iteF (by simp [h]) ?_
  refine Ev.bind (GI a.length (λ i=>if a.getD i default=b.getD i default then none else some false) (λ i hi=>Ev.all λ n=>?_) (Ev.all λ n=>?_)) ?_
  ·unfold Eu
   rw [if_pos (E2 hi),HV hi,HV (by omega)]
   simp only [Option.bind_some]
   by_cases e:a.getD i default=b.getD i default
   ·rw [if_neg (by simp only [bne_iff_ne,ne_eq];exact λ hh=>hh e),if_pos e,EN (by omega)]
   ·rw [if_pos (by simp only [bne_iff_ne,ne_eq];exact e),if_neg e]
  ·unfold Eu
   rw [if_neg (by simp)]
  ·rw [Tj a b h]
   by_cases e:a=b
   ·rw [if_pos e,decide_eq_true e];exact Ev.const
   ·rw [if_neg e,decide_eq_false e];exact Ev.const
 ·refine Ev.iteT (by simp [h]) ?_
  rw [decide_eq_false (λ e=>h (by rw [e]))]
  exact Ev.const
theorem Yk (a b:Av):decide (a=b)=(a.Print==b.Print&&decide (a.Cells=b.Cells)&&a.Left==b.Left&&a.Right==b.Right&&a.From==b.From&&a.To==b.To):=by
 rw [Bool.eq_iff_iff]
 cases a;cases b
 simp only [decide_eq_true_eq,Av.mk.injEq,JkD,beq_iff_eq]
 exact ⟨λ ⟨h1,h2,h3,h4,h5,h6⟩=>⟨⟨⟨⟨⟨h1,h2⟩,h3⟩,h4⟩,h5⟩,h6⟩,λ ⟨⟨⟨⟨⟨h1,h2⟩,h3⟩,h4⟩,h5⟩,h6⟩=>⟨h1,h2,h3,h4,h5,h6⟩⟩
theorem Wi (a b:Av) (ha:a.Cells.length<9223372036854775807):Ev (λ n=>Hi n a b) (decide (a=b)):=by
 unfold Hi
 refine Ev.guard (λ _=>UE a.Cells b.Cells ha) (Ev.all λ n=>?_)
 rw [Yk]
 cases h:(a.Print==b.Print)<;>simp
theorem Jck (a b:Av) (ha:a.Cells.length<9223372036854775807):Ev (λ n=>Hw n a b) (decide (a=b)):=by
 unfold Hw
 refine Ev.guard (λ _=>Wh a.Cells b.Cells ha) (Ev.all λ n=>?_)
 rw [Yk]
 cases (a.Print==b.Print)<;>cases (a.Left==b.Left)<;>cases (a.Right==b.Right)<;>cases (a.From==b.From)<;>cases (a.To==b.To)<;>simp
theorem Wj (b:UInt8):(FW (NT b)==4)=D2 b:=by
 have:∀ k:Nat,k<256->(FW (k:Int)==4)=(Cr .u8 (k:Int) 127==32):=by decide +kernel
 exact this b.toNat b.toNat_lt
theorem Jcl {s:List UInt8} {f:UInt8->Bool}:scan s.length (λ i=>if f (s.getD i 0) then some true else none)=if s.any f then .inr true else .inl ():=by
 cases h:s.any f with
 | false=>
  rw [List.any_eq_false] at h
  exact HA λ i hi=>by rw [Cj hi,if_neg (h _ (List.getElem_mem hi))]
 | true=>
  rw [List.any_eq_true] at h
  obtain ⟨b,hb,hf⟩:=h
  obtain ⟨i,hi,e⟩:=List.getElem_of_mem hb
  obtain ⟨k,r,_,hr,hs⟩:=HB (stop:=λ i=>if f (s.getD i 0) then some true else none) hi (by rw [Cj hi,e,hf];rfl)
  rw [hs]
  split at hr
  ·cases hr;rfl
  ·cases hr
theorem Wk {s:List UInt8} (hl:s.length<9223372036854775807):Ev (λ n=>Es n s) (s.any D2):=by
 unfold Es
 refine Ev.bind (GI s.length (λ i=>if D2 (s.getD i 0) then some true else none) (λ i hi=>Ev.all λ n=>?_) (Ev.all λ n=>?_)) ?_
 ·unfold CY
  have hg:s[i]? = some s[i]:=JkC hi
  rw [if_pos (E2 hi),NU hg,Cj hi]
  simp only [Option.bind_some,R4,Wj]
  cases D2 s[i] with
  | true=>simp
  | false=>simp [EN (show i<9223372036854775807 by omega)]
 ·unfold CY
  rw [if_neg (by simp)]
 ·rw [Jcl]
  cases s.any D2<;>exact Ev.const
theorem Zr {l:List Int} {f:Int->Bool}:scan l.length (λ i=>if f (l.getD i 0) then none else some false)=if l.all f then .inl () else .inr false:=by
 cases h:l.all f with
 | true=>
  rw [List.all_eq_true] at h
  exact HA λ i hi=>by rw [Cj hi,if_pos (h _ (List.getElem_mem hi))]
 | false=>
  rw [List.all_eq_false] at h
  obtain ⟨b,hb,hf⟩:=h
  obtain ⟨i,hi,e⟩:=List.getElem_of_mem hb
  obtain ⟨k,r,_,hr,hs⟩:=HB (stop:=λ i=>if f (l.getD i 0) then none else some false) hi (by rw [Cj hi,e,if_neg hf];rfl)
  rw [hs]
  split at hr
  ·cases hr
  ·cases hr;rfl
def Pz (c:Int):Bool:=decide (c<63)&&!(c==0)
theorem Zs {r:Av} (hp:r.Print.length<9223372036854775807) (hc:r.Cells.length<9223372036854775807) (m:Int):Ev (λ n=>Hu n r m) (CF r m):=by
 unfold Hu
 by_cases g1:(((decide (((r.Print.length:Nat):Int)>4))||(decide (((r.Cells.length:Nat):Int)<1)))||(decide (((r.Cells.length:Nat):Int)>4)))=true
 ·refine Ev.iteT g1 ?_
  have:CF r m=false:=by
   rw [← Bool.not_eq_true];intro h
   simp only [CF,JkD,decide_eq_true_eq] at h
   simp only [JkW,decide_eq_true_eq] at g1
   omega
  rw [this];exact Ev.const
 ·rw [Bool.not_eq_true] at g1
  refine Ev.iteF g1 (Ev.bind (Yj hp) ?_)
  cases ha:r.Print.all HW with
  | false=>
   refine Ev.iteT (by rw [Ti ha];rfl) ?_
   have:CF r m=false:=by simp [CF,ha]
   rw [this];exact Ev.const
  | true=>
   refine Ev.iteF (by rw [Wg ha];rfl) ?_
   by_cases g2:((((decide (r.Left<1))||(decide (r.Left>63)))||(decide (r.Right<1)))||(decide (r.Right>63)))=true
   ·refine Ev.iteT g2 ?_
    have:CF r m=false:=by
     rw [← Bool.not_eq_true];intro h
     simp only [CF,JkD,decide_eq_true_eq] at h
     simp only [JkW,decide_eq_true_eq] at g2
     omega
    rw [this];exact Ev.const
   ·rw [Bool.not_eq_true] at g2
    refine Ev.iteF g2 ?_
    by_cases g3:((((decide (r.From<0))||(decide (r.From>=m)))||(decide (r.To<0)))||(decide (r.To>=m)))=true
    ·refine Ev.iteT g3 ?_
     have:CF r m=false:=by
      rw [← Bool.not_eq_true];intro h
      simp only [CF,JkD,decide_eq_true_eq] at h
      simp only [JkW,decide_eq_true_eq] at g3
      omega
     rw [this];exact Ev.const
    ·rw [Bool.not_eq_true] at g3
     refine Ev.iteF g3 (Ev.bind (Wk hp) ?_)
     simp only [Bool.or_eq_false_iff,decide_eq_false_iff_not] at g1 g2 g3
     have e1:CF r m=(r.Cells.all (λ c=>decide (c<63))&&(bif r.Print.any D2 then decide (r.Print.length=1)&&decide (r.Cells.length=1)&&r.Cells.any (λ c=>c==0) else !r.Cells.any (λ c=>c==0))):=by
      unfold CF
      rw [ha]
      have:(true&&decide (r.Print.length<=4)&&decide (1<=r.Cells.length)&&decide (r.Cells.length<=4)&&(decide (1<=r.Left)&&decide (r.Left<=63)&&decide (1<=r.Right)&&decide (r.Right<=63)&&decide (0<=r.From)&&decide (r.From<m)&&decide (0<=r.To)&&decide (r.To<m)))=true:=by
       simp only [JkD,decide_eq_true_eq,true_and]
       omega
      rw [this,Bool.true_and]
     rw [e1]
     cases hsp:r.Print.any D2 with
     | true=>
      refine Ev.iteT rfl ?_
      by_cases g4:((((r.Print.length:Nat):Int)==1)&&(((r.Cells.length:Nat):Int)==1))=true
      ·have hl:r.Print.length=1/\r.Cells.length=1:=by
        simp only [JkD,beq_iff_eq] at g4;omega
       obtain ⟨c,hcell⟩:=List.length_eq_one_iff.1 hl.2
       have hi:idx r.Cells 0=some c:=by rw [hcell];rfl
       simp only [g4,if_true,hi,Option.bind_some]
       refine Ev.all λ n=>?_
       rw [hcell]
       simp only [hl.1,List.all_cons,List.all_nil,List.any_cons,List.any_nil,List.length_cons,List.length_nil,Bool.and_true,Bool.or_false,decide_true,Bool.true_and,cond_true]
       cases h0:(c==0) with
       | false=>simp
       | true=>
        have:c=0:=by simpa using h0
        subst this;rfl
      ·rw [Bool.not_eq_true] at g4
       simp only [g4,JkP,if_false,Option.bind_some,Bool.false_and]
       refine Ev.all λ n=>?_
       have:(decide (r.Print.length=1)&&decide (r.Cells.length=1))=false:=by
        rw [← Bool.not_eq_true];intro h
        simp only [JkD,decide_eq_true_eq] at h
        rw [← Bool.not_eq_true] at g4
        apply g4
        simp [h.1,h.2]
       simp [this]
     | false=>
      refine Ev.iteF rfl ?_
      refine Ev.bind (GI r.Cells.length (λ i=>if Pz (r.Cells.getD i 0) then none else some false) (λ i hi=>Ev.all λ n=>?_) (Ev.all λ n=>?_)) ?_
      ·unfold Et
       rw [if_pos (E2 hi),HV hi,show r.Cells.getD i default=r.Cells.getD i 0 from rfl]
       generalize r.Cells.getD i 0=c
       simp only [Option.bind_some,I0]
       by_cases hcc:Pz c=true
       ·simp only [Pz,JkD,decide_eq_true_eq,Bool.not_eq_true',beq_eq_false_iff_ne,ne_eq] at hcc
        rw [if_neg (by simp;omega),if_pos (by simp [Pz];omega),EN (by omega)]
       ·rw [if_pos (by simp [Pz] at hcc ⊢;omega),if_neg hcc]
      ·unfold Et
       rw [if_neg (by simp)]
      ·rw [Zr]
       have e2:(r.Cells.all (λ c=>decide (c<63))&&!r.Cells.any (λ c=>c==0))=r.Cells.all Pz:=by
        rw [Bool.eq_iff_iff]
        simp only [Pz,JkD,List.all_eq_true,Bool.not_eq_true',List.any_eq_false,Bool.not_eq_true]
        exact ⟨λ h x hx=>⟨h.1 x hx,h.2 x hx⟩,λ h=>⟨λ x hx=>(h x hx).1,λ x hx=>(h x hx).2⟩⟩
       simp only [cond_false]
       rw [e2]
       cases r.Cells.all Pz<;>exact Ev.const
end Go.AI
end
section
namespace Go.AI
def Jcm (r:Av):Prop:=r.Print.length<9223372036854775807/\r.Cells.length<9223372036854775807
def G9 (t:Ab):Prop:=t.Rules.length<9223372036854775807/\∀ r∈t.Rules,Jcm r
def Wl (t:Ab) (i:Nat):Unit⊕(Int×Int):=scan i (λ k=>if t.Rules.getD k default=t.Rules.getD i default then some ((i:Int),(20:Int)) else none)
def Jn (t:Ab) (i:Nat):Option (Int×Int):=if CF (t.Rules.getD i default) t.Modes=true then (match Wl t i with | .inl _=>none | .inr p=>some p) else some ((i:Int),20)
def Wm (t:Ab):Bool:=decide (t.Modes<1)||decide (t.Modes>8)||(t.Accept==0)||decide (IntKind.i64.wrap t.Accept>=QU .i64 1 t.Modes)||decide (((t.Rules.length:Nat):Int)<1)||decide (((t.Rules.length:Nat):Int)>64)
def OX (t:Ab):Int×Int:=if Wm t=true then (-1,1) else match scan t.Rules.length (Jn t) with
 | .inl _=>(0,0)
 | .inr p=>p
theorem G9.get {t:Ab} (h:G9 t) {i:Nat} (hi:i<t.Rules.length):Jcm (t.Rules.getD i default):=by
 rw [Cj hi];exact h.2 _ (List.getElem_mem hi)
theorem Zt {t:Ab} (ht:G9 t) {i:Nat} (hi:i<t.Rules.length):Ev (λ n=>whl (λ (x:Int)=>FM n t (i:Int) x) n 0) (Wl t i):=by
 refine GI i _ (λ k hk=>?_) (Ev.all λ n=>?_)
 ·unfold FM
  refine Ev.iteT (by simpa using hk) (Ev.bindC (HV (by omega)) (Ev.bindC (HV hi) (Ev.bind (Wi _ _ (ht.get (by omega)).2) (Ev.all λ n=>?_))))
  by_cases e:t.Rules.getD k default=t.Rules.getD i default
  ·rw [if_pos (decide_eq_true e),if_pos e]
  ·rw [if_neg (by simpa using e),if_neg e,EN (by have:=ht.1;omega)]
 ·unfold FM
  rw [if_neg (by simp)]
theorem XA {t:Ab} (ht:G9 t) {i:Nat} (hi:i<t.Rules.length):Ev (λ n=>whl (λ (x:Int)=>Dv n t (i:Int) (t.Rules.getD i default) (t.Rules.take i) x) n 0) (Wl t i):=by
 refine GI i _ (λ k hk=>?_) (Ev.all λ n=>?_)
 ·unfold Dv
  have hk':k<(t.Rules.take i).length:=by rw [List.length_take];omega
  have hg:(t.Rules.take i).getD k default=t.Rules.getD k default:=by rw [Cj hk',Cj (by omega),List.getElem_take]
  refine Ev.iteT (E2 hk') (Ev.bindC (HV hk') ?_)
  rw [hg]
  refine Ev.bind (Jck _ _ (ht.get (by omega)).2) (Ev.all λ n=>?_)
  by_cases e:t.Rules.getD k default=t.Rules.getD i default
  ·rw [if_pos (decide_eq_true e),if_pos e]
  ·rw [if_neg (by simpa using e),if_neg e,EN (by have:=ht.1;omega)]
 ·unfold Dv
  rw [if_neg (by simp;omega)]
theorem Zu {t:Ab} (ht:G9 t):Ev (λ n=>whl (λ (x:Int)=>FN n t x) n 0) (scan t.Rules.length (Jn t)):=by
 refine GI _ _ (λ i hi=>?_) (Ev.all λ n=>?_)
 ·unfold FN
  refine Ev.iteT (E2 hi) (Ev.bindC (HV hi) (Ev.bind (Jci (ht.get hi).1 (ht.get hi).2 t.Modes) ?_))
  unfold Jn
  cases CF (t.Rules.getD i default) t.Modes with
  | false=>exact Ev.iteT rfl Ev.const
  | true=>
   refine Ev.iteF rfl (Ev.bind (Zt ht hi) ?_)
   cases Wl t i with
   | inl u=>refine Ev.all λ n=>?_;simp [EN (show i<9223372036854775807 by have:=ht.1;omega)]
   | inr p=>exact Ev.const
 ·unfold FN
  rw [if_neg (by simp)]
theorem XB {t:Ab} (ht:G9 t):Ev (λ n=>whl (λ (x:Int)=>Dw n t x) n 0) (scan t.Rules.length (Jn t)):=by
 refine GI _ _ (λ i hi=>?_) (Ev.all λ n=>?_)
 ·unfold Dw
  refine Ev.iteT (E2 hi) (Ev.bindC (HV hi) (Ev.bind (Zs (ht.get hi).1 (ht.get hi).2 t.Modes) ?_))
  unfold Jn
  cases CF (t.Rules.getD i default) t.Modes with
  | false=>exact Ev.iteT rfl Ev.const
  | true=>
   refine Ev.iteF rfl (Ev.bindC (UD (by omega)) (Ev.bind (XA ht hi) ?_))
   cases Wl t i with
   | inl u=>refine Ev.all λ n=>?_;simp [EN (show i<9223372036854775807 by have:=ht.1;omega)]
   | inr p=>exact Ev.const
 ·unfold Dw
  rw [if_neg (by simp)]
theorem Jcn {t:Ab} (ht:G9 t):Ev (λ n=>LC n t) (OX t):=by
 unfold LC OX
 refine Ev.bindC (y:=()) ?_ ?_
 ·split
  ·rename_i h
   simp only [Bool.not_eq_true',Bool.or_eq_false_iff,decide_eq_false_iff_not] at h
   exact ED (by simp;omega)
  ·rfl
 ·show Ev (λ n=>if Wm t=true then _ else _) _
  cases Wm t with
  | true=>exact Ev.iteT rfl Ev.const
  | false=>
   refine Ev.iteF rfl (Ev.bind (Zu ht) ?_)
   generalize scan t.Rules.length _=z
   cases z<;>exact Ev.const
theorem Zv {t:Ab} (ht:G9 t):Ev (λ n=>Hx n t) (OX t):=by
 unfold Hx OX Wm
 cases h1:((decide (t.Modes<1))||(decide (t.Modes>8))) with
 | true=>exact Ev.iteT rfl (by simp only [Bool.true_or,if_true];exact Ev.const)
 | false=>
  refine Ev.iteF rfl (Ev.bindC (y:=()) ?_ ?_)
  ·split
   ·simp only [Bool.or_eq_false_iff,decide_eq_false_iff_not] at h1
    exact ED (by simp;omega)
   ·rfl
  ·simp only [Bool.false_or]
   cases h2:((t.Accept==0)||(decide (IntKind.i64.wrap t.Accept>=QU .i64 1 t.Modes))) with
   | true=>exact Ev.iteT rfl (by simp only [Bool.true_or,if_true];exact Ev.const)
   | false=>
    refine Ev.iteF rfl ?_
    simp only [Bool.false_or]
    cases h3:((decide (((t.Rules.length:Nat):Int)<1))||(decide (((t.Rules.length:Nat):Int)>64))) with
    | true=>exact Ev.iteT rfl (by simp only [if_true];exact Ev.const)
    | false=>
     refine Ev.iteF rfl (Ev.bind (XB ht) ?_)
     simp only [JkP,if_false]
     generalize scan t.Rules.length _=z
     cases z<;>exact Ev.const
def Ff (t:Ab):Bool:=!Wm t&&t.Rules.all (λ r=>CF r t.Modes)&&decide t.Rules.Nodup
theorem NV (t:Ab):((OX t).2==0)=Ff t:=by
 unfold OX Ff
 cases Wm t with
 | true=>rfl
 | false=>
  simp only [JkP,if_false,Bool.not_false,Bool.true_and]
  have h20:∀ i p,Jn t i=some p->p.2=20:=by
   intro i p h
   unfold Jn at h
   split at h
   ·split at h
    ·cases h
    ·rename_i q hq
     cases h
     unfold Wl scan at hq
     split at hq
     ·rename_i r hr
      cases hq
      obtain ⟨k,_,hk⟩:=List.exists_of_findSome?_eq_some hr
      split at hk
      ·cases hk;rfl
      ·cases hk
     ·cases hq
   ·cases h;rfl
  have hiff:(∀ i,i<t.Rules.length->Jn t i=none)↔(t.Rules.all (λ r=>CF r t.Modes)&&decide t.Rules.Nodup)=true:=by
   simp only [JkD,List.all_eq_true,decide_eq_true_eq]
   constructor
   ·intro h
    have hs:∀ i,i<t.Rules.length->CF (t.Rules.getD i default) t.Modes=true:=by
     intro i hi
     have:=h i hi
     unfold Jn at this
     split at this
     ·assumption
     ·cases this
    refine ⟨λ r hr=>?_,?_⟩
    ·obtain ⟨i,hi,e⟩:=List.getElem_of_mem hr
     have:=hs i hi
     rwa [Cj hi,e] at this
    ·rw [List.Nodup,List.pairwise_iff_getElem]
     intro k i hk hi hlt e
     have h0:=h i hi
     unfold Jn at h0
     rw [if_pos (hs i hi)] at h0
     obtain ⟨_,r,_,_,hsc⟩:=HB (N:=i) (stop:=λ k=>if t.Rules.getD k default=t.Rules.getD i default then some ((i:Int),(20:Int)) else none) hlt (by rw [Cj hk,Cj hi,if_pos e];rfl)
     unfold Wl at h0
     rw [hsc] at h0
     cases h0
   ·rintro ⟨h1,h2⟩ i hi
    unfold Jn
    rw [if_pos (by rw [Cj hi];exact h1 _ (List.getElem_mem hi))]
    have:Wl t i=.inl ():=HA λ k hk=>by
     rw [Cj (show k<t.Rules.length by omega),Cj hi,if_neg]
     rw [List.Nodup,List.pairwise_iff_getElem] at h2
     exact h2 k i (by omega) hi hk
    rw [this]
  cases hv:(t.Rules.all (λ r=>CF r t.Modes)&&decide t.Rules.Nodup) with
  | true=>rw [HA (hiff.2 hv)];rfl
  | false=>
   have:¬∀ i,i<t.Rules.length->Jn t i=none:=λ h=>by rw [hiff.1 h] at hv;cases hv
   have:∃ i,i<t.Rules.length/\Jn t i≠none:=Classical.byContradiction λ hn=>this λ i hi=>Classical.byContradiction λ hc=>hn ⟨i,hi,hc⟩
   obtain ⟨i,hi,hne⟩:=this
   obtain ⟨k,r,_,hr,hs⟩:=HB hi (Option.isSome_iff_ne_none.2 hne)
   rw [hs]
   show (r.2==0)=false
   rw [h20 k r hr];rfl
theorem Jco {t:Ab} (ht:G9 t):Ev (λ n=>Oq n t) (Ff t):=by
 rw [← NV]
 exact Ev.bind (Jcn ht) Ev.const
theorem Zw {t:Ab} (ht:G9 t):Ev (λ n=>Ew n t) (Ff t):=by
 rw [← NV]
 exact Ev.bind (Zv ht) Ev.const
theorem XC {t:Ab} {l:List Av} (h:Ff t=true) (hl:l.Sublist t.Rules) (h1:1<=l.length):Ff ⟨t.Modes,t.Accept,l⟩=true:=by
 unfold Ff Wm at h ⊢
 simp only [JkD,Bool.not_eq_true',Bool.or_eq_false_iff,decide_eq_false_iff_not,List.all_eq_true,decide_eq_true_eq] at h ⊢
 have hle:=hl.length_le
 exact ⟨⟨⟨⟨h.1.1.1.1,by omega⟩,by omega⟩,λ r hr=>h.1.2 r (hl.subset hr)⟩,hl.nodup h.2⟩
theorem NW {t:Ab} (h:Ff t=true):∀ r∈t.Rules,CF r t.Modes=true:=by
 unfold Ff at h
 simp only [JkD,List.all_eq_true] at h
 exact h.1.2
end Go.AI
end
section
namespace Go.AI
def Wn (r:Int):Ab:=(I2 0 r).getD default
theorem UF (n:Nat) (k:Int) (h0:0<=k):I2 n k=some (Wn (Bz k 8))/\0<=Bz k 8/\Bz k 8<8:=by
 have e:Bz k 8=k % 8:=by unfold Bz;rw [Int.tmod_eq_emod_of_nonneg h0]
 have hr:Bz k 8=0\/Bz k 8=1\/Bz k 8=2\/Bz k 8=3\/Bz k 8=4\/Bz k 8=5\/Bz k 8=6\/Bz k 8=7:=by rw [e];omega
 rcases hr with h|h|h|h|h|h|h|h
 all_goals
  refine ⟨?_,by omega,by omega⟩
  unfold I2
  rw [h]
  rfl
def UG (r:Av):Bool:=decide (0<=r.To)&&decide (r.To<2)&&decide (0<=r.Right)&&decide (r.Right<=63)&&decide (r.Print.length<=3)
theorem XD {r:Av} (h:UG r=true):MO r:=by
 simp only [UG,JkD,decide_eq_true_eq] at h
 obtain ⟨⟨⟨⟨h1,h2⟩,h3⟩,h4⟩,h5⟩:=h
 exact ⟨h1,h2,h3,h4,h5⟩
def UH (t:Ab):Bool:=decide (t.Rules.length<=8)&&t.Rules.all UG&&decide (1<=t.Modes)&&decide (t.Modes<=2)&&Ff t
theorem Jd3 {r:Int} (h:0<=r) (h':r<8):UH (Wn r)=true:=by
 have:∀ k:Nat,k<8->UH (Wn (k:Int))=true:=by decide +kernel
 have e:=this r.toNat (by omega)
 rwa [Int.toNat_of_nonneg h] at e
def U8 (n:Int):Prop:=0<=n/\n<256
def Yl (x:Dd):Prop:=(∀ a∈x.P,U8 a)/\(∀ a∈x.C,U8 a)/\U8 x.L/\U8 x.R/\U8 x.W.a0/\U8 x.W.a1
theorem El {a m:Int} (h:0<=a) (hm:0<m):0<=Bz a m/\Bz a m<m:=(OW h hm).2
theorem MP {α:Type} {l:List α} {i:Int} (h:0<=i) (h':i<l.length):∃ x,x∈l/\idx l i=some x:=by
 have hl:i.toNat<l.length:=by omega
 refine ⟨l[i.toNat],List.getElem_mem hl,?_⟩
 unfold idx
 rw [if_pos h]
 exact JkC hl
theorem Jd4 {α:Type} {l:List α} {i:Int} (h:0<=i) (h':i<l.length):∃ z,z.length=1/\sub l i (i+1)=some z:=by
 refine ⟨(l.take (i+1).toNat).drop i.toNat,?_,?_⟩
 ·simp;omega
 ·unfold sub
  rw [if_pos (by omega)]
def Ym (a b:Av):Prop:=a.Left=b.Left/\a.Right=b.Right/\a.From=b.From/\a.To=b.To
theorem Jcp (x:Dd) (hx:∀ a∈x.P,U8 a) (r0:Av) (h0:r0.Print=[]):Tot (λ n=>whl (λ (y:(Av×Int))=>Fs n x y.1 y.2) n (r0,0)) (λ r=>r.Print.length<=3/\Ym r r0):=by
 refine Tot.upto (body:=λ n y=>Fs n x y.1 y.2) (min x.P.length 3) (λ i y=>y.2=(i:Int)/\y.1.Print.length=i/\Ym y.1 r0) ?_ ?_ (r0,0) ⟨rfl,by simp [h0],rfl,rfl,rfl,rfl⟩
 ·rintro i ⟨r,i'⟩ hi ⟨h1,h2,h3⟩
  simp only at h1 h2 h3
  subst h1
  obtain ⟨c,hcm,hci⟩:=MP (l:=x.P) (i:=(i:Int)) (by omega) (by omega)
  have hu:=hx c hcm
  have hr:=El (m:=9) hu.1 (by omega)
  have hw:IntKind.i64.wrap (Bz c 9)=Bz c 9:=OU (by omega) (by omega)
  obtain ⟨z,hz1,hz⟩:=Jd4 (l:=([97,98,99,65,66,49,50,45,46]:List UInt8)) (i:=Bz c 9) hr.1 (by simpa using hr.2)
  unfold Fs
  refine Tot.iteT (by simp only [JkD,decide_eq_true_eq];omega) (Tot.bindC hci ?_)
  simp only [hw]
  rw [Jm (by omega) (by omega)]
  refine Tot.bindC hz (Tot.bindC (Jcg (by omega)) (Tot.pure ⟨EN (by omega),by simp [h2,hz1],h3⟩))
 ·rintro ⟨r,i'⟩ ⟨h1,h2,h3⟩
  simp only at h1 h2 h3
  subst h1
  unfold Fs
  exact Tot.iteF (by rw [← Bool.not_eq_true];simp only [JkD,decide_eq_true_eq];omega) (Tot.pure ⟨by show r.Print.length<=3;omega,h3⟩)
theorem Jcq (x:Dd) (hx:∀ a∈x.C,U8 a) (r0:Av) (h0:r0.Cells.length=1):Tot (λ n=>whl (λ (y:(Av×Int))=>Ft n x y.1 y.2) n (r0,0)) (λ r=>(r.Cells.length<=3/\1<=r.Cells.length)/\r.Print=r0.Print/\Ym r r0):=by
 refine Tot.upto (body:=λ n y=>Ft n x y.1 y.2) (min x.C.length 2) (λ i y=>y.2=(i:Int)/\y.1.Cells.length=i+1/\y.1.Print=r0.Print/\Ym y.1 r0) ?_ ?_ (r0,0) ⟨rfl,by simp [h0],rfl,rfl,rfl,rfl,rfl⟩
 ·rintro i ⟨r,i'⟩ hi ⟨h1,h2,h3,h4⟩
  simp only at h1 h2 h3 h4
  subst h1
  obtain ⟨c,hcm,hci⟩:=MP (l:=x.C) (i:=(i:Int)) (by omega) (by omega)
  have hu:=hx c hcm
  have hr:=El (m:=8) hu.1 (by omega)
  obtain ⟨z,_,hz⟩:=MP (l:=([1,3,9,5,7,32,44,60]:List Int)) (i:=Bz c 8) hr.1 (by simpa using hr.2)
  unfold Ft
  refine Tot.iteT (by simp only [JkD,decide_eq_true_eq];omega) (Tot.bindC hci (Tot.bindC hz (Tot.bindC (D1 (by simp;omega)) (Tot.pure ⟨EN (by omega),by simp [h2],h3,h4⟩))))
 ·rintro ⟨r,i'⟩ ⟨h1,h2,h3,h4⟩
  simp only at h1 h2 h3 h4
  subst h1
  unfold Ft
  exact Tot.iteF (by rw [← Bool.not_eq_true];simp only [JkD,decide_eq_true_eq];omega) (Tot.pure ⟨by show r.Cells.length<=3/\1<=r.Cells.length;omega,h3,h4⟩)
theorem Jd5 {x:Dd} (hx:Yl x) {m:Int} (hm:1<=m) (hm':m<=2):Tot (λ n=>Nn n x m) (λ r=>MO r/\(r.Cells.length<=3/\1<=r.Cells.length)/\0<=r.From/\r.From<m/\0<=r.To/\r.To<m):=by
 obtain ⟨hP,hC,hL,hR,hW0,hW1⟩:=hx
 have l8:=El (m:=8) hL.1 (by omega)
 have r8:=El (m:=8) hR.1 (by omega)
 obtain ⟨a,ham,ha⟩:=MP (l:=([63,63,2,8,17,62,4,1]:List Int)) (i:=Bz x.L 8) l8.1 (by simpa using l8.2)
 obtain ⟨b,hbm,hb⟩:=MP (l:=([63,63,2,8,17,62,4,1]:List Int)) (i:=Bz x.R 8) r8.1 (by simpa using r8.2)
 have hq:0<=Jaj .u8 x.L 8:=by unfold Jaj;exact (Wc _).1
 have q8:=El (m:=8) hq (by omega)
 obtain ⟨c,_,hc⟩:=MP (l:=([1,3,9,5,7,32,44,60]:List Int)) (i:=Bz (Jaj .u8 x.L 8) 8) q8.1 (by simpa using q8.2)
 have hg:CH (!(m==0))=some ():=ED (by simp;omega)
 have w0:IntKind.i64.wrap x.W.a0=x.W.a0:=OU (by have:=hW0.1;omega) (by have:=hW0.2;omega)
 have w1:IntKind.i64.wrap x.W.a1=x.W.a1:=OU (by have:=hW1.1;omega) (by have:=hW1.2;omega)
 have hfr:=El (a:=x.W.a0) (m:=m) hW0.1 (by omega)
 have hto:=El (a:=x.W.a1) (m:=m) hW1.1 (by omega)
 have hbr:0<=b/\b<=63:=by
  simp at hbm
  omega
 unfold Nn
 refine Tot.bindC ha (Tot.bindC hb (Tot.bindC hg (Tot.bindC hg (Tot.bind (Jcp x hP _ rfl) ?_))))
 rintro r1 ⟨p1,p2,p3,p4,p5⟩
 refine Tot.bindC hc (Tot.bind (Jcq x hC _ rfl) ?_)
 rintro r2 ⟨q1,q2,q3,q4,q5,q6⟩
 simp only at q2 q3 q4 q5 q6
 rw [p3] at q4
 rw [p4] at q5
 rw [p5] at q6
 simp only [w0,w1] at q5 q6 q4
 refine Tot.pure ⟨⟨?_,?_,?_,?_,?_⟩,q1,?_,?_,?_,?_⟩
 all_goals first|(rw [q6];omega)|(rw [q4];omega)|(rw [q5];omega)|(rw [q2];exact p1)
def NX (x:KZ):Prop:=0<=x.Base/\∀ r∈x.More,Yl r
structure Em (t:Ab):Prop where
 tab:DK t
 lo:1<=t.Modes
 hi:t.Modes<=2
 valid:Ff t=true
theorem Em.sound {t:Ab} (h:Em t):∀ r∈t.Rules,CF r t.Modes=true:=NW h.valid
theorem MQ {r:Av} {m:Int} (h:CF r m=true):r.Print.length<=4/\1<=r.Cells.length/\r.Cells.length<=4:=by
 simp only [CF,JkD,decide_eq_true_eq] at h
 omega
theorem Em.small {t:Ab} (h:Em t):G9 t:=⟨by have:=h.tab.1;omega,λ r hr=>by have:=MQ (h.sound r hr);exact ⟨by omega,by omega⟩⟩
theorem Jcr (x:KZ) (b:Ab) (hb:b.Rules.length<=8):Tot (λ n=>whl (λ (y:(Ab×Int))=>Fu n x b y.1 y.2) n (({ Modes:=b.Modes,Accept:=b.Accept,Rules:=[] }:Ab),0)) (λ t=>t.Modes=b.Modes/\t.Accept=b.Accept/\t.Rules.Sublist b.Rules):=by
 refine Tot.upto (body:=λ n y=>Fu n x b y.1 y.2) b.Rules.length (λ i y=>y.2=(i:Int)/\y.1.Modes=b.Modes/\y.1.Accept=b.Accept/\y.1.Rules.Sublist (b.Rules.take i)) ?_ ?_ _ ⟨rfl,rfl,rfl,by simp⟩
 ·rintro i ⟨t,i'⟩ hi ⟨h1,h2,h3,h4⟩
  simp only at h1 h2 h3 h4
  subst h1
  have ht:b.Rules.take (i+1)=b.Rules.take i++[b.Rules.getD i default]:=by rw [List.take_add_one,Cj hi,JkC hi];rfl
  have hlen:=h4.length_le
  rw [List.length_take] at hlen
  unfold Fu
  refine Tot.iteT (E2 hi) (Tot.bindC (ED (by simp)) (Tot.ite (λ _=>Tot.bindC (HV hi) (Tot.bindC (D1 (by simp;omega)) ?_)) λ _=>?_))
  ·unfold GP
   exact Tot.pure ⟨EN (by omega),h2,h3,by rw [ht];exact h4.append (List.Sublist.refl _)⟩
  ·unfold GP
   exact Tot.pure ⟨EN (by omega),h2,h3,by rw [ht];exact h4.trans (List.sublist_append_left _ _)⟩
 ·rintro ⟨t,i'⟩ ⟨h1,h2,h3,h4⟩
  simp only at h1 h2 h3 h4
  subst h1
  rw [List.take_length] at h4
  unfold Fu
  exact Tot.iteF (by simp) (Tot.pure ⟨h2,h3,h4⟩)
structure Jio (b t:Ab):Prop where
 modes:t.Modes=b.Modes
 accept:t.Accept=b.Accept
 rules:∀ r∈t.Rules,MO r/\r.Cells.length<=4
 valid:t.Rules=[]\/Ff t=true
theorem Zx {t:Ab} (hl:t.Rules.length<=11) (h:∀ r∈t.Rules,MO r/\r.Cells.length<=4):G9 t:=⟨by omega,λ r hr=>⟨by have:=(h r hr).1.2.2.2.2;omega,by have:=(h r hr).2;omega⟩⟩
theorem Jcs (x:KZ) (hx:∀ r∈x.More,Yl r) (b t0:Ab) (hlo:1<=b.Modes) (hhi:b.Modes<=2) (h0:Jio b t0) (hl0:t0.Rules.length<=8):Tot (λ n=>whl (λ (y:(Ab×Int))=>Fv n x b y.1 y.2) n (t0,0)) (λ t=>Jio b t/\t.Rules.length<=10):=by
 refine Tot.upto (body:=λ n y=>Fv n x b y.1 y.2) (min x.More.length 2) (λ i y=>y.2=(i:Int)/\Jio b y.1/\y.1.Rules.length<=8+i) ?_ ?_ _ ⟨rfl,h0,by simpa using hl0⟩
 ·rintro i ⟨t,i'⟩ hi ⟨h1,h2,h3⟩
  simp only at h1 h2 h3
  subst h1
  unfold Fv
  refine Tot.iteT (by simp only [JkD,decide_eq_true_eq];omega) (Tot.bindC (CE (by omega)) ?_)
  rw [h2.modes]
  refine Tot.bind (Jd5 (hx _ (List.getElem_mem _)) hlo hhi) ?_
  rintro r ⟨hr1,hr2,-⟩
  refine Tot.bindC (D1 (by simp;omega)) ?_
  have hall:∀ q∈t.Rules++[r],MO q/\q.Cells.length<=4:=by
   intro q hq
   simp only [List.mem_append,List.mem_singleton] at hq
   rcases hq with hq|rfl
   ·exact h2.rules q hq
   ·exact ⟨hr1,by omega⟩
  refine Tot.bindE (Jco (Zx (t:=⟨b.Modes,t.Accept,t.Rules++[r]⟩) (by simp;omega) hall)) ?_
  refine Tot.ite (λ _=>?_) λ hv=>?_
  ·have e:JI .i64 ((List.length (t.Rules++[r]):Nat):Int) 1=(t.Rules.length:Nat):=by
    rw [Yi (by simp<;>omega) (by simp<;>omega)];simp
   rw [e]
   refine Tot.bindC (UD (by simp)) ?_
   unfold GQ
   rw [List.take_left' rfl]
   exact Tot.pure ⟨EN (by omega),⟨rfl,h2.accept,h2.rules,by have:=h2.valid;have hm:=h2.modes;cases t;simp only at hm this ⊢;subst hm;exact this⟩,by simp only;omega⟩
  ·unfold GQ
   exact Tot.pure ⟨EN (by omega),⟨rfl,h2.accept,hall,.inr (by simpa using hv)⟩,by simp;omega⟩
 ·rintro ⟨t,i'⟩ ⟨h1,h2,h3⟩
  simp only at h1 h2 h3
  subst h1
  unfold Fv
  exact Tot.iteF (by rw [← Bool.not_eq_true];simp only [JkD,decide_eq_true_eq];omega) (Tot.pure ⟨h2,by show t.Rules.length<=10;omega⟩)
theorem Zy {x:KZ} (hx:NX x):∃ t,(Em t/\1<=t.Rules.length/\t.Rules.length<=10)/\Ev (λ n=>I3 n x) t:=by
 have hb:∀ n,I2 n x.Base=some (Wn (Bz x.Base 8)):=λ n=>(UF n x.Base hx.1).1
 have hok:=Jd3 (UF 0 x.Base hx.1).2.1 (UF 0 x.Base hx.1).2.2
 generalize Wn (Bz x.Base 8)=b at *
 unfold UH at hok
 simp only [JkD,decide_eq_true_eq,List.all_eq_true] at hok
 obtain ⟨⟨⟨⟨o1,o2⟩,o3⟩,o4⟩,o5⟩:=hok
 have gb:∀ r∈b.Rules,MO r/\r.Cells.length<=4:=λ r hr=>⟨XD (o2 r hr),(MQ (NW o5 r hr)).2.2⟩
 have hne:∀ t:Ab,Ff t=true->1<=t.Rules.length:=λ t h=>by
  unfold Ff Wm at h
  simp only [JkD,Bool.not_eq_true',Bool.or_eq_false_iff,decide_eq_false_iff_not] at h
  omega
 have:Tot (λ n=>I3 n x) (λ t=>Em t/\1<=t.Rules.length/\t.Rules.length<=10):=by
  unfold I3
  refine Tot.bindA hb (Tot.bind (Jcr x b o1) ?_)
  rintro t1 ⟨a1,a2,a3⟩
  refine Tot.bind (Jcs x hx.2 b t1 o3 o4 ⟨a1,a2,λ r hr=>gb r (a3.subset hr),?_⟩ (by have:=a3.length_le;omega)) ?_
  ·rcases Nat.eq_zero_or_pos t1.Rules.length with h|h
   ·exact .inl (List.length_eq_zero_iff.1 h)
   ·right
    have:=XC o5 a3 h
    cases t1
    simp only at a1 a2 this ⊢
    subst a1 a2
    exact this
  rintro t2 ⟨b1,b2⟩
  refine Tot.ite (λ h=>?_) λ h=>?_
  ·unfold GS
   have e:(⟨t2.Modes,t2.Accept,b.Rules⟩:Ab)=b:=by rw [b1.modes,b1.accept]
   rw [e]
   exact Tot.pure ⟨⟨⟨by omega,λ r hr=>(gb r hr).1⟩,o3,o4,o5⟩,hne b o5,by omega⟩
  ·unfold GS
   have hv:Ff t2=true:=b1.valid.resolve_left λ e=>by rw [e] at h;cases h
   exact Tot.pure ⟨⟨⟨by omega,λ r hr=>(b1.rules r hr).1⟩,by rw [b1.modes];exact o3,by rw [b1.modes];exact o4,hv⟩,hne t2 hv,b2⟩
 obtain ⟨t,ht,hE⟩:=this
 exact ⟨t,ht,hE⟩
theorem Jd6 {x:KZ} (hx:NX x):∃ t,Em t/\Ev (λ n=>I3 n x) t:=by
 obtain ⟨t,h,h'⟩:=Zy hx
 exact ⟨t,h.1,h'⟩
end Go.AI
end
section
namespace Go.AI
def BC (t:Ab) (k:Int):Av:=t.Rules[k.toNat]?.getD default
def KI (t:Ab):List Int->List UInt8->List Int->Nat->Aa->CD
 | [],tx,cs,a,s=>⟨tx,cs,a,s,A3 t s⟩
 | k::p,tx,cs,a,s=>if (Ap t s k).2=true then KI t p (tx++(BC t k).Print) (cs++(BC t k).Cells) (a+1) (Ap t s k).1 else ⟨tx,cs,a,s,false⟩
theorem Cc {t:Ab} {s:Aa} {k:Int} (h:(Ap t s k).2=true):0<=k/\k<t.Rules.length:=by
 unfold Ap at h
 split at h
 ·cases h
 ·rename_i hk
  simp only [JkW,decide_eq_true_eq,not_or] at hk
  omega
theorem En {t:Ab} {k:Int} (h:0<=k) (h':k<t.Rules.length):idx t.Rules k=some (BC t k):=R5 h h'
theorem Eo {t:Ab} {k:Int} (h:0<=k) (h':k<t.Rules.length):BC t k∈t.Rules:=by
 unfold BC
 rw [JkC (by omega)]
 exact List.getElem_mem _
theorem Em.print {t:Ab} (ht:Em t) {r:Av} (hr:r∈t.Rules):r.Print.length<=4/\r.Cells.length<=4:=by
 have:=ht.sound r hr
 unfold CF at this
 simp only [JkD,decide_eq_true_eq] at this
 omega
theorem Ke {α:Type} {l:List α} {i:Nat} (h:i<l.length):l.drop i=l[i]::l.drop (i+1):=List.drop_eq_getElem_cons h
structure R7 (t:Ab) (p:List Int) (i:Nat) (tx:List UInt8) (cs:List Int) (s:Aa):Prop where
 eq:KI t p [] [] 0 As=KI t (p.drop i) tx cs i s
 tl:tx.length<=4*i
 cl:cs.length<=4*i
theorem R7.start (t:Ab) (p:List Int):R7 t p 0 [] [] As:=⟨rfl,by simp,by simp⟩
theorem R7.next {t:Ab} (ht:Em t) {p:List Int} {i:Nat} {tx:List UInt8} {cs:List Int} {s:Aa} (h:R7 t p i tx cs s) (hi:i<p.length) (hs:(Ap t s p[i]).2=true):R7 t p (i+1) (tx++(BC t p[i]).Print) (cs++(BC t p[i]).Cells) (Ap t s p[i]).1:=by
 have hk:=Cc hs
 have:=ht.print (Eo hk.1 hk.2)
 refine ⟨?_,?_,?_⟩
 ·rw [h.eq,Ke hi,KI,if_pos hs]
 ·have:=h.tl;simp only [List.length_append];omega
 ·have:=h.cl;simp only [List.length_append];omega
theorem R7.stop {t:Ab} {p:List Int} {i:Nat} {tx:List UInt8} {cs:List Int} {s:Aa} (h:R7 t p i tx cs s) (hi:i<p.length) (hs:(Ap t s p[i]).2=false):KI t p [] [] 0 As=⟨tx,cs,i,s,false⟩:=by
 rw [h.eq,Ke hi,KI,if_neg (by rw [hs];simp)]
theorem R7.last {t:Ab} {p:List Int} {tx:List UInt8} {cs:List Int} {s:Aa} (h:R7 t p p.length tx cs s):KI t p [] [] 0 As=⟨tx,cs,p.length,s,A3 t s⟩:=by
 rw [h.eq,List.drop_length,KI]
theorem Yn {t:Ab} (ht:Em t) {p:List Int} (hp:p.length<=100000):Ev (λ n=>Nq n t p) (KI t p [] [] 0 As):=by
 have loop:Tot (λ n=>whl (λ (x:(CD×Int))=>Gv n t p x.1 x.2) n ((⟨[],[],0,As,false⟩:CD),0))
   (Rd2 (λ y=>KI t p [] [] 0 As=⟨y.Text,y.Cells,y.At,y.End,A3 t y.End⟩) (λ y=>KI t p [] [] 0 As=y)):=by
  refine Tot.upto (body:=λ n x=>Gv n t p x.1 x.2) p.length (λ i x=>x.1.At=(i:Int)/\x.2=(i:Int)/\x.1.Ok=false/\R7 t p i x.1.Text x.1.Cells x.1.End) ?_ ?_ _ ⟨rfl,rfl,rfl,R7.start t p⟩
  ·rintro i ⟨⟨tx,cs,a,s,o⟩,j⟩ hi ⟨e2,e3,e4,hI⟩
   simp only at e2 e3 e4 hI
   subst e2 e3 e4
   unfold Gv
   refine Tot.iteT (by simpa using hi) (Tot.bindC (CE hi) (Tot.bindA (λ n=>E0 ht.tab.short n s p[i]) (Tot.ite (λ hc=>?_) (λ hc=>?_))))
   ·refine Tot.pure ?_
    exact hI.stop hi (by simpa using hc)
   ·have hs:(Ap t s p[i]).2=true:=by simpa using hc
    have hk:=Cc hs
    have hN:=hI.next ht hi hs
    have h1:=ht.print (Eo hk.1 hk.2)
    have h2:=hI.tl
    have h3:=hI.cl
    refine Tot.bindC (CE hi) (Tot.bindC (En hk.1 hk.2) (Tot.bindC (Jcg (by dsimp only;omega)) (Tot.bindC (CE hi) (Tot.bindC (En hk.1 hk.2) (Tot.bindC (D1 (by dsimp only;omega)) (Tot.pure ⟨?_,?_,rfl,hN⟩))))))
    all_goals
     simp only
     rw [MN (by omega) (by omega)];rfl
  ·rintro ⟨⟨tx,cs,a,s,o⟩,j⟩ ⟨e2,e3,e4,hI⟩
   simp only at e2 e3 e4 hI
   subst e2 e3 e4
   unfold Gv
   exact Tot.iteF (by simp) (Tot.pure hI.last)
 refine Tot.ev ?_
 unfold Nq
 refine Tot.bindA (y:=As) (λ n=>rfl) (Tot.bind loop ?_)
 intro y hy
 cases y with
 | inl b=>exact Tot.bindA (λ n=>G2 n t _) (Tot.pure hy.symm)
 | inr b=>exact Tot.pure hy.symm
end Go.AI
end
section
namespace Go.AI
theorem Kf {st:List Aa} (hn:st.Nodup) {i:Nat} {s:Aa} (h:st[i]? = some s):BX st s=(i:Int):=by
 unfold BX
 rw [CI hn h]
theorem IE {st:List Aa} (hn:st.Nodup) {i j:Nat} {s:Aa} (h:st[i]? = some s) (h':st[j]? = some s):i=j:=by
 have a:=CI hn h
 rw [CI hn h'] at a
 cases a;rfl
theorem BT {i:Nat} (h:i<9223372036854775807):Ay .i64 (i:Int) 1=((i+1:Nat):Int):=by
 rw [MN (by omega) (by omega)];rfl
theorem BD {st:List Aa} {s:Aa} (h:s∈st):∃ i:Nat,BX st s=i/\st[i]? = some s:=by
 unfold BX
 cases hf:st.findIdx? (λ x=>decide (x=s)) with
 | none=>
  rw [List.findIdx?_eq_none_iff] at hf
  have:=hf s h
  simp at this
 | some i=>
  rw [List.findIdx?_eq_some_iff_getElem] at hf
  obtain ⟨hi,h1,_⟩:=hf
  refine ⟨i,rfl,?_⟩
  rw [JkC hi]
  simpa using h1
theorem XE {st:List Aa} {s:Aa} (h:s ∉ st):BX st s=-1:=by
 unfold BX
 rw [Hr h]
theorem R8 {st:List Aa} {s:Aa}:BX st s<0↔s ∉ st:=by
 constructor
 ·intro h hm
  obtain ⟨i,e,_⟩:=BD hm
  omega
 ·intro h
  rw [XE h];omega
theorem Wo {t:Ab} (ht:DK t) {st:List Aa} (hF:DL t st) {i:Nat} {s:Aa} (hi:st[i]? = some s):Tot (λ n=>whl (λ (x:((List Aa)×Int))=>DS n t (i:Int) x.1 x.2) n (st,0)) (λ r=>r=Jk t s t.Rules.length st):=by
 have hr:=ht.1
 refine Tot.upto (body:=λ n x=>DS n t (i:Int) x.1 x.2) t.Rules.length (λ k x=>x.2=(k:Int)/\x.1=Jk t s k st) ?_ ?_ _ ⟨rfl,rfl⟩
 ·rintro k ⟨l,k'⟩ hk ⟨e1,e2⟩
  simp only at e1 e2
  subst e1 e2
  have hFk:=hF.exp ht hi k (by omega)
  have hik:=LG (G3 t s st k) hi
  have hlen:=hFk.len
  unfold DS
  refine Tot.iteT (by simpa using hk) (Tot.bindC (Cb hik) (Tot.bindA (λ n=>E0 ht.short n s k) (Tot.guard (R:=λ z=>z=BX (Jk t s k st) (Ap t s k).1) (λ _=>(E1 (by dsimp only;omega)).tot rfl) (λ z hz=>?_))))
  have hJ:∀ l',l'=Jk t s (k+1) st->Tot (λ n=>EV n (k:Int) l') (Rd2 (λ x:List Aa×Int=>x.2=((k+1:Nat):Int)/\x.1=Jk t s (k+1) st) (λ r=>r=Jk t s t.Rules.length st)):=by
   intro l' hl'
   unfold EV
   exact Tot.pure ⟨BT (by omega),hl'⟩
  have hx:Jk t s (k+1) st=Kc t s (Jk t s k st) k:=Jl t s k st
  refine Tot.ite (λ hc=>?_) (λ hc=>?_)
  ·simp only [JkD,decide_eq_true_eq] at hc
   refine Tot.bindC (D1 (by simp;omega)) (hJ _ ?_)
   rw [hx]
   unfold Kc
   rw [if_pos ⟨hc.1,R8.1 (by rw [← hz hc.1];exact hc.2)⟩]
  ·refine hJ _ ?_
   rw [hx]
   unfold Kc
   rw [if_neg]
   rintro ⟨h1,h2⟩
   rw [h1,hz h1,decide_eq_true (R8.2 h2)] at hc
   cases hc
 ·rintro ⟨l,k'⟩ ⟨e1,e2⟩
  simp only at e1 e2
  subst e1 e2
  unfold DS
  exact Tot.iteF (by simp) (Tot.pure rfl)
theorem Jip (t:Ab):DL t [As]:=⟨by simp,λ s hs=>by simp at hs;subst hs;exact ⟨by decide,by decide,by decide,by decide,by decide,by decide⟩,rfl,λ j s hj h0=>by cases j with|zero=>omega|succ j=>simp at hj⟩
theorem FC {t:Ab} (ht:DK t):Ev (λ n=>Dz n t) (Ae t):=by
 have loop:Tot (λ n=>whl (λ (x:((List Aa)×Int))=>EW n t x.1 x.2) n ([As],0)) (λ r=>r=Ae t):=by
  refine Tot.whl (body:=λ n x=>EW n t x.1 x.2) (λ k x=>∃ i:Nat,i<=x.1.length/\k=800-i/\R6 t (800-i) i x.1=Ae t/\x.2=(i:Int)/\DL t x.1) ?_ 800 _ ⟨0,by simp,by omega,rfl,rfl,Jip t⟩
  rintro k ⟨st,i'⟩ ⟨i,hil,rfl,hb,hi',hF⟩
  simp only at hil hb hi' hF
  subst hi'
  have hlen:=hF.len
  unfold EW
  refine Tot.ite (λ hc=>?_) (λ hc=>?_)
  ·have hlt:i<st.length:=by simpa using hc
   have hi:st[i]? = some st[i]:=JkC hlt
   have hexp:=hF.exp ht hi _ (Nat.le_refl _)
   refine Tot.bind (Wo ht hF hi) ?_
   rintro _ rfl
   refine Tot.pure ⟨800-(i+1),by omega,i+1,?_,rfl,?_,?_,hexp⟩
   ·have:=(G3 t st[i] st t.Rules.length).length_le
    dsimp only
    omega
   ·dsimp only
    rw [← hb]
    have e:800-i=(800-(i+1))+1:=by omega
    rw [e]
    simp only [R6,hi]
   ·exact BT (by omega)
  ·have hge:st.length<=i:=by simpa using hc
   have e:i=st.length:=by omega
   subst e
   refine Tot.pure ?_
   show st=Ae t
   rw [← hb]
   have e:800-st.length=(800-(st.length+1))+1:=by omega
   rw [e]
   simp [R6]
 refine Tot.ev ?_
 unfold Dz
 exact Tot.bindA (y:=As) (λ n=>rfl) (Tot.bind loop λ _ h=>Tot.pure h)
end Go.AI
end
section
namespace Go.AI
def Edge (t:Ab) (st:List Aa) (i:Nat) (k:Nat) (j:Nat):Prop:=∃ s s',st[i]? = some s/\k<t.Rules.length/\st[j]? = some s'/\Ap t s (k:Nat)=(s',true)
inductive G4 (t:Ab) (st:List Aa):Nat->Prop
 | acc (i:Nat) (s:Aa) (h:st[i]? = some s) (ha:A3 t s=true):G4 t st i
 | step (i k j:Nat) (h:Edge t st i k j) (hj:G4 t st j):G4 t st i
def HX (t:Ab) (st:List Aa) (l:List Bool):Prop:=l.length=st.length/\∀ i:Nat,l[i]? = some true↔G4 t st i
theorem G4.lt {t:Ab} {st:List Aa} {i:Nat} (h:G4 t st i):i<st.length:=by
 cases h with
 | acc _ s h ha=>exact Aj h
 | step _ k j h hj=>obtain ⟨s,s',h,_⟩:=h;exact Aj h
theorem HX.uniq {t:Ab} {st:List Aa} {l m:List Bool} (h:HX t st l) (h':HX t st m):l=m:=by
 refine List.ext_getElem? λ i=>?_
 rcases Nat.lt_or_ge i st.length with hi|hi
 ·have h1:i<l.length:=by rw [h.1];exact hi
  have h2:i<m.length:=by rw [h'.1];exact hi
  have e:=(h.2 i).trans (h'.2 i).symm
  rw [JkC h1,JkC h2] at e ⊢
  cases ha:l[i]<;>cases hb:m[i]<;>simp_all
 ·rw [List.getElem?_eq_none_iff.2 (by rw [h.1];exact hi),List.getElem?_eq_none_iff.2 (by rw [h'.1];exact hi)]
theorem HX.of {t:Ab} {st:List Aa} {l:List Bool} (hl:l.length=st.length) (hs:∀ i,l[i]? = some true->G4 t st i) (ha:∀ (i:Nat) s,st[i]? = some s->A3 t s=true->l[i]? = some true) (hc:∀ i k j,Edge t st i k j->l[j]? = some true->l[i]? = some true):HX t st l:=by
 refine ⟨hl,λ i=>⟨hs i,λ h=>?_⟩⟩
 induction h with
 | acc i s h h'=>exact ha i s h h'
 | step i k j h _ ih=>exact hc i k j h ih
def NY (l:List Bool):Nat:=l.count false
theorem R9 {l:List Bool} {i:Nat} (h:l[i]? = some false):NY (l.set i true)+1=NY l:=by
 have hi:=Aj h
 rw [JkC hi] at h
 have h':l[i]=false:=by simpa using h
 have hp:0<List.count false l:=List.count_pos_iff.2 (h'▸List.getElem_mem hi)
 unfold NY
 rw [List.count_set hi,h']
 simp
 omega
theorem Jd7 (l:List Bool):NY l<=l.length:=List.count_le_length
structure Hf (t:Ab) (st:List Aa) (out0 out:List Bool) (g:Bool) (i m:Nat):Prop where
 len:out.length=st.length
 snd:∀ j:Nat,out[j]? = some true->G4 t st j
 acc:∀ (j:Nat) s,st[j]? = some s->A3 t s=true->out[j]? = some true
 same:g=false->out=out0
 less:g=true->NY out<NY out0
 cl:g=false->∀ i' k j,(i'<i\/(i'=i/\k<m))->Edge t st i' k j->out[j]? = some true->out[i']? = some true
theorem Hf.stop {t:Ab} {st:List Aa} {out0 out:List Bool} {g:Bool} {i m:Nat} (h:Hf t st out0 out g i m) (hm:t.Rules.length<=m\/out[i]? = some true):Hf t st out0 out g (i+1) 0:=by
 refine ⟨h.len,h.snd,h.acc,h.same,h.less,λ hg i' k j hi he hj=>?_⟩
 rcases Nat.lt_or_ge i' i with hlt|hge
 ·exact h.cl hg i' k j (.inl hlt) he hj
 ·have:i'=i:=by omega
  subst this
  rcases hm with hm|hm
  ·obtain ⟨s,s',_,hk,_⟩:=id he
   exact h.cl hg i' k j (.inr ⟨rfl,by omega⟩) he hj
  ·exact hm
theorem XF {t:Ab} (ht:DK t) {st:List Aa} (hF:DL t st) (hD:∀ i,UB t i st) {out0 out:List Bool} {g:Bool} {i:Nat} {s:Aa} (hi:st[i]? = some s) (h0:Hf t st out0 out g i 0) :
  Tot (λ n=>whl (λ (x:((List Bool)×Bool×Int))=>C7 n t st (i:Int) x.1 x.2.1 x.2.2) n (out,g,0)) (λ r=>Hf t st out0 r.1 r.2 (i+1) 0):=by
 have hr:=ht.1
 have hil:=Aj hi
 have hlen:=hF.len
 have last:∀ k (x:List Bool×Bool×Int),k<=t.Rules.length->x.2.2=(k:Int)->Hf t st out0 x.1 x.2.1 i k->(k=t.Rules.length\/x.1[i]? = some true)->Tot (λ n=>C7 n t st (i:Int) x.1 x.2.1 x.2.2) (Rd2 (λ _=>False) (λ r=>Hf t st out0 r.1 r.2 (i+1) 0)):=by
  rintro k ⟨l,g,k'⟩ hk e1 hP hx
  simp only at e1 hP hx
  subst e1
  have hll:i<l.length:=by rw [hP.len];exact hil
  unfold C7
  refine Tot.guard (R:=λ z=>l[i]? = some z) (λ _=>Tot.all (λ n=>CE hll) (JkC hll)) (λ z hz=>?_)
  refine Tot.iteF ?_ (Tot.pure (hP.stop (hx.imp (λ h=>by omega) id)))
  rcases hx with rfl|hx
  ·simp
  ·rw [← Bool.not_eq_true]
   simp only [JkD,decide_eq_true_eq,Bool.not_eq_true',not_and,Bool.not_eq_false]
   intro hlt
   have:=hz (by simpa using hlt)
   rw [hx] at this
   exact (Option.some.inj this).symm
 refine Tot.whl (body:=λ n x=>C7 n t st (i:Int) x.1 x.2.1 x.2.2) (λ c x=>∃ k,k<=t.Rules.length/\c=t.Rules.length-k/\x.2.2=(k:Int)/\Hf t st out0 x.1 x.2.1 i k) ?_ t.Rules.length _ ⟨0,by omega,by omega,rfl,h0⟩
 rintro c ⟨l,g,k'⟩ ⟨k,hk,rfl,e1,hP⟩
 simp only at e1 hP
 subst e1
 have fin:∀ hh:(k=t.Rules.length\/l[i]? = some true),Tot (λ n=>C7 n t st (i:Int) l g (k:Int)) (Rd2 (λ y:List Bool×Bool×Int=>∃ c',c'<t.Rules.length-k/\∃ k,k<=t.Rules.length/\c'=t.Rules.length-k/\y.2.2=(k:Int)/\Hf t st out0 y.1 y.2.1 i k) (λ r=>Hf t st out0 r.1 r.2 (i+1) 0)):=λ hh=>(last k (l,g,(k:Int)) hk rfl hP hh).mono λ z hz=>by
  cases z with
  | inl y=>exact hz.elim
  | inr r=>exact hz
 by_cases hx:k=t.Rules.length\/l[i]? = some true
 ·exact fin hx
 ·rw [not_or] at hx
  have hll:i<l.length:=by rw [hP.len];exact hil
  have hlf:l[i]? = some false:=by
   have:=JkC hll
   cases hb:l[i] with
   | true=>rw [hb] at this;exact absurd this hx.2
   | false=>rw [hb] at this;exact this
  have hkl:k<t.Rules.length:=by omega
  unfold C7
  have hc1:decide ((k:Int)<((t.Rules.length:Nat):Int))=true:=by simpa using hkl
  refine Tot.bindA (y:=false) (λ n=>by rw [if_pos hc1,Cb hlf]) (Tot.iteT (by rw [hc1];rfl) (Tot.bindC (Cb hi) (Tot.bindA (λ n=>E0 ht.short n s k) ?_)))
  have hJ:∀ l' g',Hf t st out0 l' g' i (k+1)->Tot (λ n=>FO n (k:Int) l' g') (Rd2 (λ y:List Bool×Bool×Int=>∃ c',c'<t.Rules.length-k/\∃ k,k<=t.Rules.length/\c'=t.Rules.length-k/\y.2.2=(k:Int)/\Hf t st out0 y.1 y.2.1 i k) (λ r=>Hf t st out0 r.1 r.2 (i+1) 0)):=by
   intro l' g' hP'
   unfold FO
   exact Tot.pure ⟨t.Rules.length-(k+1),by omega,k+1,by omega,rfl,BT (by omega),hP'⟩
  cases hs:(Ap t s (k:Nat)).2 with
  | false=>
   simp only
   refine Tot.bindC rfl (Tot.bindC rfl (Tot.iteF (by simp) (hJ l g ⟨hP.len,hP.snd,hP.acc,hP.same,hP.less,λ hg i' k' j hi' he hj=>?_⟩)))
   rcases hi' with hi'|⟨rfl,hi'⟩
   ·exact hP.cl hg i' k' j (.inl hi') he hj
   ·rcases Nat.lt_or_ge k' k with h|h
    ·exact hP.cl hg i' k' j (.inr ⟨rfl,h⟩) he hj
    ·have:k'=k:=by omega
     subst this
     obtain ⟨s1,s2,a1,a2,a3,a4⟩:=he
     rw [hi] at a1
     cases a1
     rw [a4] at hs
     cases hs
  | true=>
   have hmem:(Ap t s (k:Nat)).1∈st:=hD (i+1) i s (by omega) hi k hkl hs
   obtain ⟨j,hj1,hj2⟩:=BD hmem
   have hjl:j<l.length:=by rw [hP.len];exact Aj hj2
   have hE:Edge t st i k j:=⟨s,_,hi,hkl,hj2,Prod.ext rfl hs⟩
   simp only [if_true]
   have hix:=E1 (l:=st) (s:=(Ap t s (k:Nat)).1) (by omega)
   rw [hj1] at hix
   refine Tot.bindE hix (Tot.bindC (CE hjl) (Tot.ite (λ hc=>?_) (λ hc=>?_)))
   ·have hlj:l[j]? = some true:=by rw [JkC hjl];simpa using hc
    refine Tot.bindC (CE hll) (Tot.bindC (GA hll) (hJ _ _ ⟨by rw [JkU];exact hP.len,λ j' hj'=>?_,λ j' s' h1 h2=>?_,by simp,λ _=>?_,by simp⟩))
    ·by_cases e:i=j'
     ·subst e;exact .step i k j hE (hP.snd j hlj)
     ·rw [JkT e] at hj';exact hP.snd j' hj'
    ·by_cases e:i=j'
     ·subst e;rw [JkO hll]
     ·rw [JkT e];exact hP.acc j' s' h1 h2
    ·have:=R9 hlf
     cases hg:g with
     | true=>have:=hP.less hg;omega
     | false=>have:=hP.same hg;subst this;omega
   ·refine hJ l g ⟨hP.len,hP.snd,hP.acc,hP.same,hP.less,λ hg i' k' j' hi' he hj'=>?_⟩
    rcases hi' with hi'|⟨rfl,hi'⟩
    ·exact hP.cl hg i' k' j' (.inl hi') he hj'
    ·rcases Nat.lt_or_ge k' k with h|h
     ·exact hP.cl hg i' k' j' (.inr ⟨rfl,h⟩) he hj'
     ·have:k'=k:=by omega
      subst this
      obtain ⟨s1,s2,a1,a2,a3,a4⟩:=he
      rw [hi] at a1
      cases a1
      rw [a4] at hj2
      have:=IE hF.nodup a3 hj2
      subst this
      rw [JkC hjl] at hj'
      simp only [Bool.true_and] at hc
      rw [hc] at hj'
      cases hj'
theorem XG {t:Ab} (ht:DK t) {st:List Aa} (hF:DL t st) (hD:∀ i,UB t i st) {out0:List Bool} (h0:Hf t st out0 out0 false 0 0) :
  Tot (λ n=>whl (λ (x:((List Bool)×Bool×Int))=>EC n t st x.1 x.2.1 x.2.2) n (out0,false,0)) (λ r=>Hf t st out0 r.1 r.2 st.length 0):=by
 have hlen:=hF.len
 refine Tot.upto (body:=λ n x=>EC n t st x.1 x.2.1 x.2.2) st.length (λ i x=>x.2.2=(i:Int)/\Hf t st out0 x.1 x.2.1 i 0) ?_ ?_ _ ⟨rfl,h0⟩
 ·rintro i ⟨l,g,i'⟩ hi ⟨e,hP⟩
  simp only at e hP
  subst e
  unfold EC
  refine Tot.iteT (by simpa using hi) (Tot.bind (XF ht hF hD (JkC hi) hP) λ y hy=>Tot.pure ⟨BT (by omega),hy⟩)
 ·rintro ⟨l,g,i'⟩ ⟨e,hP⟩
  simp only at e hP
  subst e
  unfold EC
  exact Tot.iteF (by simp) (Tot.pure hP)
theorem Zz {t:Ab} (ht:DK t):Tot (λ n=>LF n t) (HX t (Ae t)):=by
 obtain ⟨hF,hD⟩:=BB ht
 have hS:=FC ht
 unfold LF
 refine Tot.bindE hS ?_
 generalize Ae t=st at *
 have hlen:=hF.len
 have l1:Tot (λ n=>whl (λ (x:((List Bool)×Int))=>EB n t st x.1 x.2) n (([]:List Bool),0)) (λ l=>l=st.map (A3 t)):=by
  refine Tot.upto (body:=λ n x=>EB n t st x.1 x.2) st.length (λ i x=>x.2=(i:Int)/\x.1=(st.take i).map (A3 t)) ?_ ?_ _ ⟨rfl,rfl⟩
  ·rintro i ⟨l,i'⟩ hi ⟨e1,e2⟩
   simp only at e1 e2
   subst e1 e2
   unfold EB
   refine Tot.iteT (by simpa using hi) (Tot.bindC (CE hi) (Tot.bindA (λ n=>G2 n t _) (Tot.bindC (D1 (by simp;omega)) (Tot.pure ⟨BT (by omega),?_⟩))))
   simp only
   rw [List.take_add_one,JkC hi,Option.toList_some,List.map_append];rfl
  ·rintro ⟨l,i'⟩ ⟨e1,e2⟩
   simp only at e1 e2
   subst e1 e2
   unfold EB
   exact Tot.iteF (by simp) (Tot.pure (by show _=_;rw [List.take_length]))
 refine Tot.bind l1 ?_
 rintro _ rfl
 refine Tot.bind (R:=HX t st) ?_ λ y hy=>Tot.pure hy
 let Good:=λ l:List Bool=>l.length=st.length/\(∀ j:Nat,l[j]? = some true->G4 t st j)/\(∀ (j:Nat) s,st[j]? = some s->A3 t s=true->l[j]? = some true)
 refine Tot.whl (body:=λ n x=>Hl n t st x.1 x.2) (λ c x=>Good x.1/\((x.2=true/\c=NY x.1+1)\/(x.2=false/\c=0/\HX t st x.1))) ?_ _ _ ⟨⟨by simp,λ j hj=>?_,λ j s h1 h2=>?_⟩,.inl ⟨rfl,rfl⟩⟩
 ·rintro c ⟨l,g⟩ ⟨⟨g1,g2,g3⟩,hg⟩
  simp only at g1 g2 g3 hg
  unfold Hl
  rcases hg with ⟨rfl,rfl⟩|⟨rfl,rfl,hA⟩
  ·refine Tot.iteT rfl (Tot.bind (XG ht hF hD ⟨g1,g2,g3,λ _=>rfl,by simp,λ _ i' k j hi=>by omega⟩) λ y hy=>Tot.pure ?_)
   obtain ⟨l',g'⟩:=y
   simp only at hy
   cases g' with
   | true=>exact ⟨NY l'+1,by have:=hy.less rfl;omega,⟨hy.len,hy.snd,hy.acc⟩,.inl ⟨rfl,rfl⟩⟩
   | false=>exact ⟨0,by omega,⟨hy.len,hy.snd,hy.acc⟩,.inr ⟨rfl,rfl,HX.of hy.len hy.snd hy.acc λ i k j he hj=>hy.cl rfl i k j (.inl (by obtain ⟨s,s',h,_⟩:=he;exact Aj h)) he hj⟩⟩
  ·exact Tot.iteF rfl (Tot.pure hA)
 ·rw [JkG] at hj
  cases hs:st[j]? with
  | none=>rw [hs] at hj;cases hj
  | some s=>rw [hs] at hj;exact .acc j s hs (Option.some.inj hj)
 ·rw [JkG,h1];simp [h2]
end Go.AI
end
section
namespace Go.AI
def Wp (t:Ab) (st:List Aa) (near:List Bool) (out:List Int) (D:Nat):Prop:=
 ∃ rk:Nat->Nat,∀ j:Nat,near[j]? = some true->rk j<=D/\((∃ s,st[j]? = some s/\A3 t s=true)\/∃ k j':Nat,out[j]? = some (k:Int)/\Edge t st j k j'/\near[j']? = some true/\rk j'<rk j)
structure HY (t:Ab) (st:List Aa) (near ring:List Bool) (out:List Int) (D:Nat) (g:Bool) (i m:Nat):Prop where
 len:ring.length=st.length
 oln:out.length=st.length
 sub:∀ j:Nat,near[j]? = some true->ring[j]? = some true
 new:∀ j:Nat,ring[j]? = some true->near[j]? = some true\/∃ k j':Nat,out[j]? = some (k:Int)/\Edge t st j k j'/\near[j']? = some true
 hom:Wp t st near out D
 same:g=false->ring=near
 less:g=true->NY ring<NY near
 cl:g=false->∀ i' k j,(i'<i\/(i'=i/\k<m))->Edge t st i' k j->near[j]? = some true->ring[i']? = some true
theorem HY.stop {t:Ab} {st:List Aa} {near ring:List Bool} {out:List Int} {D:Nat} {g:Bool} {i m:Nat} (h:HY t st near ring out D g i m) (hm:t.Rules.length<=m\/ring[i]? = some true):HY t st near ring out D g (i+1) 0:=by
 refine ⟨h.len,h.oln,h.sub,h.new,h.hom,h.same,h.less,λ hg i' k j hi he hj=>?_⟩
 rcases Nat.lt_or_ge i' i with hlt|hge
 ·exact h.cl hg i' k j (.inl hlt) he hj
 ·have:i'=i:=by omega
  subst this
  rcases hm with hm|hm
  ·obtain ⟨s,s',_,hk,_⟩:=id he
   exact h.cl hg i' k j (.inr ⟨rfl,by omega⟩) he hj
  ·exact hm
theorem Jct {t:Ab} (ht:DK t) {st:List Aa} (hF:DL t st) (hD:∀ i,UB t i st) {near ring:List Bool} (hnl:near.length=st.length) {out:List Int} {D:Nat} {g:Bool} {i:Nat} {s:Aa} (hi:st[i]? = some s) (h0:HY t st near ring out D g i 0) :
  Tot (λ n=>whl (λ (x:((List Int)×(List Bool)×Bool×Int))=>Fx n t st near (i:Int) x.1 x.2.1 x.2.2.1 x.2.2.2) n (out,ring,g,0)) (λ r=>HY t st near r.2.1 r.1 D r.2.2 (i+1) 0):=by
 have hr:=ht.1
 have hil:=Aj hi
 have hlen:=hF.len
 refine Tot.whl (body:=λ n x=>Fx n t st near (i:Int) x.1 x.2.1 x.2.2.1 x.2.2.2) (λ c x=>∃ k,k<=t.Rules.length/\c=t.Rules.length-k/\x.2.2.2=(k:Int)/\HY t st near x.2.1 x.1 D x.2.2.1 i k) ?_ t.Rules.length _ ⟨0,by omega,by omega,rfl,h0⟩
 rintro c ⟨o,l,g,k'⟩ ⟨k,hk,rfl,e1,hP⟩
 simp only at e1 hP
 subst e1
 have hll:i<l.length:=by rw [hP.len];exact hil
 have hol:i<o.length:=by rw [hP.oln];exact hil
 by_cases hx:k=t.Rules.length\/l[i]? = some true
 ·unfold Fx
  refine Tot.guard (R:=λ z=>l[i]? = some z) (λ _=>Tot.all (λ n=>CE hll) (JkC hll)) (λ z hz=>?_)
  refine Tot.iteF ?_ (Tot.pure (hP.stop (hx.imp (λ h=>by omega) id)))
  rcases hx with rfl|hx
  ·simp
  ·rw [← Bool.not_eq_true]
   simp only [JkD,decide_eq_true_eq,Bool.not_eq_true',not_and,Bool.not_eq_false]
   intro hlt
   have:=hz (by simpa using hlt)
   rw [hx] at this
   exact (Option.some.inj this).symm
 ·rw [not_or] at hx
  have hlf:l[i]? = some false:=by
   have:=JkC hll
   cases hb:l[i] with
   | true=>rw [hb] at this;exact absurd this hx.2
   | false=>rw [hb] at this;exact this
  have hnf:near[i]? ≠ some true:=λ h=>hx.2 (hP.sub i h)
  have hkl:k<t.Rules.length:=by omega
  unfold Fx
  have hc1:decide ((k:Int)<((t.Rules.length:Nat):Int))=true:=by simpa using hkl
  refine Tot.bindA (y:=false) (λ n=>by rw [if_pos hc1,Cb hlf]) (Tot.iteT (by rw [hc1];rfl) (Tot.bindC (Cb hi) (Tot.bindA (λ n=>E0 ht.short n s k) ?_)))
  have hJ:∀ o' l' g',HY t st near l' o' D g' i (k+1)->Tot (λ n=>GT n (k:Int) o' l' g') (Rd2 (λ y:List Int×List Bool×Bool×Int=>∃ c',c'<t.Rules.length-k/\∃ k,k<=t.Rules.length/\c'=t.Rules.length-k/\y.2.2.2=(k:Int)/\HY t st near y.2.1 y.1 D y.2.2.1 i k) (λ r=>HY t st near r.2.1 r.1 D r.2.2 (i+1) 0)):=by
   intro o' l' g' hP'
   unfold GT
   exact Tot.pure ⟨t.Rules.length-(k+1),by omega,k+1,by omega,rfl,BT (by omega),hP'⟩
  have keep:(g=false->∀ j,Edge t st i k j->near[j]? = some true->l[i]? = some true)->HY t st near l o D g i (k+1):=λ hh=>⟨hP.len,hP.oln,hP.sub,hP.new,hP.hom,hP.same,hP.less,λ hg i' k' j hi' he hj=>by
   rcases hi' with hi'|⟨rfl,hi'⟩
   ·exact hP.cl hg i' k' j (.inl hi') he hj
   ·rcases Nat.lt_or_ge k' k with h|h
    ·exact hP.cl hg i' k' j (.inr ⟨rfl,h⟩) he hj
    ·have:k'=k:=by omega
     subst this
     exact hh hg j he hj⟩
  cases hs:(Ap t s (k:Nat)).2 with
  | false=>
   simp only
   refine Tot.bindC rfl (Tot.bindC rfl (Tot.iteF (by simp) (hJ o l g (keep λ hg j he hj=>?_))))
   obtain ⟨s1,s2,a1,a2,a3,a4⟩:=he
   rw [hi] at a1
   cases a1
   rw [a4] at hs
   cases hs
  | true=>
   have hmem:(Ap t s (k:Nat)).1∈st:=hD (i+1) i s (by omega) hi k hkl hs
   obtain ⟨j,hj1,hj2⟩:=BD hmem
   have hjl:j<near.length:=by rw [hnl];exact Aj hj2
   have hE:Edge t st i k j:=⟨s,_,hi,hkl,hj2,Prod.ext rfl hs⟩
   simp only [if_true]
   have hix:=E1 (l:=st) (s:=(Ap t s (k:Nat)).1) (by omega)
   rw [hj1] at hix
   refine Tot.bindE hix (Tot.bindC (CE hjl) (Tot.ite (λ hc=>?_) (λ hc=>?_)))
   ·have hlj:near[j]? = some true:=by rw [JkC hjl];simpa using hc
    refine Tot.bindC (CE hll) (Tot.bindC (GA hll) (Tot.bindC (CE hol) (Tot.bindC (GA hol) (hJ _ _ _ ⟨by rw [JkU];exact hP.len,by rw [JkU];exact hP.oln,λ j' hj'=>?_,λ j' hj'=>?_,?_,by simp,λ _=>?_,by simp⟩))))
    ·by_cases e:i=j'
     ·subst e;rw [JkO hll]
     ·rw [JkT e];exact hP.sub j' hj'
    ·by_cases e:i=j'
     ·subst e;rw [JkO hol];exact .inr ⟨k,j,rfl,hE,hlj⟩
     ·rw [JkT e] at hj' ⊢;exact hP.new j' hj'
    ·obtain ⟨rk,hrk⟩:=hP.hom
     refine ⟨rk,λ j' hj'=>?_⟩
     have e:i≠j':=λ e=>hnf (e▸hj')
     rw [JkT e]
     exact hrk j' hj'
    ·have:=R9 hlf
     cases hg:g with
     | true=>have:=hP.less hg;omega
     | false=>have:=hP.same hg;subst this;omega
   ·refine hJ o l g (keep λ hg j' he hj'=>?_)
    obtain ⟨s1,s2,a1,a2,a3,a4⟩:=he
    rw [hi] at a1
    cases a1
    rw [a4] at hj2
    have:=IE hF.nodup a3 hj2
    subst this
    rw [JkC hjl] at hj'
    simp only [Bool.true_and] at hc
    rw [hc] at hj'
    cases hj'
theorem Jcu {t:Ab} (ht:DK t) {st:List Aa} (hF:DL t st) (hD:∀ i,UB t i st) {near:List Bool} (hnl:near.length=st.length) {out:List Int} {D:Nat} (h0:HY t st near near out D false 0 0) :
  Tot (λ n=>whl (λ (x:((List Int)×(List Bool)×Bool×Int))=>Fy n t st near x.1 x.2.1 x.2.2.1 x.2.2.2) n (out,near,false,0)) (λ r=>HY t st near r.2.1 r.1 D r.2.2 st.length 0):=by
 have hlen:=hF.len
 refine Tot.upto (body:=λ n x=>Fy n t st near x.1 x.2.1 x.2.2.1 x.2.2.2) st.length (λ i x=>x.2.2.2=(i:Int)/\HY t st near x.2.1 x.1 D x.2.2.1 i 0) ?_ ?_ _ ⟨rfl,h0⟩
 ·rintro i ⟨o,l,g,i'⟩ hi ⟨e,hP⟩
  simp only at e hP
  subst e
  unfold Fy
  refine Tot.iteT (by simpa using hi) (Tot.bind (Jct ht hF hD hnl (JkC hi) hP) λ y hy=>Tot.pure ⟨BT (by omega),hy⟩)
 ·rintro ⟨o,l,g,i'⟩ ⟨e,hP⟩
  simp only at e hP
  subst e
  unfold Fy
  exact Tot.iteF (by simp) (Tot.pure hP)
def UI (t:Ab) (st:List Aa) (out:List Int):Prop:=
 ∃ rk:Nat->Nat,∀ j:Nat,G4 t st j->rk j<=768/\((∃ s,st[j]? = some s/\A3 t s=true)\/∃ k j':Nat,out[j]? = some (k:Int)/\Edge t st j k j'/\G4 t st j'/\rk j'<rk j)
theorem Wp.live {t:Ab} {st:List Aa} {near:List Bool} {out:List Int} {D:Nat} (h:Wp t st near out D):∀ j,near[j]? = some true->G4 t st j:=by
 obtain ⟨rk,h⟩:=h
 have:∀ d j,rk j<d->near[j]? = some true->G4 t st j:=by
  intro d
  induction d with
  | zero=>intro j hj;omega
  | succ d ih=>
   intro j hj hn
   obtain ⟨_,⟨s,h1,h2⟩|⟨k,j',_,he,hj',hlt⟩⟩:=h j hn
   ·exact .acc j s h1 h2
   ·exact .step j k j' he (ih j' (by omega) hj')
 intro j
 exact this (rk j+1) j (by omega)
theorem HY.ring {t:Ab} {st:List Aa} {near ring:List Bool} {out:List Int} {D:Nat} {g:Bool} {i m:Nat} (h:HY t st near ring out D g i m):Wp t st ring out (D+1):=by
 obtain ⟨rk,hrk⟩:=h.hom
 refine ⟨λ j=>if near[j]? = some true then rk j else D+1,λ j hj=>?_⟩
 by_cases hn:near[j]? = some true
 ·simp only [hn,if_true]
  obtain ⟨h1,h2⟩:=hrk j hn
  refine ⟨by omega,h2.imp id ?_⟩
  rintro ⟨k,j',a,b,c,d⟩
  exact ⟨k,j',a,b,h.sub j' c,by rw [if_pos c];exact d⟩
 ·simp only [if_neg hn]
  refine ⟨by omega,?_⟩
  rcases h.new j hj with hh|⟨k,j',a,b,c⟩
  ·exact absurd hh hn
  ·exact .inr ⟨k,j',a,b,h.sub j' c,by rw [if_pos c];have:=(hrk j' c).1;omega⟩
theorem Jd8 {t:Ab} (ht:DK t):Tot (λ n=>No n t) (UI t (Ae t)):=by
 obtain ⟨hF,hD⟩:=BB ht
 have hS:=FC ht
 unfold No
 refine Tot.bindE hS ?_
 generalize Ae t=st at *
 have hlen:=hF.len
 have l1:Tot (λ n=>whl (λ (x:((List Int)×(List Bool)×Int))=>Fw n t st x.1 x.2.1 x.2.2) n (([]:List Int),([]:List Bool),0)) (λ r=>r.1.length=st.length/\r.2=st.map (A3 t)):=by
  refine Tot.upto (body:=λ n x=>Fw n t st x.1 x.2.1 x.2.2) st.length (λ i x=>x.2.2=(i:Int)/\x.1.length=i/\x.2.1=(st.take i).map (A3 t)) ?_ ?_ _ ⟨rfl,rfl,rfl⟩
  ·rintro i ⟨o,l,i'⟩ hi ⟨e1,e3,e2⟩
   simp only at e1 e2 e3
   subst e1 e2
   unfold Fw
   refine Tot.iteT (by simpa using hi) (Tot.bindC (D1 (by simp;omega)) (Tot.bindC (CE hi) (Tot.bindA (λ n=>G2 n t _) (Tot.bindC (D1 (by simp;omega)) (Tot.pure ⟨BT (by omega),by simp [e3],?_⟩)))))
   simp only
   rw [List.take_add_one,JkC hi,Option.toList_some,List.map_append];rfl
  ·rintro ⟨o,l,i'⟩ ⟨e1,e3,e2⟩
   simp only at e1 e2 e3
   subst e1 e2
   unfold Fw
   exact Tot.iteF (by simp) (Tot.pure ⟨e3,by simp only;rw [List.take_length]⟩)
 refine Tot.bind l1 ?_
 rintro ⟨o,l⟩ ⟨ho,hl⟩
 simp only at ho hl
 refine Tot.bind (R:=UI t st) ?_ λ y hy=>Tot.pure hy
 let Acc:=λ l:List Bool=>∀ (j:Nat) s,st[j]? = some s->A3 t s=true->l[j]? = some true
 refine Tot.whl (body:=λ n x=>Ik n t st x.1 x.2.1 x.2.2) (λ c x=>x.1.length=st.length/\x.2.1.length=st.length/\Acc x.2.1/\∃ D,D+NY x.2.1<=st.length/\Wp t st x.2.1 x.1 D/\((x.2.2=true/\c=NY x.2.1+1)\/(x.2.2=false/\c=0/\UI t st x.1))) ?_ _ _ ⟨ho,by simp [hl],λ j s h1 h2=>?_,0,?_,⟨λ _=>0,λ j hj=>⟨Nat.le_refl _,?_⟩⟩,.inl ⟨rfl,rfl⟩⟩
 ·rintro c ⟨o,l,g⟩ ⟨g1,g2,g3,D,g4,g5,hg⟩
  simp only at g1 g2 g3 g4 g5 hg
  unfold Ik
  rcases hg with ⟨rfl,rfl⟩|⟨rfl,rfl,hA⟩
  ·refine Tot.iteT rfl (Tot.bindC (D1 (by simp;omega)) ?_)
   simp only [List.nil_append]
   refine Tot.bind (Jcu ht hF hD g2 ⟨g2,g1,λ _ h=>h,λ _ h=>.inl h,g5,λ _=>rfl,by simp,λ _ i' k j hi=>by omega⟩) λ y hy=>Tot.pure ?_
   obtain ⟨o',l',g'⟩:=y
   simp only at hy
   have hacc:Acc l':=λ j s h1 h2=>hy.sub j (g3 j s h1 h2)
   cases g' with
   | true=>
    have:=hy.less rfl
    exact ⟨NY l'+1,by omega,hy.oln,hy.len,hacc,D+1,by simp only;omega,hy.ring,.inl ⟨rfl,rfl⟩⟩
   | false=>
    have e:=hy.same rfl
    refine ⟨0,by omega,hy.oln,hy.len,hacc,D,by simp only [e];exact g4,by simp only [e];exact hy.hom,.inr ⟨rfl,rfl,?_⟩⟩
    have hL:∀ j,G4 t st j->l[j]? = some true:=by
     intro j hj
     induction hj with
     | acc i s h h'=>exact g3 i s h h'
     | step i k j h _ ih=>
      rw [← e]
      exact hy.cl rfl i k j (.inl (by obtain ⟨s,s',h,_⟩:=h;exact Aj h)) h ih
    have hlv:=hy.hom.live
    obtain ⟨rk,hrk⟩:=hy.hom
    refine ⟨rk,λ j hj=>?_⟩
    obtain ⟨h1,h2⟩:=hrk j (hL j hj)
    refine ⟨by omega,h2.imp id ?_⟩
    rintro ⟨k,j',a,b,c,d⟩
    exact ⟨k,j',a,b,hlv j' c,d⟩
  ·exact Tot.iteF rfl (Tot.pure hA)
 ·simp only [hl];rw [JkG,h1];simp [h2]
 ·simp only
  have:=Jd7 l
  have:l.length=st.length:=by rw [hl];simp
  omega
 ·simp only [hl] at hj
  rw [JkG] at hj
  cases hs:st[j]? with
  | none=>rw [hs] at hj;cases hj
  | some s=>rw [hs] at hj;exact .inl ⟨s,rfl,Option.some.inj hj⟩
end Go.AI
end
section
namespace Go.AI
def FX (t:Ab) (s:Aa):List Int->Aa->Prop
 | [],s'=>s=s'
 | k::p,s'=>(Ap t s k).2=true/\FX t (Ap t s k).1 p s'
theorem FX.snoc {t:Ab}:∀ {p:List Int} {s s':Aa} {k:Int},FX t s p s'->(Ap t s' k).2=true->FX t s (p++[k]) (Ap t s' k).1
 | [],s,s',k,h,h'=>by
  unfold FX at h
  subst h
  exact ⟨h',rfl⟩
 | a::p,s,s',k,h,h'=>⟨h.1,FX.snoc h.2 h'⟩
theorem FX.mem {t:Ab}:∀ {p:List Int} {s s':Aa},FX t s p s'->∀ k∈p,0<=k/\k<t.Rules.length
 | [],_,_,_,k,hk=>by cases hk
 | a::p,s,s',h,k,hk=>by
  rcases List.mem_cons.1 hk with rfl|hk
  ·exact Cc h.1
  ·exact FX.mem h.2 k hk
def UJ (t:Ab) (p:List Int):Prop:=p.length<=1000/\∃ s,FX t As p s/\A3 t s=true
def Jiq (t:Ab) (r:List Int×Bool):Prop:=(r.2=true↔G4 t (Ae t) 0)/\(r.2=true->UJ t r.1)/\(r.2=false->r.1=[])
theorem Jcv {t:Ab} (ht:DK t) {st:List Aa} (hF:DL t st) (hD:∀ i,UB t i st) {al:List Bool} (hal:HX t st al) {j:Nat} {s:Aa} (hj:st[j]? = some s) (p1:List Int) (way path:List Int) (size i:Int) :
  Tot (λ n=>whl (λ (x:((List Int)×Int))=>Fz n t p1 st al way path s size i x.1 x.2) n (([]:List Int),0)) (λ l=>l.length<=11/\∀ k∈l,∃ k' j':Nat,k=(k':Int)/\Edge t st j k' j'/\G4 t st j'):=by
 have hr:=ht.1
 have hlen:=hF.len
 refine Tot.upto (body:=λ n x=>Fz n t p1 st al way path s size i x.1 x.2) t.Rules.length (λ m x=>x.2=(m:Int)/\x.1.length<=m/\∀ k∈x.1,∃ k' j':Nat,k=(k':Int)/\Edge t st j k' j'/\G4 t st j') ?_ ?_ _ ⟨rfl,by simp,by simp⟩
 ·rintro m ⟨l,m'⟩ hm ⟨e,h1,h2⟩
  simp only at e h1 h2
  subst e
  have hJ:∀ l',(l'.length<=m+1/\∀ k∈l',∃ k' j':Nat,k=(k':Int)/\Edge t st j k' j'/\G4 t st j')->Tot (λ n=>GU n (m:Int) l') (Rd2 (λ x:List Int×Int=>x.2=((m+1:Nat):Int)/\x.1.length<=m+1/\∀ k∈x.1,∃ k' j':Nat,k=(k':Int)/\Edge t st j k' j'/\G4 t st j') (λ l=>l.length<=11/\∀ k∈l,∃ k' j':Nat,k=(k':Int)/\Edge t st j k' j'/\G4 t st j')):=by
   intro l' h
   unfold GU
   exact Tot.pure ⟨BT (by omega),h⟩
  unfold Fz
  refine Tot.iteT (by simpa using hm) (Tot.bindA (λ n=>E0 ht.short n s m) ?_)
  cases hs:(Ap t s (m:Nat)).2 with
  | false=>
   simp only
   exact Tot.bindC rfl (Tot.bindC rfl (Tot.iteF (by simp) (hJ l ⟨by omega,h2⟩)))
  | true=>
   have hmem:(Ap t s (m:Nat)).1∈st:=hD (j+1) j s (by omega) hj m hm hs
   obtain ⟨j',hj1,hj2⟩:=BD hmem
   have hjl:j'<al.length:=by rw [hal.1];exact Aj hj2
   have hE:Edge t st j m j':=⟨s,_,hj,hm,hj2,Prod.ext rfl hs⟩
   simp only [if_true]
   have hix:=E1 (l:=st) (s:=(Ap t s (m:Nat)).1) (by omega)
   rw [hj1] at hix
   refine Tot.bindE hix (Tot.bindC (CE hjl) (Tot.ite (λ hc=>?_) (λ hc=>hJ l ⟨by omega,h2⟩)))
   have hlj:al[j']? = some true:=by rw [JkC hjl];simpa using hc
   refine Tot.bindC (D1 (by simp;omega)) (hJ _ ⟨by simp;omega,λ k hk=>?_⟩)
   rcases List.mem_append.1 hk with hk|hk
   ·exact h2 k hk
   ·simp at hk
    exact ⟨m,j',hk,hE,(hal.2 j').1 hlj⟩
 ·rintro ⟨l,m'⟩ ⟨e,h1,h2⟩
  simp only at e h1 h2
  subst e
  unfold Fz
  exact Tot.iteF (by simp) (Tot.pure ⟨by simp only;omega,h2⟩)
theorem Jcw {t:Ab} (ht:DK t) {st:List Aa} (hF:DL t st) (hD:∀ i,UB t i st) {al:List Bool} (hal:HX t st al) (hl0:G4 t st 0) (p1:List Int) (hp1:∀ a∈p1,U8 a) (way:List Int) :
  Tot (λ n=>whl (λ (x:((List Int)×Aa×Int×Int))=>GV n t p1 st al way x.1 x.2.1 x.2.2.1 x.2.2.2) n (([]:List Int),As,0,0)) (λ r=>r.1.length<=10/\FX t As r.1 r.2/\∃ j:Nat,st[j]? = some r.2/\G4 t st j):=by
 have hr:=ht.1
 have hlen:=hF.len
 refine Tot.whl (body:=λ n x=>GV n t p1 st al way x.1 x.2.1 x.2.2.1 x.2.2.2) (λ c x=>∃ i:Nat,i<=10/\c=10-i/\x.2.2.2=(i:Int)/\x.1.length<=i/\FX t As x.1 x.2.1/\∃ j:Nat,st[j]? = some x.2.1/\G4 t st j) ?_ 10 _ ⟨0,by omega,by omega,rfl,by simp,rfl,0,hF.first,hl0⟩
 rintro c ⟨path,s,size,i'⟩ ⟨i,hi,rfl,e,h1,h2,j,hj,hL⟩
 simp only at e h1 h2 hj
 subst e
 unfold GV
 refine Tot.ite (λ hc=>?_) (λ hc=>Tot.pure ⟨by simp only;omega,h2,j,hj,hL⟩)
 simp only [JkD,decide_eq_true_eq] at hc
 refine Tot.bind (Jcv ht hF hD hal hj p1 way path size i) ?_
 rintro fit ⟨hf1,hf2⟩
 refine Tot.ite (λ hc0=>Tot.pure ⟨by simp only;omega,h2,j,hj,hL⟩) (λ hc0=>?_)
 have hfl:0<fit.length:=by
  rcases Nat.eq_zero_or_pos fit.length with h|h
  ·rw [h] at hc0;cases hc0
  ·exact h
 have hil:i<p1.length:=by omega
 have hu:=hp1 _ (List.getElem_mem hil)
 unfold U8 at hu
 have hw:IntKind.i64.wrap p1[i]=p1[i]:=OU (by omega) (by omega)
 have hrm:=El (a:=p1[i]) (m:=(fit.length:Int)) hu.1 (by omega)
 refine Tot.bindC (CE hil) (Tot.bindC (y:=()) (by rw [hc0];rfl) ?_)
 simp only [hw]
 obtain ⟨k,hk,hki⟩:=MP hrm.1 hrm.2
 refine Tot.bindC hki ?_
 obtain ⟨k',j',rfl,hE,hL'⟩:=hf2 k hk
 obtain ⟨s1,s2,a1,a2,a3,a4⟩:=hE
 rw [hj] at a1
 cases a1
 have hst:(Ap t s (k':Nat)).2=true:=by rw [a4]
 refine Tot.bindC (D1 (by simp;omega)) (Tot.bindC (CE a2) (Tot.bindA (λ n=>E0 ht.short n s k') (Tot.pure ⟨10-(i+1),by omega,i+1,by omega,rfl,BT (by omega),by simp only [List.length_append,List.length_singleton];omega,h2.snoc hst,j',?_,hL'⟩)))
 rw [a3,a4]
theorem Jcx {t:Ab} (ht:DK t) {st:List Aa} (hF:DL t st) {way:List Int} (hw:UI t st way) {p0:List Int} {s0:Aa} (hp0:p0.length<=10) (hg:FX t As p0 s0) {j0:Nat} (hj0:st[j0]? = some s0) (hL0:G4 t st j0) :
  Tot (λ n=>whl (λ (x:((List Int)×Aa))=>GW n t st way x.1 x.2) n (p0,s0)) (UJ t):=by
 have hlen:=hF.len
 obtain ⟨rk,hrk⟩:=hw
 refine Tot.whl (body:=λ n x=>GW n t st way x.1 x.2) (λ c x=>∃ j:Nat,c=rk j/\x.1.length+rk j<=778/\FX t As x.1 x.2/\st[j]? = some x.2/\G4 t st j) ?_ _ _ ⟨j0,rfl,by have:=(hrk j0 hL0).1;simp only;omega,hg,hj0,hL0⟩
 rintro c ⟨p,s⟩ ⟨j,rfl,h1,h2,h3,h4⟩
 simp only at h1 h2 h3
 unfold GW
 refine Tot.bindA (λ n=>G2 n t s) (Tot.ite (λ hc=>?_) (λ hc=>Tot.pure ⟨by simp only;omega,s,h2,by simpa using hc⟩))
 have hna:A3 t s=false:=by simpa using hc
 obtain ⟨hb,⟨s',e1,e2⟩|⟨k,j',e1,hE,e3,e4⟩⟩:=hrk j h4
 ·rw [h3] at e1
  cases e1
  rw [hna] at e2
  cases e2
 ·have hix:=E1 (l:=st) (s:=s) (by omega)
  rw [Kf hF.nodup h3] at hix
  obtain ⟨s1,s2,a1,a2,a3,a4⟩:=hE
  rw [h3] at a1
  cases a1
  have hst:(Ap t s (k:Nat)).2=true:=by rw [a4]
  refine Tot.bindE hix (Tot.bindC (Cb e1) (Tot.bindC (D1 (by simp;omega)) (Tot.bindA (λ n=>E0 ht.short n s k) (Tot.pure ⟨rk j',e4,j',rfl,by simp only [List.length_append,List.length_singleton];omega,h2.snoc hst,?_,e3⟩))))
  rw [a3,a4]
theorem Jd9 {t:Ab} (ht:DK t) {l:List Int} (hl:∀ a∈l,U8 a):Tot (λ n=>Np n t l) (Jiq t):=by
 obtain ⟨hF,hD⟩:=BB ht
 unfold Np
 refine Tot.bindE (FC ht) (Tot.bind (Zz ht) λ al hal=>Tot.bind (Jd8 ht) λ way hw=>?_)
 have h0:0<al.length:=by rw [hal.1];exact Aj hF.first
 have hi0:idx al 0=some al[0]:=CE (i:=0) h0
 refine Tot.bindC hi0 (Tot.ite (λ hc=>Tot.pure ⟨⟨λ h=>(by cases h),λ h=>?_⟩,λ h=>(by cases h),λ _=>rfl⟩) (λ hc=>?_))
 ·have:=(hal.2 0).2 h
  rw [JkC h0] at this
  rw [Option.some.inj this] at hc
  cases hc
 ·have hL:G4 t (Ae t) 0:=(hal.2 0).1 (by rw [JkC h0];simpa using hc)
  refine Tot.bindA (y:=As) (λ n=>rfl) (Tot.bind (Jcw ht hF hD hal hL l hl way) ?_)
  rintro ⟨p,s⟩ ⟨h1,h2,j,h3,h4⟩
  exact Tot.bind (Jcx ht hF hw h1 h2 h3 h4) λ p hp=>Tot.pure ⟨⟨λ _=>hL,λ _=>rfl⟩,λ _=>hp,λ h=>by cases h⟩
def A6 (t:Ab) (p:List Int):List UInt8:=p.flatMap λ k=>(BC t k).Print
def cellsOf (t:Ab) (p:List Int):List Int:=p.flatMap λ k=>(BC t k).Cells
theorem Tk {t:Ab}:∀ {p:List Int} {s s':Aa} (tx:List UInt8) (cs:List Int) (a:Nat),FX t s p s'->KI t p tx cs a s=⟨tx++A6 t p,cs++cellsOf t p,(a+p.length:Nat),s',A3 t s'⟩
 | [],s,s',tx,cs,a,h=>by
  unfold FX at h
  subst h
  simp [KI,A6,cellsOf]
 | k::p,s,s',tx,cs,a,h=>by
  unfold KI
  rw [if_pos h.1,Tk _ _ _ h.2]
  simp only [A6,cellsOf,List.flatMap_cons,List.append_assoc,List.length_cons]
  congr 1
  omega
theorem UJ.run {t:Ab} {p:List Int} (h:UJ t p):∃ s,FX t As p s/\A3 t s=true/\KI t p [] [] 0 As=⟨A6 t p,cellsOf t p,(p.length:Nat),s,true⟩:=by
 obtain ⟨_,s,h1,h2⟩:=h
 refine ⟨s,h1,h2,?_⟩
 rw [Tk [] [] 0 h1,h2]
 simp
end Go.AI
end
section
namespace Go.AI
theorem Jcy {t:Ab} (ht:Em t) {p:List Int} (h:∀ k∈p,0<=k/\k<t.Rules.length):(A6 t p).length<=4*p.length/\(cellsOf t p).length<=4*p.length:=by
 induction p with
 | nil=>simp [A6,cellsOf]
 | cons k p ih=>
  obtain ⟨i1,i2⟩:=ih λ k hk=>h k (List.mem_cons_of_mem _ hk)
  have hk:=h k List.mem_cons_self
  have:=ht.print (Eo hk.1 hk.2)
  have e1:A6 t (k::p)=(BC t k).Print++A6 t p:=by simp [A6]
  have e2:cellsOf t (k::p)=(BC t k).Cells++cellsOf t p:=by simp [cellsOf]
  rw [e1,e2]
  simp only [List.length_append,List.length_cons]
  omega
end Go.AI
end
section
namespace Go.AI
def Way (t:Ab) (q:Aa) (x:List UInt8) (p:List Int):Prop:=(∃ q',FX t q p q'/\A3 t q'=true)/\A6 t p=x
def Cd (t:Ab) (p:List Int):Nat:=(cellsOf t p).length
def Lq (t:Ab) (q:Aa) (x:List UInt8) (v:Int):Prop:=(v=-1/\∀ p,¬Way t q x p)\/∃ p,Way t q x p/\v=(Cd t p:Nat)/\∀ p',Way t q x p'->Cd t p<=Cd t p'
theorem Yo (t:Ab) (q:Aa) (x:List UInt8):∃ v,Lq t q x v:=by
 by_cases h:∃ p,Way t q x p
 ·obtain ⟨p,hp⟩:=h
  have key:∀ (n:Nat) (p:List Int),Cd t p=n->Way t q x p->∃ v,Lq t q x v:=by
   intro n
   induction n using Nat.strongRecOn with
   | _ n ih=>
    intro p hn hp
    by_cases hm:∃ p',Way t q x p'/\Cd t p'<n
    ·obtain ⟨p',h1,h2⟩:=hm
     exact ih _ h2 p' rfl h1
    ·exact ⟨(Cd t p:Nat),.inr ⟨p,hp,rfl,λ p' hp'=>Nat.le_of_not_lt λ hlt=>hm ⟨p',hp',by omega⟩⟩⟩
  exact key _ p rfl hp
 ·exact ⟨-1,.inl ⟨rfl,λ p hp=>h ⟨p,hp⟩⟩⟩
theorem Lq.uniq {t:Ab} {q:Aa} {x:List UInt8} {v w:Int} (h:Lq t q x v) (h':Lq t q x w):v=w:=by
 rcases h with ⟨h1,h2⟩|⟨p,h1,h2,h3⟩
 ·rcases h' with ⟨g1,g2⟩|⟨p',g1,g2,g3⟩
  ·omega
  ·exact absurd g1 (h2 p')
 ·rcases h' with ⟨g1,g2⟩|⟨p',g1,g2,g3⟩
  ·exact absurd h1 (g2 p)
  ·have:=h3 p' g1
   have:=g3 p h1
   omega
noncomputable def Aw (t:Ab) (q:Aa) (x:List UInt8):Int:=Classical.choose (Yo t q x)
theorem NZ (t:Ab) (q:Aa) (x:List UInt8):Lq t q x (Aw t q x):=Classical.choose_spec (Yo t q x)
theorem Jcz {t:Ab} {q:Aa} {x:List UInt8} {v:Int} (h:Lq t q x v):Aw t q x=v:=(NZ t q x).uniq h
theorem Sa {t:Ab} {q:Aa} {x:List UInt8} {p:List Int} (h:Way t q x p):0<=Aw t q x/\Aw t q x<=(Cd t p:Nat):=by
 rcases NZ t q x with ⟨h1,h2⟩|⟨p',h1,h2,h3⟩
 ·exact absurd h (h2 p)
 ·have:=h3 p h
  omega
theorem Jo {t:Ab} {q:Aa} {x:List UInt8} (h:0<=Aw t q x):∃ p,Way t q x p/\Aw t q x=(Cd t p:Nat):=by
 rcases NZ t q x with ⟨h1,h2⟩|⟨p',h1,h2,h3⟩
 ·omega
 ·exact ⟨p',h1,h2⟩
theorem Sb (t:Ab) (q:Aa) (x:List UInt8):-1<=Aw t q x:=by
 rcases NZ t q x with h1|⟨p',h1,h2,h3⟩<;>omega
abbrev prt (t:Ab) (k:Int):List UInt8:=(BC t k).Print
abbrev cls (t:Ab) (k:Int):List Int:=(BC t k).Cells
theorem FD (t:Ab) (k:Int) (p:List Int):A6 t (k::p)=prt t k++A6 t p:=by simp [A6]
theorem Dm (t:Ab) (k:Int) (p:List Int):Cd t (k::p)=(cls t k).length+Cd t p:=by simp [Cd,cellsOf]
theorem Way.cons {t:Ab} {q:Aa} {x:List UInt8} {p:List Int} {k:Int} (hk:(Ap t q k).2=true) (h:Way t (Ap t q k).1 x p):Way t q (prt t k++x) (k::p):=by
 obtain ⟨⟨q',h1,h2⟩,h3⟩:=h
 exact ⟨⟨q',⟨hk,h1⟩,h2⟩,by rw [FD,h3]⟩
theorem Way.uncons {t:Ab} {q:Aa} {x:List UInt8} {p:List Int} {k:Int} (h:Way t q x (k::p)):(Ap t q k).2=true/\∃ y,x=prt t k++y/\Way t (Ap t q k).1 y p:=by
 obtain ⟨⟨q',h1,h2⟩,h3⟩:=h
 exact ⟨h1.1,A6 t p,by rw [← h3,FD],⟨q',h1.2,h2⟩,rfl⟩
theorem Way.nil {t:Ab} {q:Aa} {x:List UInt8} (h:Way t q x []):x=[]/\A3 t q=true:=by
 obtain ⟨⟨q',h1,h2⟩,h3⟩:=h
 unfold FX at h1
 subst h1
 exact ⟨h3.symm,h2⟩
noncomputable def BN (t:Ab) (q:Aa) (x:List UInt8) (k:Int):Int:=
 if (Ap t q k).2=true/\prt t k <+: x/\0<=Aw t (Ap t q k).1 (x.drop (prt t k).length) then Aw t (Ap t q k).1 (x.drop (prt t k).length)+(cls t k).length else -1
theorem JcA {t:Ab} {q:Aa} {x:List UInt8} {k:Int} (h:0<=BN t q x k):0<=Aw t q x/\Aw t q x<=BN t q x k:=by
 unfold BN at h ⊢
 split at h
 ·rename_i hc
  rw [if_pos hc]
  obtain ⟨h1,⟨y,rfl⟩,h3⟩:=hc
  rw [List.drop_left] at h3 h ⊢
  obtain ⟨p,hp,he⟩:=Jo h3
  have:=Sa (hp.cons h1)
  rw [Dm] at this
  omega
 ·omega
theorem JcB {t:Ab} {S:Aa->Prop} {x:List UInt8} {f:Aa->Int}
  (ach:∀ q,S q->f q=-1\/∃ p,Way t q x p/\f q=(Cd t p:Nat))
  (acc:∀ q,S q->x=[]->A3 t q=true->f q=0)
  (rel:∀ q k,S q->(Ap t q k).2=true->prt t k≠[]->∀ y,x=prt t k++y->0<=Aw t (Ap t q k).1 y->0<=f q/\f q<=Aw t (Ap t q k).1 y+(cls t k).length)
  (sil:∀ q k,S q->(Ap t q k).2=true->prt t k=[]->S (Ap t q k).1/\(0<=f (Ap t q k).1->0<=f q/\f q<=f (Ap t q k).1+(cls t k).length)) :
  ∀ q,S q->Lq t q x (f q):=by
 have low:∀ (p:List Int) (q:Aa),S q->Way t q x p->0<=f q/\f q<=(Cd t p:Nat):=by
  intro p
  induction p with
  | nil=>
   intro q hq h
   obtain ⟨h1,h2⟩:=h.nil
   rw [acc q hq h1 h2]
   omega
  | cons k p ih=>
   intro q hq h
   obtain ⟨h1,y,h2,h3⟩:=h.uncons
   rw [Dm]
   by_cases he:prt t k=[]
   ·obtain ⟨g1,g2⟩:=sil q k hq h1 he
    rw [he,List.nil_append] at h2
    subst h2
    have h4:=ih _ g1 h3
    have:=g2 h4.1
    omega
   ·have h4:=Sa h3
    have:=rel q k hq h1 he y h2 h4.1
    omega
 intro q hq
 rcases ach q hq with h|⟨p,h1,h2⟩
 ·exact .inl ⟨h,λ p hp=>by have:=low p q hq hp;omega⟩
 ·exact .inr ⟨p,h1,h2,λ p' hp'=>by have:=low p' q hq hp';omega⟩
inductive Dc (t:Ab):Aa->List UInt8->List Int->Prop
 | nil {q:Aa} {x:List UInt8} (h:Aw t q x<=0):Dc t q x []
 | cons {q:Aa} {x:List UInt8} {k:Nat} {p:List Int} (h:0<Aw t q x) (hk:BN t q x k=Aw t q x) (hm:∀ j:Nat,j<k->BN t q x j≠Aw t q x) (hp:Dc t (Ap t q k).1 (x.drop (prt t k).length) p):Dc t q x (k::p)
theorem Dc.uniq {t:Ab} {q:Aa} {x:List UInt8} {p p':List Int} (h:Dc t q x p) (h':Dc t q x p'):p=p':=by
 induction h generalizing p' with
 | nil h=>
  cases h' with
  | nil=>rfl
  | cons g=>omega
 | cons h hk hm _ ih=>
  cases h' with
  | nil g=>omega
  | cons g gk gm gp=>
   rename_i k _ _ k' _
   have:k=k':=by
    rcases Nat.lt_trichotomy k k' with hlt|he|hgt
    ·exact absurd hk (gm _ hlt)
    ·exact he
    ·exact absurd gk (hm _ hgt)
   subst this
   rw [ih gp]
theorem EE {t:Ab} {q:Aa} {x:List UInt8} {k:Int} (h:0<=BN t q x k):(Ap t q k).2=true/\(∃ y,x=prt t k++y/\x.drop (prt t k).length=y)/\0<=Aw t (Ap t q k).1 (x.drop (prt t k).length)/\BN t q x k=Aw t (Ap t q k).1 (x.drop (prt t k).length)+(cls t k).length:=by
 unfold BN at h ⊢
 split at h
 ·rename_i hc
  rw [if_pos hc]
  obtain ⟨y,hy⟩:=hc.2.1
  exact ⟨hc.1,⟨y,hy.symm,by rw [← hy,List.drop_left]⟩,hc.2.2,rfl⟩
 ·omega
theorem ZA {t:Ab} (hc:∀ r∈t.Rules,1<=r.Cells.length) {q:Aa} {x:List UInt8} (h:Aw t q x=0):Way t q x []:=by
 obtain ⟨p,hp,he⟩:=Jo (t:=t) (q:=q) (x:=x) (by omega)
 cases p with
 | nil=>exact hp
 | cons k p=>
  obtain ⟨h1,_⟩:=hp.uncons
  have hk:=Cc h1
  have:=hc _ (Eo hk.1 hk.2)
  rw [Dm] at he
  simp only [cls] at he
  omega
theorem Dc.way {t:Ab} (hc:∀ r∈t.Rules,1<=r.Cells.length) {q:Aa} {x:List UInt8} {p:List Int} (h:Dc t q x p) (h0:0<=Aw t q x):Way t q x p/\Aw t q x=(Cd t p:Nat):=by
 induction h with
 | nil h=>exact ⟨ZA hc (by omega),by simp [Cd,cellsOf];omega⟩
 | cons h hk hm _ ih=>
  obtain ⟨h1,⟨y,h2,h3⟩,h4,h5⟩:=EE (by rw [hk];omega)
  obtain ⟨i1,i2⟩:=ih h4
  rw [h3] at i1 i2 h5
  refine ⟨by rw [h2];exact i1.cons h1,?_⟩
  rw [Dm]
  omega
theorem Tl {t:Ab} {q:Aa} {x:List UInt8} (h:0<Aw t q x):∃ k:Nat,k<t.Rules.length/\BN t q x k=Aw t q x:=by
 obtain ⟨p,hp,he⟩:=Jo (t:=t) (q:=q) (x:=x) (by omega)
 cases p with
 | nil=>simp [Cd,cellsOf] at he;omega
 | cons k p=>
  obtain ⟨h1,y,h2,h3⟩:=hp.uncons
  have hk:=Cc h1
  obtain ⟨k,rfl⟩:∃ n:Nat,k=n:=⟨k.toNat,by omega⟩
  refine ⟨k,by omega,?_⟩
  have h4:=Sa h3
  have hn:BN t q x k=Aw t (Ap t q k).1 y+(cls t k).length:=by
   unfold BN
   subst h2
   rw [List.drop_left,if_pos ⟨h1,List.prefix_append _ _,h4.1⟩]
  have h5:=JcA (t:=t) (q:=q) (x:=x) (k:=(k:Int)) (by omega)
  rw [Dm] at he
  omega
theorem Tm {t:Ab} (hc:∀ r∈t.Rules,1<=r.Cells.length):∀ (n:Nat) (q:Aa) (x:List UInt8),Aw t q x<=n->∃ p,Dc t q x p:=by
 intro n
 induction n with
 | zero=>intro q x h;exact ⟨[],.nil h⟩
 | succ n ih=>
  intro q x h
  rcases Int.lt_or_le 0 (Aw t q x) with h0|h0
  ·have hex:=Tl h0
   have key:∀ m,(∃ k,k<m/\BN t q x (k:Nat)=Aw t q x)->∃ k:Nat,BN t q x k=Aw t q x/\∀ j:Nat,j<k->BN t q x j≠Aw t q x:=by
    intro m
    induction m with
    | zero=>rintro ⟨k,hk,_⟩;omega
    | succ m ihm=>
     rintro ⟨k,hk,h1⟩
     by_cases hm:∃ k,k<m/\BN t q x (k:Nat)=Aw t q x
     ·exact ihm hm
     ·exact ⟨k,h1,λ j hj hh=>hm ⟨j,by omega,hh⟩⟩
   obtain ⟨k,h1,h2⟩:=key _ hex
   obtain ⟨g1,⟨y,g2,g3⟩,g4,g5⟩:=EE (by rw [h1];omega)
   have hk:=Cc g1
   have:=hc _ (Eo hk.1 hk.2)
   obtain ⟨p,hp⟩:=ih (Ap t q k).1 (x.drop (prt t k).length) (by simp only [cls] at g5;omega)
   exact ⟨k::p,.cons h0 h1 h2 hp⟩
  ·exact ⟨[],.nil h0⟩
end Go.AI
end
section
namespace Go.AI
def UK (l:List Int):Nat:=l.countP λ v=>decide (0<=v)
def phi (B:Nat) (l:List Int):Nat:=(l.map λ v=>if v<0 then B else v.toNat).sum
theorem Jea {B:Nat} {l:List Int} {j:Nat} {v c:Int} (h:l[j]? = some v) (hc:0<=c) (hlt:c<if v<0 then (B:Int) else v):phi B (l.set j c)<phi B l:=by
 induction l generalizing j with
 | nil=>simp at h
 | cons a l ih=>
  cases j with
  | zero=>
   simp only [List.getElem?_cons_zero,JkN] at h
   subst h
   simp only [phi,List.set_cons_zero,List.map_cons,List.sum_cons]
   split at hlt
   ·rename_i h1;rw [if_pos h1,if_neg (by omega)];omega
   ·rename_i h1;rw [if_neg h1,if_neg (by omega)];omega
  | succ j=>
   simp only [List.getElem?_cons_succ] at h
   have:=ih h
   simp only [phi,List.set_cons_succ,List.map_cons,List.sum_cons] at this ⊢
   omega
theorem JcC {l:List Int} {j:Nat} {v c:Int} (h:l[j]? = some v) (hc:0<=c):UK (l.set j c)=UK l+(if v<0 then 1 else 0):=by
 induction l generalizing j with
 | nil=>simp at h
 | cons a l ih=>
  cases j with
  | zero=>
   simp only [List.getElem?_cons_zero,JkN] at h
   subst h
   simp only [UK,List.set_cons_zero,List.countP_cons,decide_eq_true_eq]
   rw [if_pos hc]
   by_cases h0:a<0
   ·rw [if_pos h0,if_neg (by omega)]
   ·rw [if_neg h0,if_pos (by omega)]
  | succ j=>
   simp only [List.getElem?_cons_succ] at h
   have:=ih h
   simp only [UK,List.set_cons_succ,List.countP_cons] at this ⊢
   omega
theorem UL (l:List Int):UK l<=l.length:=List.countP_le_length
structure Col (t:Ab) (x:List UInt8) (D:Nat) (qs:List Aa) (cur:List Int):Prop where
 len:cur.length=qs.length
 ach:∀ (j:Nat) q,qs[j]? = some q->∃ v,cur[j]? = some v/\(v=-1\/∃ p,Way t q x p/\v=(Cd t p:Nat))
 acc:∀ (j:Nat) q,qs[j]? = some q->x=[]->A3 t q=true->cur[j]? = some 0
 bnd:∀ (j:Nat) v,cur[j]? = some v->v<=((D+4*UK cur:Nat):Int)
theorem Col.top {t:Ab} {x:List UInt8} {D:Nat} {qs:List Aa} {cur:List Int} (h:Col t x D qs cur) {j:Nat} {v:Int} (hv:cur[j]? = some v):-1<=v/\v<=((D+4*qs.length:Nat):Int):=by
 have h1:=h.bnd j v hv
 have h2:=UL cur
 rw [h.len] at h2
 have hj:j<qs.length:=by rw [← h.len];exact Aj hv
 obtain ⟨w,hw,hd⟩:=h.ach j _ (JkC hj)
 rw [hv] at hw
 cases hw
 refine ⟨?_,by omega⟩
 rcases hd with rfl|⟨p,_,rfl⟩<;>omega
theorem Col.get {t:Ab} {x:List UInt8} {D:Nat} {qs:List Aa} {cur:List Int} (h:Col t x D qs cur) {j:Nat} (hj:j<qs.length):∃ v,cur[j]? = some v:=⟨_,JkC (by rw [h.len];exact hj)⟩
theorem Col.lower {t:Ab} {x:List UInt8} {D:Nat} {qs:List Aa} {cur:List Int} (h:Col t x D qs cur) {j:Nat} {q:Aa} {v c:Int} (hq:qs[j]? = some q) (hv:cur[j]? = some v)
  (hp:∃ p,Way t q x p/\c=(Cd t p:Nat)) (hlt:v<0\/c<v) (hb:c<=((D+4*UK cur+4:Nat):Int)) {B:Nat} (hB:c<(B:Int)):Col t x D qs (cur.set j c)/\phi B (cur.set j c)<phi B cur:=by
 have hc:0<=c:=by obtain ⟨p,_,rfl⟩:=hp;omega
 have hjl:=Aj hv
 refine ⟨⟨by rw [JkU];exact h.len,λ i q' hi=>?_,λ i q' hi hx ha=>?_,λ i w hw=>?_⟩,Jea hv hc (by split<;>omega)⟩
 ·by_cases e:j=i
  ·subst e
   rw [hq] at hi;cases hi
   exact ⟨c,JkO hjl,.inr hp⟩
  ·rw [JkT e];exact h.ach i q' hi
 ·by_cases e:j=i
  ·subst e
   rw [h.acc j q' hi hx ha] at hv
   cases hv
   omega
  ·rw [JkT e];exact h.acc i q' hi hx ha
 ·rw [JcC hv hc]
  by_cases e:j=i
  ·subst e
   rw [JkO hjl] at hw
   cases hw
   have:=h.bnd j v hv
   split<;>omega
  ·rw [JkT e] at hw
   have:=h.bnd i w hw
   omega
structure Yp (t:Ab) (x:List UInt8) (qs:List Aa) (cur:List Int):Prop where
 rel:∀ (j:Nat) q (k:Nat),qs[j]? = some q->(Ap t q k).2=true->prt t k≠[]->∀ y,x=prt t k++y->0<=Aw t (Ap t q k).1 y->∃ v,cur[j]? = some v/\0<=v/\v<=Aw t (Ap t q k).1 y+(cls t k).length
structure JeM (t:Ab) (qs:List Aa) (cur:List Int):Prop where
 sil:∀ (j:Nat) q (k:Nat),qs[j]? = some q->(Ap t q k).2=true->prt t k=[]->∃ (i:Nat) (w:Int),qs[i]? = some (Ap t q k).1/\cur[i]? = some w/\(0<=w->∃ v,cur[j]? = some v/\0<=v/\v<=w+(cls t k).length)
theorem Col.exact {t:Ab} {x:List UInt8} {D:Nat} {qs:List Aa} {cur:List Int} (h:Col t x D qs cur) (hn:qs.Nodup) (h1:Yp t x qs cur) (h2:JeM t qs cur) {j:Nat} {q:Aa} (hq:qs[j]? = some q):cur[j]? = some (Aw t q x):=by
 let f:Aa->Int:=λ q=>cur.getD ((qs.findIdx? λ x=>decide (x=q)).getD 0) (-1)
 have hf:∀ (j:Nat) q v,qs[j]? = some q->cur[j]? = some v->f q=v:=by
  intro j q v hj hv
  show cur.getD ((qs.findIdx? λ x=>decide (x=q)).getD 0) (-1)=v
  rw [CI hn hj,Option.getD_some,JkL,hv];rfl
 have key:=JcB (t:=t) (S:=λ q=>∃ j:Nat,qs[j]? = some q) (x:=x) (f:=f) ?_ ?_ ?_ ?_ q ⟨j,hq⟩
 ·obtain ⟨v,hv⟩:=h.get (Aj hq)
  rw [hf j q v hq hv] at key
  rw [hv,Jcz key]
 ·rintro q ⟨j,hj⟩
  obtain ⟨v,hv,hd⟩:=h.ach j q hj
  rw [hf j q v hj hv];exact hd
 ·rintro q ⟨j,hj⟩ hx ha
  exact hf j q 0 hj (h.acc j q hj hx ha)
 ·rintro q k ⟨j,hj⟩ hs hp y hy hc
  obtain ⟨k,rfl⟩:∃ n:Nat,k=n:=⟨k.toNat,by have:=Cc hs;omega⟩
  obtain ⟨v,hv,g1,g2⟩:=h1.rel j q k hj hs hp y hy hc
  rw [hf j q v hj hv];exact ⟨g1,g2⟩
 ·rintro q k ⟨j,hj⟩ hs hp
  obtain ⟨k,rfl⟩:∃ n:Nat,k=n:=⟨k.toNat,by have:=Cc hs;omega⟩
  obtain ⟨i,w,hi,hw,hh⟩:=h2.sil j q k hj hs hp
  refine ⟨⟨i,hi⟩,?_⟩
  rw [hf i _ w hi hw]
  intro h0
  obtain ⟨v,hv,g1,g2⟩:=hh h0
  rw [hf j q v hj hv];exact ⟨g1,g2⟩
theorem N0 {t:Ab} {q:Aa} {k:Int} {y:List UInt8} {c:Int} (hs:(Ap t q k).2=true) (h:∃ p,Way t (Ap t q k).1 y p/\c=(Cd t p:Nat)):∃ p,Way t q (prt t k++y) p/\c+((cls t k).length:Nat)=(Cd t p:Nat):=by
 obtain ⟨p,hp,rfl⟩:=h
 exact ⟨k::p,hp.cons hs,by rw [Dm];omega⟩
end Go.AI
end
section
namespace Go.AI
structure Kg (t:Ab):Prop where
 tab:DK t
 cl:∀ r∈t.Rules,1<=r.Cells.length/\r.Cells.length<=4
theorem Kg.one {t:Ab} (h:Kg t):∀ r∈t.Rules,1<=r.Cells.length:=λ r hr=>(h.cl r hr).1
theorem Kg.pr {t:Ab} (h:Kg t) {k:Int} {q:Aa} (hk:(Ap t q k).2=true):(prt t k).length<=3/\1<=(cls t k).length/\(cls t k).length<=4:=by
 have h1:=Cc hk
 have hm:=Eo h1.1 h1.2
 exact ⟨(h.tab.2 _ hm).2.2.2.2,h.cl _ hm⟩
theorem DM {α:Type} (l:List α) (i:Nat) (d:α):l.set i (l.getD i d)=l:=by
 apply List.ext_getElem?
 intro j
 rw [List.getElem?_set]
 split
 ·rename_i e;subst e
  split
  ·rename_i hl;rw [JkL,JkC hl];rfl
  ·rename_i hl;rw [JkY (by omega)]
 ·rfl
theorem CT {α:Type} {l:List α} {i:Nat} (h:i<l.length) (y d:α):(l.set i y).getD i d=y:=by
 rw [JkL,JkO h];rfl
theorem CK {α:Type} {l:List α} {i j:Nat} (h:i≠j) (y d:α):(l.set i y).getD j d=l.getD j d:=by
 rw [JkL,JkT h,← JkL]
theorem AX {α:Type} {l:List α} {i:Nat} (d:α) (h:i<l.length):idx l (i:Int)=some (l.getD i d):=by
 rw [CE h,Cj h]
theorem Tn {s pr:List UInt8} {i:Nat} (hi:i<=s.length) (hs:s.length<1000000) (hp:pr.length<1000000) (n:Nat):HM n s (i:Int) pr=some (pr.isPrefixOf (s.drop i)):=by
 unfold HM
 have e:Ay .i64 (i:Int) ((pr.length:Nat):Int)=((i+pr.length:Nat):Int):=by rw [Jm]<;>omega
 rw [e]
 by_cases h:i+pr.length<=s.length
 ·rw [if_pos (by simp;omega),Jch (by omega) (by omega) (by omega),Option.bind_some]
  congr 1
  rw [Bool.eq_iff_iff,JkD,beq_iff_eq,List.isPrefixOf_iff_prefix]
  have e2:(s.take ((i+pr.length:Nat):Int).toNat).drop (i:Int).toNat=(s.drop i).take pr.length:=by
   rw [JkM,JkM,List.drop_take];congr 1;omega
  rw [e2]
  constructor
  ·rintro ⟨_,h2⟩;rw [← h2];exact List.take_prefix _ _
  ·intro h2;exact ⟨by simp;omega,(List.prefix_iff_eq_take.1 h2).symm⟩
 ·rw [if_neg (by simp;omega),Option.bind_some]
  congr 1
  have:decide (((i+pr.length:Nat):Int)<=((s.length:Nat):Int))=false:=by simp;omega
  rw [this,Bool.false_and,eq_comm,← Bool.not_eq_true,List.isPrefixOf_iff_prefix]
  intro hp'
  have:=hp'.length_le
  rw [List.length_drop] at this
  omega
theorem Cz {s pr:List UInt8} {i:Nat} (h:pr.isPrefixOf (s.drop i)=true):s.drop i=pr++s.drop (i+pr.length)/\(i<=s.length->i+pr.length<=s.length):=by
 rw [List.isPrefixOf_iff_prefix] at h
 obtain ⟨y,hy⟩:=h
 have:s.drop (i+pr.length)=y:=by rw [← List.drop_drop,← hy,List.drop_left]
 rw [this,hy]
 refine ⟨rfl,λ hi=>?_⟩
 have:=congrArg List.length hy
 rw [List.length_append,List.length_drop] at this
 omega
def IM (t:Ab) (s:List UInt8) (out:List (List Int)) (i:Nat) (q:Aa) (k:Nat):Int:=
 if (Ap t q k).2=true/\(prt t k).isPrefixOf (s.drop i)=true then
  (if (out.getD (i+(prt t k).length) []).getD (BX (Ae t) (Ap t q k).1).toNat 0<0 then -1 else (out.getD (i+(prt t k).length) []).getD (BX (Ae t) (Ap t q k).1).toNat 0+(cls t k).length) else -1
structure Mm (t:Ab) (s:List UInt8) (i:Nat) (row:List Int):Prop where
 len:row.length=(Ae t).length
 val:∀ (j:Nat) q,(Ae t)[j]? = some q->row[j]? = some (Aw t q (s.drop i))
 bnd:∀ (j:Nat) v,row[j]? = some v->v<=((3072*(s.length-i+1):Nat):Int)
structure Suf (t:Ab) (s:List UInt8) (i:Nat) (out:List (List Int)):Prop where
 len:out.length=s.length+1
 rows:∀ i',i<i'->i'<=s.length->Mm t s i' (out.getD i' [])
 col:Col t (s.drop i) (3072*(s.length-i)) (Ae t) (out.getD i [])
section
variable {t:Ab} (hT:Kg t) {s:List UInt8} (hs:s.length<=4000)
include hT
theorem EF {q:Aa} (hq:q∈Ae t) {k:Nat} (hk:(Ap t q k).2=true):(Ap t q k).1∈Ae t:=by
 obtain ⟨j,hj,e⟩:=List.getElem_of_mem hq
 have h:=Cc hk
 exact (BB hT.tab).2 (j+1) j q (by omega) (by rw [← e];exact JkC hj) k (by omega) hk
theorem IN:(Ae t).length<=768:=(BB hT.tab).1.len
theorem P3:(Ae t).Nodup:=(BB hT.tab).1.nodup
include hs
theorem Sc {i:Nat} (hi:i<=s.length) {out:List (List Int)} (hol:out.length=s.length+1) (hR:∀ i',i<=i'->i'<=s.length->(out.getD i' []).length=(Ae t).length/\∀ (j:Nat) v,(out.getD i' [])[j]? = some v->-1<=v/\v<=13000000) {q:Aa} (hq:q∈Ae t) {k:Nat} (hk:k<t.Rules.length):Ev (λ n=>Gu n t ⟨s,i,q,Ae t⟩ k out) (IM t s out i q k):=by
 have hlen:=IN hT
 unfold Gu IM
 refine Ev.bind (Ev.all λ n=>E0 hT.tab.short n q k) ?_
 cases hst:(Ap t q k).2 with
 | false=>
  refine Ev.all λ n=>?_
  simp
 | true=>
  obtain ⟨p1,p2,p3⟩:=hT.pr hst
  have hr:=En (t:=t) (k:=(k:Int)) (by omega) (by omega)
  refine Ev.all (f:=λ n=>_) (λ n=>?_) |>.bind (x:=BC t k) ?_
  ·simp [hr]
  refine Ev.bind (x:=(prt t k).isPrefixOf (s.drop i)) (Ev.all λ n=>?_) ?_
  ·rw [if_pos (by simp)]
   exact Tn hi (by omega) (by simp only [prt] at p1;omega) n
  cases hb:(prt t k).isPrefixOf (s.drop i) with
  | false=>exact Ev.iteT (by simp) (by simp;exact Ev.const)
  | true=>
   obtain ⟨q1,q2⟩:=Cz hb
   have q2:=q2 hi
   refine Ev.iteF (by simp) (Ev.bindC hr ?_)
   have e:Ay .i64 (i:Int) ((List.length (BC t k).Print:Nat):Int)=((i+(prt t k).length:Nat):Int):=by rw [Jm]<;>simp only [prt] at*<;> omega
   rw [show (({ S:=s,I:=(i:Int),State:=q,L:=Ae t }:AO).I)=(i:Int) from rfl,e]
   refine Ev.bindC (AX [] (by omega)) ?_
   have hmem:=EF hT hq hst
   obtain ⟨m,hm,hmg⟩:=BD hmem
   refine Ev.bind (E1 (l:=Ae t) (s:=(Ap t q k).1) (by omega)) ?_
   rw [hm]
   have hml:=Aj hmg
   obtain ⟨hrl,hrb⟩:=hR (i+(prt t k).length) (by omega) q2
   refine Ev.bindC (AX 0 (by rw [hrl];exact hml)) ?_
   simp only [JkM,and_self,if_true]
   generalize hv:(out.getD (i+(prt t k).length) []).getD m 0=v
   have hvg:(out.getD (i+(prt t k).length) [])[m]? = some v:=by
    rw [← hv,JkL (l:=out.getD (i+(prt t k).length) []),JkC (by rw [hrl];exact hml)];rfl
   have hvb:=hrb m v hvg
   by_cases hneg:v<0
   ·rw [if_pos hneg]
    exact Ev.iteT (by simpa using hneg) Ev.const
   ·rw [if_neg hneg]
    refine Ev.iteF (by simpa using hneg) (Ev.bindC hr (Ev.all λ n=>?_))
    rw [Jm (by simp only [cls] at *;omega) (by simp only [cls] at *;omega)]
theorem N3 {i:Nat} {row:List Int} (h:Mm t s i row):row.length=(Ae t).length/\∀ (j:Nat) v,row[j]? = some v->-1<=v/\v<=13000000:=by
 have _:=hT
 refine ⟨h.len,λ j v hv=>?_⟩
 have h1:=h.bnd j v hv
 have hj:j<(Ae t).length:=by rw [← h.len];exact Aj hv
 have h2:=h.val j _ (JkC hj)
 rw [hv] at h2
 have:=Sb t (Ae t)[j] (s.drop i)
 simp only [JkN] at h2
 omega
theorem JcD {i:Nat} (hi:i<=s.length) {out:List (List Int)} (ho:Suf t s i out) {q:Aa} (hq:q∈Ae t) {k:Nat} (hk:k<t.Rules.length):Ev (λ n=>Gu n t ⟨s,i,q,Ae t⟩ k out) (IM t s out i q k):=by
 refine Sc hT hs hi ho.len (λ i' h1 h2=>?_) hq hk
 rcases Nat.eq_or_lt_of_le h1 with rfl|hlt
 ·refine ⟨ho.col.len,λ j v hv=>?_⟩
  have h1:=ho.col.top hv
  have:=IN hT
  omega
 ·exact N3 hT hs (ho.rows i' hlt h2)
omit hs in
theorem Jeb {i:Nat} (hi:i<=s.length) {out:List (List Int)} (ho:Suf t s i out) {q:Aa} (hq:q∈Ae t) {k:Nat} (h:0<=IM t s out i q k) :
  (∃ p,Way t q (s.drop i) p/\IM t s out i q k=(Cd t p:Nat))/\IM t s out i q k<=((3072*(s.length-i)+4*UK (out.getD i [])+4:Nat):Int):=by
 unfold IM at h ⊢
 split at h
 ·rename_i hc
  rw [if_pos hc]
  obtain ⟨hst,hb⟩:=hc
  obtain ⟨p1,p2,p3⟩:=hT.pr hst
  obtain ⟨q1,q2⟩:=Cz hb
  have q2:=q2 hi
  obtain ⟨m,hm,hmg⟩:=BD (EF hT hq hst)
  rw [hm,JkM] at h ⊢
  split at h
  ·omega
  ·rename_i hneg
   rw [if_neg hneg]
   rcases Nat.eq_zero_or_pos (prt t k).length with h0|h0
   ·have hp0:prt t k=[]:=List.length_eq_zero_iff.1 h0
    rw [h0,Nat.add_zero] at h hneg ⊢
    obtain ⟨v,hv,hd⟩:=ho.col.ach m _ hmg
    have hvv:(out.getD i []).getD m 0=v:=by rw [JkL (l:=out.getD i []),hv];rfl
    rw [hvv] at h hneg ⊢
    have hbn:=ho.col.bnd m v hv
    refine ⟨?_,by omega⟩
    have:=N0 hst (hd.resolve_left (by omega))
    rw [hp0,List.nil_append] at this
    exact this
   ·have hR:=ho.rows _ (show i<i+(prt t k).length by omega) q2
    have hv:=hR.val m _ hmg
    have hvv:(out.getD (i+(prt t k).length) []).getD m 0=Aw t (Ap t q k).1 (s.drop (i+(prt t k).length)):=by
     rw [JkL (l:=out.getD (i+(prt t k).length) []),hv];rfl
    have hbn:=hR.bnd m _ hv
    rw [hvv] at h hneg ⊢
    refine ⟨?_,?_⟩
    ·have:=N0 hst (Jo (x:=s.drop (i+(prt t k).length)) (by omega))
     rwa [← q1] at this
    ·have:3072*(s.length-(i+(prt t k).length)+1)<=3072*(s.length-i):=by omega
     omega
 ·omega
def Jir (t:Ab) (s:List UInt8) (i:Nat) (out:List (List Int)) (j k:Nat):Prop:=∀ q,(Ae t)[j]? = some q->0<=IM t s out i q k->∃ v,(out.getD i [])[j]? = some v/\0<=v/\v<=IM t s out i q k
omit hs in
theorem JcE {i:Nat} (hi:i<=s.length) {out:List (List Int)} (ho:Suf t s i out) (h:∀ j k,j<(Ae t).length->k<t.Rules.length->Jir t s i out j k):Mm t s i (out.getD i []):=by
 have hx:∀ (j:Nat) q,(Ae t)[j]? = some q->(out.getD i [])[j]? = some (Aw t q (s.drop i)):=by
  intro j q hq
  refine ho.col.exact (P3 hT) ⟨λ j q k hj hst hp y hy hc=>?_⟩ ⟨λ j q k hj hst hp=>?_⟩ hq
  ·have hk:=Cc hst
   have hb:(prt t k).isPrefixOf (s.drop i)=true:=by rw [List.isPrefixOf_iff_prefix,hy];exact List.prefix_append _ _
   obtain ⟨q1,q2⟩:=Cz hb
   have q2:=q2 hi
   have hyy:s.drop (i+(prt t k).length)=y:=by rw [q1] at hy;exact List.append_cancel_left hy
   have hlp:0<(prt t k).length:=List.length_pos_iff.2 hp
   obtain ⟨m,hm,hmg⟩:=BD (EF hT (JkE hj) hst)
   have hv:=(ho.rows _ (show i<i+(prt t k).length by omega) q2).val m _ hmg
   have ha:IM t s out i q k=Aw t (Ap t q k).1 y+(cls t k).length:=by
    unfold IM
    rw [if_pos ⟨hst,hb⟩,hm,JkM,JkL (l:=out.getD (i+(prt t k).length) []),hv,Option.getD_some,hyy,if_neg (by omega)]
   have:=h j k (Aj hj) (by omega) q hj (by omega)
   rwa [ha] at this
  ·have hk:=Cc hst
   obtain ⟨m,hm,hmg⟩:=BD (EF hT (JkE hj) hst)
   obtain ⟨w,hw,_⟩:=ho.col.ach m _ hmg
   refine ⟨m,w,hmg,hw,λ h0=>?_⟩
   have ha:IM t s out i q k=w+(cls t k).length:=by
    unfold IM
    rw [if_pos ⟨hst,by rw [hp];rfl⟩,hm,JkM,hp,List.length_nil,Nat.add_zero,JkL (l:=out.getD i []),hw,Option.getD_some,if_neg (by omega)]
   have:=h j k (Aj hj) (by omega) q hj (by omega)
   rwa [ha] at this
 refine ⟨ho.col.len,hx,λ j v hv=>?_⟩
 have h1:=(ho.col.top hv).2
 have:=IN hT
 omega
end
end Go.AI
end
section
namespace Go.AI
section
variable {t:Ab} (hT:Kg t) {s:List UInt8} (hs:s.length<=4000)
include hT
def CU (t:Ab) (x:List UInt8) (q:Aa):Int:=if x=[]/\A3 t q=true then 0 else -1
omit hT in
theorem Tp (t:Ab) (x:List UInt8) (D:Nat) (qs:List Aa):Col t x D qs (qs.map (CU t x)):=by
 refine ⟨by simp,λ j q hj=>⟨CU t x q,by simp [hj],?_⟩,λ j q hj hx ha=>by simp [hj,CU,hx,ha],λ j v hv=>?_⟩
 ·unfold CU
  split
  ·rename_i h;exact .inr ⟨[],⟨⟨q,rfl,h.2⟩,by rw [h.1];rfl⟩,by simp [Cd,cellsOf]⟩
  ·exact .inl rfl
 ·rw [JkG,JkF] at hv
  obtain ⟨q,_,rfl⟩:=hv
  unfold CU
  split<;>omega
include hs
omit hT in
theorem Wq {i:Nat} (hi:i<=s.length):(((i:Nat):Int)==((s.length:Nat):Int))=decide (s.drop i=[]):=by
 have _:=hs
 rw [Bool.eq_iff_iff]
 simp only [beq_iff_eq,decide_eq_true_eq,List.drop_eq_nil_iff]
 omega
theorem Jec {i:Nat} (hi:i<=s.length) (out0:List (List Int)) (hl:out0.length=s.length+1) (hr:(out0.getD i []).length=(Ae t).length) :
  Tot (λ n=>whl (λ (x:((List (List Int))×Int))=>C0 n t s (Ae t) (i:Int) x.1 x.2) n (out0,0)) (λ out=>out=out0.set i ((Ae t).map (CU t (s.drop i)))):=by
 have hlen:=IN hT
 refine Tot.upto (body:=λ n x=>C0 n t s (Ae t) (i:Int) x.1 x.2) (Ae t).length (λ k x=>x.2=(k:Int)/\∃ row,x.1=out0.set i row/\row.length=(Ae t).length/\∀ (j:Nat) q,j<k->(Ae t)[j]? = some q->row[j]? = some (CU t (s.drop i) q)) ?_ ?_ _ ⟨rfl,out0.getD i [],(DM _ _ _).symm,hr,by omega⟩
 ·rintro k ⟨out,k'⟩ hk ⟨e1,row,e2,e3,e4⟩
  simp only at e1 e2
  subst e1 e2
  have hJ:∀ v,v=CU t (s.drop i) (Ae t)[k]->∀ out',out'=out0.set i (row.set k v)->Tot (λ n=>DF n (k:Int) out') (Rd2 (λ x:List (List Int)×Int=>x.2=((k+1:Nat):Int)/\∃ row,x.1=out0.set i row/\row.length=(Ae t).length/\∀ (j:Nat) q,j<k+1->(Ae t)[j]? = some q->row[j]? = some (CU t (s.drop i) q)) (λ out=>out=out0.set i ((Ae t).map (CU t (s.drop i))))):=by
   intro v hv out' ho'
   unfold DF
   refine Tot.pure ⟨BT (by omega),_,ho',by rw [JkU];exact e3,λ j q hj hq=>?_⟩
   by_cases e:k=j
   ·subst e
    rw [JkO (by omega),hv]
    rw [JkC hk] at hq
    cases hq;rfl
   ·rw [JkT e];exact e4 j q (by omega) hq
  unfold C0
  have hil:i<(out0.set i row).length:=by rw [JkU];omega
  have hg:(out0.set i row).getD i []=row:=CT (by omega) _ _
  refine Tot.iteT (E2 hk) (Tot.bindC (AX [] hil) ?_)
  rw [hg]
  refine Tot.bindC (AX 0 (by omega)) (Tot.bindC (GA (by omega)) ?_)
  rw [Wq hs hi,JkM,List.set_set]
  by_cases hd:s.drop i=[]
  ·refine Tot.gE (decide_eq_true hd) (Ev.all λ n=>CE hk) (Tot.gE (decide_eq_true hd) (Ev.all λ n=>G2 n t _) (Tot.ite (λ h=>?_) λ h=>?_))
   ·have ha:A3 t (Ae t)[k]=true:=by simpa [hd] using h
    refine Tot.bindC (AX [] (by rw [JkU];omega)) ?_
    rw [CT (by omega)]
    refine Tot.bindC (AX 0 (by rw [JkU];omega)) (Tot.bindC (GA (by rw [JkU];omega)) (hJ 0 ?_ _ ?_))
    ·unfold CU;rw [if_pos ⟨hd,ha⟩]
    ·rw [List.set_set,List.set_set]
   ·have ha:A3 t (Ae t)[k]=false:=by simpa [hd] using h
    refine hJ (-1) ?_ _ rfl
    unfold CU;rw [if_neg (by rw [ha];simp)]
  ·refine Tot.gF (decide_eq_false hd) (Tot.gF (decide_eq_false hd) (Tot.iteF (by simp [hd]) (hJ (-1) ?_ _ rfl)))
   unfold CU;rw [if_neg (λ h=>hd h.1)]
 ·rintro ⟨out,k'⟩ ⟨e1,row,e2,e3,e4⟩
  simp only at e1 e2
  subst e1 e2
  unfold C0
  refine Tot.iteF (by simp) (Tot.pure ?_)
  refine congrArg (out0.set i) (List.ext_getElem? λ j=>?_)
  rcases Nat.lt_or_ge j (Ae t).length with h|h
  ·rw [e4 j _ h (JkC h),JkG,JkC h];rfl
  ·rw [JkY (by omega),JkY (by simpa using h)]
structure N4 (t:Ab) (s:List UInt8) (i:Nat) (B:Nat) (out0 out:List (List Int)) (ch:Bool) (k r:Nat):Prop where
 suf:Suf t s i out
 same:ch=false->out=out0/\∀ j m,(j<k\/(j=k/\m<r))->m<t.Rules.length->Jir t s i out0 j m
 less:ch=true->phi B (out.getD i [])<phi B (out0.getD i [])
omit hT hs in
theorem JcF (n:Nat) (a c:Int) (hc:0<=c):LD n a c=some (if a<0\/c<a then c else a):=by
 unfold LD
 by_cases h:a<0\/c<a
 ·rw [if_pos h,if_pos (by simp only [JkW,JkD,decide_eq_true_eq];omega)]
 ·rw [if_neg h,if_neg (by simp only [JkW,JkD,decide_eq_true_eq];omega)]
theorem Jed {i:Nat} (hi:i<=s.length) {B:Nat} (hB:13000000<=B) {out0 out1:List (List Int)} {ch1:Bool} {k:Nat} (hk:k<(Ae t).length) (h1:N4 t s i B out0 out1 ch1 k 0) :
  Tot (λ n=>whl (λ (x:((List (List Int))×Bool×Int))=>C1 n t s (Ae t) (i:Int) (k:Int) x.1 x.2.1 x.2.2) n (out1,ch1,0)) (λ y=>N4 t s i B out0 y.1 y.2 k t.Rules.length):=by
 have hlen:=IN hT
 have hrl:=hT.tab.1
 refine Tot.upto (body:=λ n x=>C1 n t s (Ae t) (i:Int) (k:Int) x.1 x.2.1 x.2.2) t.Rules.length (λ r x=>x.2.2=(r:Int)/\N4 t s i B out0 x.1 x.2.1 k r) ?_ ?_ _ ⟨rfl,h1⟩
 ·rintro r ⟨out,ch,r'⟩ hr ⟨e1,hP⟩
  simp only at e1 hP
  subst e1
  have hq:(Ae t)[k]? = some (Ae t)[k]:=JkC hk
  have hqm:(Ae t)[k]∈Ae t:=List.getElem_mem hk
  have hA:=hP.suf
  have hJ:∀ out' ch',N4 t s i B out0 out' ch' k (r+1)->Tot (λ n=>DG n (r:Int) out' ch') (Rd2 (λ x:List (List Int)×Bool×Int=>x.2.2=((r+1:Nat):Int)/\N4 t s i B out0 x.1 x.2.1 k (r+1)) (λ y=>N4 t s i B out0 y.1 y.2 k t.Rules.length)):=by
   intro out' ch' h
   unfold DG
   exact Tot.pure ⟨BT (by omega),h⟩
  have hskip:Jir t s i out k r->N4 t s i B out0 out ch k (r+1):=by
   intro hrel
   refine ⟨hA,λ hc=>⟨(hP.same hc).1,λ j m hjm hm=>?_⟩,hP.less⟩
   by_cases e:j=k/\m=r
   ·obtain ⟨rfl,rfl⟩:=e
    rw [← (hP.same hc).1];exact hrel
   ·exact (hP.same hc).2 j m (by omega) hm
  unfold C1
  refine Tot.iteT (E2 hr) (Tot.bindC (Cb hq) (Tot.bindE (JcD hT hs hi hA hqm hr) ?_))
  have hil:i<out.length:=by rw [hA.len];omega
  rw [JkM]
  simp only [DM]
  have hcl:=hA.col.len
  obtain ⟨v,hv⟩:=hA.col.get hk
  have hvd:(out.getD i []).getD k 0=v:=by rw [JkL (l:=out.getD i []),hv];rfl
  by_cases hc:0<=IM t s out i (Ae t)[k] r
  ·obtain ⟨u1,u2⟩:=Jeb hT hi hA hqm hc
   have hgd:decide (IM t s out i (Ae t)[k] r>=0)=true:=by simpa using hc
   refine Tot.gE hgd (Ev.all λ n=>AX [] hil) (Tot.gE hgd (Ev.all λ n=>AX 0 (by omega)) ?_)
   rw [hvd]
   refine Tot.gE hgd (Ev.all λ n=>JcF n v _ hc) (Tot.gE hgd (Ev.all λ n=>AX [] hil) (Tot.gE hgd (Ev.all λ n=>AX 0 (by omega)) ?_))
   rw [hvd]
   by_cases hlt:v<0\/IM t s out i (Ae t)[k] r<v
   ·rw [if_pos hlt]
    refine Tot.iteT (by simp only [JkD,bne_iff_ne,ne_eq];exact ⟨hgd,by omega⟩) ?_
    have hfin:=UL (out.getD i [])
    obtain ⟨g1,g2⟩:=hA.col.lower hq hv u1 (hlt.imp id id) u2 (B:=B) (by omega)
    refine Tot.bindC (AX [] hil) (Tot.bindC (AX 0 (by omega)) (Tot.bindC (GA (by omega)) (hJ _ _ ?_)))
    have hgs:(out.set i ((out.getD i []).set k (IM t s out i (Ae t)[k] r))).getD i []=(out.getD i []).set k (IM t s out i (Ae t)[k] r):=CT hil _ _
    refine ⟨⟨by rw [JkU];exact hA.len,λ i' h1 h2=>by rw [CK (by omega)];exact hA.rows i' h1 h2,by rw [hgs];exact g1⟩,(λ h=>by cases h),λ _=>?_⟩
    rw [hgs]
    cases hch:ch with
    | false=>rw [(hP.same hch).1] at g2 ⊢;exact g2
    | true=>have:=hP.less hch;omega
   ·rw [if_neg hlt]
    refine Tot.iteF (by simp) (hJ _ _ (hskip λ q hq' _=>?_))
    rw [hq] at hq'
    cases hq'
    exact ⟨v,hv,by omega,by omega⟩
  ·have hgd:decide (IM t s out i (Ae t)[k] r>=0)=false:=by simpa using hc
   refine Tot.gF hgd (Tot.gF hgd (Tot.gF hgd (Tot.gF hgd (Tot.gF hgd (Tot.iteF (by rw [hgd];rfl) (hJ _ _ (hskip λ q hq' h0=>?_)))))))
   rw [hq] at hq'
   cases hq'
   exact absurd h0 hc
 ·rintro ⟨out,ch,r'⟩ ⟨e1,hP⟩
  simp only at e1 hP
  subst e1
  unfold C1
  exact Tot.iteF (by simp) (Tot.pure hP)
theorem Jee {i:Nat} (hi:i<=s.length) {B:Nat} (hB:13000000<=B) {out0:List (List Int)} (h1:Suf t s i out0) :
  Tot (λ n=>whl (λ (x:((List (List Int))×Bool×Int))=>C2 n t s (Ae t) (i:Int) x.1 x.2.1 x.2.2) n (out0,false,0)) (λ y=>N4 t s i B out0 y.1 y.2 (Ae t).length 0):=by
 have hlen:=IN hT
 refine Tot.upto (body:=λ n x=>C2 n t s (Ae t) (i:Int) x.1 x.2.1 x.2.2) (Ae t).length (λ k x=>x.2.2=(k:Int)/\N4 t s i B out0 x.1 x.2.1 k 0) ?_ ?_ _ ⟨rfl,h1,λ _=>⟨rfl,λ j m h=>by omega⟩,λ h=>by cases h⟩
 ·rintro k ⟨out,ch,k'⟩ hk ⟨e1,hP⟩
  simp only at e1 hP
  subst e1
  unfold C2
  refine Tot.iteT (E2 hk) (Tot.bind (Jed hT hs hi hB hk hP) ?_)
  rintro ⟨out',ch'⟩ hP'
  exact Tot.pure ⟨BT (by omega),hP'.suf,λ hc=>⟨(hP'.same hc).1,λ j m hjm hm=>(hP'.same hc).2 j m (by omega) hm⟩,hP'.less⟩
 ·rintro ⟨out,ch,k'⟩ ⟨e1,hP⟩
  simp only at e1 hP
  subst e1
  unfold C2
  exact Tot.iteF (by simp) (Tot.pure hP)
theorem Jef {i:Nat} (hi:i<=s.length) {out0:List (List Int)} (h1:Suf t s i out0) :
  Tot (λ n=>whl (λ (x:((List (List Int))×Bool))=>DH n t s (Ae t) (i:Int) x.1 x.2) n (out0,true)) (λ out=>out.length=s.length+1/\∀ i',i<=i'->i'<=s.length->Mm t s i' (out.getD i' [])):=by
 refine Tot.whl (body:=λ n x=>DH n t s (Ae t) (i:Int) x.1 x.2) (λ m x=>Suf t s i x.1/\((x.2=true/\m=phi 13000000 (x.1.getD i [])+1)\/(x.2=false/\m=0/\Mm t s i (x.1.getD i [])))) ?_ (phi 13000000 (out0.getD i [])+1) (out0,true) ⟨h1,.inl ⟨rfl,rfl⟩⟩
 rintro m ⟨out,ch⟩ ⟨hS,hm⟩
 simp only at hS hm
 unfold DH
 rcases hm with ⟨rfl,rfl⟩|⟨rfl,rfl,hR⟩
 ·refine Tot.iteT rfl (Tot.bind (Jee hT hs hi (Nat.le_refl _) hS) ?_)
  rintro ⟨out',ch'⟩ hP
  simp only at hP
  cases ch' with
  | false=>
   obtain ⟨e,hrel⟩:=hP.same rfl
   subst e
   exact Tot.pure ⟨0,by omega,hS,.inr ⟨rfl,rfl,JcE hT hi hS λ j k hj hk=>hrel j k (by omega) hk⟩⟩
  | true=>
   have:=hP.less rfl
   exact Tot.pure ⟨phi 13000000 (out'.getD i [])+1,by omega,hP.suf,.inl ⟨rfl,rfl⟩⟩
 ·refine Tot.iteF rfl (Tot.pure ⟨hS.len,λ i' h1 h2=>?_⟩)
  rcases Nat.eq_or_lt_of_le h1 with rfl|h
  ·exact hR
  ·exact hS.rows i' h h2
theorem PA:Tot (λ n=>Hj n t s) (λ out=>out.length=s.length+1/\∀ i,i<=s.length->Mm t s i (out.getD i [])):=by
 have hlen:=IN hT
 unfold Hj
 have e1:Ay .i64 ((s.length:Nat):Int) 1=((s.length+1:Nat):Int):=BT (by omega)
 refine Tot.bindE (FC hT.tab) ?_
 rw [e1]
 refine Tot.bindC (NS (by omega) (by omega)) ?_
 rw [JkM]
 refine Tot.bind (R:=λ out=>out.length=s.length+1/\∀ i,i<=s.length->Mm t s i (out.getD i [])) ?_ (λ out h=>Tot.pure h)
 refine Tot.whl (body:=λ n x=>E6 n t s (Ae t) x.1 x.2) (λ m x=>x.2=(m:Int)-1/\x.1.length=s.length+1/\m<=s.length+1/\∀ i',m<=i'->i'<=s.length->Mm t s i' (x.1.getD i' [])) ?_ (s.length+1) _ ⟨by simp,by simp,by omega,by omega⟩
 rintro m ⟨out,i'⟩ ⟨e2,e3,e4,e5⟩
 simp only at e2 e3 e5
 subst e2
 unfold E6
 cases m with
 | zero=>exact Tot.iteF (by simp) (Tot.pure ⟨e3,λ i hi=>e5 i (by omega) hi⟩)
 | succ i=>
  have ei:((i+1:Nat):Int)-1=(i:Int):=by omega
  rw [ei]
  refine Tot.iteT (by simp) (Tot.bindC (AX [] (show i<out.length by omega)) (Tot.bindC (NS (by omega) (by omega)) ?_))
  rw [JkM,JkM]
  refine Tot.bind (Jec hT hs (show i<=s.length by omega) (out.set i (List.replicate (Ae t).length 0)) (by rw [JkU];exact e3) (by rw [CT (by omega),List.length_replicate])) ?_
  rintro out1 rfl
  rw [List.set_set]
  refine Tot.bind (Jef hT hs (show i<=s.length by omega) ⟨by rw [JkU];exact e3,λ i' h1 h2=>?_,?_⟩) ?_
  ·rw [CK (by omega)];exact e5 i' (by omega) h2
  ·rw [CT (by omega)];exact Tp t _ _ _
  ·rintro out2 ⟨h1,h2⟩
   refine Tot.pure ⟨i,by omega,?_,h1,by omega,h2⟩
   show JI .i64 (i:Int) 1=(i:Int)-1
   rw [Yi (by omega) (by omega)]
end
end Go.AI
end
section
namespace Go.AI
def Rch (t:Ab) (s:List UInt8) (i:Nat) (q:Aa):Prop:=i<=s.length/\∃ p,FX t As p q/\A6 t p=s.take i
theorem Rch.start (t:Ab) (s:List UInt8):Rch t s 0 As:=⟨by omega,[],rfl,by simp [A6]⟩
theorem PC (t:Ab) (p:List Int) (k:Int):A6 t (p++[k])=A6 t p++prt t k:=by simp [A6]
theorem Rch.next {t:Ab} {s:List UInt8} {i:Nat} {q:Aa} {k:Int} (h:Rch t s i q) (hk:(Ap t q k).2=true) (hb:(prt t k).isPrefixOf (s.drop i)=true):Rch t s (i+(prt t k).length) (Ap t q k).1:=by
 obtain ⟨h1,p,h2,h3⟩:=h
 obtain ⟨q1,q2⟩:=Cz hb
 refine ⟨q2 h1,p++[k],h2.snoc hk,?_⟩
 rw [PC,h3,List.take_add,q1,List.take_left' rfl]
theorem Rch.ind {t:Ab} {s:List UInt8} {A:Nat->Aa->Prop} (h0:A 0 As) (h1:∀ i q (k:Nat),i<=s.length->A i q->(Ap t q k).2=true->(prt t k).isPrefixOf (s.drop i)=true->A (i+(prt t k).length) (Ap t q k).1):∀ {i:Nat} {q:Aa},Rch t s i q->A i q:=by
 have key:∀ (p:List Int) (i:Nat) (q q':Aa),A i q->i<=s.length->FX t q p q'->(∃ y,s.drop i=A6 t p++y)->A (i+(A6 t p).length) q':=by
  intro p
  induction p with
  | nil=>
   intro i q q' hA _ hg _
   unfold FX at hg
   subst hg
   simpa [A6] using hA
  | cons k p ih=>
   intro i q q' hA hi hg hy
   obtain ⟨g1,g2⟩:=hg
   obtain ⟨y,hy⟩:=hy
   obtain ⟨k,rfl⟩:∃ n:Nat,k=n:=⟨k.toNat,by have:=Cc g1;omega⟩
   rw [FD,List.append_assoc] at hy
   have hb:(prt t k).isPrefixOf (s.drop i)=true:=by rw [List.isPrefixOf_iff_prefix];exact ⟨_,hy.symm⟩
   obtain ⟨q1,q2⟩:=Cz hb
   have:=ih _ _ q' (h1 i q k hi hA g1 hb) (q2 hi) g2 ⟨y,by rw [q1] at hy;exact List.append_cancel_left hy⟩
   rw [FD,List.length_append,← Nat.add_assoc]
   exact this
 rintro i q ⟨hi,p,hg,ht⟩
 have:=key p 0 As q h0 (by omega) hg ⟨s.drop i,by rw [ht,List.drop_zero,List.take_append_drop]⟩
 rw [ht,List.length_take,JkR,Nat.min_eq_left hi] at this
 exact this
def Dn (s:List UInt8) (i:Nat):Int:=if i<s.length then FW (Px s i) else 0
theorem PD (s:List UInt8) (i:Nat):0<=Dn s i/\Dn s i<=5:=by
 unfold Dn
 split
 ·have:=Pw (Px s i);omega
 ·omega
def N5 (t:Ab) (s:List UInt8) (i:Nat):Prop:=∃ q,Rch t s i q/\Gz q.Need (Dn s i)=true
def Lr (t:Ab) (s:List UInt8) (v:Int):Prop:=(∃ i:Nat,v=i/\N5 t s i)/\∀ i:Nat,N5 t s i->(i:Int)<=v
theorem Lr.uniq {t:Ab} {s:List UInt8} {v w:Int} (h:Lr t s v) (h':Lr t s w):v=w:=by
 obtain ⟨⟨i,e1,h1⟩,h2⟩:=h
 obtain ⟨⟨j,e2,g1⟩,g2⟩:=h'
 have:=h2 j g1
 have:=g2 i h1
 omega
theorem JjS (t:Ab) (s:List UInt8):N5 t s 0:=by
 refine ⟨As,.start t s,?_⟩
 have h:=PD s 0
 generalize Dn s 0=c at h
 have:c=0\/c=1\/c=2\/c=3\/c=4\/c=5:=by omega
 rcases this with rfl|rfl|rfl|rfl|rfl|rfl<;>decide +kernel
def G5 (t:Ab) (s:List UInt8) (i:Nat) (v:Int):Prop:=(∃ j:Nat,v=j/\(j=0\/(j<i/\N5 t s j)))/\∀ j:Nat,j<i->N5 t s j->(j:Int)<=v
theorem G5.stop {t:Ab} {s:List UInt8} {i:Nat} (hs:N5 t s i):G5 t s (i+1) (i:Nat):=⟨⟨i,rfl,.inr ⟨by omega,hs⟩⟩,λ j h _=>by omega⟩
theorem G5.skip {t:Ab} {s:List UInt8} {i:Nat} {v:Int} (h:G5 t s i v) (hs:¬N5 t s i):G5 t s (i+1) v:=by
 obtain ⟨⟨j,e,h1⟩,h2⟩:=h
 refine ⟨⟨j,e,h1.imp id λ h=>⟨by omega,h.2⟩⟩,λ k hk hS=>?_⟩
 by_cases e:k=i
 ·subst e;exact absurd hS hs
 ·exact h2 k (by omega) hS
theorem G5.all {t:Ab} {s:List UInt8} {v:Int} (h:G5 t s (s.length+1) v):Lr t s v:=by
 obtain ⟨⟨j,e,h1⟩,h2⟩:=h
 refine ⟨⟨j,e,?_⟩,λ i hi=>h2 i ?_ hi⟩
 ·rcases h1 with rfl|h1
  ·exact JjS t s
  ·exact h1.2
 ·obtain ⟨q,hq,_⟩:=hi
  have:=hq.1
  omega
section
variable {t:Ab} (hT:Kg t) {s:List UInt8} (hs:s.length<=4000)
def UM (l:List (List Bool)):Nat:=(l.map λ r=>r.count false).sum
theorem JcG {l:List (List Bool)} {i j:Nat} {r:List Bool} (h:l[i]? = some r) (hj:r[j]? = some false):UM (l.set i (r.set j true))+1=UM l:=by
 induction l generalizing i with
 | nil=>simp at h
 | cons a l ih=>
  cases i with
  | zero=>
   simp only [List.getElem?_cons_zero,JkN] at h
   subst h
   have:=R9 hj
   unfold NY at this
   simp only [UM,List.set_cons_zero,List.map_cons,List.sum_cons]
   omega
  | succ i=>
   simp only [List.getElem?_cons_succ] at h
   have:=ih h
   simp only [UM,List.set_cons_succ,List.map_cons,List.sum_cons] at this ⊢
   omega
def Mk (m:List (List Bool)) (i j:Nat):Prop:=(m.getD i [])[j]? = some true
structure Rea (t:Ab) (s:List UInt8) (i:Nat) (m:List (List Bool)):Prop where
 len:m.length=s.length+1
 rows:∀ i,i<=s.length->(m.getD i []).length=(Ae t).length
 sound:∀ i j,i<=s.length->Mk m i j->∃ q,(Ae t)[j]? = some q/\Rch t s i q
 first:Mk m 0 0
 done:∀ i',i'<i->∀ j k:Nat,∀ q,Mk m i' j->(Ae t)[j]? = some q->(Ap t q k).2=true->(prt t k).isPrefixOf (s.drop i')=true->∃ j',(Ae t)[j']? = some (Ap t q k).1/\Mk m (i'+(prt t k).length) j'
def JjT (t:Ab) (s:List UInt8) (i:Nat) (m:List (List Bool)) (j k:Nat):Prop:=∀ q,Mk m i j->(Ae t)[j]? = some q->(Ap t q k).2=true->(prt t k).isPrefixOf (s.drop i)=true->∃ j',(Ae t)[j']? = some (Ap t q k).1/\Mk m (i+(prt t k).length) j'
structure N6 (t:Ab) (s:List UInt8) (i:Nat) (m0 m:List (List Bool)) (ch:Bool) (k r:Nat):Prop where
 rea:Rea t s i m
 same:ch=false->m=m0/\∀ j x,(j<k\/(j=k/\x<r))->x<t.Rules.length->JjT t s i m0 j x
 less:ch=true->UM m<UM m0
theorem Mk.set {m:List (List Bool)} {i j:Nat} (hi:i<m.length) (hj:j<(m.getD i []).length) {i' j':Nat}:Mk (m.set i ((m.getD i []).set j true)) i' j'↔(i=i'/\j=j')\/Mk m i' j':=by
 unfold Mk
 by_cases e:i=i'
 ·subst e
  rw [CT hi]
  by_cases e2:j=j'
  ·subst e2;rw [JkO hj];simp
  ·rw [JkT e2];simp [e2]
 ·rw [CK e];simp [e]
include hT hs
theorem Jeg {i:Nat} (hi:i<=s.length) {m0 m1:List (List Bool)} {ch1:Bool} {k:Nat} (hk:k<(Ae t).length) (x0:Int) (h1:N6 t s i m0 m1 ch1 k 0) :
  Tot (λ n=>whl (λ (x:((List (List Bool))×Bool×Int))=>Di n t s (Ae t) x0 (i:Int) (k:Int) x.1 x.2.1 x.2.2) n (m1,ch1,0)) (λ y=>N6 t s i m0 y.1 y.2 k t.Rules.length):=by
 have hlen:=IN hT
 have hrl:=hT.tab.1
 refine Tot.upto (body:=λ n x=>Di n t s (Ae t) x0 (i:Int) (k:Int) x.1 x.2.1 x.2.2) t.Rules.length (λ r x=>x.2.2=(r:Int)/\N6 t s i m0 x.1 x.2.1 k r) ?_ ?_ _ ⟨rfl,h1⟩
 ·rintro r ⟨m,ch,r'⟩ hr ⟨e1,hP⟩
  simp only at e1 hP
  subst e1
  have hq:(Ae t)[k]? = some (Ae t)[k]:=JkC hk
  have hqm:(Ae t)[k]∈Ae t:=List.getElem_mem hk
  have hA:=hP.rea
  have hrow:=hA.rows i hi
  have hil:i<m.length:=by rw [hA.len];omega
  have hJ:∀ m' ch',N6 t s i m0 m' ch' k (r+1)->Tot (λ n=>Ef n (r:Int) m' ch') (Rd2 (λ x:List (List Bool)×Bool×Int=>x.2.2=((r+1:Nat):Int)/\N6 t s i m0 x.1 x.2.1 k (r+1)) (λ y=>N6 t s i m0 y.1 y.2 k t.Rules.length)):=by
   intro m' ch' h
   unfold Ef
   exact Tot.pure ⟨BT (by omega),h⟩
  have hskip:∀ r1,r1<=t.Rules.length->(∀ x,r<=x->x<r1->JjT t s i m k x)->N6 t s i m0 m ch k r1:=by
   intro r1 _ hrel
   refine ⟨hA,λ hc=>⟨(hP.same hc).1,λ j x hjx hx=>?_⟩,hP.less⟩
   by_cases e:j=k/\r<=x
   ·obtain ⟨rfl,h2⟩:=e
    rw [← (hP.same hc).1];exact hrel x h2 (by omega)
   ·exact (hP.same hc).2 j x (by omega) hx
  have hgr:decide ((r:Int)<((t.Rules.length:Nat):Int))=true:=E2 hr
  obtain ⟨b,hb⟩:∃ b,(m.getD i [])[k]? = some b:=⟨_,JkC (by omega)⟩
  have hbd:(m.getD i []).getD k false=b:=by rw [JkL (l:=m.getD i []),hb];rfl
  unfold Di
  simp only [JkM,DM]
  refine Tot.gE hgr (Ev.all λ n=>AX [] hil) (Tot.gE hgr (Ev.all λ n=>AX false (by omega)) ?_)
  rw [hbd]
  cases b with
  | false=>
   refine Tot.iteF (by simp) (Tot.pure (hskip _ (Nat.le_refl _) λ x _ _ q hmk _ _ _=>?_))
   unfold Mk at hmk
   rw [hb] at hmk;cases hmk
  | true=>
   have hRr:=En (t:=t) (k:=(r:Int)) (by omega) (by omega)
   refine Tot.iteT (by rw [hgr];rfl) (Tot.bindC (Cb hq) (Tot.bindA (λ n=>E0 hT.tab.short n _ r) (Tot.bindC hRr ?_)))
   cases hst:(Ap t (Ae t)[k] r).2 with
   | false=>
    refine Tot.gF rfl (Tot.gF rfl (Tot.gF rfl (Tot.gF rfl (Tot.gF rfl (Tot.iteF rfl (hJ _ _ (hskip _ (by omega) λ x h1 h2 q _ hq' hs' _=>?_)))))))
    rw [hq] at hq';cases hq'
    have:x=r:=by omega
    subst this
    rw [hst] at hs';cases hs'
   | true=>
    obtain ⟨p1,p2,p3⟩:=hT.pr hst
    have hpl:(prt t r).length=(BC t r).Print.length:=rfl
    refine Tot.gE rfl (Ev.all λ n=>hRr) (Tot.gE rfl (Ev.all λ n=>Tn hi (by omega) (by omega) n) ?_)
    simp only [Bool.true_and]
    cases hpf:(BC t r).Print.isPrefixOf (s.drop i) with
    | false=>
     refine Tot.gF rfl (Tot.gF rfl (Tot.gF rfl (Tot.iteF rfl (hJ _ _ (hskip _ (by omega) λ x h1 h2 q _ hq' _ hb'=>?_)))))
     have:x=r:=by omega
     subst this
     rw [hpf] at hb';cases hb'
    | true=>
     obtain ⟨q1,q2⟩:=Cz hpf
     have q2:=q2 hi
     have e:Ay .i64 (i:Int) ((List.length (BC t r).Print:Nat):Int)=((i+(prt t r).length:Nat):Int):=by rw [Jm (by omega) (by omega)];omega
     rw [e]
     have hto:i+(prt t r).length<m.length:=by rw [hA.len];omega
     have hrow2:=hA.rows _ q2
     have hrow3:(m.getD (i+(prt t r).length) []).length=(Ae t).length:=hrow2
     obtain ⟨d,hd,hdg⟩:=BD (EF hT hqm hst)
     have hdl:=Aj hdg
     refine Tot.gE rfl (Ev.all λ n=>AX [] hto) (Tot.gE rfl (E1 (by omega)) ?_)
     rw [hd]
     refine Tot.gE rfl (Ev.all λ n=>AX false (by rw [JkM];omega)) ?_
     simp only [JkM,DM]
     obtain ⟨b2,hb2⟩:∃ b,(m.getD (i+(prt t r).length) [])[d]? = some b:=⟨_,JkC (by omega)⟩
     have hbd2:(m.getD (i+(prt t r).length) []).getD d false=b2:=by rw [JkL (l:=m.getD (i+(prt t r).length) []),hb2];rfl
     rw [hbd2]
     cases b2 with
     | true=>
      refine Tot.iteF rfl (hJ _ _ (hskip _ (by omega) λ x h1 h2 q _ hq' _ _=>?_))
      have:x=r:=by omega
      subst this
      rw [hq] at hq';cases hq'
      exact ⟨d,hdg,hb2⟩
     | false=>
      refine Tot.iteT rfl (Tot.bindC (AX [] hto) (Tot.bindE (E1 (by omega)) ?_))
      rw [hd]
      refine Tot.bindC (AX false (by omega)) (Tot.bindC (GA (by omega)) (hJ _ _ ?_))
      have hmk:∀ {i' j':Nat},Mk (m.set (i+(prt t r).length) ((m.getD (i+(prt t r).length) []).set d true)) i' j'↔(i+(prt t r).length=i'/\d=j')\/Mk m i' j':=Mk.set hto (by omega)
      refine ⟨⟨by rw [JkU];exact hA.len,λ i' h=>?_,λ i' j h hm=>?_,hmk.2 (.inr hA.first),λ i' h j x q hm hq' hs' hb'=>?_⟩,(λ h=>by cases h),λ _=>?_⟩
      ·by_cases e2:i+(prt t r).length=i'
       ·subst e2;rw [CT hto,JkU];exact hrow2
       ·rw [CK e2];exact hA.rows i' h
      ·rcases hmk.1 hm with ⟨rfl,rfl⟩|hm
       ·obtain ⟨q,g1,g2⟩:=hA.sound i k hi hb
        rw [hq] at g1;cases g1
        exact ⟨_,hdg,g2.next hst hpf⟩
       ·exact hA.sound i' j h hm
      ·rcases hmk.1 hm with ⟨h1,_⟩|hm
       ·omega
       ·obtain ⟨j',g1,g2⟩:=hA.done i' h j x q hm hq' hs' hb'
        exact ⟨j',g1,hmk.2 (.inr g2)⟩
      ·have:=JcG (l:=m) (i:=i+(prt t r).length) (j:=d) (r:=m.getD (i+(prt t r).length) []) (by rw [JkL,JkC hto];rfl) hb2
       cases hch:ch with
       | false=>rw [(hP.same hch).1] at this ⊢;omega
       | true=>have:=hP.less hch;omega
 ·rintro ⟨m,ch,r'⟩ ⟨e1,hP⟩
  simp only at e1 hP
  subst e1
  unfold Di
  simp only [JkM,DM]
  exact Tot.gF (Py _) (Tot.gF (Py _) (Tot.iteF (by rw [Py];rfl) (Tot.pure hP)))
theorem Jeh {i:Nat} (hi:i<=s.length) {m0:List (List Bool)} (x0:Int) (h1:Rea t s i m0) :
  Tot (λ n=>whl (λ (x:((List (List Bool))×Bool×Int))=>Dj n t s (Ae t) x0 (i:Int) x.1 x.2.1 x.2.2) n (m0,false,0)) (λ y=>N6 t s i m0 y.1 y.2 (Ae t).length 0):=by
 have hlen:=IN hT
 refine Tot.upto (body:=λ n x=>Dj n t s (Ae t) x0 (i:Int) x.1 x.2.1 x.2.2) (Ae t).length (λ k x=>x.2.2=(k:Int)/\N6 t s i m0 x.1 x.2.1 k 0) ?_ ?_ _ ⟨rfl,h1,λ _=>⟨rfl,λ j m h=>by omega⟩,λ h=>by cases h⟩
 ·rintro k ⟨out,ch,k'⟩ hk ⟨e1,hP⟩
  simp only at e1 hP
  subst e1
  unfold Dj
  refine Tot.iteT (E2 hk) (Tot.bind (Jeg hT hs hi hk x0 hP) ?_)
  rintro ⟨out',ch'⟩ hP'
  exact Tot.pure ⟨BT (by omega),hP'.rea,λ hc=>⟨(hP'.same hc).1,λ j m hjm hm=>(hP'.same hc).2 j m (by omega) hm⟩,hP'.less⟩
 ·rintro ⟨out,ch,k'⟩ ⟨e1,hP⟩
  simp only at e1 hP
  subst e1
  unfold Dj
  exact Tot.iteF (by simp) (Tot.pure hP)
theorem Jei {i:Nat} (hi:i<=s.length) {m0:List (List Bool)} (x0:Int) (h1:Rea t s i m0) :
  Tot (λ n=>whl (λ (x:((List (List Bool))×Bool))=>Eg n t s (Ae t) x0 (i:Int) x.1 x.2) n (m0,true)) (Rea t s (i+1)):=by
 refine Tot.whl (body:=λ n x=>Eg n t s (Ae t) x0 (i:Int) x.1 x.2) (λ c x=>Rea t s i x.1/\((x.2=true/\c=UM x.1+1)\/(x.2=false/\c=0/\Rea t s (i+1) x.1))) ?_ (UM m0+1) (m0,true) ⟨h1,.inl ⟨rfl,rfl⟩⟩
 rintro c ⟨m,ch⟩ ⟨hS,hm⟩
 simp only at hS hm
 unfold Eg
 rcases hm with ⟨rfl,rfl⟩|⟨rfl,rfl,hR⟩
 ·refine Tot.iteT rfl (Tot.bind (Jeh hT hs hi x0 hS) ?_)
  rintro ⟨m',ch'⟩ hP
  simp only at hP
  cases ch' with
  | false=>
   obtain ⟨e,hrel⟩:=hP.same rfl
   subst e
   refine Tot.pure ⟨0,by omega,hS,.inr ⟨rfl,rfl,hS.len,hS.rows,hS.sound,hS.first,λ i' hi' j k q hmk hq hst hpf=>?_⟩⟩
   by_cases e:i'=i
   ·subst e
    exact hrel j k (.inl (Aj hq)) (by have:=Cc hst;omega) q hmk hq hst hpf
   ·exact hS.done i' (by omega) j k q hmk hq hst hpf
  | true=>
   have:=hP.less rfl
   exact Tot.pure ⟨UM m'+1,by omega,hP.rea,.inl ⟨rfl,rfl⟩⟩
 ·exact Tot.iteF rfl (Tot.pure hR)
omit hs in
theorem Rea.all {i:Nat} {m:List (List Bool)} (h:Rea t s (i+1) m) {j:Nat} {q:Aa} (hq:(Ae t)[j]? = some q):Rch t s i q↔i<=s.length/\Mk m i j:=by
 constructor
 ·intro hr
  refine ⟨hr.1,?_⟩
  have key:∀ {i' q},Rch t s i' q->i'<=i->∃ j,(Ae t)[j]? = some q/\Mk m i' j:=λ {i' q} hr=>Rch.ind (A:=λ i' q=>i'<=i->∃ j,(Ae t)[j]? = some q/\Mk m i' j) (λ _=>⟨0,(BB hT.tab).1.first,h.first⟩) (λ i' q k hi' hA hst hpf hle=>by
   obtain ⟨j,h1,h2⟩:=hA (by omega)
   exact h.done i' (by omega) j k q h2 h1 hst hpf) hr
  obtain ⟨j',h1,h2⟩:=key hr (Nat.le_refl _)
  rwa [IE (P3 hT) hq h1]
 ·rintro ⟨h1,h2⟩
  obtain ⟨q',g1,g2⟩:=h.sound i j h1 h2
  rw [hq] at g1;cases g1
  exact g2
theorem Jej {i:Nat} (hi:i<=s.length) {m:List (List Bool)} (h:Rea t s (i+1) m) {v0:Int} (h0:G5 t s i v0) :
  Tot (λ n=>whl (λ (x:((List (List Bool))×Int×Int))=>Dk n t s (Ae t) (i:Int) (Dn s i) x.1 x.2.1 x.2.2) n (m,v0,0)) (λ y=>y.1=m/\G5 t s (i+1) y.2):=by
 have _:=hs
 have hlen:=IN hT
 refine Tot.upto (body:=λ n x=>Dk n t s (Ae t) (i:Int) (Dn s i) x.1 x.2.1 x.2.2) (Ae t).length (λ k x=>x.2.2=(k:Int)/\x.1=m/\(G5 t s (i+1) x.2.1/\N5 t s i\/(x.2.1=v0/\∀ j q,j<k->(Ae t)[j]? = some q->¬(Rch t s i q/\Gz q.Need (Dn s i)=true)))) ?_ ?_ _ ⟨rfl,rfl,.inr ⟨rfl,λ j q h=>by omega⟩⟩
 ·rintro k ⟨m',v,k'⟩ hk ⟨e1,e2,hv⟩
  simp only at e1 e2 hv
  subst e1 e2
  have hq:(Ae t)[k]? = some (Ae t)[k]:=JkC hk
  have hil:i<m'.length:=by rw [h.len];omega
  have hrow:=h.rows i hi
  obtain ⟨b,hb⟩:∃ b,(m'.getD i [])[k]? = some b:=⟨_,JkC (by omega)⟩
  have hbd:(m'.getD i []).getD k false=b:=by rw [JkL (l:=m'.getD i []),hb];rfl
  have hJ:∀ v',(G5 t s (i+1) v'/\N5 t s i\/(v'=v0/\∀ j q,j<k+1->(Ae t)[j]? = some q->¬(Rch t s i q/\Gz q.Need (Dn s i)=true)))->Tot (λ n=>Eh n (k:Int) m' v') (Rd2 (λ x:List (List Bool)×Int×Int=>x.2.2=((k+1:Nat):Int)/\x.1=m'/\(G5 t s (i+1) x.2.1/\N5 t s i\/(x.2.1=v0/\∀ j q,j<k+1->(Ae t)[j]? = some q->¬(Rch t s i q/\Gz q.Need (Dn s i)=true)))) (λ y=>y.1=m'/\G5 t s (i+1) y.2)):=by
   intro v' hh
   unfold Eh
   exact Tot.pure ⟨BT (by omega),rfl,hh⟩
  have hno:¬(Rch t s i (Ae t)[k]/\Gz (Ae t)[k].Need (Dn s i)=true)->(G5 t s (i+1) v/\N5 t s i\/(v=v0/\∀ j q,j<k+1->(Ae t)[j]? = some q->¬(Rch t s i q/\Gz q.Need (Dn s i)=true))):=by
   intro hn
   refine hv.imp id λ ⟨g1,g2⟩=>⟨g1,λ j q hj hjq=>?_⟩
   by_cases e:j=k
   ·subst e;rw [hq] at hjq;cases hjq;exact hn
   ·exact g2 j q (by omega) hjq
  unfold Dk
  simp only [JkM]
  refine Tot.iteT (E2 hk) (Tot.bindC (AX [] hil) (Tot.bindC (AX false (by omega)) ?_))
  rw [hbd]
  simp only [DM]
  cases b with
  | false=>
   refine Tot.gF rfl (Tot.gF rfl (Tot.iteF rfl (hJ v (hno λ hh=>?_))))
   have:=((Rea.all hT h hq).1 hh.1).2
   unfold Mk at this
   rw [hb] at this;cases this
  | true=>
   refine Tot.gE rfl (Ev.all λ n=>Cb hq) (Tot.gE rfl (Ev.all λ n=>Xu n _ _) (Tot.ite (λ hc=>?_) λ hc=>?_))
   ·have hst:N5 t s i:=⟨_,(Rea.all hT h hq).2 ⟨hi,hb⟩,by simpa using hc⟩
    exact hJ _ (.inl ⟨.stop hst,hst⟩)
   ·exact hJ v (hno λ hh=>by rw [hh.2] at hc;cases hc)
 ·rintro ⟨m',v,k'⟩ ⟨e1,e2,hv⟩
  simp only at e1 e2 hv
  subst e1 e2
  unfold Dk
  refine Tot.iteF (by simp) (Tot.pure ⟨rfl,?_⟩)
  rcases hv with hv|⟨rfl,hv⟩
  ·exact hv.1
  ·refine h0.skip ?_
   rintro ⟨q,h1,h2⟩
   have hmem:q∈Ae t:=by
    obtain ⟨j,hj,_⟩:=Rch.ind (A:=λ _ q=>∃ j,(Ae t)[j]? = some q/\True) ⟨0,(BB hT.tab).1.first,trivial⟩ (λ i' q k _ hA hst _=>by
     obtain ⟨j,hj,_⟩:=hA
     obtain ⟨d,_,hd⟩:=BD (EF hT (JkE hj) hst)
     exact ⟨d,hd,trivial⟩) h1
    exact JkE hj
   obtain ⟨j,hj,e⟩:=List.getElem_of_mem hmem
   exact hv j q hj (by rw [← e];exact JkC hj) ⟨h1,h2⟩
theorem XH:Tot (λ n=>Ij n t s) (Lr t s):=by
 have hlen:=IN hT
 have hf:=(BB hT.tab).1.first
 have hpos:=Aj hf
 unfold Ij
 have e1:Ay .i64 ((s.length:Nat):Int) 1=((s.length+1:Nat):Int):=BT (by omega)
 refine Tot.bindE (FC hT.tab) ?_
 rw [e1]
 refine Tot.bindC (NS (by omega) (by omega)) ?_
 rw [JkM]
 refine Tot.bind (R:=λ m=>m.length=s.length+1/\∀ i,i<=s.length->m.getD i []=List.replicate (Ae t).length false) ?_ ?_
 ·refine Tot.upto (body:=λ n x=>Ee n t s (Ae t) x.1 x.2) (s.length+1) (λ k x=>x.2=(k:Int)/\x.1.length=s.length+1/\∀ i,i<k->x.1.getD i []=List.replicate (Ae t).length false) ?_ ?_ _ ⟨rfl,by simp,by omega⟩
  ·rintro k ⟨m,k'⟩ hk ⟨g1,g2,g3⟩
   simp only at g1 g2 g3
   subst g1
   unfold Ee
   refine Tot.iteT (by simp;omega) (Tot.bindC (AX [] (show k<m.length by omega)) (Tot.bindC (NS (by omega) (by omega)) ?_))
   rw [JkM,JkM]
   refine Tot.pure ⟨BT (by omega),by rw [JkU];exact g2,λ i hi=>?_⟩
   by_cases e:k=i
   ·subst e;exact CT (show k<m.length by omega) _ _
   ·show (m.set k _).getD i []=_
    rw [CK e];exact g3 i (by omega)
  ·rintro ⟨m,k'⟩ ⟨g1,g2,g3⟩
   simp only at g1 g2 g3
   subst g1
   unfold Ee
   exact Tot.iteF (by simp;omega) (Tot.pure ⟨g2,λ i hi=>g3 i (by omega)⟩)
 ·rintro m ⟨g2,g3⟩
  have g0:=g3 0 (by omega)
  have h0l:(m.getD 0 []).length=(Ae t).length:=by rw [g0,List.length_replicate]
  refine Tot.bindC (AX (i:=0) [] (by omega)) (Tot.bindC (AX (i:=0) false (by omega)) (Tot.bindC (GA (i:=0) (by omega)) ?_))
  have hmk:∀ {i' j':Nat},Mk (m.set 0 ((m.getD 0 []).set 0 true)) i' j'↔(0=i'/\0=j')\/Mk m i' j':=Mk.set (by omega) (by omega)
  have hnm:∀ i j,i<=s.length->¬Mk m i j:=by
   intro i j hi hm
   unfold Mk at hm
   rw [g3 i hi,List.getElem?_replicate] at hm
   split at hm<;>cases hm
  have hR:Rea t s 0 (m.set 0 ((m.getD 0 []).set 0 true)):=by
   refine ⟨by rw [JkU];exact g2,λ i hi=>?_,λ i j hi hm=>?_,hmk.2 (.inl ⟨rfl,rfl⟩),λ i' h=>by omega⟩
   ·by_cases e:0=i
    ·subst e;rw [CT (by omega),JkU];exact h0l
    ·rw [CK e,g3 i hi,List.length_replicate]
   ·rcases hmk.1 hm with ⟨rfl,rfl⟩|hm
    ·exact ⟨_,hf,.start t s⟩
    ·exact absurd hm (hnm i j hi)
  refine Tot.bind (R:=Lr t s) ?_ (λ v hv=>Tot.pure hv)
  refine Tot.upto (body:=λ n x=>Ej n t s (Ae t) x.1 x.2.1 x.2.2) (s.length+1) (λ i x=>x.2.2=(i:Int)/\Rea t s i x.1/\G5 t s i x.2.1) ?_ ?_ _ ⟨rfl,hR,⟨0,rfl,.inl rfl⟩,by omega⟩
  ·rintro i ⟨m',v,i'⟩ hi ⟨k1,k2,k3⟩
   simp only at k1 k2 k3
   subst k1
   unfold Ej
   refine Tot.iteT (by simp;omega) (Tot.bind (Jei hT hs (show i<=s.length by omega) v k2) ?_)
   intro m2 hm2
   have hJ:∀ c,c=Dn s i->Tot (λ n=>Ei n t s (Ae t) v (i:Int) m2 c) (Rd2 (λ x:List (List Bool)×Int×Int=>x.2.2=((i+1:Nat):Int)/\Rea t s (i+1) x.1/\G5 t s (i+1) x.2.1) (Lr t s)):=by
    rintro c rfl
    unfold Ei
    refine Tot.bind (Jej hT hs (show i<=s.length by omega) hm2 k3) ?_
    rintro ⟨m3,v3⟩ ⟨rfl,hv3⟩
    exact Tot.pure ⟨BT (by omega),hm2,hv3⟩
   refine Tot.ite (λ h=>?_) λ h=>?_
   ·have hlt:i<s.length:=by simpa using h
    refine Tot.bindC (Kb hlt) (Tot.bindA (λ n=>Th n _) (hJ _ ?_))
    unfold Dn;rw [if_pos hlt]
   ·have hlt:¬i<s.length:=by simpa using h
    refine hJ 0 ?_
    unfold Dn;rw [if_neg hlt]
  ·rintro ⟨m',v,i'⟩ ⟨k1,k2,k3⟩
   simp only at k1 k2 k3
   subst k1
   unfold Ej
   exact Tot.iteF (by simp;omega) (Tot.pure k3.all)
end
end Go.AI
end
section
namespace Go.AI
def Jp (t:Ab) (q:Aa) (k:Nat):Option FJ:=if (Ap t q k).2=true then some ⟨k,BX (Ae t) (Ap t q k).1⟩ else none
def A5 (t:Ab) (q:Aa):List FJ:=(List.range t.Rules.length).filterMap (Jp t q)
theorem HZ {t:Ab} {q:Aa} {a:FJ}:a∈A5 t q↔∃ k:Nat,k<t.Rules.length/\(Ap t q k).2=true/\a=⟨k,BX (Ae t) (Ap t q k).1⟩:=by
 unfold A5
 rw [List.mem_filterMap]
 constructor
 ·rintro ⟨k,hk,h⟩
  unfold Jp at h
  split at h
  ·rename_i hs;cases h;exact ⟨k,List.mem_range.1 hk,hs,rfl⟩
  ·cases h
 ·rintro ⟨k,hk,hs,rfl⟩
  exact ⟨k,List.mem_range.2 hk,by unfold Jp;rw [if_pos hs]⟩
structure PE (t:Ab) (s:List UInt8) (w:Ad):Prop where
 tt:w.T=t
 ss:w.S=s
 st:w.States=Ae t
 al:w.Arcs.length=(Ae t).length
 arc:∀ (j:Nat) q,(Ae t)[j]? = some q->w.Arcs[j]? = some (A5 t q)
section
variable {t:Ab} (hT:Kg t) {s:List UInt8} (hs:s.length<=4000)
include hT hs
theorem Jek (x:List AB):Tot (λ n=>whl (λ (x_1:((List (Aa×Int))×Int))=>BY n t s (Ae t) x x_1.1 x_1.2) n ([],0)) (IC (Ae t)):=by
 have _:=hs
 have hlen:=IN hT
 refine Tot.upto (body:=λ n y=>BY n t s (Ae t) x y.1 y.2) (Ae t).length (λ k y=>y.2=(k:Int)/\IC ((Ae t).take k) y.1) ?_ ?_ _ ⟨rfl,λ q=>rfl⟩
 ·rintro k ⟨nb,k'⟩ hk ⟨e1,hN⟩
  simp only at e1 hN
  subst e1
  unfold BY
  refine Tot.iteT (E2 hk) (Tot.bindC (CE hk) (Tot.pure ⟨BT (by omega),?_⟩))
  have hn:=P3 hT
  have e:(Ae t).take (k+1)=(Ae t).take k++[(Ae t)[k]]:=by rw [List.take_add_one,JkC hk];rfl
  have hnd:((Ae t).take (k+1)).Nodup:=(List.take_sublist _ _).nodup hn
  rw [e] at hnd
  have hp:(Ae t)[k] ∉ (Ae t).take k:=by
   intro hm
   exact (List.nodup_append.1 hnd).2.2 _ hm _ (by simp) rfl
  have:=IC.snoc hN ((List.take_sublist _ _).nodup hn) hp
  rw [← e,List.length_take,Nat.min_eq_left (by omega)] at this
  exact this
 ·rintro ⟨nb,k'⟩ ⟨e1,hN⟩
  simp only at e1 hN
  subst e1
  rw [List.take_length] at hN
  unfold BY
  exact Tot.iteF (by simp) (Tot.pure hN)
omit hs in
theorem Jel {nb:List (Aa×Int)} (hN:IC (Ae t) nb) {q:Aa} (hq:q∈Ae t):Option.getD (Gt q nb) 0=BX (Ae t) q:=by
 obtain ⟨j,hj,hg⟩:=BD hq
 rw [hN q,CI (P3 hT) hg,hj];rfl
omit hs in
theorem Jem {nb:List (Aa×Int)} (hN:IC (Ae t) nb) {j:Nat} {q:Aa} (hq:(Ae t)[j]? = some q) (w0:Ad) (hl:w0.Arcs.length=(Ae t).length) (h0:w0.Arcs[j]? = some []) :
  Tot (λ n=>whl (λ (x:(Ad×Int))=>BZ n t (Ae t) nb (j:Int) q x.1 x.2) n (w0,0)) (λ w=>w={ w0 with Arcs:=w0.Arcs.set j (A5 t q) }):=by
 have hrl:=hT.tab.1
 have hjl:=Aj hq
 refine Tot.upto (body:=λ n x=>BZ n t (Ae t) nb (j:Int) q x.1 x.2) t.Rules.length (λ k x=>x.2=(k:Int)/\x.1={ w0 with Arcs:=w0.Arcs.set j ((List.range k).filterMap (Jp t q)) }/\((List.range k).filterMap (Jp t q)).length<=k) ?_ ?_ _ ⟨rfl,?_,by simp⟩
 ·rintro k ⟨w,k'⟩ hk ⟨e1,e2,e3⟩
  simp only at e1 e2 e3
  subst e1
  have hJ:∀ w',w'={ w0 with Arcs:=w0.Arcs.set j ((List.range (k+1)).filterMap (Jp t q)) }->Tot (λ n=>Cm n (k:Int) w') (Rd2 (λ x:Ad×Int=>x.2=((k+1:Nat):Int)/\x.1={ w0 with Arcs:=w0.Arcs.set j ((List.range (k+1)).filterMap (Jp t q)) }/\((List.range (k+1)).filterMap (Jp t q)).length<=k+1) (λ w=>w={ w0 with Arcs:=w0.Arcs.set j (A5 t q) })):=by
   intro w' hw
   unfold Cm
   refine Tot.pure ⟨BT (by omega),hw,?_⟩
   exact Nat.le_trans (List.length_filterMap_le _ _) (by simp)
  unfold BZ
  refine Tot.iteT (E2 hk) (Tot.bindA (λ n=>Qc hT.tab.short n q k) (Tot.ite (λ h=>?_) λ h=>?_))
  ·subst e2
   refine Tot.bindC (AX [] (by rw [JkU];omega)) ?_
   rw [CT (by omega)]
   refine Tot.bindC (D1 (by simp;omega)) (hJ _ ?_)
   rw [Jel hT hN (EF hT (JkE hq) h)]
   simp only [JkM,List.set_set,List.range_succ,List.filterMap_append]
   have:(List.filterMap (Jp t q) [k])=[⟨k,BX (Ae t) (Ap t q k).1⟩]:=by
    simp only [List.filterMap_cons,Jp,h,if_true,List.filterMap_nil]
   rw [this]
  ·refine hJ _ ?_
   rw [e2]
   simp only [List.range_succ,List.filterMap_append]
   have:(List.filterMap (Jp t q) [k])=[]:=by
    simp only [List.filterMap_cons,Jp,h,JkP,if_false,List.filterMap_nil]
   rw [this,List.append_nil]
 ·rintro ⟨w,k'⟩ ⟨e1,e2,e3⟩
  simp only at e1 e2
  subst e1
  unfold BZ
  exact Tot.iteF (by simp) (Tot.pure e2)
 ·show w0={ w0 with Arcs:=w0.Arcs.set j [] }
  have:w0.Arcs.set j []=w0.Arcs:=by
   have:=DM w0.Arcs j []
   rwa [JkL,h0] at this
  rw [this]
theorem Jis:Tot (λ n=>DR n t s) (λ w=>PE t s w/\w.Columns=List.replicate (s.length+1) ⟨[],[]⟩/\w.Last=0):=by
 have hlen:=IN hT
 unfold DR
 have e1:Ay .i64 ((s.length:Nat):Int) 1=((s.length+1:Nat):Int):=BT (by omega)
 refine Tot.bindE (Xy hT.tab) ?_
 rw [e1]
 refine Tot.bindC (NS (by omega) (by omega)) (Tot.bind (Jek hT hs _) ?_)
 intro nb hN
 refine Tot.bindC (NS (by omega) (by omega)) ?_
 simp only [JkM]
 refine Tot.bind (R:=λ w=>PE t s w/\w.Columns=List.replicate (s.length+1) ⟨[],[]⟩/\w.Last=0) ?_ (λ w h=>Tot.pure h)
 refine Tot.upto (body:=λ n x=>Cn n t (Ae t) nb x.1 x.2) (Ae t).length (λ k x=>x.2=(k:Int)/\∃ A,x.1=({ T:=t,S:=s,States:=Ae t,Arcs:=A,Columns:=List.replicate (s.length+1) ⟨[],[]⟩,Last:=0 }:Ad)/\A.length=(Ae t).length/\(∀ (j:Nat) q,j<k->(Ae t)[j]? = some q->A[j]? = some (A5 t q))/\∀ j,k<=j->j<(Ae t).length->A[j]? = some []) ?_ ?_ _ ⟨rfl,_,rfl,by simp,by omega,λ j _ h=>by rw [List.getElem?_replicate,if_pos h]⟩
 ·rintro k ⟨w,k'⟩ hk ⟨e1,A,e2,a1,a2,a3⟩
  simp only at e1 e2
  subst e1 e2
  have hq:(Ae t)[k]? = some (Ae t)[k]:=JkC hk
  unfold Cn
  refine Tot.iteT (E2 hk) (Tot.bindC (Cb hq) (Tot.bind (Jem hT hN hq _ a1 (a3 k (Nat.le_refl _) hk)) ?_))
  rintro w' rfl
  refine Tot.pure ⟨BT (by omega),_,rfl,by rw [JkU];exact a1,λ j q hj hjq=>?_,λ j h1 h2=>?_⟩
  ·by_cases e:k=j
   ·subst e
    rw [hq] at hjq;cases hjq
    exact JkO (show k<A.length by omega)
   ·rw [JkT e];exact a2 j q (by omega) hjq
  ·rw [JkT (by omega)];exact a3 j (by omega) h2
 ·rintro ⟨w,k'⟩ ⟨e1,A,e2,a1,a2,a3⟩
  simp only at e1 e2
  subst e1 e2
  unfold Cn
  exact Tot.iteF (by simp) (Tot.pure ⟨⟨rfl,rfl,rfl,a1,λ j q hq=>a2 j q (Aj hq) hq⟩,rfl,rfl⟩)
theorem OY {w:Ad} (hw:PE t s w) {i:Nat} (hi:i<=s.length) {q:Aa} {k:Nat} (hk:(Ap t q k).2=true) (n:Nat) :
  Bw n (i:Int) (k:Int) w=some (((i+(prt t k).length:Nat):Int),(prt t k).isPrefixOf (s.drop i)):=by
 have h:=Cc hk
 obtain ⟨p1,p2,p3⟩:=hT.pr hk
 have hpl:(prt t k).length=(BC t k).Print.length:=rfl
 unfold Bw ET ES
 rw [hw.tt,hw.ss,En h.1 h.2,Option.bind_some,Jch (by omega) (by omega) (by omega),Option.bind_some]
 simp only [JkM,List.take_length]
 have e1:Ay .i64 (i:Int) ((List.length (BC t k).Print:Nat):Int)=((i+(prt t k).length:Nat):Int):=by rw [Jm (by omega) (by omega)];omega
 rw [e1]
 by_cases hle:(prt t k).length<=(s.drop i).length
 ·have hd:decide (((List.length (s.drop i):Nat):Int)>=((List.length (BC t k).Print:Nat):Int))=true:=by simp only [ge_iff_le,decide_eq_true_eq];omega
  rw [if_pos hd,UD (by omega),Option.bind_some,hd,Bool.true_and,Option.bind_some,Option.bind_some]
  congr 2
  rw [Bool.eq_iff_iff,beq_iff_eq,List.isPrefixOf_iff_prefix]
  constructor
  ·intro h2
   have:=List.take_prefix (BC t k).Print.length (s.drop i)
   rw [h2] at this;exact this
  ·intro h2;exact (List.prefix_iff_eq_take.1 h2).symm
 ·have hd:decide (((List.length (s.drop i):Nat):Int)>=((List.length (BC t k).Print:Nat):Int))=false:=by simp only [ge_iff_le,decide_eq_false_iff_not];omega
  rw [if_neg (by rw [hd];simp),Option.bind_some,hd,Bool.false_and,Option.bind_some,Option.bind_some]
  congr 2
  rw [eq_comm,← Bool.not_eq_true,List.isPrefixOf_iff_prefix]
  intro hp'
  exact hle hp'.length_le
end
end Go.AI
end
section
namespace Go.AI
def A2 (w:Ad) (p:Nat):List Int:=(w.Columns.getD p default).States
def InC (w:Ad) (p:Nat) (v:Int):Prop:=v∈A2 w p
structure Kn (t:Ab) (s:List UInt8) (place:Nat) (w:Ad) (kn:List (List Bool)):Prop where
 base:PE t s w
 clen:w.Columns.length=s.length+1
 cost:∀ p,(w.Columns.getD p default).Costs=[]
 klen:kn.length=5
 rows:∀ c,c<5->(kn.getD c []).length=(Ae t).length
 nod:∀ p,(A2 w p).Nodup
 ok:∀ p v,InC w p v->∃ (j:Nat) (q:Aa),v=(j:Int)/\(Ae t)[j]? = some q/\Rch t s p q
 row:∀ p,place<=p->p<place+5->∀ j:Nat,(kn.getD (p % 5) [])[j]? = some true↔InC w p (j:Int)
 far:∀ p,place+5<=p->A2 w p=[]
structure H1 (w w':Ad):Prop where
 last:w'.Last=w.Last
 pre:∀ p,A2 w p <+: A2 w' p
theorem H1.refl (w:Ad):H1 w w:=⟨rfl,λ _=>List.prefix_rfl⟩
theorem H1.trans {w w' w'':Ad} (h:H1 w w') (h':H1 w' w''):H1 w w'':=⟨h'.last.trans h.last,λ p=>(h.pre p).trans (h'.pre p)⟩
theorem H1.inc {w w':Ad} (h:H1 w w') {p:Nat} {v:Int} (hv:InC w p v):InC w' p v:=(h.pre p).subset hv
theorem Sd {w:Ad} {p:Nat} (hp:p<w.Columns.length) (c:AB) (p':Nat) (a b d:Int) (x:List Av):((w.Columns.set p c).getD p' default)=if p=p' then c else w.Columns.getD p' default:=by
 split
 ·rename_i e;subst e;exact CT hp _ _
 ·rename_i e;exact CK e _ _
section
variable {t:Ab} (hT:Kg t) {s:List UInt8} (hs:s.length<=4000)
include hT hs
omit hs in
theorem Kn.len {place:Nat} {w:Ad} {kn:List (List Bool)} (h:Kn t s place w kn) (p:Nat):(A2 w p).length<=(Ae t).length:=by
 have _:=hT
 have hsub:∀ v∈A2 w p,v∈(List.range (Ae t).length).map (λ j:Nat=>(j:Int)):=by
  intro v hv
  obtain ⟨j,q,rfl,hq,_⟩:=h.ok p v hv
  exact List.mem_map.2 ⟨j,List.mem_range.2 (Aj hq),rfl⟩
 have:=(h.nod p).length_le_of_subset hsub
 simpa using this
omit hs in
theorem JcH {place:Nat} {w:Ad} {kn:List (List Bool)} (h:Kn t s place w kn) {p:Nat} (h1:place<=p) (h2:p<place+5) (hp:p<=s.length) {j:Nat} {q:Aa} (hq:(Ae t)[j]? = some q) (hr:Rch t s p q) :
  Tot (λ n=>BV n (p:Int) (j:Int) w kn) (λ y=>Kn t s place y.1 y.2/\H1 w y.1/\InC y.1 p (j:Int)):=by
 have hlen:=IN hT
 have hc5:p % 5<5:=Nat.mod_lt _ (by omega)
 have hjl:=Aj hq
 have hrl:=h.rows _ hc5
 obtain ⟨b,hb⟩:∃ b,(kn.getD (p % 5) [])[j]? = some b:=⟨_,JkC (by omega)⟩
 have hbd:(kn.getD (p % 5) []).getD j false=b:=by rw [JkL (l:=kn.getD (p % 5) []),hb];rfl
 have e5:Bz (p:Int) 5=((p % 5:Nat):Int):=by
  have:=(OW (a:=(p:Int)) (m:=5) (by omega) (by omega)).1
  rw [this];omega
 unfold BV
 rw [e5]
 simp only [JkM]
 refine Tot.bindC (AX [] (by rw [h.klen];exact hc5)) (Tot.bindC (ED (by simp;omega)) (Tot.bindC (AX false (by omega)) ?_))
 rw [hbd]
 cases b with
 | true=>
  refine Tot.iteF rfl (Tot.pure ?_)
  rw [DM]
  exact ⟨h,.refl w,(h.row p h1 h2 j).1 hb⟩
 | false=>
  have hcl:p<w.Columns.length:=by rw [h.clen];omega
  have hnl:=h.len hT p
  refine Tot.iteT rfl (Tot.bindC (AX false (by omega)) (Tot.bindC (GA (by omega)) (Tot.bindC (AX default hcl) (Tot.bindC (D1 (by show ((A2 w p).length+1)*8<=70368744177664;omega)) (Tot.pure ?_)))))
  have hni:¬InC w p (j:Int):=λ hin=>by have:=(h.row p h1 h2 j).2 hin;rw [hb] at this;cases this
  generalize hw':(⟨w.T,w.S,w.States,w.Arcs,w.Columns.set p ⟨(w.Columns.getD p default).States++[(j:Int)],(w.Columns.getD p default).Costs⟩,w.Last⟩:Ad)=w'
  have hcol:∀ p',w'.Columns.getD p' default=if p=p' then ⟨(w.Columns.getD p default).States++[(j:Int)],(w.Columns.getD p default).Costs⟩ else w.Columns.getD p' default:=by
   intro p'
   subst hw'
   exact Sd hcl _ p' 0 0 0 []
  have hcS:∀ p',A2 w' p'=if p=p' then A2 w p++[(j:Int)] else A2 w p':=by
   intro p'
   unfold A2
   rw [hcol]
   split<;>rfl
  have hin:∀ p' v,InC w' p' v↔InC w p' v\/(p=p'/\v=(j:Int)):=by
   intro p' v
   unfold InC
   rw [hcS]
   by_cases e:p=p'
   ·subst e;rw [if_pos rfl,List.mem_append,List.mem_singleton];simp
   ·rw [if_neg e];simp [e]
  have hkn:∀ c,(kn.set (p % 5) ((kn.getD (p % 5) []).set j true)).getD c []=if p % 5=c then (kn.getD (p % 5) []).set j true else kn.getD c []:=by
   intro c
   split
   ·rename_i e;subst e;exact CT (by rw [h.klen];exact hc5) _ _
   ·rename_i e;exact CK e _ _
  refine ⟨⟨?_,?_,λ p'=>?_,by rw [JkU];exact h.klen,λ c hc=>?_,λ p'=>?_,λ p' v hv=>?_,λ p' g1 g2 j'=>?_,λ p' g=>?_⟩,⟨?_,λ p'=>?_⟩,(hin _ _).2 (.inr ⟨rfl,rfl⟩)⟩
  ·subst hw';exact ⟨h.base.tt,h.base.ss,h.base.st,h.base.al,h.base.arc⟩
  ·subst hw';simp only [JkU];exact h.clen
  ·rw [hcol]
   split
   ·exact h.cost p
   ·exact h.cost p'
  ·rw [hkn]
   split
   ·rw [JkU];exact hrl
   ·exact h.rows c hc
  ·rw [hcS]
   split
   ·rw [List.nodup_append]
    exact ⟨h.nod p,by simp,λ a ha b hb e=>by simp at hb;subst hb;subst e;exact hni ha⟩
   ·exact h.nod p'
  ·rcases (hin p' v).1 hv with hv|⟨rfl,rfl⟩
   ·exact h.ok p' v hv
   ·exact ⟨j,q,rfl,hq,hr⟩
  ·rw [hkn,hin]
   by_cases e:p=p'
   ·subst e
    rw [if_pos rfl]
    by_cases e2:j=j'
    ·subst e2;rw [JkO (by omega)];simp
    ·rw [JkT e2,h.row p h1 h2 j']
     exact ⟨.inl,λ hh=>hh.resolve_right λ hh=>e2 (by have:=hh.2;omega)⟩
   ·rw [if_neg (by omega),h.row p' g1 g2 j']
    exact ⟨.inl,λ hh=>hh.resolve_right λ hh=>e hh.1⟩
  ·rw [hcS,if_neg (by omega)];exact h.far p' g
  ·subst hw';rfl
  ·rw [hcS]
   split
   ·rename_i e;subst e;exact List.prefix_append _ _
   ·exact List.prefix_rfl
def Clo (t:Ab) (s:List UInt8) (w:Ad) (p:Nat) (q:Aa):Prop:=∀ k:Nat,(Ap t q k).2=true->(prt t k).isPrefixOf (s.drop p)=true->∃ j:Nat,(Ae t)[j]? = some (Ap t q k).1/\InC w (p+(prt t k).length) (j:Int)
omit hT hs in
theorem Clo.ext {w w':Ad} {p:Nat} {q:Aa} (h:Clo t s w p q) (he:H1 w w'):Clo t s w' p q:=λ k h1 h2=>by
 obtain ⟨j,g1,g2⟩:=h k h1 h2
 exact ⟨j,g1,he.inc g2⟩
theorem ZB {place:Nat} (hpl:place<=s.length) {w:Ad} {kn:List (List Bool)} (h:Kn t s place w kn) {j:Nat} {q:Aa} (hq:(Ae t)[j]? = some q) (hr:Rch t s place q) (x0:Ad×List (List Bool)) (x1 x2:Int) :
  Tot (λ n=>whl (λ (x:(Ad×(List (List Bool))×Int))=>Bk n x0 (place:Int) x1 x2 (A5 t q) x.1 x.2.1 x.2.2) n (w,kn,0)) (λ y=>Kn t s place y.1 y.2/\H1 w y.1/\Clo t s y.1 place q):=by
 have hrl:=hT.tab.1
 have hal:(A5 t q).length<=t.Rules.length:=by unfold A5;exact Nat.le_trans (List.length_filterMap_le _ _) (by simp)
 refine Tot.upto (body:=λ n x=>Bk n x0 (place:Int) x1 x2 (A5 t q) x.1 x.2.1 x.2.2) (A5 t q).length (λ i x=>x.2.2=(i:Int)/\Kn t s place x.1 x.2.1/\H1 w x.1/\∀ (k:Nat) a,(∃ i',i'<i/\(A5 t q)[i']? = some a)->a.Rule=(k:Int)->(prt t k).isPrefixOf (s.drop place)=true->InC x.1 (place+(prt t k).length) a.To) ?_ ?_ _ ⟨rfl,h,.refl w,λ k a ⟨i',hi',_⟩=>by omega⟩
 ·rintro i ⟨w1,kn1,i'⟩ hi ⟨e1,hK,hE,hC⟩
  simp only at e1 hK hE hC
  subst e1
  have ha:(A5 t q)[i]? = some (A5 t q)[i]:=JkC hi
  obtain ⟨k,hk,hst,hae⟩:=HZ.1 (List.getElem_mem hi)
  have hJ:∀ w2 kn2,Kn t s place w2 kn2->H1 w1 w2->((prt t k).isPrefixOf (s.drop place)=true->InC w2 (place+(prt t k).length) (BX (Ae t) (Ap t q k).1))->Tot (λ n=>BH n (i:Int) w2 kn2) (Rd2 (λ x:Ad×(List (List Bool))×Int=>x.2.2=((i+1:Nat):Int)/\Kn t s place x.1 x.2.1/\H1 w x.1/\∀ (k:Nat) a,(∃ i',i'<i+1/\(A5 t q)[i']? = some a)->a.Rule=(k:Int)->(prt t k).isPrefixOf (s.drop place)=true->InC x.1 (place+(prt t k).length) a.To) (λ y=>Kn t s place y.1 y.2/\H1 w y.1/\Clo t s y.1 place q)):=by
   intro w2 kn2 g1 g2 g3
   unfold BH
   refine Tot.pure ⟨BT (by omega),g1,hE.trans g2,?_⟩
   rintro k' a ⟨i',hi',hia⟩ hak hpf
   by_cases e:i'=i
   ·subst e
    rw [ha,hae] at hia
    cases hia
    simp only at hak
    have:k=k':=by omega
    subst this
    exact g3 hpf
   ·exact g2.inc (hC k' a ⟨i',by omega,hia⟩ hak hpf)
  unfold Bk
  refine Tot.iteT (E2 hi) (Tot.bindC (Cb ha) ?_)
  rw [hae]
  refine Tot.bindA (λ n=>OY hT hs hK.base hpl hst n) (Tot.ite (λ hpf=>?_) λ hpf=>?_)
  ·obtain ⟨d,hd,hdg⟩:=BD (EF hT (JkE hq) hst)
   obtain ⟨p1,_,_⟩:=hT.pr hst
   have hle:=(Cz hpf).2 hpl
   simp only
   rw [hd]
   refine Tot.bind (JcH hT hK (p:=place+(prt t k).length) (by omega) (by omega) hle hdg (hr.next hst hpf)) ?_
   rintro ⟨w2,kn2⟩ ⟨g1,g2,g3⟩
   exact hJ w2 kn2 g1 g2 λ _=>by rw [hd];exact g3
  ·exact hJ w1 kn1 hK (.refl w1) λ hh=>by
    have:(prt t k).isPrefixOf (s.drop place)=false:=hpf
    rw [hh] at this;cases this
 ·rintro ⟨w1,kn1,i'⟩ ⟨e1,hK,hE,hC⟩
  simp only at e1 hK hE hC
  subst e1
  unfold Bk
  refine Tot.iteF (by simp) (Tot.pure ⟨hK,hE,λ k hst hpf=>?_⟩)
  obtain ⟨d,hd,hdg⟩:=BD (EF hT (JkE hq) hst)
  have hm:(⟨k,BX (Ae t) (Ap t q k).1⟩:FJ)∈A5 t q:=HZ.2 ⟨k,by have:=Cc hst;omega,hst,rfl⟩
  obtain ⟨i',hi',e⟩:=List.getElem_of_mem hm
  have:=hC k _ ⟨i',hi',by rw [JkC hi',e]⟩ rfl hpf
  simp only [hd] at this
  exact ⟨d,hdg,this⟩
omit hT hs in
theorem JcI {m c:Int} (h:0<=c) (h':c<=5):((Cr .u8 (QV .u8 m c) 1)==1)=Gz m c:=by
 unfold Gz
 rw [decide_eq_true h,decide_eq_true (show c<8 by omega)];rfl
omit hT hs in
theorem G6 (w:Ad) (p:Nat) (d:AB):(⟨w.T,w.S,w.States,w.Arcs,w.Columns.set p (w.Columns.getD p d),w.Last⟩:Ad)=w:=by rw [DM]
omit hT hs in
theorem Kn.last {place:Nat} {w:Ad} {kn:List (List Bool)} (h:Kn t s place w kn) (v:Int):Kn t s place { w with Last:=v } kn:=⟨⟨h.base.tt,h.base.ss,h.base.st,h.base.al,h.base.arc⟩,h.clen,h.cost,h.klen,h.rows,h.nod,h.ok,h.row,h.far⟩
structure R3 (t:Ab) (s:List UInt8) (place:Nat) (v0:Int) (w0 w:Ad) (kn:List (List Bool)) (i:Nat):Prop where
 kn:Kn t s place w kn
 pre:∀ p,A2 w0 p <+: A2 w p
 le:i<=(A2 w place).length
 clo:∀ i' v,i'<i->(A2 w place)[i']? = some v->∀ (j:Nat) q,v=(j:Int)->(Ae t)[j]? = some q->Clo t s w place q
 last:(w.Last=(place:Int)/\N5 t s place)\/(w.Last=v0/\∀ i' v,i'<i->(A2 w place)[i']? = some v->∀ (j:Nat) q,v=(j:Int)->(Ae t)[j]? = some q->Gz q.Need (Dn s place)=false)
theorem ZC {place:Nat} (hpl:place<=s.length) {w0:Ad} {kn:List (List Bool)} (h:Kn t s place w0 kn) (x0:Ad×List (List Bool)) :
  Tot (λ n=>whl (λ (x:(Ad×(List (List Bool))×Int))=>BJ n x0 (place:Int) (Dn s place) x.1 x.2.1 x.2.2) n (w0,kn,0)) (λ y=>R3 t s place w0.Last w0 y.1 y.2 (A2 y.1 place).length):=by
 have hlen:=IN hT
 refine Tot.whl (body:=λ n x=>BJ n x0 (place:Int) (Dn s place) x.1 x.2.1 x.2.2) (λ m x=>∃ i:Nat,m=1000-i/\x.2.2=(i:Int)/\R3 t s place w0.Last w0 x.1 x.2.1 i) ?_ 1000 _ ⟨0,rfl,rfl,h,λ _=>List.prefix_rfl,by omega,λ i' v h=>by omega,.inr ⟨rfl,λ i' v h=>by omega⟩⟩
 rintro m ⟨w,kn,i'⟩ ⟨i,rfl,e1,hR⟩
 simp only at e1 hR
 subst e1
 have hK:=hR.kn
 have hcl:place<w.Columns.length:=by rw [hK.clen];omega
 have hll:=hK.len hT place
 unfold BJ
 simp only [JkM]
 refine Tot.bindC (AX default hcl) ?_
 simp only [G6,DM]
 rcases Nat.lt_or_ge i (A2 w place).length with hi|hi
 ·refine Tot.iteT (E2 hi) (Tot.bindC (AX default hcl) ?_)
  simp only [DM]
  have hv:(A2 w place)[i]? = some (A2 w place)[i]:=JkC hi
  obtain ⟨j,q,hvj,hq,hr⟩:=hK.ok place _ (JkE hv)
  refine Tot.bindC (Cb hv) ?_
  rw [hvj]
  have hcr:=PD s place
  refine Tot.bindC (show idx w.States (j:Int)=some q by rw [hK.base.st];exact Cb hq) (Tot.bindC (ED (by simp;exact hcr.1)) ?_)
  rw [JcI hcr.1 hcr.2]
  have hJ:∀ w1,Kn t s place w1 kn->(∀ p,A2 w1 p=A2 w p)->((w1.Last=(place:Int)/\N5 t s place)\/(w1.Last=w0.Last/\(∀ i' v,i'<i->(A2 w place)[i']? = some v->∀ (j:Nat) q,v=(j:Int)->(Ae t)[j]? = some q->Gz q.Need (Dn s place)=false)/\Gz q.Need (Dn s place)=false)) ->
    Tot (λ n=>BI n x0 (place:Int) (Dn s place) kn (i:Int) (j:Int) w1) (Rd2 (λ y:Ad×(List (List Bool))×Int=>∃ m',m'<1000-i/\∃ i:Nat,m'=1000-i/\y.2.2=(i:Int)/\R3 t s place w0.Last w0 y.1 y.2.1 i) (λ y=>R3 t s place w0.Last w0 y.1 y.2 (A2 y.1 place).length)):=by
   intro w1 hK1 hc1 hl1
   unfold BI
   refine Tot.bindC (Cb (hK1.base.arc j q hq)) (Tot.bind (ZB hT hs hpl hK1 hq hr x0 (Dn s place) (i:Int)) ?_)
   rintro ⟨w2,kn2⟩ ⟨g1,g2,g3⟩
   simp only at g1 g2 g3
   have hpre:∀ p,A2 w p <+: A2 w2 p:=λ p=>by rw [← hc1 p];exact g2.pre p
   have hgetp:∀ i' v,i'<(A2 w place).length->((A2 w2 place)[i']? = some v↔(A2 w place)[i']? = some v):=by
    intro i' v hi'
    have:=LG (hpre place) (JkC hi')
    rw [this,JkC hi']
   refine Tot.pure ⟨1000-(i+1),by omega,i+1,rfl,BT (by omega),g1,λ p=>(hR.pre p).trans (hpre p),Nat.le_trans hi (hpre place).length_le,λ i' v hi' hv' j' q' hj' hq'=>?_,?_⟩
   ·rw [hgetp i' v (by omega)] at hv'
    by_cases e:i'=i
    ·subst e
     rw [hv] at hv'
     cases hv'
     have:j=j':=by omega
     subst this
     rw [hq] at hq';cases hq'
     exact g3
    ·have:=hR.clo i' v (by omega) hv' j' q' hj' hq'
     exact λ k h1 h2=>by
      obtain ⟨d,d1,d2⟩:=this k h1 h2
      exact ⟨d,d1,(hpre _).subset d2⟩
   ·rw [g2.last]
    refine hl1.imp id λ ⟨l1,l2,l3⟩=>⟨l1,λ i' v hi' hv' j' q' hj' hq'=>?_⟩
    rw [hgetp i' v (by omega)] at hv'
    by_cases e:i'=i
    ·subst e
     rw [hv] at hv'
     cases hv'
     have:j=j':=by omega
     subst this
     rw [hq] at hq';cases hq'
     exact l3
    ·exact l2 i' v (by omega) hv' j' q' hj' hq'
  refine Tot.ite (λ hc=>?_) λ hc=>?_
  ·exact hJ { w with Last:=(place:Int) } (hK.last _) (λ p=>rfl) (.inl ⟨rfl,q,hr,hc⟩)
  ·exact hJ w hK (λ p=>rfl) (hR.last.imp id λ ⟨l1,l2⟩=>⟨l1,l2,hc⟩)
 ·have:i=(A2 w place).length:=by have:=hR.le;omega
  refine Tot.iteF (by simp only [decide_eq_false_iff_not];show ¬((i:Int)<(((A2 w place).length:Nat):Int));omega) (Tot.pure ?_)
  show R3 t s place w0.Last w0 w kn (A2 w place).length
  rw [← this];exact hR
end
end Go.AI
end
section
namespace Go.AI
structure WR (t:Ab) (s:List UInt8) (w:Ad):Prop where
 base:PE t s w
 clen:w.Columns.length=s.length+1
 cost:∀ p,(w.Columns.getD p default).Costs=[]
 nod:∀ p,(A2 w p).Nodup
 ok:∀ p v,InC w p v->∃ (j:Nat) (q:Aa),v=(j:Int)/\(Ae t)[j]? = some q/\Rch t s p q
 all:∀ p (j:Nat) q,(Ae t)[j]? = some q->Rch t s p q->InC w p (j:Int)
 sort:∀ p,p<=s.length->(A2 w p).Pairwise (·<=·)
 last:Lr t s w.Last
structure R2 (t:Ab) (s:List UInt8) (place:Nat) (w:Ad) (kn:List (List Bool)):Prop where
 kn:Kn t s place w kn
 sort:∀ p,p<place->(A2 w p).Pairwise (·<=·)
 clo:∀ p,p<place->∀ v,InC w p v->∀ (j:Nat) q,v=(j:Int)->(Ae t)[j]? = some q->Clo t s w p q
 last:G5 t s place w.Last
 first:InC w 0 0
section
variable {t:Ab} (hT:Kg t) {s:List UInt8} (hs:s.length<=4000)
include hT hs
theorem ZD {place:Nat} (hpl:place<=s.length) {w:Ad} {kn:List (List Bool)} (h:R2 t s place w kn) (x0:Ad×List (List Bool)) :
  Tot (λ n=>Bl n x0 w kn (place:Int) (Dn s place)) (Rd2 (λ y:Ad×(List (List Bool))×Int=>y.2.2=((place+1:Nat):Int)/\R2 t s (place+1) y.1 y.2.1) (λ _=>False)):=by
 have hlen:=IN hT
 have e5:Bz (place:Int) 5=((place % 5:Nat):Int):=by
  have:=(OW (a:=(place:Int)) (m:=5) (by omega) (by omega)).1
  rw [this];omega
 have hc5:place % 5<5:=Nat.mod_lt _ (by omega)
 unfold Bl
 refine Tot.bind (ZC hT hs hpl h.kn x0) ?_
 rintro ⟨w1,kn1⟩ hR
 simp only at hR
 have hK:=hR.kn
 have hcl:place<w1.Columns.length:=by rw [hK.clen];omega
 have hll:=hK.len hT place
 refine Tot.bindC (AX default hcl) ?_
 have hsort:Te 0 (w1.Columns.getD place default).States=some (JJ (A2 w1 place)):=by
  unfold Te X2
  rw [if_pos (show (w1.Columns.getD place default).States.length<4611686018427387904 from (show (A2 w1 place).length<4611686018427387904 by omega))];rfl
 have hperm:=KY (A2 w1 place)
 refine Tot.bindA (λ n=>hsort) (Tot.bindC (ED (by rw [decide_eq_true_eq];exact hperm.length_eq.symm)) ?_)
 rw [e5]
 refine Tot.bindC (AX [] (by rw [hK.klen];exact hc5)) (Tot.bindC (ED (by simp;omega)) (Tot.pure ⟨BT (by omega),?_⟩))
 simp only [JkM]
 generalize hw':(⟨w1.T,w1.S,w1.States,w1.Arcs,w1.Columns.set place ⟨JJ (A2 w1 place),(w1.Columns.getD place default).Costs⟩,w1.Last⟩:Ad)=w'
 have hcol:∀ p',w'.Columns.getD p' default=if place=p' then ⟨JJ (A2 w1 place),(w1.Columns.getD place default).Costs⟩ else w1.Columns.getD p' default:=by
  intro p'
  subst hw'
  exact Sd hcl _ p' 0 0 0 []
 have hcS:∀ p',A2 w' p'=if place=p' then JJ (A2 w1 place) else A2 w1 p':=by
  intro p'
  show (w'.Columns.getD p' default).States=_
  rw [hcol]
  split<;>rfl
 have hin:∀ p' v,InC w' p' v↔InC w1 p' v:=by
  intro p' v
  unfold InC
  rw [hcS]
  split
  ·rename_i e;subst e;exact hperm.mem_iff
  ·exact Iff.rfl
 have hkn:∀ c,(kn1.set (place % 5) (List.replicate (kn1.getD (place % 5) []).length false)).getD c []=if place % 5=c then List.replicate (kn1.getD (place % 5) []).length false else kn1.getD c []:=by
  intro c
  split
  ·rename_i e;subst e;exact CT (by rw [hK.klen];exact hc5) _ _
  ·rename_i e;exact CK e _ _
 have hclo:∀ {p q},Clo t s w1 p q->Clo t s w' p q:=λ {p q} hh k h1 h2=>by
  obtain ⟨j,g1,g2⟩:=hh k h1 h2
  exact ⟨j,g1,(hin _ _).2 g2⟩
 refine ⟨⟨?_,?_,λ p'=>?_,by rw [JkU];exact hK.klen,λ c hc=>?_,λ p'=>?_,λ p' v hv=>hK.ok p' v ((hin _ _).1 hv),λ p' g1 g2 j'=>?_,λ p' g=>?_⟩,λ p' g=>?_,λ p' g v hv j q hj hq=>hclo ?_,?_,(hin _ _).2 ((hR.pre 0).subset h.first)⟩
 ·subst hw';exact ⟨hK.base.tt,hK.base.ss,hK.base.st,hK.base.al,hK.base.arc⟩
 ·subst hw';simp only [JkU];exact hK.clen
 ·rw [hcol]
  split
  ·exact hK.cost place
  ·exact hK.cost p'
 ·rw [hkn]
  split
  ·rename_i e;rw [List.length_replicate,e];exact hK.rows c hc
  ·exact hK.rows c hc
 ·rw [hcS]
  split
  ·exact hperm.nodup_iff.2 (hK.nod place)
  ·exact hK.nod p'
 ·rw [hkn,hin]
  by_cases e:place % 5=p' % 5
  ·rw [if_pos e]
   have hp5:p'=place+5:=by omega
   have hf:=hK.far p' (by omega)
   unfold InC
   rw [hf,List.getElem?_replicate]
   constructor
   ·intro hh
    split at hh<;>cases hh
   ·intro hh;cases hh
  ·rw [if_neg e,hK.row p' (by omega) (by omega) j']
 ·rw [hcS,if_neg (by omega)];exact hK.far p' (by omega)
 ·rw [hcS]
  split
  ·exact IG _
  ·rename_i e
   have:A2 w1 p'=A2 w p':=by
    have h1:=hR.pre p'
    obtain ⟨l,hl⟩:=h1
    have hp':p'<place:=by omega
    cases l with
    | nil=>rw [← hl,List.append_nil]
    | cons a l=>
     exfalso
     have ha:InC w1 p' a:=by unfold InC;rw [← hl];simp
     obtain ⟨j,q,e1,e2,e3⟩:=hK.ok p' a ha
     have hin0:InC w p' a:=by
      have key:∀ {i' q},Rch t s i' q->i'<place->∃ j:Nat,(Ae t)[j]? = some q/\InC w i' (j:Int):=λ {i' q} hr=>Rch.ind (A:=λ i' q=>i'<place->∃ j:Nat,(Ae t)[j]? = some q/\InC w i' (j:Int)) (λ _=>⟨0,(BB hT.tab).1.first,h.first⟩) (λ i' q k hi' hA hst hpf hlt=>by
       obtain ⟨j,h1,h2⟩:=hA (by omega)
       exact h.clo i' (by omega) _ h2 j q rfl h1 k hst hpf) hr
      obtain ⟨j',g1,g2⟩:=key e3 hp'
      rw [e1,IE (P3 hT) e2 g1];exact g2
     have hnd:=hK.nod p'
     rw [← hl,List.nodup_append] at hnd
     exact hnd.2.2 a hin0 a (by simp) rfl
   rw [this];exact h.sort p' (by omega)
 ·by_cases e:p'=place
  ·subst e
   obtain ⟨i',hi',e1⟩:=List.getElem_of_mem ((hin _ _).1 hv)
   exact hR.clo i' v hi' (by rw [← e1];exact JkC hi') j q hj hq
  ·have hp':p'<place:=by omega
   obtain ⟨j2,q2,e1,e2,e3⟩:=hK.ok p' v ((hin _ _).1 hv)
   have hin0:InC w p' v:=by
    have key:∀ {i' q},Rch t s i' q->i'<place->∃ j:Nat,(Ae t)[j]? = some q/\InC w i' (j:Int):=λ {i' q} hr=>Rch.ind (A:=λ i' q=>i'<place->∃ j:Nat,(Ae t)[j]? = some q/\InC w i' (j:Int)) (λ _=>⟨0,(BB hT.tab).1.first,h.first⟩) (λ i' q k hi' hA hst hpf hlt=>by
     obtain ⟨j,h1,h2⟩:=hA (by omega)
     exact h.clo i' (by omega) _ h2 j q rfl h1 k hst hpf) hr
    obtain ⟨j',g1,g2⟩:=key e3 hp'
    rw [e1,IE (P3 hT) e2 g1];exact g2
   exact λ k h1 h2=>by
    obtain ⟨d,d1,d2⟩:=h.clo p' hp' v hin0 j q hj hq k h1 h2
    exact ⟨d,d1,(hR.pre _).subset d2⟩
 ·have hl':w'.Last=w1.Last:=by subst hw';rfl
  rw [hl']
  rcases hR.last with ⟨l1,l2⟩|⟨l1,l2⟩
  ·rw [l1];exact .stop l2
  ·rw [l1]
   refine h.last.skip ?_
   rintro ⟨q,hr,hn⟩
   have hA:∃ j:Nat,(Ae t)[j]? = some q/\InC w1 place (j:Int):=by
    have key:∀ {i' q},Rch t s i' q->i'<=place->∃ j:Nat,(Ae t)[j]? = some q/\InC w1 i' (j:Int):=λ {i' q} hr=>Rch.ind (A:=λ i' q=>i'<=place->∃ j:Nat,(Ae t)[j]? = some q/\InC w1 i' (j:Int)) (λ _=>⟨0,(BB hT.tab).1.first,(hR.pre 0).subset h.first⟩) (λ i' q k hi' hA hst hpf hle=>by
     obtain ⟨j,h1,h2⟩:=hA (by omega)
     by_cases e:i'=place
     ·subst e
      obtain ⟨x,hx,e1⟩:=List.getElem_of_mem h2
      exact hR.clo x _ hx (by rw [← e1];exact JkC hx) j q rfl h1 k hst hpf
     ·have hin0:InC w i' (j:Int):=by
       have key2:∀ {i' q},Rch t s i' q->i'<place->∃ j:Nat,(Ae t)[j]? = some q/\InC w i' (j:Int):=λ {i' q} hr=>Rch.ind (A:=λ i' q=>i'<place->∃ j:Nat,(Ae t)[j]? = some q/\InC w i' (j:Int)) (λ _=>⟨0,(BB hT.tab).1.first,h.first⟩) (λ i' q k hi' hA hst hpf hlt=>by
        obtain ⟨j,h1,h2⟩:=hA (by omega)
        exact h.clo i' (by omega) _ h2 j q rfl h1 k hst hpf) hr
       obtain ⟨j2,q2,e1,e2,e3⟩:=hK.ok i' _ h2
       obtain ⟨j',g1,g2⟩:=key2 e3 (by omega)
       rw [e1,IE (P3 hT) e2 g1];exact g2
      obtain ⟨d,d1,d2⟩:=h.clo i' (by omega) _ hin0 j q rfl h1 k hst hpf
      exact ⟨d,d1,(hR.pre _).subset d2⟩) hr
    exact key hr (Nat.le_refl _)
   obtain ⟨j,h1,h2⟩:=hA
   obtain ⟨x,hx,e1⟩:=List.getElem_of_mem h2
   have:=l2 x _ hx (by rw [← e1];exact JkC hx) j q rfl h1
   rw [hn] at this;cases this
theorem JcJ {w:Ad} (hw:PE t s w) (hc:w.Columns=List.replicate (s.length+1) ⟨[],[]⟩) (hl:w.Last=0):Tot (λ n=>CN n w) (WR t s):=by
 have hlen:=IN hT
 have hf:=(BB hT.tab).1.first
 have hcg:∀ p,w.Columns.getD p default=⟨[],[]⟩:=by
  intro p
  rw [hc,JkL,List.getElem?_replicate]
  split<;>rfl
 have hcS:∀ p,A2 w p=[]:=λ p=>by show (w.Columns.getD p default).States=[];rw [hcg]
 unfold CN
 refine Tot.bind (R:=λ kn=>kn.length=5/\∀ c,c<5->kn.getD c []=List.replicate (Ae t).length false) ?_ ?_
 ·refine Tot.upto (body:=λ n x=>BG n w x.1 x.2) 5 (λ k x=>x.2=(k:Int)/\x.1.length=5/\∀ c,c<k->x.1.getD c []=List.replicate (Ae t).length false) ?_ ?_ _ ⟨rfl,rfl,by omega⟩
  ·rintro k ⟨m,k'⟩ hk ⟨g1,g2,g3⟩
   simp only at g1 g2 g3
   subst g1
   unfold BG
   refine Tot.iteT (by simp;omega) (Tot.bindC (AX [] (show k<m.length by omega)) (Tot.bindC (NS (by omega) (by rw [hw.st];omega)) (Tot.bindC (ED (by simp;omega)) ?_)))
   rw [hw.st,JkM,JkM]
   refine Tot.pure ⟨BT (by omega),by rw [JkU];exact g2,λ c hc=>?_⟩
   by_cases e:k=c
   ·subst e;exact CT (show k<m.length by omega) _ _
   ·show (m.set k _).getD c []=_
    rw [CK e];exact g3 c (by omega)
  ·rintro ⟨m,k'⟩ ⟨g1,g2,g3⟩
   simp only at g1 g2 g3
   subst g1
   unfold BG
   exact Tot.iteF (by simp) (Tot.pure ⟨g2,g3⟩)
 ·rintro kn ⟨k1,k2⟩
  have hK:Kn t s 0 w kn:=by
   refine ⟨hw,by rw [hc,List.length_replicate],λ p=>by rw [hcg],k1,λ c hc=>by rw [k2 c hc,List.length_replicate],λ p=>by rw [hcS];exact List.nodup_nil,λ p v hv=>?_,λ p _ h2 j=>?_,λ p _=>hcS p⟩
   ·unfold InC at hv;rw [hcS] at hv;cases hv
   ·unfold InC
    rw [hcS,k2 _ (Nat.mod_lt _ (by omega)),List.getElem?_replicate]
    constructor
    ·intro hh;split at hh<;>cases hh
    ·intro hh;cases hh
  refine Tot.bind (JcH hT hK (p:=0) (j:=0) (by omega) (by omega) (by omega) hf (.start t s)) ?_
  rintro ⟨w1,kn1⟩ ⟨g1,g2,g3⟩
  simp only at g1 g2 g3 ⊢
  have hR:R2 t s 0 w1 kn1:=⟨g1,by omega,by omega,by rw [g2.last,hl];exact ⟨⟨0,rfl,.inl rfl⟩,by omega⟩,g3⟩
  refine Tot.bind (R:=WR t s) ?_ (λ w h=>Tot.pure h)
  refine Tot.upto (body:=λ n x=>BK n (w1,kn1) x.1 x.2.1 x.2.2) (s.length+1) (λ i x=>x.2.2=(i:Int)/\R2 t s i x.1 x.2.1) ?_ ?_ _ ⟨rfl,hR⟩
  ·rintro i ⟨w2,kn2,i'⟩ hi ⟨e1,h2⟩
   simp only at e1 h2
   subst e1
   unfold BK
   refine Tot.iteT (by simp only [decide_eq_true_eq];rw [g1.clen];omega) ?_
   have hJ:=ZD hT hs (show i<=s.length by omega) h2 (w1,kn1)
   have hJ':∀ c,c=Dn s i->Tot (λ n=>Bl n (w1,kn1) w2 kn2 (i:Int) c) (Rd2 (λ x:Ad×(List (List Bool))×Int=>x.2.2=((i+1:Nat):Int)/\R2 t s (i+1) x.1 x.2.1) (WR t s)):=by
    rintro c rfl
    exact hJ.mono λ z hz=>by
     cases z with
     | inl y=>exact hz
     | inr y=>exact hz.elim
   rw [h2.kn.base.ss]
   refine Tot.ite (λ h=>?_) λ h=>?_
   ·have hlt:i<s.length:=by simpa using h
    refine Tot.bindC (Kb hlt) (Tot.bindA (λ n=>R4 n _) (hJ' _ ?_))
    unfold Dn;rw [if_pos hlt]
   ·have hlt:¬i<s.length:=by simpa using h
    refine hJ' 0 ?_
    unfold Dn;rw [if_neg hlt]
  ·rintro ⟨w2,kn2,i'⟩ ⟨e1,h2⟩
   simp only at e1 h2
   subst e1
   unfold BK
   refine Tot.iteF (by simp only [decide_eq_false_iff_not];rw [g1.clen];omega) (Tot.pure ⟨h2.kn.base,h2.kn.clen,h2.kn.cost,h2.kn.nod,h2.kn.ok,λ p j q hq hr=>?_,λ p hp=>h2.sort p (by omega),h2.last.all⟩)
   have key:∀ {i' q},Rch t s i' q->∃ j:Nat,(Ae t)[j]? = some q/\InC w2 i' (j:Int):=λ {i' q} hr=>Rch.ind (A:=λ i' q=>∃ j:Nat,(Ae t)[j]? = some q/\InC w2 i' (j:Int)) ⟨0,hf,h2.first⟩ (λ i' q k hi' hA hst hpf=>by
    obtain ⟨j,h1,h3⟩:=hA
    exact h2.clo i' (by omega) _ h3 j q rfl h1 k hst hpf) hr
   obtain ⟨j',g4,g5⟩:=key hr
   rw [IE (P3 hT) hq g4];exact g5
end
end Go.AI
end
section
namespace Go.AI
theorem Se {α:Type} {l:List α} (h:l.Nodup) {a b:Nat} {x:α} (ha:l[a]? = some x) (hb:l[b]? = some x):a=b:=by
 have ha':=Aj ha
 have hb':=Aj hb
 rw [JkC ha'] at ha
 rw [JkC hb'] at hb
 have e:l[a]=l[b]:=by injection ha with ha;injection hb with hb;rw [ha,hb]
 rw [List.Nodup,List.pairwise_iff_getElem] at h
 rcases Nat.lt_trichotomy a b with hlt|he|hgt
 ·exact absurd e (h a b ha' hb' hlt)
 ·exact he
 ·exact absurd e.symm (h b a hb' ha' hgt)
theorem Jit {i j:Nat} (h:i+j<1000000):IntKind.i64.wrap (QV .u64 (IntKind.u64.wrap (Ay .i64 (i:Int) (j:Int))) 1)=(((i+j) / 2:Nat):Int):=by
 rw [Jm (by omega) (by omega)]
 have h1:IntKind.u64.wrap ((i:Int)+(j:Int))=(i:Int)+(j:Int):=by
  have:IntKind.u64.wrap ((i:Int)+(j:Int))=((i:Int)+(j:Int)) % 18446744073709551616:=rfl
  rw [this];omega
 have h2:∀ a:Int,QV .u64 a 1=a.fdiv 2:=λ a=>rfl
 rw [h1,h2,Int.fdiv_eq_ediv_of_nonneg _ (by omega),w64 (by omega) (by omega)]
 omega
theorem Jen (n:Nat) (a b:Int):DQ n a b=some (decide (a<b)):=by
 unfold DQ De
 simp
theorem Jiu {l:List Int} (hl:l.length<=1000) (hs:l.Pairwise (·<=·)) (hn:l.Nodup) {d:Nat} {v:Int} (hd:l[d]? = some v):Ev (λ n=>Bj n l v) ((d:Int),true):=by
 have hdl:=Aj hd
 have hmono:∀ a b:Nat,a<=b->∀ x y,l[a]? = some x->l[b]? = some y->x<=y:=by
  intro a b hab x y hx hy
  rcases Nat.eq_or_lt_of_le hab with rfl|hlt
  ·rw [hx] at hy;cases hy;omega
  ·have ha:=Aj hx
   have hb:=Aj hy
   have:=(List.pairwise_iff_getElem.1 hs) a b ha hb hlt
   rw [JkC ha] at hx
   rw [JkC hb] at hy
   cases hx;cases hy;exact this
 refine Tot.ev ?_
 unfold Bj
 refine Tot.bind (R:=λ i=>i=(d:Int)) ?_ ?_
 ·refine Tot.whl (body:=λ n x=>A7 n l v x.1 x.2) (λ m x=>∃ i j:Nat,x=((i:Int),(j:Int))/\m=j-i/\i<=d/\d<=j/\j<=l.length/\(∀ k x,k<i->l[k]? = some x->x<v)/\∀ k x,j<=k->l[k]? = some x->v<=x) ?_ l.length _ ⟨0,l.length,rfl,by omega,by omega,by omega,by omega,by omega,λ k x h1 h2=>by have:=Aj h2;omega⟩
  rintro m x ⟨i,j,rfl,rfl,h1,h2,h3,h4,h5⟩
  unfold A7
  simp only
  rw [Jit (by omega)]
  rcases Nat.lt_or_ge i j with hij|hij
  ·have hm:(i+j) / 2<l.length:=by omega
   refine Tot.iteT (by simpa using hij) (Tot.bindC (CE hm) (Tot.bindA (λ n=>Jen n _ _) (Tot.ite (λ hc=>?_) λ hc=>?_)))
   ·have hlt:l[(i+j) / 2]<v:=by simpa using hc
    refine Tot.pure ⟨j-((i+j) / 2+1),by omega,(i+j) / 2+1,j,by rw [BT (by omega)],rfl,?_,h2,h3,λ k x hk hx=>?_,h5⟩
    ·apply Classical.byContradiction
     intro hh
     have:=hmono d ((i+j) / 2) (by omega) _ _ hd (JkC hm)
     omega
    ·have:=hmono k ((i+j) / 2) (by omega) _ _ hx (JkC hm)
     omega
   ·have hge:v<=l[(i+j) / 2]:=by simpa using hc
    refine Tot.pure ⟨(i+j) / 2-i,by omega,i,(i+j) / 2,rfl,rfl,h1,?_,by omega,h4,λ k x hk hx=>?_⟩
    ·apply Classical.byContradiction
     intro hh
     have h6:=hmono ((i+j) / 2) d (by omega) _ _ (JkC hm) hd
     have:=Se hn (show l[(i+j) / 2]? = some v by rw [JkC hm];congr 1;omega) hd
     omega
    ·have:=hmono ((i+j) / 2) k hk _ _ (JkC hm) hx
     omega
  ·refine Tot.iteF (by simp;omega) (Tot.pure ?_)
   show (i:Int)=(d:Int)
   omega
 ·rintro i rfl
  have hg:decide ((d:Int)<((l.length:Nat):Int))=true:=E2 hdl
  refine Tot.gE hg (Ev.all λ n=>Cb hd) ?_
  have hf:((decide ((d:Int)<((l.length:Nat):Int)))&&!(v==v))=false:=by simp
  refine Tot.gF hf (Tot.gF hf (Tot.gF (by rw [hf];rfl) (Tot.pure ?_)))
  rw [hg];simp
theorem UN {c:AB} (hl:c.States.length<=1000) (hs:c.States.Pairwise (·<=·)) (hn:c.States.Nodup) {d:Nat} {v x:Int} (hd:c.States[d]? = some v) (hx:c.Costs[d]? = some x):Ev (λ n=>Bx n c v) x:=by
 unfold Bx
 refine Ev.bind (Jiu hl hs hn hd) (Ev.iteF rfl (Ev.bindC (Cb hx) Ev.const))
def B2 (t:Ab) (w:Ad) (p:Nat):List Aa:=(A2 w p).map λ v=>(Ae t).getD v.toNat default
abbrev Br (w:Ad) (p:Nat):List Int:=(w.Columns.getD p default).Costs
structure PI (t:Ab) (s:List UInt8) (place:Nat) (w:Ad):Prop where
 base:PE t s w
 clen:w.Columns.length=s.length+1
 nod:∀ p,(A2 w p).Nodup
 ok:∀ p v,InC w p v->∃ (j:Nat) (q:Aa),v=(j:Int)/\(Ae t)[j]? = some q/\Rch t s p q
 all:∀ p (j:Nat) q,(Ae t)[j]? = some q->Rch t s p q->InC w p (j:Int)
 sort:∀ p,p<=s.length->(A2 w p).Pairwise (·<=·)
 later:∀ p,place<p->p<=s.length->(∀ (i:Nat) q,(B2 t w p)[i]? = some q->(Br w p)[i]? = some (Aw t q (s.drop p)))/\∀ (i:Nat) v,(Br w p)[i]? = some v->v<=((3072*(s.length-p+1):Nat):Int)
 col:Col t (s.drop place) (3072*(s.length-place)) (B2 t w place) (Br w place)
section
variable {t:Ab} (hT:Kg t) {s:List UInt8} (hs:s.length<=4000)
include hT
omit hT in
theorem Ls {w:Ad} {p:Nat} (hok:∀ v,InC w p v->∃ (j:Nat) (q:Aa),v=(j:Int)/\(Ae t)[j]? = some q/\Rch t s p q) {i:Nat} {q:Aa}:(B2 t w p)[i]? = some q↔∃ j:Nat,(A2 w p)[i]? = some (j:Int)/\(Ae t)[j]? = some q:=by
 unfold B2
 rw [JkG,JkF]
 constructor
 ·rintro ⟨v,hv,rfl⟩
  obtain ⟨j,q,rfl,hq,_⟩:=hok v (JkE hv)
  refine ⟨j,hv,?_⟩
  rw [JkM,JkL,hq];rfl
 ·rintro ⟨j,hv,hq⟩
  refine ⟨_,hv,?_⟩
  rw [JkM,JkL,hq];rfl
theorem PI.qn {place:Nat} {w:Ad} (h:PI t s place w) (p:Nat):(B2 t w p).Nodup:=by
 rw [List.nodup_iff_pairwise_ne,List.pairwise_iff_getElem]
 intro a b ha hb hlt he
 have h1:=JkC ha
 have h2:=JkC hb
 rw [he] at h1
 obtain ⟨j,e1,g1⟩:=(Ls (h.ok p)).1 h1
 obtain ⟨j',e2,g2⟩:=(Ls (h.ok p)).1 h2
 have:=IE (P3 hT) g1 g2
 subst this
 have:=Se (h.nod p) e1 e2
 omega
theorem PI.qlen {place:Nat} {w:Ad} (h:PI t s place w) (p:Nat):(B2 t w p).length=(A2 w p).length/\(A2 w p).length<=768:=by
 refine ⟨by simp [B2],?_⟩
 have hsub:∀ v∈A2 w p,v∈(List.range (Ae t).length).map (λ j:Nat=>(j:Int)):=by
  intro v hv
  obtain ⟨j,q,rfl,hq,_⟩:=h.ok p v hv
  exact List.mem_map.2 ⟨j,List.mem_range.2 (Aj hq),rfl⟩
 have:=(h.nod p).length_le_of_subset hsub
 have:=IN hT
 simp at *
 omega
theorem PI.pos {place:Nat} {w:Ad} (h:PI t s place w) {p:Nat} {q:Aa} (hr:Rch t s p q) (hq:q∈Ae t):∃ d:Nat,(A2 w p)[d]? = some (BX (Ae t) q)/\(B2 t w p)[d]? = some q:=by
 have _:=hT
 obtain ⟨j,hj,hg⟩:=BD hq
 obtain ⟨d,hd,e⟩:=List.getElem_of_mem (h.all p j q hg hr)
 have:(A2 w p)[d]? = some (j:Int):=by rw [← e];exact JkC hd
 exact ⟨d,by rw [hj];exact this,(Ls (h.ok p)).2 ⟨j,this,hg⟩⟩
include hs in
theorem PI.find {place:Nat} (hpl:place<=s.length) {w:Ad} (h:PI t s place w) {p:Nat} (h1:place<=p) (h2:p<=s.length) {q:Aa} (hr:Rch t s p q) (hq:q∈Ae t):∃ (d:Nat) (x:Int),(B2 t w p)[d]? = some q/\(Br w p)[d]? = some x/\Ev (λ n=>Bx n (w.Columns.getD p default) (BX (Ae t) q)) x/\(-1<=x/\x<=13000000)/\(place<p->x=Aw t q (s.drop p)/\x<=((3072*(s.length-p+1):Nat):Int)):=by
 obtain ⟨d,g1,g2⟩:=h.pos hT hr hq
 have hql:=h.qlen hT p
 rcases Nat.eq_or_lt_of_le h1 with rfl|hlt
 ·obtain ⟨x,hx⟩:=h.col.get (Aj g2)
  have hb:=h.col.top hx
  exact ⟨d,x,g2,hx,UN (by show (A2 w place).length<=1000;omega) (h.sort place hpl) (h.nod place) g1 hx,⟨hb.1,by omega⟩,by omega⟩
 ·obtain ⟨k1,k2⟩:=h.later p hlt h2
  have hx:=k1 d q g2
  have hb:=k2 d _ hx
  exact ⟨d,_,g2,hx,UN (by show (A2 w p).length<=1000;omega) (h.sort p h2) (h.nod p) g1 hx,⟨Sb _ _ _,by omega⟩,λ _=>⟨rfl,hb⟩⟩
end
end Go.AI
end
section
namespace Go.AI
def OZ (w:Ad) (p:Nat) (cs:List Int):Ad:={ w with Columns:=w.Columns.set p ⟨(w.Columns.getD p default).States,cs⟩ }
theorem C9 {w:Ad} {p:Nat} (hp:p<w.Columns.length) (cs:List Int) (p':Nat):A2 (OZ w p cs) p'=A2 w p'/\Br (OZ w p cs) p'=if p=p' then cs else Br w p':=by
 have h:=Sd hp ⟨(w.Columns.getD p default).States,cs⟩ p' 0 0 0 []
 unfold A2 Br OZ
 simp only
 rw [h]
 split
 ·rename_i e;subst e;exact ⟨rfl,rfl⟩
 ·exact ⟨rfl,rfl⟩
theorem Qd {t:Ab} {w:Ad} {p:Nat} (hp:p<w.Columns.length) (cs:List Int) (p':Nat):B2 t (OZ w p cs) p'=B2 t w p':=by
 unfold B2
 rw [(C9 hp cs p').1]
theorem PI.set {t:Ab} {s:List UInt8} {place:Nat} {w:Ad} (h:PI t s place w) (hpl:place<=s.length) {cs:List Int} (hc:Col t (s.drop place) (3072*(s.length-place)) (B2 t w place) cs):PI t s place (OZ w place cs):=by
 have hp:place<w.Columns.length:=by rw [h.clen];omega
 refine ⟨⟨h.base.tt,h.base.ss,h.base.st,h.base.al,h.base.arc⟩,?_,λ p=>?_,λ p v hv=>?_,λ p j q h1 h2=>?_,λ p hp'=>?_,λ p h1 h2=>?_,?_⟩
 ·show (w.Columns.set _ _).length=_
  rw [JkU];exact h.clen
 ·rw [(C9 hp cs p).1];exact h.nod p
 ·unfold InC at hv;rw [(C9 hp cs p).1] at hv;exact h.ok p v hv
 ·unfold InC;rw [(C9 hp cs p).1];exact h.all p j q h1 h2
 ·rw [(C9 hp cs p).1];exact h.sort p hp'
 ·rw [Qd hp,(C9 hp cs p).2,if_neg (by omega)];exact h.later p h1 h2
 ·rw [Qd hp,(C9 hp cs place).2,if_pos rfl];exact hc
structure Imp (t:Ab) (s:List UInt8) (place:Nat) (sl:Bool) (B:Nat) (i:Nat) (q:Aa) (P:Nat->Prop) (w1 w2:Ad) (b:Bool):Prop where
 pi:PI t s place w2
 cols:∀ p,A2 w2 p=A2 w1 p
 last:w2.Last=w1.Last
 low:∀ (j:Nat) v,(Br w1 place)[j]? = some v->0<=v->∃ v',(Br w2 place)[j]? = some v'/\0<=v'/\v'<=v
 fls:b=false->w2=w1
 less:b=true->phi B (Br w2 place)<phi B (Br w1 place)
 rel:sl=false->∀ k:Nat,P k->(Ap t q k).2=true->prt t k≠[]->∀ y,s.drop place=prt t k++y->0<=Aw t (Ap t q k).1 y->∃ v,(Br w2 place)[i]? = some v/\0<=v/\v<=Aw t (Ap t q k).1 y+(cls t k).length
 sil:sl=true->b=false->∀ k:Nat,P k->(Ap t q k).2=true->prt t k=[]->∃ (i':Nat) (w':Int),(B2 t w1 place)[i']? = some (Ap t q k).1/\(Br w1 place)[i']? = some w'/\(0<=w'->∃ v,(Br w1 place)[i]? = some v/\0<=v/\v<=w'+(cls t k).length)
section
variable {t:Ab} (hT:Kg t) {s:List UInt8} (hs:s.length<=4000)
include hT hs
theorem XI (sl:Bool) {place:Nat} (hpl:place<=s.length) {B:Nat} (hB:13000000<=B) {w1:Ad} (h:PI t s place w1) {i:Nat} {q:Aa} (hq:(B2 t w1 place)[i]? = some q) :
  Tot (λ n=>whl (λ (x:(Ad×Bool×Int))=>Bb n (i:Int) sl (place:Int) (place:Int) (A5 t q) x.1 x.2.1 x.2.2) n (w1,false,0)) (λ y=>Imp t s place sl B i q (λ _=>True) w1 y.1 y.2):=by
 have hrl:=hT.tab.1
 have hal:(A5 t q).length<=t.Rules.length:=by unfold A5;exact Nat.le_trans (List.length_filterMap_le _ _) (by simp)
 obtain ⟨jq,hjq1,hjq2⟩:=(Ls (h.ok place)).1 hq
 obtain ⟨j2,qq,e1,e2,hr⟩:=h.ok place _ (JkE hjq1)
 have e3:j2=jq:=by omega
 subst e3
 rw [hjq2] at e2
 cases e2
 have hqm:q∈Ae t:=JkE hjq2
 refine Tot.upto (body:=λ n x=>Bb n (i:Int) sl (place:Int) (place:Int) (A5 t q) x.1 x.2.1 x.2.2) (A5 t q).length (λ m x=>x.2.2=(m:Int)/\Imp t s place sl B i q (λ k=>∃ (m':Nat) (a:FJ),m'<m/\(A5 t q)[m']? = some a/\a.Rule=(k:Int)) w1 x.1 x.2.1) ?_ ?_ _ ⟨rfl,h,λ _=>rfl,rfl,λ j v hv h0=>⟨v,hv,h0,Int.le_refl v⟩,λ _=>rfl,(λ h=>by cases h),λ _ k ⟨m',_,hm,_⟩=>by omega,λ _ _ k ⟨m',_,hm,_⟩=>by omega⟩
 ·rintro m ⟨w,b,m'⟩ hm ⟨e1,hI⟩
  simp only at e1 hI
  subst e1
  have ha:(A5 t q)[m]? = some (A5 t q)[m]:=JkC hm
  obtain ⟨k,hk,hst,hae⟩:=HZ.1 (List.getElem_mem hm)
  have hW:=hI.pi
  have hqs:B2 t w place=B2 t w1 place:=by unfold B2;rw [hI.cols]
  have hq':(B2 t w place)[i]? = some q:=by rw [hqs];exact hq
  obtain ⟨p1,p2,p3⟩:=hT.pr hst
  have hcl:place<w.Columns.length:=by rw [hW.clen];omega
  obtain ⟨v,hv⟩:=hW.col.get (Aj hq')
  have hvd:(w.Columns.getD place default).Costs.getD i 0=v:=by rw [JkL (l:=(w.Columns.getD place default).Costs),show (w.Columns.getD place default).Costs[i]? = some v from hv];rfl
  have hil:i<(w.Columns.getD place default).Costs.length:=Aj (show (w.Columns.getD place default).Costs[i]? = some v from hv)
  have hP:∀ k':Nat,(∃ (m':Nat) (a:FJ),m'<m+1/\(A5 t q)[m']? = some a/\a.Rule=(k':Int))->k'=k\/∃ (m':Nat) (a:FJ),m'<m/\(A5 t q)[m']? = some a/\a.Rule=(k':Int):=by
   rintro k' ⟨m',a,h1,h2,h3⟩
   by_cases e:m'=m
   ·subst e
    rw [ha,hae] at h2
    cases h2
    simp only at h3
    left;omega
   ·exact .inr ⟨m',a,by omega,h2,h3⟩
  have hJ:∀ w2 b2,Imp t s place sl B i q (λ k=>∃ (m':Nat) (a:FJ),m'<m+1/\(A5 t q)[m']? = some a/\a.Rule=(k:Int)) w1 w2 b2->Tot (λ n=>Ba n (m:Int) w2 b2) (Rd2 (λ x:Ad×Bool×Int=>x.2.2=((m+1:Nat):Int)/\Imp t s place sl B i q (λ k=>∃ (m':Nat) (a:FJ),m'<m+1/\(A5 t q)[m']? = some a/\a.Rule=(k:Int)) w1 x.1 x.2.1) (λ y=>Imp t s place sl B i q (λ _=>True) w1 y.1 y.2)):=by
   intro w2 b2 h2
   unfold Ba
   exact Tot.pure ⟨BT (by omega),h2⟩
  have hskip:(sl=false->prt t k≠[]->∀ y,s.drop place=prt t k++y->0<=Aw t (Ap t q k).1 y->∃ v,(Br w place)[i]? = some v/\0<=v/\v<=Aw t (Ap t q k).1 y+(cls t k).length) ->
    (sl=true->prt t k=[]->∃ (i':Nat) (w':Int),(B2 t w place)[i']? = some (Ap t q k).1/\(Br w place)[i']? = some w'/\(0<=w'->∃ v,(Br w place)[i]? = some v/\0<=v/\v<=w'+(cls t k).length)) ->
    Imp t s place sl B i q (λ k=>∃ (m':Nat) (a:FJ),m'<m+1/\(A5 t q)[m']? = some a/\a.Rule=(k:Int)) w1 w b:=by
   intro g1 g2
   refine ⟨hI.pi,hI.cols,hI.last,hI.low,hI.fls,hI.less,λ hsl k' hk' hst' hp' y hy hc=>?_,λ hsl hb k' hk' hst' hp'=>?_⟩
   ·rcases hP k' hk' with rfl|hk'
    ·exact g1 hsl hp' y hy hc
    ·exact hI.rel hsl k' hk' hst' hp' y hy hc
   ·rcases hP k' hk' with rfl|hk'
    ·have:=g2 hsl hp'
     rw [hI.fls hb] at this
     exact this
    ·exact hI.sil hsl hb k' hk' hst' hp'
  unfold Bb
  refine Tot.iteT (E2 hm) (Tot.bindC (Cb ha) ?_)
  rw [hae]
  refine Tot.bindA (λ n=>OY hT hs hW.base hpl hst n) (Tot.ite (λ hc=>?_) λ hc=>?_)
  ·
   have hcc:(prt t k).isPrefixOf (s.drop place)=false\/(((((place+(prt t k).length:Nat):Int))==(place:Int))==sl)=false:=by
    simp only [JkW,Bool.not_eq_true'] at hc
    exact hc
   have hz:((((place+(prt t k).length:Nat):Int))==(place:Int))=decide (prt t k=[]):=by
    rw [Bool.eq_iff_iff,beq_iff_eq,decide_eq_true_eq,← List.length_eq_zero_iff];omega
   rw [hz] at hcc
   refine hJ w b (hskip (λ hsl hp y hy _=>?_) (λ hsl hp=>?_))
   ·exfalso
    rcases hcc with h1|h1
    ·rw [← Bool.not_eq_true,List.isPrefixOf_iff_prefix,hy] at h1
     exact h1 (List.prefix_append _ _)
    ·rw [hsl,decide_eq_false hp] at h1;cases h1
   ·exfalso
    rcases hcc with h1|h1
    ·rw [hp] at h1;cases h1
    ·rw [hsl,decide_eq_true hp] at h1;cases h1
  ·have hcc:(prt t k).isPrefixOf (s.drop place)=true/\(((((place+(prt t k).length:Nat):Int))==(place:Int))==sl)=true:=by
    simp only [Bool.or_eq_false_iff,Bool.not_eq_false'] at hc
    exact hc
   obtain ⟨hpf,hsl⟩:=hcc
   have hz:((((place+(prt t k).length:Nat):Int))==(place:Int))=decide (prt t k=[]):=by
    rw [Bool.eq_iff_iff,beq_iff_eq,decide_eq_true_eq,← List.length_eq_zero_iff];omega
   rw [hz,beq_iff_eq] at hsl
   obtain ⟨q1,q2⟩:=Cz hpf
   have q2:=q2 hpl
   have hnm:=EF hT hqm hst
   obtain ⟨d,x,f1,f2,f3,f4,f5⟩:=hW.find hT hs hpl (p:=place+(prt t k).length) (by omega) q2 (hr.next hst hpf) hnm
   have hrule:=En (t:=t) (k:=(k:Int)) (by omega) (by omega)
   refine Tot.bindC (AX default (by rw [hW.clen];omega)) (Tot.bindE f3 ?_)
   rw [hW.base.tt]
   refine Tot.bindC hrule (Tot.bindC (AX default hcl) ?_)
   simp only [JkM,DM]
   have hclen:(cls t k).length=(BC t k).Cells.length:=rfl
   have hsum:Ay .i64 x ((List.length (BC t k).Cells:Nat):Int)=x+((cls t k).length:Nat):=by rw [Jm (by omega) (by omega)]
   rw [hsum]
   have hway:0<=x->(∃ p,Way t q (s.drop place) p/\x+((cls t k).length:Nat)=(Cd t p:Nat))/\x+((cls t k).length:Nat)<=((3072*(s.length-place)+4*UK (Br w place)+4:Nat):Int):=by
    intro h0
    rcases Nat.eq_zero_or_pos (prt t k).length with hz|hz
    ·have hp0:prt t k=[]:=List.length_eq_zero_iff.1 hz
     rw [hz,Nat.add_zero] at f1 f2
     obtain ⟨v',hv',hd⟩:=hW.col.ach d _ f1
     rw [f2] at hv'
     cases hv'
     have hb:=hW.col.bnd d x f2
     refine ⟨?_,by omega⟩
     have:=N0 hst (hd.resolve_left (by omega))
     rwa [hp0,List.nil_append] at this
    ·obtain ⟨g1,g2⟩:=f5 (by omega)
     refine ⟨?_,?_⟩
     ·have:=N0 hst (Jo (t:=t) (q:=(Ap t q k).1) (x:=s.drop (place+(prt t k).length)) (by omega))
      rw [g1]
      rwa [← q1] at this
     ·have:3072*(s.length-(place+(prt t k).length)+1)<=3072*(s.length-place):=by omega
      omega
   by_cases h0:0<=x
   ·have hg:decide (x>=0)=true:=by simpa using h0
    obtain ⟨u1,u2⟩:=hway h0
    refine Tot.gE hg (Ev.all λ n=>AX 0 hil) ?_
    rw [hvd]
    have hv2:∀ (c:Bool),(if ((decide (x>=0))&&c)=true then idx (w.Columns.getD place default).Costs (i:Int) else some default)=some (if c=true then v else default):=by
     intro c
     rw [hg,Bool.true_and,AX 0 hil,hvd]
     cases c<;>rfl
    refine Tot.bindC (hv2 _) ?_
    by_cases hlt:v<0\/x+((cls t k).length:Nat)<v
    ·refine Tot.iteT ?_ ?_
     ·rw [hg,Bool.true_and,JkW,decide_eq_true_eq,decide_eq_true_eq]
      by_cases hv0:v<0
      ·exact .inl hv0
      ·right
       rw [if_pos (by simpa using hv0)]
       exact hlt.resolve_left hv0
     ·have hfin:=UL (Br w place)
      rw [hW.col.len] at hfin
      have hql:=hW.qlen hT place
      obtain ⟨g1,g2⟩:=hW.col.lower hq' hv u1 hlt u2 (B:=B) (by omega)
      refine Tot.bindC (AX default hcl) (Tot.bindC (AX 0 hil) (Tot.bindC (GA hil) (hJ _ _ ?_)))
      have hw2:(⟨t,w.S,w.States,w.Arcs,w.Columns.set place ⟨(w.Columns.getD place default).States,(w.Columns.getD place default).Costs.set i (x+((cls t k).length:Nat))⟩,w.Last⟩:Ad)=OZ w place ((Br w place).set i (x+((cls t k).length:Nat))):=by
       unfold OZ Br
       rw [← hW.base.tt]
      rw [hw2]
      have hc0:=λ p=>C9 hcl ((Br w place).set i (x+((cls t k).length:Nat))) p
      have hcp:Br (OZ w place ((Br w place).set i (x+((cls t k).length:Nat)))) place=(Br w place).set i (x+((cls t k).length:Nat)):=by rw [(hc0 place).2,if_pos rfl]
      have hlow:∀ (j:Nat) v0,(Br w place)[j]? = some v0->0<=v0->∃ v',((Br w place).set i (x+((cls t k).length:Nat)))[j]? = some v'/\0<=v'/\v'<=v0:=by
       intro j v0 hv0 h00
       by_cases e:i=j
       ·subst e
        rw [hv] at hv0
        cases hv0
        exact ⟨_,JkO hil,by omega,by omega⟩
       ·exact ⟨v0,by rw [JkT e];exact hv0,h00,Int.le_refl _⟩
      refine ⟨hW.set hpl g1,λ p=>(hc0 p).1.trans (hI.cols p),hI.last,λ j v0 hv0 h00=>?_,(λ hb=>by cases hb),λ _=>?_,λ hsl' k' hk' hst' hp' y hy hc=>?_,(λ _ hb=>by cases hb)⟩
      ·obtain ⟨v1,a1,a2,a3⟩:=hI.low j v0 hv0 h00
       obtain ⟨v2,b1,b2,b3⟩:=hlow j v1 a1 a2
       rw [hcp]
       exact ⟨v2,b1,b2,by omega⟩
      ·rw [hcp]
       cases hb:b with
       | false=>rw [hI.fls hb] at g2 ⊢;exact g2
       | true=>have:=hI.less hb;omega
      ·rw [hcp]
       rcases hP k' hk' with rfl|hk'
       ·have hyy:s.drop (place+(prt t k').length)=y:=by rw [q1] at hy;exact List.append_cancel_left hy
        have hlp:0<(prt t k').length:=List.length_pos_iff.2 hp'
        obtain ⟨g3,_⟩:=f5 (by omega)
        rw [hyy] at g3
        exact ⟨_,JkO hil,by omega,by omega⟩
       ·obtain ⟨v1,a1,a2,a3⟩:=hI.rel hsl' k' hk' hst' hp' y hy hc
        obtain ⟨v2,b1,b2,b3⟩:=hlow i v1 a1 a2
        exact ⟨v2,b1,b2,by omega⟩
    ·refine Tot.iteF ?_ ?_
     ·rw [hg,Bool.true_and,← Bool.not_eq_true,JkW,decide_eq_true_eq,decide_eq_true_eq]
      have hv0:¬v<0:=λ hh=>hlt (.inl hh)
      rw [if_pos (by simpa using hv0)]
      exact hlt
     ·have hws:(⟨t,w.S,w.States,w.Arcs,w.Columns,w.Last⟩:Ad)=w:=by rw [← hW.base.tt]
      rw [hws]
      refine hJ w b (hskip (λ _ hp' y hy hc=>?_) λ _ hp'=>?_)
      ·have hyy:s.drop (place+(prt t k).length)=y:=by rw [q1] at hy;exact List.append_cancel_left hy
       have hlp:0<(prt t k).length:=List.length_pos_iff.2 hp'
       obtain ⟨g3,_⟩:=f5 (by omega)
       rw [hyy] at g3
       exact ⟨v,hv,by omega,by omega⟩
      ·rw [hp',List.length_nil,Nat.add_zero] at f1 f2
       exact ⟨d,x,f1,f2,λ _=>⟨v,hv,by omega,by omega⟩⟩
   ·have hg:decide (x>=0)=false:=by simpa using h0
    refine Tot.gF hg (Tot.gF (by rw [hg];rfl) (Tot.iteF (by rw [hg];rfl) ?_))
    have hws:(⟨t,w.S,w.States,w.Arcs,w.Columns,w.Last⟩:Ad)=w:=by rw [← hW.base.tt]
    rw [hws]
    refine hJ w b (hskip (λ _ hp' y hy hc=>?_) λ _ hp'=>?_)
    ·have hyy:s.drop (place+(prt t k).length)=y:=by rw [q1] at hy;exact List.append_cancel_left hy
     have hlp:0<(prt t k).length:=List.length_pos_iff.2 hp'
     obtain ⟨g3,_⟩:=f5 (by omega)
     rw [hyy] at g3
     omega
    ·rw [hp',List.length_nil,Nat.add_zero] at f1 f2
     exact ⟨d,x,f1,f2,λ h1=>absurd h1 h0⟩
 ·rintro ⟨w,b,m'⟩ ⟨e1,hI⟩
  simp only at e1 hI
  subst e1
  have hall:∀ k:Nat,(Ap t q k).2=true->∃ (m':Nat) (a:FJ),m'<(A5 t q).length/\(A5 t q)[m']? = some a/\a.Rule=(k:Int):=by
   intro k hst
   obtain ⟨m',hm',e⟩:=List.getElem_of_mem (HZ.2 ⟨k,by have:=Cc hst;omega,hst,rfl⟩:(⟨k,BX (Ae t) (Ap t q k).1⟩:FJ)∈A5 t q)
   exact ⟨m',_,hm',by rw [JkC hm',e],rfl⟩
  unfold Bb
  exact Tot.iteF (by simp) (Tot.pure ⟨hI.pi,hI.cols,hI.last,hI.low,hI.fls,hI.less,λ hsl k _ hst=>hI.rel hsl k (hall k hst) hst,λ hsl hb k _ hst=>hI.sil hsl hb k (hall k hst) hst⟩)
theorem Tq (sl:Bool) {place:Nat} (hpl:place<=s.length) {B:Nat} (hB:13000000<=B) {w1:Ad} (h:PI t s place w1) {i:Nat} {q:Aa} (hq:(B2 t w1 place)[i]? = some q) :
  Tot (λ n=>BW n (i:Int) sl (place:Int) (place:Int) w1) (λ y=>Imp t s place sl B i q (λ _=>True) w1 y.1 y.2):=by
 have hcl:place<w1.Columns.length:=by rw [h.clen];omega
 obtain ⟨j,g1,g2⟩:=(Ls (h.ok place)).1 hq
 unfold BW
 refine Tot.bindC (AX default hcl) (Tot.bindC (Cb g1) (Tot.bindC (Cb (h.base.arc j q g2)) ?_))
 simp only [JkM,G6]
 exact Tot.bind (XI hT hs sl hpl hB h hq) (λ y hy=>Tot.pure hy)
end
end Go.AI
end
section
namespace Go.AI
structure PB (t:Ab) (s:List UInt8) (m:Nat) (w:Ad):Prop where
 base:PE t s w
 clen:w.Columns.length=s.length+1
 nod:∀ p,(A2 w p).Nodup
 ok:∀ p v,InC w p v->∃ (j:Nat) (q:Aa),v=(j:Int)/\(Ae t)[j]? = some q/\Rch t s p q
 all:∀ p (j:Nat) q,(Ae t)[j]? = some q->Rch t s p q->InC w p (j:Int)
 sort:∀ p,p<=s.length->(A2 w p).Pairwise (·<=·)
 later:∀ p,m<=p->p<=s.length->(∀ (i:Nat) q,(B2 t w p)[i]? = some q->(Br w p)[i]? = some (Aw t q (s.drop p)))/\∀ (i:Nat) v,(Br w p)[i]? = some v->v<=((3072*(s.length-p+1):Nat):Int)
theorem PI.pb {t:Ab} {s:List UInt8} {place:Nat} {w:Ad} (h:PI t s place w):PB t s (place+1) w:=⟨h.base,h.clen,h.nod,h.ok,h.all,h.sort,λ p hp=>h.later p (by omega)⟩
theorem PB.pi {t:Ab} {s:List UInt8} {place:Nat} {w:Ad} (h:PB t s (place+1) w) (hc:Col t (s.drop place) (3072*(s.length-place)) (B2 t w place) (Br w place)):PI t s place w:=⟨h.base,h.clen,h.nod,h.ok,h.all,h.sort,λ p hp=>h.later p (by omega),hc⟩
theorem WR.pb {t:Ab} {s:List UInt8} {w:Ad} (h:WR t s w):PB t s (s.length+1) w:=⟨h.base,h.clen,h.nod,h.ok,h.all,h.sort,λ p hp hp'=>by omega⟩
theorem PB.set {t:Ab} {s:List UInt8} {place:Nat} {w:Ad} (h:PB t s (place+1) w) (hpl:place<=s.length) {cs:List Int} (hc:Col t (s.drop place) (3072*(s.length-place)) (B2 t w place) cs):PI t s place (OZ w place cs):=by
 have hp:place<w.Columns.length:=by rw [h.clen];omega
 refine ⟨⟨h.base.tt,h.base.ss,h.base.st,h.base.al,h.base.arc⟩,?_,λ p=>?_,λ p v hv=>?_,λ p j q h1 h2=>?_,λ p hp'=>?_,λ p h1 h2=>?_,?_⟩
 ·show (w.Columns.set _ _).length=_
  rw [JkU];exact h.clen
 ·rw [(C9 hp cs p).1];exact h.nod p
 ·unfold InC at hv;rw [(C9 hp cs p).1] at hv;exact h.ok p v hv
 ·unfold InC;rw [(C9 hp cs p).1];exact h.all p j q h1 h2
 ·rw [(C9 hp cs p).1];exact h.sort p hp'
 ·rw [Qd hp,(C9 hp cs p).2,if_neg (by omega)];exact h.later p (by omega) h2
 ·rw [Qd hp,(C9 hp cs place).2,if_pos rfl];exact hc
section
variable {t:Ab} (hT:Kg t) {s:List UInt8} (hs:s.length<=4000)
include hT hs
omit hT in
theorem ZE {place:Nat} (hpl:place<=s.length) {w:Ad} (h:PB t s (place+1) w) (hl7:(A2 w place).length<=768) (l0:List Int) (hl0:l0.length=(A2 w place).length) :
  Tot (λ n=>whl (λ (x:((List Int)×Int))=>Bm n w (place:Int) (w.Columns.getD place default) l0 ⟨A2 w place,l0⟩ x.1 x.2) n (l0,0)) (λ w'=>w'=OZ w place ((B2 t w place).map (CU t (s.drop place)))):=by
 have hcl:place<w.Columns.length:=by rw [h.clen];omega
 refine Tot.upto (body:=λ n x=>Bm n w (place:Int) (w.Columns.getD place default) l0 ⟨A2 w place,l0⟩ x.1 x.2) (A2 w place).length (λ k x=>x.2=(k:Int)/\x.1.length=(A2 w place).length/\∀ (j:Nat) q,j<k->(B2 t w place)[j]? = some q->x.1[j]? = some (CU t (s.drop place) q)) ?_ ?_ _ ⟨rfl,hl0,by omega⟩
 ·rintro k ⟨r,k'⟩ hk ⟨e1,e2,e3⟩
  simp only at e1 e2 e3
  subst e1
  have hv:(A2 w place)[k]? = some (A2 w place)[k]:=JkC hk
  obtain ⟨j,q,hvj,hq,hr⟩:=h.ok place _ (JkE hv)
  have hqk:(B2 t w place)[k]? = some q:=(Ls (h.ok place)).2 ⟨j,by rw [← hvj];exact hv,hq⟩
  have hJ:∀ v,v=CU t (s.drop place) q->∀ r',r'=r.set k v->Tot (λ n=>BL n (k:Int) r') (Rd2 (λ x:List Int×Int=>x.2=((k+1:Nat):Int)/\x.1.length=(A2 w place).length/\∀ (j:Nat) q,j<k+1->(B2 t w place)[j]? = some q->x.1[j]? = some (CU t (s.drop place) q)) (λ w'=>w'=OZ w place ((B2 t w place).map (CU t (s.drop place))))):=by
   rintro v rfl r' rfl
   unfold BL
   refine Tot.pure ⟨BT (by omega),by rw [JkU];exact e2,λ j' q' hj' hq'=>?_⟩
   by_cases e:k=j'
   ·subst e
    rw [hqk] at hq';cases hq'
    exact JkO (by omega)
   ·show (r.set k _)[j']? = _
    rw [JkT e];exact e3 j' q' (by omega) hq'
  unfold Bm
  refine Tot.iteT (E2 hk) (Tot.bindC (Cb hv) (Tot.bindC (AX default (by rw [JkM,JkU];exact hcl)) (Tot.bindC (AX 0 (show k<r.length by omega)) (Tot.bindC (GA (show k<r.length by omega)) ?_))))
  rw [h.base.ss,h.base.st,h.base.tt,Wq hs hpl,hvj]
  by_cases hd:s.drop place=[]
  ·refine Tot.gE (decide_eq_true hd) (Ev.all λ n=>Cb hq) (Tot.gE (decide_eq_true hd) (Ev.all λ n=>Xv n t _) (Tot.ite (λ h=>?_) λ h=>?_))
   ·have ha:A3 t q=true:=by simpa [hd] using h
    refine Tot.bindC (AX 0 (by rw [JkU];show k<r.length;omega)) (Tot.bindC (GA (by rw [JkU];show k<r.length;omega)) (hJ 0 ?_ _ ?_))
    ·unfold CU;rw [if_pos ⟨hd,ha⟩]
    ·rw [List.set_set]
   ·have ha:A3 t q=false:=by simpa [hd] using h
    refine hJ (-1) ?_ _ rfl
    unfold CU;rw [if_neg (by rw [ha];simp)]
  ·refine Tot.gF (decide_eq_false hd) (Tot.gF (decide_eq_false hd) (Tot.iteF (by simp [hd]) (hJ (-1) ?_ _ rfl)))
   unfold CU;rw [if_neg (λ h=>hd h.1)]
 ·rintro ⟨r,k'⟩ ⟨e1,e2,e3⟩
  simp only at e1 e2 e3
  subst e1
  unfold Bm
  refine Tot.iteF (by simp) (Tot.pure ?_)
  have hr:r=(B2 t w place).map (CU t (s.drop place)):=by
   have hq:(B2 t w place).length=(A2 w place).length:=by simp [B2]
   refine List.ext_getElem? λ j=>?_
   rcases Nat.lt_or_ge j (A2 w place).length with hj|hj
   ·have hg:(B2 t w place)[j]? = some (B2 t w place)[j]:=JkC (by omega)
    rw [e3 j _ hj hg,JkG,hg];rfl
   ·rw [JkY (by omega),JkY (by rw [List.length_map];omega)]
  subst hr
  unfold OZ
  simp only [JkM,List.set_set]
  rfl
theorem ZF {place:Nat} (hpl:place<=s.length) {w1:Ad} (h:PI t s place w1) :
  Tot (λ n=>whl (λ (x:(Ad×Int))=>Bn n (place:Int) (w1.Columns.getD place default) x.1 x.2) n (w1,0)) (λ w=>PI t s place w/\(∀ p,A2 w p=A2 w1 p)/\w.Last=w1.Last/\Yp t (s.drop place) (B2 t w place) (Br w place)):=by
 have hql:=h.qlen hT place
 refine Tot.upto (body:=λ n x=>Bn n (place:Int) (w1.Columns.getD place default) x.1 x.2) (A2 w1 place).length (λ i x=>x.2=(i:Int)/\PI t s place x.1/\(∀ p,A2 x.1 p=A2 w1 p)/\x.1.Last=w1.Last/\∀ (j:Nat) q (k:Nat),j<i->(B2 t w1 place)[j]? = some q->(Ap t q k).2=true->prt t k≠[]->∀ y,s.drop place=prt t k++y->0<=Aw t (Ap t q k).1 y->∃ v,(Br x.1 place)[j]? = some v/\0<=v/\v<=Aw t (Ap t q k).1 y+(cls t k).length) ?_ ?_ _ ⟨rfl,h,λ _=>rfl,rfl,λ j q k h=>by omega⟩
 ·rintro i ⟨w,i'⟩ hi ⟨e1,hP,hC,hL,hR⟩
  simp only at e1 hP hC hL hR
  subst e1
  have hqs:B2 t w place=B2 t w1 place:=by unfold B2;rw [hC]
  obtain ⟨q0,hq⟩:∃ q0,(B2 t w place)[i]? = some q0:=⟨_,JkC (by rw [hqs,hql.1];exact hi)⟩
  unfold Bn
  refine Tot.iteT (E2 hi) (Tot.bind (Tq hT hs false hpl (Nat.le_refl 13000000) hP hq) ?_)
  rintro ⟨w2,b⟩ hI
  refine Tot.pure ⟨BT (by omega),hI.pi,λ p=>(hI.cols p).trans (hC p),hI.last.trans hL,λ j q k hj hjq hst hp y hy hc=>?_⟩
  by_cases e:j=i
  ·subst e
   rw [← hqs,hq] at hjq
   cases hjq
   exact hI.rel rfl k trivial hst hp y hy hc
  ·obtain ⟨v,a1,a2,a3⟩:=hR j q k (by omega) hjq hst hp y hy hc
   obtain ⟨v',b1,b2,b3⟩:=hI.low j v a1 a2
   exact ⟨v',b1,b2,by omega⟩
 ·rintro ⟨w,i'⟩ ⟨e1,hP,hC,hL,hR⟩
  simp only at e1 hP hC hL hR
  subst e1
  have hqs:B2 t w place=B2 t w1 place:=by unfold B2;rw [hC]
  unfold Bn
  refine Tot.iteF (Py _) (Tot.pure ⟨hP,hC,hL,⟨λ j q k hj hst hp y hy hc=>?_⟩⟩)
  rw [hqs] at hj
  exact hR j q k (by have:=Aj hj;omega) hj hst hp y hy hc
theorem ZG {place:Nat} (hpl:place<=s.length) {w1:Ad} (h:PI t s place w1) :
  Tot (λ n=>whl (λ (x:(Ad×Bool×Int))=>Bo n (place:Int) (w1.Columns.getD place default) x.1 x.2.1 x.2.2) n (w1,false,0)) (λ y=>PI t s place y.1/\(∀ p,A2 y.1 p=A2 w1 p)/\y.1.Last=w1.Last/\(∀ (j:Nat) v,(Br w1 place)[j]? = some v->0<=v->∃ v',(Br y.1 place)[j]? = some v'/\0<=v'/\v'<=v)/\(y.2=false->y.1=w1/\JeM t (B2 t w1 place) (Br w1 place))/\(y.2=true->phi 13000000 (Br y.1 place)<phi 13000000 (Br w1 place))):=by
 have hql:=h.qlen hT place
 refine Tot.upto (body:=λ n x=>Bo n (place:Int) (w1.Columns.getD place default) x.1 x.2.1 x.2.2) (A2 w1 place).length (λ i x=>x.2.2=(i:Int)/\PI t s place x.1/\(∀ p,A2 x.1 p=A2 w1 p)/\x.1.Last=w1.Last/\(∀ (j:Nat) v,(Br w1 place)[j]? = some v->0<=v->∃ v',(Br x.1 place)[j]? = some v'/\0<=v'/\v'<=v)/\(x.2.1=false->x.1=w1/\∀ (j:Nat) q (k:Nat),j<i->(B2 t w1 place)[j]? = some q->(Ap t q k).2=true->prt t k=[]->∃ (i':Nat) (w':Int),(B2 t w1 place)[i']? = some (Ap t q k).1/\(Br w1 place)[i']? = some w'/\(0<=w'->∃ v,(Br w1 place)[j]? = some v/\0<=v/\v<=w'+(cls t k).length))/\(x.2.1=true->phi 13000000 (Br x.1 place)<phi 13000000 (Br w1 place))) ?_ ?_ _ ⟨rfl,h,λ _=>rfl,rfl,λ j v hv h0=>⟨v,hv,h0,Int.le_refl v⟩,λ _=>⟨rfl,λ j q k h=>by omega⟩,(λ h=>by cases h)⟩
 ·rintro i ⟨w,b,i'⟩ hi ⟨e1,hP,hC,hL,hlow,hfl,hle⟩
  simp only at e1 hP hC hL hlow hfl hle
  subst e1
  have hqs:B2 t w place=B2 t w1 place:=by unfold B2;rw [hC]
  obtain ⟨q0,hq⟩:∃ q0,(B2 t w place)[i]? = some q0:=⟨_,JkC (by rw [hqs,hql.1];exact hi)⟩
  unfold Bo
  refine Tot.iteT (E2 hi) (Tot.bind (Tq hT hs true hpl (Nat.le_refl 13000000) hP hq) ?_)
  rintro ⟨w2,b2⟩ hI
  simp only at hI
  refine Tot.pure ⟨BT (by omega),hI.pi,λ p=>(hI.cols p).trans (hC p),hI.last.trans hL,λ j v hv h0=>?_,λ hb=>?_,λ hb=>?_⟩
  ·obtain ⟨v1,a1,a2,a3⟩:=hlow j v hv h0
   obtain ⟨v2,b1,b2,b3⟩:=hI.low j v1 a1 a2
   exact ⟨v2,b1,b2,by omega⟩
  ·simp only [Bool.or_eq_false_iff] at hb
   obtain ⟨e2,hR⟩:=hfl hb.2
   refine ⟨(hI.fls hb.1).trans e2,λ j q k hj hjq hst hp=>?_⟩
   by_cases e:j=i
   ·subst e
    rw [← hqs,hq] at hjq
    cases hjq
    have:=hI.sil rfl hb.1 k trivial hst hp
    rw [e2] at this
    exact this
   ·exact hR j q k (by omega) hjq hst hp
  ·simp only [JkW] at hb
   cases hb2:b2 with
   | true=>
    have h1:=hI.less hb2
    cases hbb:b with
    | true=>have:=hle hbb;show phi 13000000 (Br w2 place)<_;omega
    | false=>rw [(hfl hbb).1] at h1;exact h1
   | false=>
    rw [hI.fls hb2]
    exact hle (hb.resolve_left (by rw [hb2];simp))
 ·rintro ⟨w,b,i'⟩ ⟨e1,hP,hC,hL,hlow,hfl,hle⟩
  simp only at e1 hP hC hL hlow hfl hle
  subst e1
  unfold Bo
  refine Tot.iteF (Py _) (Tot.pure ⟨hP,hC,hL,hlow,λ hb=>⟨(hfl hb).1,⟨λ j q k hj hst hp=>(hfl hb).2 j q k (by have:=Aj hj;omega) hj hst hp⟩⟩,hle⟩)
theorem ZH {place:Nat} (hpl:place<=s.length) {w1:Ad} (h:PI t s place w1) (h1:Yp t (s.drop place) (B2 t w1 place) (Br w1 place)) :
  Tot (λ n=>whl (λ (x:Ad)=>BM n (place:Int) x) n w1) (λ w=>PB t s place w/\(∀ p,A2 w p=A2 w1 p)/\w.Last=w1.Last):=by
 refine Tot.whl (body:=λ n x=>BM n (place:Int) x) (λ m x=>m=phi 13000000 (Br x place)/\PI t s place x/\(∀ p,A2 x p=A2 w1 p)/\x.Last=w1.Last/\Yp t (s.drop place) (B2 t x place) (Br x place)) ?_ _ w1 ⟨rfl,h,λ _=>rfl,rfl,h1⟩
 rintro m w ⟨rfl,hP,hC,hL,hD⟩
 have hcl:place<w.Columns.length:=by rw [hP.clen];omega
 unfold BM
 refine Tot.bindC (AX default hcl) ?_
 simp only [JkM,G6]
 refine Tot.bind (ZG hT hs hpl hP) ?_
 rintro ⟨w2,b⟩ ⟨g1,g2,g3,g4,g5,g6⟩
 simp only at g1 g2 g3 g4 g5 g6 ⊢
 cases b with
 | false=>
  obtain ⟨e,hD2⟩:=g5 rfl
  subst e
  refine Tot.iteT rfl (Tot.pure ⟨⟨hP.base,hP.clen,hP.nod,hP.ok,hP.all,hP.sort,λ p h1 h2=>?_⟩,hC,hL⟩)
  rcases Nat.eq_or_lt_of_le h1 with rfl|hlt
  ·refine ⟨λ i q hq=>hP.col.exact (hP.qn hT place) hD hD2 hq,λ i v hv=>?_⟩
   have hb:=(hP.col.top hv).2
   have:=hP.qlen hT place
   omega
  ·exact hP.later p hlt h2
 | true=>
  have hqs:B2 t w2 place=B2 t w place:=by unfold B2;rw [g2]
  refine Tot.iteF rfl (Tot.pure ⟨_,g6 rfl,rfl,g1,λ p=>(g2 p).trans (hC p),g3.trans hL,⟨λ j q k hj hst hp y hy hc=>?_⟩⟩)
  rw [hqs] at hj
  obtain ⟨v,a1,a2,a3⟩:=hD.rel j q k hj hst hp y hy hc
  obtain ⟨v',b1,b2,b3⟩:=g4 j v a1 a2
  exact ⟨v',b1,b2,by omega⟩
theorem JcK {w1:Ad} (h:WR t s w1):Tot (λ n=>CO n w1) (λ w=>PB t s 0 w/\w.Last=w1.Last):=by
 have hlen:=IN hT
 unfold CO
 rw [h.base.ss]
 refine Tot.bind (R:=λ w=>PB t s 0 w/\w.Last=w1.Last) ?_ (λ w h=>Tot.pure h)
 refine Tot.whl (body:=λ n x=>Ce n x.1 x.2) (λ m x=>x.2=(m:Int)-1/\m<=s.length+1/\PB t s m x.1/\x.1.Last=w1.Last) ?_ (s.length+1) _ ⟨by simp,by omega,h.pb,rfl⟩
 rintro m ⟨w,i'⟩ ⟨e2,e4,e5,e6⟩
 simp only at e2 e5 e6
 subst e2
 unfold Ce
 cases m with
 | zero=>exact Tot.iteF (by simp) (Tot.pure ⟨e5,e6⟩)
 | succ i=>
  have ei:((i+1:Nat):Int)-1=(i:Int):=by omega
  rw [ei]
  have hcl:i<w.Columns.length:=by rw [e5.clen];omega
  have hll:(A2 w i).length<=768:=by
   have hsub:∀ v∈A2 w i,v∈(List.range (Ae t).length).map (λ j:Nat=>(j:Int)):=by
    intro v hv
    obtain ⟨j,q,rfl,hq,_⟩:=e5.ok i v hv
    exact List.mem_map.2 ⟨j,List.mem_range.2 (Aj hq),rfl⟩
   have:=(e5.nod i).length_le_of_subset hsub
   rw [List.length_map,List.length_range] at this
   omega
  refine Tot.iteT (by simp) (Tot.bindC (AX default hcl) (Tot.bindC (AX default hcl) (Tot.bindC (NS (by omega) (by show ((A2 w i).length:Int).toNat*8<=_;omega)) ?_)))
  rw [show (w.Columns.getD i default).States=A2 w i from rfl,JkM,JkM]
  refine Tot.bindC (AX default (by rw [JkU];exact hcl)) ?_
  rw [CT hcl]
  refine Tot.bind (ZE hs (show i<=s.length by omega) e5 hll (List.replicate (A2 w i).length 0) (by simp)) ?_
  rintro w2 rfl
  have hPI:=e5.set (show i<=s.length by omega) (Tp t (s.drop i) _ (B2 t w i))
  have hcl2:i<(OZ w i ((B2 t w i).map (CU t (s.drop i)))).Columns.length:=by rw [hPI.clen];omega
  refine Tot.bindC (AX default hcl2) ?_
  simp only [G6]
  refine Tot.bind (ZF hT hs (show i<=s.length by omega) hPI) ?_
  rintro w3 ⟨g1,g2,g3,g4⟩
  refine Tot.bind (ZH hT hs (show i<=s.length by omega) g1 g4) ?_
  rintro w4 ⟨k1,k2,k3⟩
  refine Tot.pure ⟨i,by omega,?_,by omega,k1,?_⟩
  ·show JI .i64 (i:Int) 1=(i:Int)-1
   rw [Yi (by omega) (by omega)]
  ·rw [k3,g3];exact e6
end
end Go.AI
end
section
namespace Go.AI
structure XJ (t:Ab) (s:List UInt8) (w:AS) (a e:Int):Prop where
 bad:(Dr s).2≠0->w=⟨[],[]⟩/\a=(Dr s).1/\e=(Dr s).2
 none:(Dr s).2=0->Aw t As s<0->w=⟨[],[]⟩/\Lr t s a/\e=61
 path:(Dr s).2=0->0<=Aw t As s->e=0/\a=(s.length:Int)/\∃ p,Dc t As s p/\w=⟨cellsOf t p,p⟩
theorem XJ.uniq {t:Ab} {s:List UInt8} {w w':AS} {a a' e e':Int} (h:XJ t s w a e) (h':XJ t s w' a' e'):w=w'/\a=a'/\e=e':=by
 by_cases h1:(Dr s).2=0
 ·by_cases h2:Aw t As s<0
  ·obtain ⟨g1,g2,g3⟩:=h.none h1 h2
   obtain ⟨k1,k2,k3⟩:=h'.none h1 h2
   exact ⟨g1.trans k1.symm,g2.uniq k2,g3.trans k3.symm⟩
  ·obtain ⟨g1,g2,p,g3,g4⟩:=h.path h1 (by omega)
   obtain ⟨k1,k2,p',k3,k4⟩:=h'.path h1 (by omega)
   have:=g3.uniq k3
   subst this
   exact ⟨g4.trans k4.symm,g2.trans k2.symm,g1.trans k1.symm⟩
 ·obtain ⟨g1,g2,g3⟩:=h.bad h1
  obtain ⟨k1,k2,k3⟩:=h'.bad h1
  exact ⟨g1.trans k1.symm,g2.trans k2.symm,g3.trans k3.symm⟩
theorem Ws (t:Ab) (q:Aa):(A5 t q).Pairwise (λ a b=>a.Rule<b.Rule):=by
 unfold A5
 refine List.Pairwise.filterMap _ (R:=λ a b=>a<b) (λ a a' hlt b hb b' hb'=>?_) List.pairwise_lt_range
 unfold Jp at hb hb'
 split at hb
 ·split at hb'
  ·cases hb;cases hb';simp only;omega
  ·cases hb'
 ·cases hb
theorem FX.app {t:Ab}:∀ {p:List Int} {q q' q'':Aa} {p':List Int},FX t q p q'->FX t q' p' q''->FX t q (p++p') q''
 | [],q,q',q'',p',h,h'=>by unfold FX at h;subst h;exact h'
 | a::p,q,q',q'',p',h,h'=>⟨h.1,FX.app h.2 h'⟩
theorem N7 (t:Ab) (p:List Int) (k:Int):cellsOf t (p++[k])=cellsOf t p++cls t k:=by simp [cellsOf]
theorem Tr (t:Ab) (p:List Int) (k:Int):Cd t (p++[k])=Cd t p+(cls t k).length:=by simp [Cd,cellsOf]
section
variable {t:Ab} (hT:Kg t) {s:List UInt8} (hs:s.length<=4000)
include hT
omit hT in
theorem PB.pi0 {w:Ad} {t:Ab} {s:List UInt8} (h:PB t s 0 w) (p:Nat) (hp:p<=s.length):(∀ (i:Nat) q,(B2 t w p)[i]? = some q->(Br w p)[i]? = some (Aw t q (s.drop p)))/\∀ (i:Nat) v,(Br w p)[i]? = some v->v<=((3072*(s.length-p+1):Nat):Int):=h.later p (by omega) hp
theorem PB.find {w:Ad} (h:PB t s 0 w) {p:Nat} (hp:p<=s.length) {q:Aa} (hr:Rch t s p q) (hq:q∈Ae t):Ev (λ n=>Bx n (w.Columns.getD p default) (BX (Ae t) q)) (Aw t q (s.drop p))/\Aw t q (s.drop p)<=((3072*(s.length-p+1):Nat):Int):=by
 obtain ⟨j,hj,hg⟩:=BD hq
 obtain ⟨d,hd,e⟩:=List.getElem_of_mem (h.all p j q hg hr)
 have hd':(A2 w p)[d]? = some (j:Int):=by rw [← e];exact JkC hd
 have hqs:(B2 t w p)[d]? = some q:=(Ls (h.ok p)).2 ⟨j,hd',hg⟩
 obtain ⟨k1,k2⟩:=h.pi0 p hp
 have hx:=k1 d q hqs
 have hll:(A2 w p).length<=768:=by
  have hsub:∀ v∈A2 w p,v∈(List.range (Ae t).length).map (λ j:Nat=>(j:Int)):=by
   intro v hv
   obtain ⟨j,q,rfl,hq,_⟩:=h.ok p v hv
   exact List.mem_map.2 ⟨j,List.mem_range.2 (Aj hq),rfl⟩
  have:=(h.nod p).length_le_of_subset hsub
  have:=IN hT
  simp at *;omega
 refine ⟨?_,k2 d _ hx⟩
 rw [hj]
 exact UN (by show (A2 w p).length<=1000;omega) (h.sort p hp) (h.nod p) hd' hx
include hs
theorem ZI {w:Ad} (h:PB t s 0 w) {place:Nat} (hpl:place<=s.length) {q:Aa} (hr:Rch t s place q) (hq:q∈Ae t) (hc:0<Aw t q (s.drop place)) (r0:AS) (h1:r0.Cells.length<=13000000) (h2:r0.Path.length<=13000000) :
  Tot (λ n=>whl (λ (x:Int)=>Bh n w r0 (place:Int) (Aw t q (s.drop place)) (A5 t q) x) n 0) (λ y=>∃ k:Nat,BN t q (s.drop place) k=Aw t q (s.drop place)/\(∀ j:Nat,j<k->BN t q (s.drop place) j≠Aw t q (s.drop place))/\y=.inl (⟨r0.Cells++cls t k,r0.Path++[(k:Int)]⟩,((place+(prt t k).length:Nat):Int),BX (Ae t) (Ap t q k).1,Aw t (Ap t q k).1 (s.drop (place+(prt t k).length)))):=by
 have hrl:=hT.tab.1
 have hal:(A5 t q).length<=t.Rules.length:=by unfold A5;exact Nat.le_trans (List.length_filterMap_le _ _) (by simp)
 refine Tot.upto (body:=λ n x=>Bh n w r0 (place:Int) (Aw t q (s.drop place)) (A5 t q) x) (A5 t q).length (λ i x=>x=(i:Int)/\∀ (i':Nat) a (k:Nat),i'<i->(A5 t q)[i']? = some a->a.Rule=(k:Int)->BN t q (s.drop place) k≠Aw t q (s.drop place)) ?_ ?_ _ ⟨rfl,λ i' a k h=>by omega⟩
 ·rintro i x hi ⟨rfl,hI⟩
  have ha:(A5 t q)[i]? = some (A5 t q)[i]:=JkC hi
  obtain ⟨k,hk,hst,hae⟩:=HZ.1 (List.getElem_mem hi)
  obtain ⟨p1,p2,p3⟩:=hT.pr hst
  have hJ:BN t q (s.drop place) k≠Aw t q (s.drop place)->Tot (λ n=>Bg n (i:Int)) (Rd2 (λ x=>x=((i+1:Nat):Int)/\∀ (i':Nat) a (k:Nat),i'<i+1->(A5 t q)[i']? = some a->a.Rule=(k:Int)->BN t q (s.drop place) k≠Aw t q (s.drop place)) (λ y:(AS×Int×Int×Int)⊕Unit=>∃ k:Nat,BN t q (s.drop place) k=Aw t q (s.drop place)/\(∀ j:Nat,j<k->BN t q (s.drop place) j≠Aw t q (s.drop place))/\y=.inl (⟨r0.Cells++cls t k,r0.Path++[(k:Int)]⟩,((place+(prt t k).length:Nat):Int),BX (Ae t) (Ap t q k).1,Aw t (Ap t q k).1 (s.drop (place+(prt t k).length))))):=by
   intro hne
   unfold Bg
   refine Tot.pure ⟨BT (by omega),λ i' a k' hi' hia hak=>?_⟩
   by_cases e:i'=i
   ·subst e
    rw [ha,hae] at hia
    cases hia
    simp only at hak
    have:k=k':=by omega
    subst this
    exact hne
   ·exact hI i' a k' (by omega) hia hak
  unfold Bh
  refine Tot.iteT (E2 hi) (Tot.bindC (Cb ha) ?_)
  rw [hae]
  refine Tot.bindA (λ n=>OY hT hs h.base hpl hst n) (Tot.ite (λ hpf=>?_) λ hpf=>?_)
  ·refine hJ λ he=>?_
   have hpf':(prt t k).isPrefixOf (s.drop place)=false:=by simpa using hpf
   obtain ⟨_,⟨y,hy,_⟩,_⟩:=EE (t:=t) (q:=q) (x:=s.drop place) (k:=(k:Int)) (by omega)
   rw [← Bool.not_eq_true,List.isPrefixOf_iff_prefix,hy] at hpf'
   exact hpf' (List.prefix_append _ _)
  ·have hpf':(prt t k).isPrefixOf (s.drop place)=true:=by simpa using hpf
   have q2:=(Cz hpf').2 hpl
   obtain ⟨f1,f2⟩:=h.find hT q2 (hr.next hst hpf') (EF hT hq hst)
   have f3:=Sb t (Ap t q k).1 (s.drop (place+(prt t k).length))
   have hrule:=En (t:=t) (k:=(k:Int)) (by omega) (by omega)
   have hclen:(cls t k).length=(BC t k).Cells.length:=rfl
   have hcb:=(h.find hT hpl hr hq).2
   have hn:BN t q (s.drop place) k=if 0<=Aw t (Ap t q k).1 (s.drop (place+(prt t k).length)) then Aw t (Ap t q k).1 (s.drop (place+(prt t k).length))+(cls t k).length else -1:=by
    unfold BN
    rw [List.drop_drop]
    have hpp:prt t k <+: s.drop place:=List.isPrefixOf_iff_prefix.1 hpf'
    by_cases h0:0<=Aw t (Ap t q k).1 (s.drop (place+(prt t k).length))
    ·rw [if_pos ⟨hst,hpp,h0⟩,if_pos h0]
    ·rw [if_neg (λ hh=>h0 hh.2.2),if_neg h0]
   rw [h.base.tt]
   refine Tot.bindC hrule (Tot.bindC (AX default (by rw [h.clen];omega)) (Tot.bindE f1 ?_))
   have hsub:JI .i64 (Aw t q (s.drop place)) ((List.length (BC t k).Cells:Nat):Int)=Aw t q (s.drop place)-((cls t k).length:Nat):=by rw [Yi (by omega) (by omega)]
   rw [hsub]
   refine Tot.ite (λ hcond=>hJ λ he=>?_) λ hcond=>?_
   ·simp only [JkW,decide_eq_true_eq,bne_iff_ne,ne_eq] at hcond
    rw [hn] at he
    split at he<;>omega
   ·simp only [Bool.or_eq_false_iff,decide_eq_false_iff_not,bne_eq_false_iff_eq] at hcond
    refine Tot.bindC (D1 (by omega)) (Tot.bindC (D1 (by simp;omega)) (Tot.pure ⟨k,?_,λ j hj hje=>?_,?_⟩))
    ·rw [hn,if_pos (by omega)];omega
    ·obtain ⟨hsj,_⟩:=EE (t:=t) (q:=q) (x:=s.drop place) (k:=(j:Int)) (by omega)
     obtain ⟨i',hi',e⟩:=List.getElem_of_mem (HZ.2 ⟨j,by have:=Cc hsj;omega,hsj,rfl⟩:(⟨j,BX (Ae t) (Ap t q j).1⟩:FJ)∈A5 t q)
     have hlt:i'<i:=by
      apply Classical.byContradiction
      intro hge
      rcases Nat.eq_or_lt_of_le (Nat.le_of_not_lt hge) with rfl|hgt
      ·rw [hae] at e
       have:=congrArg FJ.Rule e
       simp only at this
       omega
      ·have:=(List.pairwise_iff_getElem.1 (Ws t q)) i i' hi hi' hgt
       rw [hae,e] at this
       simp only at this
       omega
     exact hI i' _ j hlt (by rw [JkC hi',e]) rfl hje
    ·rw [← hcond.2]
 ·rintro x ⟨rfl,hI⟩
  exfalso
  obtain ⟨k,hk,he⟩:=Tl hc
  obtain ⟨hst,_⟩:=EE (t:=t) (q:=q) (x:=s.drop place) (k:=(k:Int)) (by omega)
  obtain ⟨i',hi',e⟩:=List.getElem_of_mem (HZ.2 ⟨k,hk,hst,rfl⟩:(⟨k,BX (Ae t) (Ap t q k).1⟩:FJ)∈A5 t q)
  exact hI i' _ k hi' (by rw [JkC hi',e]) rfl he
structure UO (t:Ab) (s:List UInt8) (p0:List Int) (place:Nat) (q:Aa):Prop where
 goes:FX t As p0 q
 text:A6 t p0=s.take place
 le:place<=s.length
 greedy:∀ p1,Dc t q (s.drop place) p1->Dc t As s (p0++p1)
 len:Cd t p0+(Aw t q (s.drop place)).toNat<=(Aw t As s).toNat
 plen:p0.length<=Cd t p0
 pos:0<=Aw t q (s.drop place)
omit hs in
theorem UO.next {p0:List Int} {place:Nat} {q:Aa} (h:UO t s p0 place q) {k:Nat} (hc:0<Aw t q (s.drop place)) (hk:BN t q (s.drop place) k=Aw t q (s.drop place)) (hm:∀ j:Nat,j<k->BN t q (s.drop place) j≠Aw t q (s.drop place)):UO t s (p0++[(k:Int)]) (place+(prt t k).length) (Ap t q k).1:=by
 obtain ⟨g1,⟨y,g2,g3⟩,g4,g5⟩:=EE (t:=t) (q:=q) (x:=s.drop place) (k:=(k:Int)) (by omega)
 rw [List.drop_drop] at g3 g4 g5
 have hpf:(prt t k).isPrefixOf (s.drop place)=true:=by rw [List.isPrefixOf_iff_prefix,g2];exact List.prefix_append _ _
 obtain ⟨q1,q2⟩:=Cz hpf
 obtain ⟨p1,p2,p3⟩:=hT.pr g1
 refine ⟨h.goes.snoc g1,?_,q2 h.le,λ p' hp'=>?_,?_,?_,g4⟩
 ·rw [PC,h.text,List.take_add,q1,List.take_left' rfl]
 ·rw [List.append_assoc]
  exact h.greedy _ (.cons hc hk hm (by rw [List.drop_drop];exact hp'))
 ·rw [Tr];have:=h.len;omega
 ·rw [Tr,List.length_append];have:=h.plen;simp only [List.length_cons,List.length_nil];omega
omit hT hs in
theorem UO.start {t:Ab} {s:List UInt8} (h:0<=Aw t As s):UO t s [] 0 As:=⟨rfl,by simp [A6],by omega,λ p hp=>by simpa using hp,by simp [Cd,cellsOf],by simp,h⟩
omit hT hs in
theorem UO.rch {t:Ab} {s:List UInt8} {p0:List Int} {place:Nat} {q:Aa} (h:UO t s p0 place q):Rch t s place q:=⟨h.le,p0,h.goes,h.text⟩
omit hs in
theorem Rch.mem {i:Nat} {q:Aa} (h:Rch t s i q):q∈Ae t:=by
 obtain ⟨j,hj⟩:=Rch.ind (A:=λ _ q=>∃ j:Nat,(Ae t)[j]? = some q) ⟨0,(BB hT.tab).1.first⟩ (λ i' q k _ hA hst _=>by
  obtain ⟨j,hj⟩:=hA
  obtain ⟨d,_,hd⟩:=BD (EF hT (JkE hj) hst)
  exact ⟨d,hd⟩) h
 exact JkE hj
theorem ZJ {w:Ad} (h:PB t s 0 w) (h0:0<=Aw t As s):Tot (λ n=>Cf n w) (λ r=>∃ p,Dc t As s p/\r=⟨cellsOf t p,p⟩):=by
 have hf:=(BB hT.tab).1.first
 have hi0:BX (Ae t) As=0:=Kf (P3 hT) hf
 have hS:As∈Ae t:=JkE hf
 obtain ⟨f1,f2⟩:=h.find hT (p:=0) (by omega) (.start t s) hS
 rw [hi0,List.drop_zero] at f1
 rw [List.drop_zero] at f2
 unfold Cf
 refine Tot.bindC (AX (i:=0) default (by rw [h.clen];omega)) (Tot.bindE f1 ?_)
 refine Tot.bind (R:=λ r=>∃ p,Dc t As s p/\r=(⟨cellsOf t p,p⟩:AS)) ?_ (λ r hr=>Tot.pure hr)
 refine Tot.whl (body:=λ n x=>BA n w x.1 x.2.1 x.2.2.1 x.2.2.2) (λ m x=>∃ (p0:List Int) (place:Nat) (q:Aa),UO t s p0 place q/\x=(⟨cellsOf t p0,p0⟩,(place:Int),BX (Ae t) q,Aw t q (s.drop place))/\m=(Aw t q (s.drop place)).toNat) ?_ (Aw t As s).toNat _ ⟨[],0,As,.start h0,by rw [hi0,List.drop_zero];rfl,by rw [List.drop_zero]⟩
 rintro m x ⟨p0,place,q,hW,rfl,rfl⟩
 have hq:=hW.rch.mem hT
 unfold BA
 simp only
 by_cases hc:0<Aw t q (s.drop place)
 ·obtain ⟨j,hj,hg⟩:=BD hq
  have hlen:=hW.len
  have hpl:=hW.plen
  rw [hj]
  refine Tot.iteT (by simpa using hc) (Tot.bindC (Cb (h.base.arc j q hg)) (Tot.bind (ZI hT hs h hW.le hW.rch hq hc ⟨cellsOf t p0,p0⟩ (by show Cd t p0<=_;omega) (by show p0.length<=_;omega)) ?_))
  rintro y ⟨k,g1,g2,rfl⟩
  have hW2:=hW.next hT hc g1 g2
  obtain ⟨e1,⟨y,e2,e3⟩,e4,e5⟩:=EE (t:=t) (q:=q) (x:=s.drop place) (k:=(k:Int)) (by omega)
  rw [List.drop_drop] at e5
  obtain ⟨p1,p2,p3⟩:=hT.pr e1
  refine Tot.pure ⟨(Aw t (Ap t q k).1 (s.drop (place+(prt t k).length))).toNat,by have:=hW2.pos;omega,p0++[(k:Int)],place+(prt t k).length,(Ap t q k).1,hW2,?_,rfl⟩
  simp only [N7]
 ·refine Tot.iteF (by simpa using hc) (Tot.pure ⟨p0,?_,rfl⟩)
  have:=hW.greedy [] (.nil (by omega))
  rwa [List.append_nil] at this
theorem ZK (hv:Ev (λ n=>Ew n t) true):Tot (λ n=>Hy n t s) (λ y=>XJ t s y.1 y.2.1 y.2.2):=by
 have hf:=(BB hT.tab).1.first
 have hi0:BX (Ae t) As=0:=Kf (P3 hT) hf
 unfold Hy
 refine Tot.bindE (Yj (by omega)) ?_
 by_cases hb:(Dr s).2=0
 ·refine Tot.iteF (by rw [hb];rfl) (Tot.bindE hv (Tot.iteF rfl (Tot.bind (Jis hT hs) ?_)))
  rintro w1 ⟨h1,h2,h3⟩
  refine Tot.bind (JcJ hT hs h1 h2 h3) λ w2 hR=>Tot.bind (JcK hT hs hR) ?_
  rintro w3 ⟨hP,hL⟩
  have hcol:∀ v,InC w3 0 v->∃ (j:Nat) (q:Aa),v=(j:Int)/\(Ae t)[j]? = some q/\Rch t s 0 q:=hP.ok 0
  have hin0:InC w3 0 (0:Nat):=hP.all 0 0 As hf (.start t s)
  have hfirst:(A2 w3 0)[0]? = some ((0:Nat):Int):=by
   obtain ⟨d,hd,e⟩:=List.getElem_of_mem hin0
   cases d with
   | zero=>rw [← e];exact JkC hd
   | succ d=>
    exfalso
    have h4:=(List.pairwise_iff_getElem.1 (hP.sort 0 (by omega))) 0 (d+1) (by omega) hd (by omega)
    obtain ⟨j,q,e1,_,_⟩:=hcol _ (List.getElem_mem (show 0<(A2 w3 0).length by omega))
    have h5:=Se (hP.nod 0) (a:=0) (b:=d+1) (x:=((0:Nat):Int)) (by rw [JkC (by omega)];congr 1;omega) (by rw [JkC hd,e])
    omega
  have hqs:(B2 t w3 0)[0]? = some As:=(Ls hcol).2 ⟨0,hfirst,hf⟩
  have hx:=(hP.pi0 0 (by omega)).1 0 As hqs
  rw [List.drop_zero] at hx
  refine Tot.bindC (AX (i:=0) default (by rw [hP.clen];omega)) (Tot.bindC (Cb (i:=0) hx) (Tot.ite (λ hc=>?_) λ hc=>?_))
  ·have hneg:Aw t As s<0:=by simpa using hc
   refine Tot.pure ⟨λ h=>absurd hb h,λ _ _=>⟨rfl,?_,rfl⟩,λ _ h=>by omega⟩
   show Lr t s w3.Last
   rw [hL];exact hR.last
  ·have hpos:0<=Aw t As s:=by simpa using hc
   have e0:(⟨w3.T,w3.S,w3.States,w3.Arcs,w3.Columns.set (Int.toNat 0) (w3.Columns.getD 0 default),w3.Last⟩:Ad)=w3:=G6 w3 0 default
   rw [e0]
   refine Tot.bind (ZJ hT hs hP hpos) ?_
   rintro r ⟨p,hp,rfl⟩
   exact Tot.pure ⟨λ h=>absurd hb h,λ _ h=>by omega,λ _ _=>⟨rfl,rfl,p,hp,rfl⟩⟩
 ·refine Tot.iteT (by simpa using hb) (Tot.pure ⟨λ _=>⟨rfl,rfl,rfl⟩,λ h=>absurd h hb,λ h=>absurd h hb⟩)
end
end Go.AI
end
section
namespace Go.AI
section
variable {t:Ab} (hT:Kg t) {s:List UInt8} (hs:s.length<=4000)
include hT
theorem JcL {out:List (List Int)} (hR:∀ i,i<=s.length->Mm t s i (out.getD i [])) {i:Nat} (hi:i<=s.length) {q:Aa} (hq:q∈Ae t) (k:Nat):IM t s out i q k=BN t q (s.drop i) k:=by
 unfold IM BN
 by_cases hst:(Ap t q k).2=true
 ·by_cases hb:(prt t k).isPrefixOf (s.drop i)=true
  ·have q2:=(Cz hb).2 hi
   obtain ⟨m,hm,hmg⟩:=BD (EF hT hq hst)
   have hv:=(hR _ q2).val m _ hmg
   have hvv:(out.getD (i+(prt t k).length) []).getD m 0=Aw t (Ap t q k).1 (s.drop (i+(prt t k).length)):=by
    rw [JkL (l:=out.getD (i+(prt t k).length) []),hv];rfl
   rw [if_pos ⟨hst,hb⟩,hm,JkM,hvv,List.drop_drop]
   have hpp:prt t k <+: s.drop i:=List.isPrefixOf_iff_prefix.1 hb
   by_cases h0:0<=Aw t (Ap t q k).1 (s.drop (i+(prt t k).length))
   ·rw [if_neg (by omega),if_pos ⟨hst,hpp,h0⟩]
   ·rw [if_pos (by omega),if_neg (λ hh=>h0 hh.2.2)]
  ·rw [if_neg (λ hh=>hb hh.2),if_neg (λ hh=>hb (List.isPrefixOf_iff_prefix.2 hh.2.1))]
 ·rw [if_neg (λ hh=>hst hh.1),if_neg (λ hh=>hst hh.1)]
theorem XK {q:Aa} {x:List UInt8} (hc:0<Aw t q x):∃ k:Nat,k<t.Rules.length/\BN t q x k=Aw t q x/\∀ j:Nat,j<k->BN t q x j≠Aw t q x:=by
 obtain ⟨p,hp⟩:=Tm hT.one (Aw t q x).toNat q x (by omega)
 cases hp with
 | nil h=>omega
 | cons h hk hm hp=>
  obtain ⟨g1,_⟩:=EE (t:=t) (q:=q) (x:=x) (by rw [hk];omega)
  have:=Cc g1
  exact ⟨_,by omega,hk,hm⟩
include hs
theorem XL {out:List (List Int)} (hol:out.length=s.length+1) (hR:∀ i,i<=s.length->Mm t s i (out.getD i [])) {i:Nat} (hi:i<=s.length) {q:Aa} (hq:q∈Ae t) (w:Bq) {k:Nat} (hkl:k<t.Rules.length) (hk:BN t q (s.drop i) k=Aw t q (s.drop i)) (hm:∀ j:Nat,j<k->BN t q (s.drop i) j≠Aw t q (s.drop i)) :
  Tot (λ n=>whl (λ (x:Int)=>EA n t out (Ae t) w ⟨s,i,q,Ae t⟩ (Aw t q (s.drop i)) x) n 0) (λ y=>y=(k:Int)):=by
 have haft:∀ j:Nat,j<=k->Ev (λ n=>Gu n t ⟨s,i,q,Ae t⟩ j out) (BN t q (s.drop i) j):=λ j hj=>by
  rw [← JcL hT hR hi hq]
  exact Sc hT hs hi hol (λ i' _ h2=>N3 hT hs (hR i' h2)) hq (by omega)
 have hrl:=hT.tab.1
 refine Tot.upto (body:=λ n x=>EA n t out (Ae t) w ⟨s,i,q,Ae t⟩ (Aw t q (s.drop i)) x) k (λ j x=>x=(j:Int)) ?_ ?_ _ rfl
 ·rintro j x hj rfl
  unfold EA
  refine Tot.bindE (haft j (by omega)) (Tot.iteT (by simpa using hm j hj) (Tot.pure (BT (by omega))))
 ·rintro x rfl
  unfold EA
  exact Tot.bindE (haft k (by omega)) (Tot.iteF (by simpa using hk) (Tot.pure rfl))
theorem ZL:Tot (λ n=>LE n t s) (λ y=>XJ t s y.W y.At y.E):=by
 have hf:=(BB hT.tab).1.first
 have hi0:BX (Ae t) As=0:=Kf (P3 hT) hf
 have hrl:=hT.tab.1
 have hlen:=IN hT
 unfold LE
 refine Tot.bindE (Wf (by omega)) ?_
 by_cases hb:(Dr s).2=0
 ·refine Tot.iteF (by rw [hb];rfl) (Tot.bind (PA hT hs) ?_)
  rintro out ⟨hol,hR⟩
  have h00:(out.getD 0 [])[0]? = some (Aw t As s):=(hR 0 (by omega)).val 0 _ hf
  refine Tot.bindC (AX (i:=0) [] (by omega)) (Tot.bindC (Cb (i:=0) h00) (Tot.ite (λ hc=>?_) λ hc=>?_))
  ·have hneg:Aw t As s<0:=by simpa using hc
   refine Tot.bind (XH hT hs) λ a ha=>Tot.pure ⟨λ h=>absurd hb h,λ _ _=>⟨rfl,ha,rfl⟩,λ _ h=>by omega⟩
  ·have hpos:0<=Aw t As s:=by simpa using hc
   refine Tot.bindE (FC hT.tab) (Tot.bindC (y:=As) rfl (Tot.bind (R:=λ y:Bq=>y.At=(s.length:Int)/\y.E=0/\∃ p,Dc t As s p/\y.W=⟨cellsOf t p,p⟩) ?_ ?_))
   ·refine Tot.whl (body:=λ n x=>Hk n t out (Ae t) x.1 x.2) (λ m x=>∃ (p0:List Int) (place:Nat) (q:Aa),UO t s p0 place q/\x=(⟨⟨cellsOf t p0,p0⟩,(s.length:Int),0⟩,⟨s,(place:Int),q,Ae t⟩)/\m=(Aw t q (s.drop place)).toNat) ?_ (Aw t As s).toNat _ ⟨[],0,As,.start hpos,rfl,by rw [List.drop_zero]⟩
    rintro m x ⟨p0,place,q,hW,rfl,rfl⟩
    have hq:=hW.rch.mem hT
    have hple:=hW.le
    obtain ⟨j,hj,hg⟩:=BD hq
    have hv:=(hR place hple).val j _ hg
    unfold Hk
    simp only
    refine Tot.bindC (AX [] (by omega)) (Tot.bindE (E1 (l:=Ae t) (s:=q) (by omega)) ?_)
    rw [hj]
    refine Tot.bindC (Cb hv) (Tot.ite (λ hc=>?_) λ hc=>?_)
    ·have hc:0<Aw t q (s.drop place):=by simpa using hc
     obtain ⟨k,hkl,hk,hm⟩:=XK hT hc
     have hW2:=hW.next hT hc hk hm
     obtain ⟨e1,⟨y,e2,e3⟩,e4,e5⟩:=EE (t:=t) (q:=q) (x:=s.drop place) (k:=(k:Int)) (by omega)
     rw [List.drop_drop] at e5
     obtain ⟨p1,p2,p3⟩:=hT.pr e1
     have hrule:=En (t:=t) (k:=(k:Int)) (by omega) (by omega)
     have htop:=N3 hT hs (hR 0 (by omega))
     have hst:=htop.2 0 _ h00
     have hlen:=hW.len
     have hpl:=hW.plen
     have hlC:Cd t p0=(cellsOf t p0).length:=rfl
     have hW2l:=hW2.le
     refine Tot.bindC (AX [] (by omega)) (Tot.bindE (E1 (l:=Ae t) (s:=q) (by omega)) ?_)
     rw [hj]
     refine Tot.bindC (Cb hv) (Tot.bind (XL hT hs hol hR hple hq _ hkl hk hm) ?_)
     rintro y rfl
     refine Tot.bindC (D1 (by simp;omega)) (Tot.bindC hrule (Tot.bindC (D1 (by simp only [cls] at *;omega)) (Tot.bindA (λ n=>E0 hT.tab.short n q k) (Tot.bindC hrule (Tot.pure ⟨(Aw t (Ap t q k).1 (s.drop (place+(prt t k).length))).toNat,by have:=hW2.pos;omega,p0++[(k:Int)],place+(prt t k).length,(Ap t q k).1,hW2,?_,rfl⟩)))))
     have e6:Ay .i64 (place:Int) ((List.length (BC t k).Print:Nat):Int)=((place+(prt t k).length:Nat):Int):=by rw [Jm]<;>simp only [prt] at*<;> omega
     rw [N7,e6]
    ·refine Tot.pure ⟨rfl,rfl,p0,?_,rfl⟩
     have h0:¬ 0<Aw t q (s.drop place):=by simpa using hc
     have:=hW.greedy [] (.nil (by omega))
     rwa [List.append_nil] at this
   ·rintro y ⟨h1,h2,h3⟩
    exact Tot.pure ⟨λ h=>absurd hb h,λ _ h=>by omega,λ _ _=>⟨h2,h1,h3⟩⟩
 ·refine Tot.iteT (by simpa using hb) (Tot.pure ⟨λ _=>⟨rfl,rfl,rfl⟩,λ h=>absurd h hb,λ h=>absurd h hb⟩)
end
end Go.AI
end
section
namespace Go.AI
theorem JcM {t:Ab} (ht:Em t) {l:List Int} (hl:∀ a∈l,U8 a):Tot (λ n=>Nr n t l) (λ r=>r.1.length<=4000):=by
 unfold Nr
 refine Tot.bind (Jd9 ht.tab hl) ?_
 rintro ⟨p,ok⟩ hW
 have hrun:Ev (λ n=>Nq n t p) (KI t p [] [] 0 As)/\(KI t p [] [] 0 As).Text.length<=4000:=by
  cases ok with
  | true=>
   have hp:=hW.2.1 rfl
   refine ⟨Yn ht (by have:=hp.1;simp only at this;omega),?_⟩
   obtain ⟨s,h1,_,h2⟩:=hp.run
   rw [h2]
   have:=Jcy ht h1.mem
   have:=hp.1
   simp only at *;omega
  | false=>
   have hp:=hW.2.2 rfl
   simp only at hp
   subst hp
   exact ⟨Yn ht (by simp),by simp [KI]⟩
 exact Tot.bindE hrun.1 (Tot.pure hrun.2)
theorem Em.six {t:Ab} (h:Em t):Kg t:=⟨h.tab,λ r hr=>by have:=MQ (h.sound r hr);exact ⟨by omega,by omega⟩⟩
theorem Em.validT {t:Ab} (h:Em t):Ev (λ n=>Ew n t) true:=by
 have:=Zw h.small
 rwa [h.valid] at this
end Go.AI
end
section
namespace Go.AI
theorem O2 {t:Ab} (hc:∀ r∈t.Rules,1<=r.Cells.length):∀ {p:List Int},(∀ k∈p,0<=k/\k<t.Rules.length)->p.length<=Cd t p
 | [],_=>by simp
 | k::p,h=>by
  have h1:=h k (by simp)
  have h2:=hc _ (Eo h1.1 h1.2)
  have h3:=O2 (t:=t) hc (p:=p) λ a ha=>h a (by simp [ha])
  rw [Dm,List.length_cons]
  simp only [cls];omega
theorem Way.mem {t:Ab} {q:Aa} {x:List UInt8} {p:List Int} (h:Way t q x p):∀ k∈p,0<=k/\k<t.Rules.length:=by
 obtain ⟨⟨q',h1,_⟩,_⟩:=h
 exact h1.mem
section
variable {t:Ab} (hT:Kg t) {s:List UInt8} (hs:s.length<=4000)
include hT hs
theorem Wt:Aw t As s<=13000000:=by
 obtain ⟨out,⟨_,hR⟩,_⟩:=PA hT hs
 have hf:=(BB hT.tab).1.first
 exact ((N3 hT hs (hR 0 (by omega))).2 0 _ ((hR 0 (by omega)).val 0 _ hf)).2
theorem XJ.size {w:AS} {a e:Int} (h:XJ t s w a e):w.Cells.length<=13000000/\w.Path.length<=13000000:=by
 by_cases h1:(Dr s).2=0
 ·by_cases h2:Aw t As s<0
  ·obtain ⟨rfl,_⟩:=h.none h1 h2
   simp
  ·obtain ⟨_,_,p,g3,rfl⟩:=h.path h1 (by omega)
   have g4:=g3.way hT.one (by omega)
   have g5:=O2 hT.one g4.1.mem
   have g6:=Wt hT hs
   have:Cd t p=(cellsOf t p).length:=rfl
   simp only;omega
 ·obtain ⟨rfl,_⟩:=h.bad h1
  simp
end
theorem Way.last {t:Ab} {s:List UInt8} {p:List Int} (h:Way t As s p):Lr t s (s.length:Int):=by
 obtain ⟨⟨q,h1,h2⟩,h3⟩:=h
 refine ⟨⟨s.length,rfl,q,⟨by omega,p,h1,by rw [h3,List.take_length]⟩,?_⟩,λ i ⟨q,hq,_⟩=>by have:=hq.1;omega⟩
 unfold A3 at h2
 simp only [JkD] at h2
 unfold Dn
 rw [if_neg (by omega)]
 exact h2.2
end Go.AI
end
section
namespace Go.AI
def Do (t:Ab):List Int->Nat->Nat->Option Nat
 | [],_,_=>none
 | k::p,c,a=>if c<(cls t k).length then some a else Do t p (c-(cls t k).length) (a+(prt t k).length)
theorem XM {t:Ab}:∀ (p:List Int) (c a:Nat),c<Cd t p->∃ r,Do t p c a=some r:=by
 intro p
 induction p with
 | nil=>intro c a h;simp [Cd,cellsOf] at h
 | cons k p ih=>
  intro c a h
  unfold Do
  split
  ·exact ⟨a,rfl⟩
  ·rw [Dm] at h
   exact ih _ _ (by omega)
theorem Lt {t:Ab}:∀ (p:List Int) (c a r:Nat),Do t p c a=some r->∃ i,i<p.length/\r=a+(A6 t (p.take i)).length:=by
 intro p
 induction p with
 | nil=>intro c a r h;cases h
 | cons k p ih=>
  intro c a r h
  unfold Do at h
  split at h
  ·cases h;exact ⟨0,by simp,by simp [A6]⟩
  ·obtain ⟨i,h1,h2⟩:=ih _ _ _ h
   refine ⟨i+1,by simpa using h1,?_⟩
   rw [List.take_succ_cons,FD,List.length_append];omega
theorem JcN {t:Ab}:∀ (p:List Int) (i a:Nat) (hi:i<p.length),1<=(cls t p[i]).length->Do t p (Cd t (p.take i)) a=some (a+(A6 t (p.take i)).length):=by
 intro p
 induction p with
 | nil=>intro i a hi;cases hi
 | cons k p ih=>
  intro i a hi h
  cases i with
  | zero=>
   unfold Do
   simp only [List.getElem_cons_zero] at h
   simp [Cd,cellsOf,A6];intro h0;rw [h0] at h;simp at h
  | succ i=>
   simp only [List.getElem_cons_succ] at h
   have:=ih i (a+(prt t k).length) (by simpa using hi) h
   unfold Do
   rw [List.take_succ_cons,Dm,FD,List.length_append,if_neg (by omega),Nat.add_sub_cancel_left,this]
   congr 1;omega
theorem JcO {t:Ab} {p:List Int} {c a r:Nat} (h:Do t p c a=some r):a<=r:=by
 obtain ⟨i,_,h⟩:=Lt p c a r h;omega
theorem XN {t:Ab}:∀ (p:List Int) (c c' a r r':Nat),c<=c'->Do t p c a=some r->Do t p c' a=some r'->r<=r':=by
 intro p
 induction p with
 | nil=>intro c c' a r r' _ h;cases h
 | cons k p ih=>
  intro c c' a r r' hc h h'
  by_cases h1:c<(cls t k).length
  ·unfold Do at h
   rw [if_pos h1] at h;cases h
   exact JcO h'
  ·unfold Do at h h'
   rw [if_neg h1] at h;rw [if_neg (by omega)] at h'
   exact ih _ _ _ _ _ (by omega) h h'
theorem MR {t:Ab} (p:List Int) {i j:Nat} (h:i<=j):(A6 t (p.take i)).length<=(A6 t (p.take j)).length:=by
 have e:p.take j=p.take i++(p.drop i).take (j-i):=by
  have:=List.take_add (l:=p) (i:=i) (j:=j-i)
  rwa [show i+(j-i)=j by omega] at this
 rw [e];simp [A6]
theorem XO {t:Ab} (p:List Int) {i:Nat} (h:i<p.length):(A6 t (p.take (i+1))).length=(A6 t (p.take i)).length+(prt t p[i]).length:=by
 have e:p.take (i+1)=p.take i++[p[i]]:=by rw [List.take_add_one,JkC h];rfl
 rw [e];unfold A6;rw [List.flatMap_append,List.length_append];simp
theorem Wu {t:Ab} (p:List Int) (i:Nat):(A6 t (p.take i)).length<=(A6 t p).length:=by
 rcases Nat.lt_or_ge i p.length with h|h
 ·have:=MR (t:=t) p (i:=i) (j:=p.length) (by omega);rwa [List.take_length] at this
 ·rw [List.take_of_length_le h];omega
structure UP (t:Ab) (s:List UInt8) (c:Int) (y:Int×Int):Prop where
 bad:(Dr s).2≠0->y=(0,(Dr s).2)
 no:(Dr s).2=0->Aw t As s<0->y=(0,61)
 out:(Dr s).2=0->0<=Aw t As s->∀ p,Dc t As s p->(c<0\/((Cd t p:Nat):Int)<=c)->y=(0,310)
 at_:(Dr s).2=0->0<=Aw t As s->∀ p,Dc t As s p->0<=c->c<((Cd t p:Nat):Int)->∃ r,Do t p c.toNat 0=some r/\y=((r:Int),0)
section
variable {t:Ab} (hT:Kg t) {s:List UInt8} (hs:s.length<=4000)
include hT hs
omit hs in
theorem UP.uniq {c:Int} {y y':Int×Int} (h:UP t s c y) (h':UP t s c y'):y=y':=by
 by_cases h1:(Dr s).2=0
 ·by_cases h2:Aw t As s<0
  ·rw [h.no h1 h2,h'.no h1 h2]
  ·obtain ⟨p,hp⟩:=Tm hT.one (Aw t As s).toNat As s (by omega)
   by_cases h3:c<0\/((Cd t p:Nat):Int)<=c
   ·rw [h.out h1 (by omega) p hp h3,h'.out h1 (by omega) p hp h3]
   ·obtain ⟨r,e1,e2⟩:=h.at_ h1 (by omega) p hp (by omega) (by omega)
    obtain ⟨r',e1',e2'⟩:=h'.at_ h1 (by omega) p hp (by omega) (by omega)
    rw [e1] at e1';cases e1';rw [e2,e2']
 ·rw [h.bad h1,h'.bad h1]
theorem O3 {p:List Int} (hp:Dc t As s p) (h0:0<=Aw t As s):(∀ k∈p,0<=k/\k<t.Rules.length/\1<=(cls t k).length/\(cls t k).length<=4/\(prt t k).length<=3)/\A6 t p=s/\Cd t p<=13000000/\p.length<=13000000:=by
 obtain ⟨hw,hc⟩:=hp.way hT.one h0
 have h1:=hw.mem
 have h2:=Wt hT hs
 have h3:=O2 hT.one h1
 refine ⟨λ k hk=>?_,hw.2,by omega,by omega⟩
 obtain ⟨a,b⟩:=h1 k hk
 have hm:=Eo a b
 exact ⟨a,b,(hT.cl _ hm).1,(hT.cl _ hm).2,(hT.tab.2 _ hm).2.2.2.2⟩
omit hT hs in
theorem UQ {k:Int} (e:Ab) (o:List Int) {a c d:Nat} (hd:d<=c) (hc:c<=13000000) (ho:(cls t k).length<=4) (pl i:Int) :
  Tot (λ n=>whl (λ (x:(Int×Int×Int))=>Cy n e (c:Int) o (a:Int) i k (BC t k) x.1 x.2.1 x.2.2) n (pl,(d:Int),0)) (λ y=>if c-d<(cls t k).length then y=.inr (2,(a:Int),(c:Int)) else ∃ pl',y=.inl (pl',((d+(cls t k).length:Nat):Int))):=by
 refine Tot.upto (body:=λ n (x:Int×Int×Int)=>Cy n e (c:Int) o (a:Int) i k (BC t k) x.1 x.2.1 x.2.2) (cls t k).length (λ j x=>∃ pl',x=(pl',((d+j:Nat):Int),(j:Int))/\d+j<=c) ?_ ?_ _ ⟨pl,rfl,hd⟩
 ·rintro j x hj ⟨pl',rfl,hle⟩
  unfold Cy
  refine Tot.iteT (E2 hj) ?_
  unfold GN
  by_cases he:d+j=c
  ·subst he
   simp only [beq_self_eq_true,if_true]
   refine Tot.bindC rfl (Tot.iteT rfl (Tot.pure ?_))
   show if d+j-d<(cls t k).length then _ else _
   rw [if_pos (by omega)]
  ·have:((((d+j:Nat):Int))==(c:Int))=false:=by simp only [beq_eq_false_iff_ne,ne_eq];omega
   simp only [this,JkP,if_false]
   refine Tot.bindC rfl (Tot.iteF rfl (Tot.pure ⟨pl',?_,by omega⟩))
   simp only
   rw [BT (by omega),BT (by omega),Nat.add_assoc]
 ·rintro x ⟨pl',rfl,hle⟩
  unfold Cy
  refine Tot.iteF (Py _) (Tot.pure ?_)
  show if c-d<(cls t k).length then _ else _
  split
  ·omega
  ·exact ⟨pl',rfl⟩
theorem Wv {p:List Int} (hp:Dc t As s p) (h0:0<=Aw t As s) {c r:Nat} (hr:Do t p c 0=some r) (hc:c<Cd t p) :
  Tot (λ n=>Fq n t (c:Int) 0 0 p) (λ y=>y=(2,(r:Int),(c:Int))):=by
 obtain ⟨hk,htx,hl1,hl2⟩:=O3 hT hs hp h0
 unfold Fq
 refine Tot.bind (R:=λ y=>y=.inr (2,(r:Int),(c:Int))) ?_ (λ y hy=>by subst hy;exact Tot.pure rfl)
 refine Tot.upto (body:=λ n (x:Int×Int×Int×Int)=>Df n t (c:Int) p x.1 x.2.1 x.2.2.1 x.2.2.2) p.length (λ i x=>∃ (pl:Int) (a d:Nat),x=(pl,(d:Int),(a:Int),(i:Int))/\d<=c/\c-d<Cd t (p.drop i)/\Do t (p.drop i) (c-d) a=some r/\a<=3*i/\d<=4*i) ?_ ?_ _ ⟨0,0,0,rfl,by omega,by simpa using hc,by simpa using hr,by omega,by omega⟩
 ·rintro i x hi ⟨pl,a,d,rfl,hd,hlt,hpl,ha4,hd4⟩
  obtain ⟨k0,k1,k2,k3,k4⟩:=hk _ (List.getElem_mem hi)
  have hcl:(BC t p[i]).Cells.length=(cls t p[i]).length:=rfl
  have hpr:(BC t p[i]).Print.length=(prt t p[i]).length:=rfl
  rw [Ke hi] at hpl hlt
  unfold Df
  refine Tot.iteT (E2 hi) (Tot.bindC (CE hi) (Tot.bindC (En k0 k1) ?_))
  refine Tot.bind (UQ t p hd (by omega) k3 pl i) ?_
  intro y hy
  unfold Do at hpl
  rw [Dm] at hlt
  by_cases hx:c-d<(cls t p[i]).length
  ·rw [if_pos hx] at hpl hy;cases hpl;subst hy
   exact Tot.pure rfl
  ·rw [if_neg hx] at hpl hy
   obtain ⟨pl',rfl⟩:=hy
   refine Tot.bindC (En k0 k1) (Tot.pure ⟨pl',a+(prt t p[i]).length,d+(cls t p[i]).length,?_,by omega,?_,?_,by omega,by omega⟩)
   ·simp only
    rw [Jm (by omega) (by omega),BT (by omega)]
    simp only [Int.natCast_add]
   ·rw [← Nat.sub_sub];omega
   ·rw [← Nat.sub_sub];exact hpl
 ·rintro x ⟨pl,a,d,rfl,hd,hlt,_⟩
  simp [Cd,cellsOf] at hlt
theorem ZM (hv:Ev (λ n=>Ew n t) true) (c:Int):Tot (λ n=>CP n t s c) (UP t s c):=by
 unfold CP
 refine Tot.bind (ZK hT hs hv) ?_
 rintro y hW
 by_cases h1:(Dr s).2=0
 ·by_cases h2:Aw t As s<0
  ·obtain ⟨_,_,he⟩:=hW.none h1 h2
   refine Tot.iteT (by rw [he];rfl) (Tot.pure ⟨λ h=>absurd h1 h,λ _ _=>by rw [he],λ _ h=>by omega,λ _ h=>by omega⟩)
  ·have h2:0<=Aw t As s:=by omega
   obtain ⟨he,_,p,hp,hw⟩:=hW.path h1 h2
   have hlen:(y.1.Cells.length:Nat)=Cd t p:=by rw [hw];rfl
   refine Tot.iteF (by rw [he];rfl) ?_
   by_cases h3:c<0\/((Cd t p:Nat):Int)<=c
   ·refine Tot.iteT (by rw [hlen];simp only [ge_iff_le,JkW,decide_eq_true_eq];exact h3) (Tot.pure ⟨λ h=>absurd h1 h,λ _ h=>by omega,λ _ _ _ _ _=>rfl,λ _ _ p' hp' h4 h5=>by have:=hp.uniq hp';subst this;omega⟩)
   ·refine Tot.iteF (by rw [hlen];simp only [ge_iff_le,Bool.or_eq_false_iff,decide_eq_false_iff_not];omega) ?_
    obtain ⟨c,rfl⟩:∃ m:Nat,c=m:=⟨c.toNat,by omega⟩
    obtain ⟨r,hr⟩:=XM (t:=t) p c 0 (by omega)
    have hpath:y.1.Path=p:=by rw [hw]
    rw [hpath]
    refine Tot.bindC rfl (Tot.bind (Wv hT hs hp h2 hr (by omega)) ?_)
    rintro _ rfl
    refine Tot.iteF rfl (Tot.iteT rfl ?_)
    exact Tot.pure ⟨λ h=>absurd h1 h,λ _ h=>by omega,λ _ _ p' hp' h4=>by have:=hp.uniq hp';subst this;omega,λ _ _ p' hp' h4 h5=>by have:=hp.uniq hp';subst this;exact ⟨r,by simpa using hr,rfl⟩⟩
 ·obtain ⟨_,_,he⟩:=hW.bad h1
  refine Tot.iteT (by rw [he];simpa using h1) (Tot.pure ⟨λ _=>by rw [he],λ h=>absurd h h1,λ h=>absurd h h1,λ h=>absurd h h1⟩)
end
end Go.AI
end
section
namespace Go.AI
theorem Ww:Ev (λ n=>GO n) true:=Ev.of (λ n m h=>R1 h) (n:=60) (by kernel_rfl)
def JcP (t:Ab) (p:List Int) (s:List UInt8) (C:Nat) (l:List Bool):Prop:=l.length=s.length+1/\∀ b:Nat,l[b]? = some true↔∃ c,c<C/\Do t p c 0=some b
theorem JcQ (t:Ab) (p p':List Int):Cd t (p++p')=Cd t p+Cd t p':=by simp [Cd,cellsOf]
section
variable {t:Ab} (hT:Kg t) {s:List UInt8} (hs:s.length<=4000)
include hT hs
theorem XP (hv:Ev (λ n=>Ew n t) true) {p:List Int} (hx:(Dr s).2=0) (hp:Dc t As s p) (h0:0<=Aw t As s) (e:Bq) (he:e.W.Cells.length=Cd t p) :
  Tot (λ n=>whl (λ (x:((List Bool)×Int×Int))=>Co n true t (s,true) e x.1 x.2.1 x.2.2) n (List.replicate (s.length+1) false,0,0)) (λ y=>∃ l,y=.inl l/\JcP t p s (Cd t p) l):=by
 obtain ⟨hk,htx,hl1,hl2⟩:=O3 hT hs hp h0
 refine Tot.upto (body:=λ n (x:List Bool×Int×Int)=>Co n true t (s,true) e x.1 x.2.1 x.2.2) (Cd t p) (λ C x=>∃ (l:List Bool) (a:Nat),x=(l,(a:Int),(C:Int))/\JcP t p s C l/\∀ c r,C<=c->Do t p c 0=some r->a<=r) ?_ ?_ _ ⟨_,0,rfl,⟨by simp,λ b=>?_⟩,λ c r _ _=>Nat.zero_le _⟩
 ·rintro C x hC ⟨l,a,rfl,⟨hll,hm⟩,ha⟩
  unfold Co
  dsimp only
  refine Tot.iteT (by rw [he];exact E2 hC) (Tot.bind (ZM hT hs hv _) λ y hy=>?_)
  obtain ⟨r,hr,rfl⟩:=hy.at_ hx h0 p hp (by omega) (by omega)
  simp only [JkM] at hr
  obtain ⟨i,hi,hri⟩:=Lt p C 0 r hr
  have hrl:=Wu (t:=t) p i
  rw [htx] at hrl
  have har:=ha C r (Nat.le_refl _) hr
  have hz:C=0->r=0:=by
   rintro rfl
   cases p with
   | nil=>cases hr
   | cons k p=>
    unfold Do at hr
    rw [if_pos (by have:=(hk k (by simp)).2.2.1;omega)] at hr;cases hr;rfl
  refine Tot.iteF ?_ (Tot.bindC (CE (i:=r) (by omega)) (Tot.bindC (GA (by omega)) (Tot.pure ⟨l.set r true,r,?_,⟨by simpa using hll,λ b=>?_⟩,?_⟩)))
  ·simp only [bne_self_eq_false,Bool.false_or,Bool.or_eq_false_iff,decide_eq_false_iff_not,Bool.and_eq_false_iff,beq_eq_false_iff_ne,bne_eq_false_iff_eq]
   refine ⟨⟨by omega,by omega⟩,?_⟩
   by_cases hC0:C=0
   ·right;have:=hz hC0;omega
   ·left;omega
  ·simp only
   rw [BT (by omega)]
  ·rw [List.getElem?_set]
   constructor
   ·intro h
    split at h
    ·rename_i e0;subst e0;exact ⟨C,by omega,hr⟩
    ·obtain ⟨c,h1,h2⟩:=(hm b).1 h;exact ⟨c,by omega,h2⟩
   ·rintro ⟨c,h1,h2⟩
    split
    ·rw [if_pos (by omega)]
    ·rename_i hne
     by_cases hc:c=C
     ·subst hc;rw [hr] at h2;cases h2;exact absurd rfl hne
     ·exact (hm b).2 ⟨c,by omega,h2⟩
  ·intro c r' hc hr'
   exact XN p C c 0 r r' (by omega) hr hr'
 ·rintro x ⟨l,a,rfl,hm,_⟩
  unfold Co
  exact Tot.iteF (by rw [he];exact Py _) (Tot.pure ⟨l,rfl,hm⟩)
 ·constructor
  ·intro h
   rw [List.getElem?_replicate] at h
   split at h<;>cases h
  ·rintro ⟨c,h,_⟩;omega
theorem XQ {p:List Int} (hp:Dc t As s p) (h0:0<=Aw t As s) (e:Bq) (he:e.W.Path=p) {l:List Bool} (hm:JcP t p s (Cd t p) l) :
  Tot (λ n=>whl (λ (x:(Int×Int))=>Cp n true t e l x.1 x.2) n (0,0)) (λ y=>y=.inl ()):=by
 obtain ⟨hk,htx,hl1,hl2⟩:=O3 hT hs hp h0
 have hst:∀ i,(A6 t (p.take i)).length<=s.length:=λ i=>by have:=Wu (t:=t) p i;rwa [htx] at this
 refine Tot.upto (body:=λ n (x:Int×Int)=>Cp n true t e l x.1 x.2) p.length (λ i x=>x=((((A6 t (p.take i)).length:Nat):Int),(i:Int))) ?_ ?_ _ (by simp [A6])
 ·rintro i x hi rfl
  obtain ⟨k0,k1,k2,k3,k4⟩:=hk _ (List.getElem_mem hi)
  have hpr:(BC t p[i]).Print.length=(prt t p[i]).length:=rfl
  have hnext:=XO (t:=t) p hi
  have hn1:=hst (i+1)
  unfold Cp
  dsimp only
  refine Tot.iteT (by rw [he];exact E2 hi) (Tot.bindC (by rw [he];exact CE hi) (Tot.bindC (En k0 k1) ?_))
  have hat:l[(A6 t (p.take i)).length]? = some true:=by
   have h1:=JcN (t:=t) p i 0 hi k2
   have h2:Cd t (p.take i)<Cd t p:=by
    have e1:Cd t p=Cd t (p.take i)+Cd t (p.drop i):=by rw [← JcQ,List.take_append_drop]
    rw [Ke hi,Dm] at e1;omega
   exact (hm.2 _).2 ⟨_,h2,by simpa using h1⟩
  refine Tot.guard (R:=λ b=>b=true) (λ _=>Tot.all (λ n=>Cb hat) rfl) λ b hb=>?_
  refine Tot.iteF ?_ ?_
  ·by_cases hpos:0<(prt t p[i]).length
   ·rw [hb (by simp only [decide_eq_true_eq];omega)];simp
   ·simp;omega
  ·refine Tot.bind (R:=λ y:Unit⊕Bool=>y=.inl ()) ?_ (λ y hy=>by subst hy;exact Tot.pure (by show (_,_)=(_,_);rw [Jm (by omega) (by omega),BT (by omega),hnext];simp only [Int.natCast_add]))
   refine Tot.whl (body:=λ n k=>DA n true t e l _ (i:Int) (BC t p[i]) k) (λ m x=>∃ j:Nat,x=(j:Int)/\1<=j/\j<=(prt t p[i]).length+1/\m=(prt t p[i]).length+1-j) ?_ ((prt t p[i]).length) 1 ⟨1,rfl,by omega,by omega,by omega⟩
   rintro m x ⟨j,rfl,hj1,hj2,rfl⟩
   unfold DA
   by_cases hj:j<(prt t p[i]).length
   ·refine Tot.iteT (E2 hj) ?_
    rw [Jm (by omega) (by omega),← Int.natCast_add]
    refine Tot.bindC (CE (by rw [hm.1];omega)) (Tot.iteF ?_ (Tot.pure ⟨_,?_,j+1,BT (by omega),by omega,by omega,rfl⟩))
    ·cases hb:l[(A6 t (p.take i)).length+j]'(by rw [hm.1];omega) with
     | false=>rfl
     | true=>
      obtain ⟨c,hc,hpl⟩:=(hm.2 ((A6 t (p.take i)).length+j)).1 (by rw [JkC (by rw [hm.1];omega),hb])
      obtain ⟨i',hi',hri⟩:=Lt p c 0 _ hpl
      rcases Nat.lt_or_ge i i' with hlt|hge
      ·have:=MR (t:=t) p (i:=i+1) (j:=i') (by omega);omega
      ·have:=MR (t:=t) p (i:=i') (j:=i) (by omega);omega
    ·omega
   ·exact Tot.iteF (by simp only [decide_eq_false_iff_not];omega) (Tot.pure rfl)
 ·rintro x rfl
  unfold Cp
  exact Tot.iteF (by rw [he];exact Py _) (Tot.pure rfl)
end
theorem JjU {x:KZ} (hx:NX x) {l:List Int} (hl:∀ a∈l,U8 a):Ev (λ n=>E7 n x l) true:=by
 obtain ⟨t,ht,hE⟩:=Jd6 hx
 have h6:=ht.six
 refine Tot.ev ?_
 unfold E7
 refine Tot.bindE Ww (Tot.bindE hE (Tot.bind (JcM ht hl) ?_))
 rintro ⟨s,ok⟩ hs
 simp only at hs
 refine Tot.bind (ZL h6 hs) λ y hW=>?_
 by_cases hc:ok=false\/y.E≠0
 ·exact Tot.iteT (by rcases hc with h|h<;>simp [h]) (Tot.pure rfl)
 ·simp only [not_or,Bool.not_eq_false,Decidable.not_not] at hc
  obtain ⟨rfl,hE0⟩:=hc
  refine Tot.iteF (by simp [hE0]) ?_
  have h1:(Dr s).2=0:=Classical.byContradiction λ h=>h (by rw [← (hW.bad h).2.2];exact hE0)
  have h2:0<=Aw t As s:=Classical.byContradiction λ h=>by have h3:=(hW.none h1 (by simp only;omega)).2.2;rw [hE0] at h3;cases h3
  obtain ⟨_,_,p,hp,hw⟩:=hW.path h1 h2
  have e:Ay .i64 ((s.length:Nat):Int) 1=((s.length+1:Nat):Int):=BT (by omega)
  simp only [e]
  refine Tot.bindC (NS (by omega) (by omega)) ?_
  rw [JkM]
  refine Tot.bind (XP h6 hs ht.validT h1 hp h2 y (by rw [hw];rfl)) ?_
  rintro _ ⟨l',rfl,hm⟩
  refine Tot.bind (XQ h6 hs hp h2 y (by rw [hw]) hm) ?_
  rintro _ rfl
  exact Tot.pure rfl
end Go.AI
end
section
namespace Go.AI
theorem Lu {n:Int} (h:okI .u8 n):U8 n:=by
 unfold okI Lit.wf at h
 have:IntKind.u8.min=0/\IntKind.u8.max=255:=by decide
 unfold U8
 simp only [JkD,decide_eq_true_eq] at h
 omega
theorem SH {r:Dd} (h:JZ r):Yl r:=by
 obtain ⟨a,b,c,d,e,f⟩:=h
 exact ⟨λ y hy=>Lu (a y hy),λ y hy=>Lu (b y hy),Lu c,Lu d,Lu e,Lu f⟩
theorem ZN {x:KZ} (h:Xs x):NX x:=⟨(Lu h.1).1,λ r hr=>SH (h.2.2 r hr)⟩
theorem Jiv {l:List Int} (h:∀ a∈l,okI .u8 a):∀ a∈l,U8 a:=λ a ha=>Lu (h a ha)
theorem Jiw:∀ (x:KZ) (l:List Int),Xs x->(∀ a∈l,okI .u8 a)->∃ n,E7 n x l=some true:=λ _ _ h hl=>(JjU (ZN h) (Jiv hl)).out
end Go.AI
end
section
namespace Go.Proofs.Ytpjdhkjmnmbdfaa
open Go.AI Go.ChangeShapes Go.WideShapes Go.ChangeAt Go.RowKit
theorem own:ownKnob Try.prog.godebug=none:=by kernel_rfl
set_option maxRecDepth 100000 in
theorem Jix (os:Os) (started:os.Started) (H:Type) (enc:TypeId×Value->H) :
  ReturnsInHanded {} Try.checked os 4 .any (Rows.markOrdersSpec.pre6 enc Try.prog Try.f4 Rows.markOrdersRow.domain false) (Rows.markOrdersSpec.post enc Try.prog Try.f4 false true false false):=by
 refine returnsInHanded_of_change (C:=Try.checked) own started (by kernel_rfl) Try.func4
  (ChangeSpec.witness6 (enc:=enc) (C:=Try.checked) false ⟨#[],#[.agg #[.int .u8 0,.int .u8 0,.slice none 0 0],.slice none 0 0],[]⟩ 8 (by kernel_rfl) (by kernel_rfl) (by kernel_rfl) (by kernel_rfl)) ?_
 intro W base args ds gs before hval0 hW hcnd _
 have hval:∀ (j:Nat) t v,Try.f4.params[j]? = some t->args[j]? = some v->Value.okWide Try.prog W .any base t v:=hval0
 have hW':=hW
 obtain ⟨p,q,hA0,hV,rfl,hfz,hnd⟩:=hW
 have hA:DataW.TrodAll enc Try.prog W 0 (λ _=>true) true Try.f4.params.toList args.toList ds p:=hA0
 have hlt:=hA.lt
 rw [Try.params4] at hA hval
 obtain ⟨v0,vs0,d0,ds0,p0,q0,hargs,rfl,rfl,h0,r0⟩:=trodAll_cons hA
 obtain ⟨v1,vs1,d1,ds1,p1,q1,rfl,rfl,rfl,h1,r1⟩:=trodAll_cons r0
 obtain ⟨rfl,rfl,rfl⟩:=trodAll_nil r1
 obtain rfl:args=#[v0,v1]:=by cases args;simp_all
 obtain ⟨rfl,rfl⟩:=trodVars_none hV
 obtain ⟨cs0,hc0,_⟩:=okWide_struct Try.underlying24 (hval 0 24 v0 rfl rfl)
 obtain ⟨a0,k0,rep0⟩:=Jd0 hc0 h0 JkA
 obtain ⟨x1,y1,z1,hc1⟩:=okWide_slice Try.underlying25 (hval 1 25 v1 rfl rfl)
 obtain ⟨a1,k1,rep1⟩:=Jd1 (y:=λ a=>.sl (a.map eU8)) (by rw [hc1];rfl) h1 Jil (λ _=>rfl)
 clear hA0 hval0
 simp only [List.append_nil] at hW' hlt
 obtain ⟨n,hn⟩:=Jiw a0 a1 k0 k1
 refine (Jb5 (MJ hn) (Yf rep0 (Yf rep1 Jik))).mono λ e W' ⟨he,hg,hold⟩=>?_
 subst he
 exact ⟨_,rfl,Zj (pv:=[]) hW' (λ _ _ _=>(trodAll_cons_mk (shut_bool Try.underlying4 _) trodAll_mk0)) (λ sp hsp=>trodAll_cons_mk (JeL (by kernel_rfl) (by kernel_rfl) (of_decide_eq_true (by kernel_rfl)) h0 (λ p hp=>hlt p (by simp [hp])) (λ p hp=>hsp p (by simp [hp])) hold) (trodAll_cons_mk (JeL (by kernel_rfl) (by kernel_rfl) (of_decide_eq_true (by kernel_rfl)) h1 (λ p hp=>hlt p (by simp [hp])) (λ p hp=>hsp p (by simp [hp])) hold) trodAll_mk0)) (λ _ _=>rfl) (by simp) (hg _) hold (ok_one (by kernel_rfl) rfl (okWide_bool_mk Try.underlying4 _))⟩
theorem JkB:Rows.markOrdersRow.holds Try.pinned (OpenSpec.ofChange Rows.markOrdersSpec):=
 OpenClaim.holds_of_wide 4 Try.f4 rfl rfl rfl rfl rfl rfl rfl ⟨rfl,rfl,rfl,rfl,rfl⟩ rfl rfl rfl rfl rfl (by kernel_rfl) Try.func4 (by kernel_rfl)
  (of_decide_eq_true (by kernel_rfl)) (by unfold Func.isWrapper;first|(rw [if_pos (by decide +kernel)];kernel_rfl)|(rw [if_neg (by decide +kernel)];exact ⟨rfl,rfl⟩))
  (λ os started H enc _=>Jix os started H enc)
theorem markOrders_holds:Rows.MarkOrdersSaid:=JkB
end Go.Proofs.Ytpjdhkjmnmbdfaa
end
