/- The theorem: the last one of this text; part 6 of 6 of its proof. It holds with no condition beyond the given statement. -/
import Derived.Test.YtjaogfjfamffnaaGreatLE
import Derived.KernelRfl
import Derived.Test.YtjaogfjfamffnaaGreatRows
section
namespace Go.AI
theorem Ym (a b:Int) (h:0<=b) (h':b<256):0<=Ch .u8 a b/\Ch .u8 a b<=b:=by
 unfold Ch
 have hb:(BitVec.ofInt 8 b).toNat=b.toNat:=by
  rw [BitVec.toNat_ofInt]
  omega
 have hle:(BitVec.ofInt 8 a &&& BitVec.ofInt 8 b).toNat<=b.toNat:=by
  rw [BitVec.toNat_and,hb];exact Nat.and_le_right
 have e:(BitVec.ofInt IntKind.u8.bits a &&& BitVec.ofInt IntKind.u8.bits b).toNat=(BitVec.ofInt 8 a &&& BitVec.ofInt 8 b).toNat:=rfl
 rw [e,JkL (by omega) (by omega)]
 omega
def Oi (r:Ax):Prop:=0<=r.To/\r.To<2/\0<=r.Right/\r.Right<=63/\r.Print.length<=3
def Hs (t:Ad):Prop:=t.Rules.length<=11/\∀ r∈t.Rules,Oi r
theorem Hs.short {t:Ad} (h:Hs t):Jdw t:=λ r hr=>by have:=(h.2 r hr).2.2.2.2;omega
def InU (s:Ab):Prop:=0<=s.Mode/\s.Mode<2/\0<=s.Last/\s.Last<=5/\0<=s.Need/\s.Need<=63
def Ji9:List Ab:=(List.range 768).map λ i=>⟨(i / 384:Nat),(i / 64 % 6:Nat),(i % 64:Nat)⟩
theorem Jdx {s:Ab} (h:InU s):s∈Ji9:=by
 obtain ⟨h1,h2,h3,h4,h5,h6⟩:=h
 obtain ⟨m,l,d⟩:=s
 simp only at h1 h2 h3 h4 h5 h6
 simp only [Ji9,List.mem_map,List.mem_range]
 refine ⟨m.toNat*384+l.toNat*64+d.toNat,by omega,?_⟩
 have e1:(m.toNat*384+l.toNat*64+d.toNat) / 384=m.toNat:=by omega
 have e2:(m.toNat*384+l.toNat*64+d.toNat) / 64 % 6=l.toNat:=by omega
 have e3:(m.toNat*384+l.toNat*64+d.toNat) % 64=d.toNat:=by omega
 rw [e1,e2,e3]
 congr 1<;>omega
theorem Jdy {l m:List Ab} (h:l.Nodup) (hs:∀ x∈l,x∈m):l.length<=m.length:=by
 induction l generalizing m with
 | nil=>simp
 | cons a l ih=>
  rw [List.nodup_cons] at h
  have ha:=hs a (by simp)
  have hlen:(m.erase a).length=m.length-1:=List.length_erase_of_mem ha
  have hpos:0<m.length:=List.length_pos_of_mem ha
  have:=ih (m:=m.erase a) h.2 λ x hx=>by
   have hne:x≠a:=λ e=>h.1 (e▸hx)
   exact (List.mem_erase_of_ne hne).2 (hs x (by simp [hx]))
  simp
  omega
theorem Jdz {l:List Ab} (h:l.Nodup) (hs:∀ x∈l,InU x):l.length<=768:=by
 have:=Jdy h λ x hx=>Jdx (hs x hx)
 simpa [Ji9] using this
theorem JdA {t:Ad} (ht:Hs t) {s:Ab} (hs:InU s) {k:Int} (h:(AH t s k).2=true):InU (AH t s k).1:=by
 unfold AH at h ⊢
 split at h
 ·cases h
 ·rename_i hk
  rw [if_neg hk]
  simp only [JlM,decide_eq_true_eq,not_or,Int.not_lt,ge_iff_le,Int.not_le] at hk
  have hmem:(t.Rules[k.toNat]?.getD default)∈t.Rules:=by
   have:k.toNat<t.Rules.length:=by omega
   simp [this]
  have hr:=ht.2 _ hmem
  generalize t.Rules[k.toNat]?.getD default=r at hr h ⊢
  obtain ⟨a1,a2,a3,a4,a5⟩:=hr
  obtain ⟨b1,b2,b3,b4,b5,b6⟩:=hs
  unfold S0 at h ⊢
  split at h
  ·cases h
  ·rename_i h1
   rw [if_neg h1]
   split at h
   ·rename_i h2
    rw [if_pos h2]
    split at h
    ·cases h
    ·rename_i h3
     rw [if_neg h3]
     have:=Ym s.Need r.Right a3 (by omega)
     exact ⟨a1,a2,b3,b4,this.1,by show Ch .u8 s.Need r.Right<=63;omega⟩
   ·rename_i h2
    rw [if_neg h2]
    split at h
    ·cases h
    ·rename_i h3
     rw [if_neg h3]
     have:=I4 (NL r.Print (r.Print.length-1))
     exact ⟨a1,a2,by show 0<=F5 _;omega,by show F5 _<=5;omega,a3,a4⟩
def BK:Ab:=⟨0,0,63⟩
def KM (t:Ad) (s:Ab) (st:List Ab) (k:Nat):List Ab:=if (AH t s k).2=true/\(AH t s k).1 ∉ st then st++[(AH t s k).1] else st
def JW (t:Ad) (s:Ab) (m:Nat) (st:List Ab):List Ab:=(List.range m).foldl (KM t s) st
theorem JX (t:Ad) (s:Ab) (m:Nat) (st:List Ab):JW t s (m+1) st=KM t s (JW t s m st) m:=by
 simp [JW,List.range_succ]
def S2 (t:Ad):Nat->Nat->List Ab->List Ab
 | 0,_,st=>st
 | f+1,i,st=>match st[i]? with
  | some s=>S2 t f (i+1) (JW t s t.Rules.length st)
  | none=>st
def Aa (t:Ad):List Ab:=S2 t 800 0 [BK]
structure Gq (t:Ad) (st:List Ab):Prop where
 nodup:st.Nodup
 inU:∀ s∈st,InU s
 first:st[0]? = some BK
 origin:∀ (j:Nat) (s:Ab),st[j]? = some s->0<j->∃ (i:Nat) (s':Ab) (k:Nat),i<j/\st[i]? = some s'/\k<t.Rules.length/\AH t s' k=(s,true)
theorem Gq.len {t:Ad} {st:List Ab} (h:Gq t st):st.length<=768:=Jdz h.nodup h.inU
theorem Gq.add {t:Ad} (ht:Hs t) {st:List Ab} (h:Gq t st) {i:Nat} {s:Ab} (hi:st[i]? = some s) {k:Nat} (hk:k<t.Rules.length):Gq t (KM t s st k):=by
 unfold KM
 split
 ·rename_i hc
  have hil:=Ar hi
  refine ⟨?_,λ x hx=>?_,?_,λ j x hj h0=>?_⟩
  ·rw [List.nodup_append]
   refine ⟨h.nodup,by simp,λ a ha b hb=>?_⟩
   simp at hb
   subst hb
   exact λ e=>hc.2 (e▸ha)
  ·simp only [List.mem_append,List.mem_singleton] at hx
   rcases hx with hx|rfl
   ·exact h.inU x hx
   ·exact JdA ht (h.inU s (Jlu hi)) hc.1
  ·rw [JlA (by omega)];exact h.first
  ·rcases Nat.lt_or_ge j st.length with hlt|hge
   ·rw [JlA hlt] at hj
    obtain ⟨i',s',k',a1,a2,a3,a4⟩:=h.origin j x hj h0
    exact ⟨i',s',k',a1,by rw [JlA (by omega)];exact a2,a3,a4⟩
   ·rw [JlL hge] at hj
    have:j-st.length=0:=by have:=Ar hj;simp at this;omega
    rw [this] at hj
    simp at hj
    subst hj
    refine ⟨i,s,k,by omega,by rw [JlA hil];exact hi,hk,?_⟩
    exact Prod.ext rfl hc.1
 ·exact h
theorem Xe (t:Ad) (s:Ab) (st:List Ab) (k:Nat):st <+: KM t s st k:=by
 unfold KM
 split
 ·exact List.prefix_append _ _
 ·exact List.prefix_refl _
theorem Hd (t:Ad) (s:Ab) (st:List Ab):∀ m,st <+: JW t s m st:=by
 intro m
 induction m with
 | zero=>exact List.prefix_refl _
 | succ m ih=>rw [JX];exact ih.trans (Xe _ _ _ _)
theorem Pi {α:Type} {l m:List α} (h:l <+: m) {i:Nat} {x:α} (hi:l[i]? = some x):m[i]? = some x:=by
 obtain ⟨r,rfl⟩:=h
 rw [JlA (Ar hi)];exact hi
theorem Gq.exp {t:Ad} (ht:Hs t) {st:List Ab} (h:Gq t st) {i:Nat} {s:Ab} (hi:st[i]? = some s):∀ m,m<=t.Rules.length->Gq t (JW t s m st):=by
 intro m
 induction m with
 | zero=>intro _;exact h
 | succ m ih=>
  intro hm
  rw [JX]
  exact (ih (by omega)).add ht (Pi (Hd t s st m) hi) (by omega)
theorem JdB (t:Ad) (s:Ab) (st:List Ab):∀ m k:Nat,k<m->(AH t s k).2=true->(AH t s k).1∈JW t s m st:=by
 intro m
 induction m with
 | zero=>intro k hk;omega
 | succ m ih=>
  intro k hk h
  rw [JX]
  by_cases e:k=m
  ·subst e
   unfold KM
   by_cases hc:(AH t s k).1∈JW t s k st
   ·rw [if_neg (λ hh=>hh.2 hc)];exact hc
   ·rw [if_pos ⟨h,hc⟩];simp
  ·exact (Xe t s _ m).subset (ih k (by omega) h)
def Jja (t:Ad) (i:Nat) (st:List Ab):Prop:=∀ (j:Nat) (s:Ab),j<i->st[j]? = some s->∀ k:Nat,k<t.Rules.length->(AH t s k).2=true->(AH t s k).1∈st
theorem Jjb {t:Ad} (ht:Hs t):∀ (f i:Nat) (st:List Ab),Gq t st->Jja t i st->768<f+i->Gq t (S2 t f i st)/\∀ i',Jja t i' (S2 t f i st):=by
 intro f
 induction f with
 | zero=>
  intro i st h hd hf
  have:=h.len
  refine ⟨h,λ i' j s hj hs=>?_⟩
  have hs:st[j]? = some s:=hs
  exact hd j s (by have:=Ar hs;omega) hs
 | succ f ih=>
  intro i st h hd hf
  simp only [S2]
  cases hi:st[i]? with
  | none=>
   refine ⟨h,λ i' j s hj hs=>?_⟩
   have hs:st[j]? = some s:=hs
   exact hd j s (by have:=Ar hs;rw [List.getElem?_eq_none_iff] at hi;omega) hs
  | some s=>
   refine ih (i+1) _ (h.exp ht hi _ (Nat.le_refl _)) (λ j x hj hx k hk hk2=>?_) (by omega)
   by_cases e:j=i
   ·subst e
    have:=Pi (Hd t s st t.Rules.length) hi
    rw [this] at hx
    cases hx
    exact JdB t s st _ k hk hk2
   ·have hjl:j<st.length:=by have:=Ar hi;omega
    have hxx:st[j]? = some st[j]:=Jls hjl
    have:=Pi (Hd t s st t.Rules.length) hxx
    rw [this] at hx
    cases hx
    exact (Hd t s st t.Rules.length).subset (hd j _ (by omega) hxx k hk hk2)
theorem HP {t:Ad} (ht:Hs t):Gq t (Aa t)/\∀ i,Jja t i (Aa t):=by
 refine Jjb ht 800 0 [BK] ⟨by simp,λ s hs=>?_,rfl,λ j s hj h0=>?_⟩ (λ j s hj=>by omega) (by omega)
 ·simp at hs;subst hs;exact ⟨by decide,by decide,by decide,by decide,by decide,by decide⟩
 ·cases j with
  | zero=>omega
  | succ j=>simp at hj
end Go.AI
end
section
namespace Go.AI
theorem Ev.whlR {σ ρ:Type} {body:Nat->σ->Option (σ⊕ρ)} {R:ρ->Prop} (I:Nat->σ->Prop) (h:∀ k x,I k x->(∃ y j,j<k/\I j y/\Ev (λ n=>body n x) (.inl y))\/∃ r,R r/\Ev (λ n=>body n x) (.inr r)):∀ (k:Nat) (x:σ),I k x->∃ r,R r/\Ev (λ n=>Go.AI.whl (body n) n x) r:=by
 have key:∀ (k:Nat) (x:σ),I k x->∃ r,R r/\∃ N c,∀ n fuel,N<=n->c<=fuel->Go.AI.whl (body n) fuel x=some r:=by
  intro k
  induction k using Nat.strongRecOn with
  | _ k ih=>
   intro x hx
   rcases h k x hx with ⟨y,j,hj,hy,N1,h1⟩|⟨r,hr,N1,h1⟩
   ·obtain ⟨r,hr,N2,c,h2⟩:=ih j hj y hy
    refine ⟨r,hr,max N1 N2,c+1,λ n fuel hn hf=>?_⟩
    cases fuel with
    | zero=>omega
    | succ fuel=>
     have e:=h1 n (by omega)
     simp only at e
     simp only [Go.AI.whl,e]
     exact h2 n fuel (by omega) (by omega)
   ·refine ⟨r,hr,N1,1,λ n fuel hn hf=>?_⟩
    cases fuel with
    | zero=>omega
    | succ fuel=>
     have e:=h1 n hn
     simp only at e
     simp only [Go.AI.whl,e]
 intro k x hx
 obtain ⟨r,hr,N,c,hh⟩:=key k x hx
 exact ⟨r,hr,max N c,λ m hm=>hh m m (by omega) (by omega)⟩
def I5 (st:List Ab) (nb:List (Ab×Int)):Prop:=∀ s,Ga s nb=(st.findIdx? λ x=>decide (x=s)).map λ i=>(i:Int)
theorem C4 {st:List Ab} {s:Ab} {i:Nat} (hn:st.Nodup) (h:st[i]? = some s):(st.findIdx? λ x=>decide (x=s))=some i:=by
 have hi:=Ar h
 rw [List.findIdx?_eq_some_iff_getElem]
 have he:st[i]=s:=by rw [Jls hi] at h;exact Option.some.inj h
 refine ⟨hi,by simpa using he,λ j hj=>?_⟩
 simp only [Bool.not_eq_true,decide_eq_false_iff_not]
 intro e
 have:=(List.getElem_inj (i:=j) (j:=i) (h₀:=by omega) (h₁:=hi) hn).1 (by rw [e,he])
 omega
theorem HK {st:List Ab} {s:Ab} (h:s ∉ st):(st.findIdx? λ x=>decide (x=s))=none:=by
 rw [List.findIdx?_eq_none_iff]
 intro y hy
 simp only [decide_eq_false_iff_not]
 exact λ e=>h (e▸hy)
theorem Jaj {κ α:Type} [DecidableEq κ] (k k':κ) (v:α) (m:List (κ×α)):Ga k' (LO k v m)=if k'=k then some v else Ga k' m:=by
 induction m with
 | nil=>simp [LO,Ga]
 | cons p m ih=>
  simp only [LO]
  by_cases h:k=p.1
  ·rw [if_pos h]
   simp only [Ga]
   by_cases h':k'=k
   ·simp [h']
   ·have:k'≠p.1:=λ e=>h' (e.trans h.symm)
    simp [h',this]
  ·rw [if_neg h]
   simp only [Ga]
   by_cases h':k'=p.1
   ·have:k'≠k:=λ e=>h (e▸h')
    rw [if_pos h',if_neg this,if_pos h']
   ·rw [if_neg h',if_neg h',ih]
theorem I5.snoc {st:List Ab} {nb:List (Ab×Int)} (h:I5 st nb) (hn:st.Nodup) {p:Ab} (hp:p ∉ st):I5 (st++[p]) (LO p (st.length:Nat) nb):=by
 intro s
 rw [Jaj]
 have hnd:(st++[p]).Nodup:=by
  rw [List.nodup_append]
  exact ⟨hn,by simp,λ a ha b hb=>by simp at hb;subst hb;exact λ e=>hp (e▸ha)⟩
 by_cases e:s=p
 ·subst e
  rw [if_pos rfl,C4 hnd (i:=st.length) (by simp)]
  rfl
 ·rw [if_neg e,h s]
  by_cases hs:s∈st
  ·obtain ⟨i,hi⟩:=List.mem_iff_getElem?.1 hs
   rw [C4 hn hi,C4 hnd (i:=i) (by rw [JlA (Ar hi)];exact hi)]
  ·rw [HK hs,HK (by simp [hs,e])]
def Ia (i m j k:Nat):Prop:=j<i\/(j=i/\k<m)
structure Dt (t:Ad) (st:List Ab) (fr:List (List Int)) (i m:Nat):Prop where
 len:fr.length=st.length
 cov:∀ j s k,Ia i m j k->st[j]? = some s->k<t.Rules.length->(AH t s (k:Nat)).2=true->(AH t s (k:Nat)).1∈st
 sound:∀ (n:Nat) l,fr[n]? = some l->∀ x∈l,∃ (j:Nat) (s:Ab) (k:Nat) (s':Ab),x=(j:Int)/\st[j]? = some s/\k<t.Rules.length/\st[n]? = some s'/\AH t s (k:Nat)=(s',true)
 compl:∀ (n:Nat) l,fr[n]? = some l->∀ (j:Nat) (s:Ab) (k:Nat) (s':Ab),Ia i m j k->st[j]? = some s->k<t.Rules.length->st[n]? = some s'->AH t s (k:Nat)=(s',true)->(j:Int)∈l
 small:∀ (n:Nat) l,fr[n]? = some l->l.length<=i*11+m
theorem Dt.snoc {t:Ad} {st:List Ab} {fr:List (List Int)} {i m:Nat} (h:Dt t st fr i m) {p:Ab} (hp:p ∉ st) (hi:i<st.length):Dt t (st++[p]) (fr++[[]]) i m:=by
 have hget:∀ (j:Nat) s,Ia i m j 0\/j<=i->(st++[p])[j]? = some s->st[j]? = some s:=λ j s hj hs=>by
  rcases Nat.lt_or_ge j st.length with hlt|hge
  ·rwa [JlA hlt] at hs
  ·rcases hj with (h1|⟨h1,_⟩)|h1<;>omega
 have hle:∀ {j k},Ia i m j k->j<=i:=λ h=>by rcases h with h|⟨h,_⟩<;>omega
 refine ⟨by simp [h.len],λ j s k ht hs hk h2=>?_,λ n l hl x hx=>?_,λ n l hl j s k s' ht hs hk hs' he=>?_,λ n l hl=>?_⟩
 ·exact List.mem_append_left _ (h.cov j s k ht (hget j s (.inr (hle ht)) hs) hk h2)
 ·rcases Nat.lt_or_ge n fr.length with hlt|hge
  ·rw [JlA hlt] at hl
   obtain ⟨j,s,k,s',a1,a2,a3,a4,a5⟩:=h.sound n l hl x hx
   exact ⟨j,s,k,s',a1,by rw [JlA (Ar a2)];exact a2,a3,by rw [JlA (Ar a4)];exact a4,a5⟩
  ·rw [JlL hge] at hl
   have:n-fr.length=0:=by have:=Ar hl;simp at this;omega
   rw [this] at hl;simp at hl;subst hl;simp at hx
 ·have hs0:=hget j s (.inr (hle ht)) hs
  have hmem:s'∈st:=by have:=h.cov j s k ht hs0 hk (by rw [he]);rwa [he] at this
  rcases Nat.lt_or_ge n fr.length with hlt|hge
  ·rw [JlA hlt] at hl
   rw [JlA (by rw [← h.len];exact hlt)] at hs'
   exact h.compl n l hl j s k s' ht hs0 hk hs' he
  ·have hn:n=st.length:=by have:=Ar hs';simp at this;rw [h.len] at hge;omega
   subst hn
   simp at hs'
   subst hs'
   exact absurd hmem hp
 ·rcases Nat.lt_or_ge n fr.length with hlt|hge
  ·rw [JlA hlt] at hl;exact h.small n l hl
  ·rw [JlL hge] at hl
   have:n-fr.length=0:=by have:=Ar hl;simp at this;omega
   rw [this] at hl;simp at hl;subst hl;simp
theorem Dt.put {t:Ad} {st:List Ab} {fr:List (List Int)} {i m:Nat} (h:Dt t st fr i m) (hnd:st.Nodup) {s p:Ab} {q:Nat} {l:List Int} (hs:st[i]? = some s) (hm:m<t.Rules.length) (hst:AH t s (m:Nat)=(p,true)) (hq:st[q]? = some p) (hl:fr[q]? = some l):Dt t st (fr.set q (l++[(i:Int)])) i (m+1):=by
 have htk:∀ {j k},Ia i (m+1) j k->Ia i m j k\/(j=i/\k=m):=λ {j k} h=>by
  unfold Ia at *
  omega
 have hql:=Ar hl
 refine ⟨by simp [h.len],λ j x k ht hx hk h2=>?_,λ n l' hl' x hx=>?_,λ n l' hl' j x k x' ht hx hk hx' he=>?_,λ n l' hl'=>?_⟩
 ·rcases htk ht with ht|⟨rfl,rfl⟩
  ·exact h.cov j x k ht hx hk h2
  ·rw [hs] at hx;cases hx;rw [hst];exact Jlu hq
 ·by_cases e:n=q
  ·subst e
   rw [JlE hql] at hl'
   cases hl'
   simp only [List.mem_append,List.mem_singleton] at hx
   rcases hx with hx|rfl
   ·exact h.sound n l hl x hx
   ·exact ⟨i,s,m,p,rfl,hs,hm,hq,hst⟩
  ·rw [JlJ (Ne.symm e)] at hl';exact h.sound n l' hl' x hx
 ·rcases htk ht with ht|⟨rfl,rfl⟩
  ·by_cases e:n=q
   ·subst e
    rw [JlE hql] at hl'
    cases hl'
    exact List.mem_append_left _ (h.compl n l hl j x k x' ht hx hk hx' he)
   ·rw [JlJ (Ne.symm e)] at hl';exact h.compl n l' hl' j x k x' ht hx hk hx' he
  ·rw [hs] at hx;cases hx
   rw [hst] at he;cases he
   have e:n=q:=by
    have h1:=Ar hx'
    have h2:=Ar hq
    rw [Jls h1] at hx'
    rw [Jls h2] at hq
    exact (List.getElem_inj (h₀:=h1) (h₁:=h2) hnd).1 ((Option.some.inj hx').trans (Option.some.inj hq).symm)
   subst e
   rw [JlE hql] at hl'
   cases hl'
   simp
 ·by_cases e:n=q
  ·subst e
   rw [JlE hql] at hl'
   cases hl'
   have:=h.small n l hl
   simp;omega
  ·rw [JlJ (Ne.symm e)] at hl'
   have:=h.small n l' hl'
   omega
theorem Dt.skip {t:Ad} {st:List Ab} {fr:List (List Int)} {i m:Nat} (h:Dt t st fr i m) {s:Ab} (hs:st[i]? = some s) (hst:(AH t s (m:Nat)).2=false):Dt t st fr i (m+1):=by
 have htk:∀ {j k},Ia i (m+1) j k->Ia i m j k\/(j=i/\k=m):=λ {j k} h=>by
  unfold Ia at *
  omega
 refine ⟨h.len,λ j x k ht hx hk h2=>?_,h.sound,λ n l hl j x k x' ht hx hk hx' he=>?_,λ n l hl=>by have:=h.small n l hl;omega⟩
 ·rcases htk ht with ht|⟨rfl,rfl⟩
  ·exact h.cov j x k ht hx hk h2
  ·rw [hs] at hx;cases hx;rw [hst] at h2;cases h2
 ·rcases htk ht with ht|⟨rfl,rfl⟩
  ·exact h.compl n l hl j x k x' ht hx hk hx' he
  ·rw [hs] at hx;cases hx;rw [he] at hst;cases hst
end Go.AI
end
section
namespace Go.AI
theorem KN {α:Type} {l:List α} {i:Nat} {x:α} (h:l[i]? = some x):idx l (i:Int)=some x:=by
 unfold idx
 rw [if_pos (by omega)]
 simpa using h
theorem VD {α:Type} {eb:Nat} {xs ys:List α} (h:(xs.length+ys.length)*eb<=70368744177664):app eb xs ys=some (xs++ys):=by
 unfold app;rw [if_pos h]
theorem Xf {t:Ad} (ht:Hs t) {i m:Nat} {s:Ab} {st:List Ab} {fr:List (List Int)} {nb:List (Ab×Int)} (hF:Gq t st) (hi:st[i]? = some s) (hN:I5 st nb) (hR:Dt t st fr i m) (hm:m<t.Rules.length) :
  ∃ fr' nb',I5 (KM t s st m) nb'/\Dt t (KM t s st m) fr' i (m+1)/\∀ n,Bw n t (i:Int) st fr nb (m:Int)=some (.inl (KM t s st m,fr',nb',((m+1:Nat):Int))):=by
 have hil:=Ar hi
 have hlen:=hF.len
 have hrl:=ht.1
 have hinc:AE .i64 (m:Int) 1=((m+1:Nat):Int):=by rw [Qe (by omega) (by omega)];rfl
 have hcond:decide ((m:Int)<((t.Rules.length:Nat):Int))=true:=by simpa using hm
 cases hp:(AH t s (m:Nat)).2 with
 | false=>
  have ha:KM t s st m=st:=by unfold KM;rw [if_neg (by rw [hp];simp)]
  refine ⟨fr,nb,by rw [ha];exact hN,by rw [ha];exact hR.skip hi hp,λ n=>?_⟩
  unfold Bw
  rw [if_pos hcond,KN hi]
  simp only [Option.bind_some,Rk ht.short,hp,Bool.not_false,if_true,Cj,hinc,ha]
 | true=>
  have hpe:AH t s (m:Nat)=((AH t s (m:Nat)).1,true):=Prod.ext rfl hp
  generalize hpp:(AH t s (m:Nat)).1=p at hpe
  by_cases hmem:p∈st
  ·have ha:KM t s st m=st:=by unfold KM;rw [if_neg (by rw [hpp];exact λ hh=>hh.2 hmem)]
   obtain ⟨q,hq⟩:=List.mem_iff_getElem?.1 hmem
   have hql:=Ar hq
   obtain ⟨lq,hfq⟩:∃ lq,fr[q]? = some lq:=⟨_,Jls (by rw [hR.len];exact hql)⟩
   have hsm:=hR.small q _ hfq
   have hget:Ga p nb=some (q:Int):=by rw [hN p,C4 hF.nodup hq];rfl
   have hiv:i<768:=by omega
   refine ⟨fr.set q (lq++[(i:Int)]),nb,by rw [ha];exact hN,by rw [ha];exact hR.put hF.nodup hi hm hpe hq hfq,λ n=>?_⟩
   unfold Bw
   rw [if_pos hcond,KN hi]
   simp only [Option.bind_some,Rk ht.short,hpe,hget,Option.isSome_some,Bool.not_true,JlF,if_false,Option.getD_some,CK]
   rw [KN hfq]
   simp only [Option.bind_some]
   rw [VD (by simp;omega)]
   simp only [Option.bind_some,Cj,hinc,ha,JlC]
  ·have ha:KM t s st m=st++[p]:=by unfold KM;rw [if_pos ⟨hp,by rw [hpp];exact hmem⟩,hpp]
   have hnd:(st++[p]).Nodup:=by have:=(hF.add ht hi hm).nodup;rwa [ha] at this
   have hget:Ga p nb=none:=by rw [hN p,HK hmem];rfl
   have hR':=hR.snoc hmem hil
   have hfq:(fr++[[]])[st.length]? = some ([]:List Int):=by rw [← hR.len];simp
   refine ⟨(fr++[[]]).set st.length ([]++[(i:Int)]),LO p (st.length:Nat) nb,by rw [ha];exact hN.snoc hF.nodup hmem,by rw [ha];exact hR'.put hnd (by rw [JlA hil];exact hi) hm hpe (by simp) hfq,λ n=>?_⟩
   unfold Bw
   rw [if_pos hcond,KN hi]
   simp only [Option.bind_some,Rk ht.short,hpe,hget,Option.isSome_none,Bool.not_false,Bool.not_true,JlF,if_true,if_false]
   rw [VD (by simp;omega),Option.bind_some,VD (by simp [hR.len];omega),Option.bind_some]
   simp only [CK]
   rw [KN hfq]
   simp only [Option.bind_some]
   rw [VD (by simp)]
   simp only [Option.bind_some,Cj,hinc,ha,JlC]
theorem Dt.next {t:Ad} {st:List Ab} {fr:List (List Int)} {i:Nat} (h:Dt t st fr i t.Rules.length) (hr:t.Rules.length<=11):Dt t st fr (i+1) 0:=by
 have htk:∀ {j k},k<t.Rules.length->Ia (i+1) 0 j k->Ia i t.Rules.length j k:=λ {j k} hk h=>by
  unfold Ia at *
  omega
 exact ⟨h.len,λ j s k ht hs hk=>h.cov j s k (htk hk ht) hs hk,h.sound,λ n l hl j s k s' ht hs hk=>h.compl n l hl j s k s' (htk hk ht) hs hk,λ n l hl=>by have:=h.small n l hl;omega⟩
theorem JdC {t:Ad} (ht:Hs t) {i:Nat} {s:Ab} {st:List Ab} {fr:List (List Int)} {nb:List (Ab×Int)} (hF:Gq t st) (hi:st[i]? = some s) (hN:I5 st nb) (hR:Dt t st fr i 0) :
  ∃ r:List Ab×List (List Int)×List (Ab×Int),(r.1=JW t s t.Rules.length st/\I5 r.1 r.2.2/\Dt t r.1 r.2.1 (i+1) 0) /\
   Ev (λ n=>whl (λ (x:((List Ab)×(List (List Int))×(List (Ab×Int))×Int))=>Bw n t (i:Int) x.1 x.2.1 x.2.2.1 x.2.2.2) n (st,fr,nb,0)) r:=by
 refine Ev.whlR (body:=λ n x=>Bw n t (i:Int) x.1 x.2.1 x.2.2.1 x.2.2.2) (λ k x=>∃ m:Nat,m<=t.Rules.length/\k=t.Rules.length-m/\x.1=JW t s m st/\x.2.2.2=(m:Int)/\I5 x.1 x.2.2.1/\Dt t x.1 x.2.1 i m) ?_ t.Rules.length (st,fr,nb,0) ⟨0,by omega,by omega,rfl,rfl,hN,hR⟩
 rintro k ⟨st',fr',nb',m'⟩ ⟨m,hm,rfl,h1,h2,h3,h4⟩
 simp only at h1 h2 h3 h4
 subst h1
 subst h2
 rcases Nat.lt_or_ge m t.Rules.length with hlt|hge
 ·left
  have hi':(JW t s m st)[i]? = some s:=Pi (Hd t s st m) hi
  obtain ⟨fr2,nb2,g1,g2,g3⟩:=Xf ht (hF.exp ht hi m hm) hi' h3 h4 hlt
  exact ⟨_,t.Rules.length-(m+1),by omega,⟨m+1,hlt,rfl,(JX t s m st).symm,rfl,g1,g2⟩,Ev.all g3⟩
 ·right
  have e:m=t.Rules.length:=by omega
  subst e
  refine ⟨(JW t s t.Rules.length st,fr',nb'),⟨rfl,h3,h4.next ht.1⟩,Ev.all λ n=>?_⟩
  unfold Bw
  rw [if_neg (by simp)]
theorem Yn {t:Ad} (ht:Hs t):∃ fr,Dt t (Aa t) fr (Aa t).length 0/\Ev (λ n=>Fw n t) (Aa t,fr):=by
 have h0:Gq t [BK]:=⟨by simp,λ s hs=>by simp at hs;subst hs;exact ⟨by decide,by decide,by decide,by decide,by decide,by decide⟩,rfl,λ j s hj h0=>by cases j with|zero=>omega|succ j=>simp at hj⟩
 have loop:∃ r:List Ab×List (List Int),(r.1=Aa t/\Dt t r.1 r.2 r.1.length 0) /\
   Ev (λ n=>whl (λ (x:((List Ab)×(List (List Int))×(List (Ab×Int))×Int))=>Ck n t x.1 x.2.1 x.2.2.1 x.2.2.2) n ([BK],([[]]:List (List Int)),(LO BK 0 []),0)) r:=by
  refine Ev.whlR (body:=λ n x=>Ck n t x.1 x.2.1 x.2.2.1 x.2.2.2) (λ k x=>∃ i:Nat,i<=x.1.length/\k=800-i/\S2 t (800-i) i x.1=Aa t/\x.2.2.2=(i:Int)/\Gq t x.1/\I5 x.1 x.2.2.1/\Dt t x.1 x.2.1 i 0) ?_ 800 _ ⟨0,by simp,by omega,rfl,rfl,h0,?_,?_⟩
  ·rintro k ⟨st,fr,nb,i'⟩ ⟨i,hil,rfl,hb,hi',hF,hN,hR⟩
   simp only at hil hb hi' hF hN hR
   subst hi'
   have hlen:=hF.len
   rcases Nat.lt_or_ge i st.length with hlt|hge
   ·left
    have hi:st[i]? = some st[i]:=Jls hlt
    obtain ⟨r,⟨g1,g2,g3⟩,g4⟩:=JdC ht hF hi hN hR
    have hexp:=hF.exp ht hi _ (Nat.le_refl _)
    refine ⟨(r.1,r.2.1,r.2.2,((i+1:Nat):Int)),800-(i+1),by omega,⟨i+1,?_,rfl,?_,rfl,by rw [g1];exact hexp,g2,g3⟩,?_⟩
    ·simp only [g1]
     have:=(Hd t st[i] st t.Rules.length).length_le
     omega
    ·simp only [g1]
     rw [← hb]
     have e:800-i=(800-(i+1))+1:=by omega
     rw [e]
     simp only [S2,hi]
    ·refine (Ev.bind g4 (g:=λ _ y2=>some (.inl (y2.1,y2.2.1,y2.2.2,((i+1:Nat):Int)))) Ev.const).congr λ n=>?_
     unfold Ck
     rw [if_pos (by simpa using hlt)]
     have hinc:AE .i64 (i:Int) 1=((i+1:Nat):Int):=by rw [Qe (by omega) (by omega)];rfl
     rw [hinc]
   ·right
    have e:i=st.length:=by omega
    subst e
    have hst:st=Aa t:=by
     rw [← hb]
     have e:800-st.length=(800-(st.length+1))+1:=by omega
     rw [e]
     simp [S2]
    refine ⟨(st,fr),⟨hst,hR⟩,Ev.all λ n=>?_⟩
    unfold Ck
    rw [if_neg (by simp)]
  ·intro s
   simp only [LO,Ga]
   by_cases e:s=BK
   ·subst e;simp
   ·have:¬ BK=s:=λ h=>e h.symm
    simp [e,this]
  ·refine ⟨rfl,λ j s k ht=>?_,λ n l hl x hx=>?_,λ n l hl j s k s' ht=>?_,λ n l hl=>?_⟩
   ·unfold Ia at ht;omega
   ·cases n with
    | zero=>simp at hl;subst hl;simp at hx
    | succ n=>simp at hl
   ·unfold Ia at ht;omega
   ·cases n with
    | zero=>simp at hl;subst hl;simp
    | succ n=>simp at hl
 obtain ⟨⟨st,fr⟩,⟨g1,g2⟩,g3⟩:=loop
 simp only at g1 g2
 subst g1
 refine ⟨fr,g2,?_⟩
 have hs:∀ n,JD n=some BK:=λ n=>rfl
 refine (Ev.bind g3 (g:=λ _ y3=>some (y3.1,y3.2)) Ev.const).congr λ n=>?_
 unfold Fw
 rw [hs,Option.bind_some]
theorem Yo {t:Ad} (ht:Hs t):Ev (λ n=>GB n t) (Aa t):=by
 obtain ⟨fr,_,h⟩:=Yn ht
 exact (Ev.bind h (g:=λ _ r=>some r.1) Ev.const).congr λ n=>rfl
end Go.AI
end
section
namespace Go.AI
def Tot {α:Type} (f:Nat->Option α) (P:α->Prop):Prop:=∃ z,P z/\Ev f z
def Rd2 {σ ρ:Type} (I:σ->Prop) (P:ρ->Prop):σ⊕ρ->Prop
 | .inl y=>I y
 | .inr r=>P r
variable {α β σ ρ:Type} {P R:α->Prop}
theorem Tot.ev {f:Nat->Option α} {z:α} (h:Tot f (λ x=>x=z)):Ev f z:=by obtain ⟨_,rfl,h⟩:=h;exact h
theorem Ev.tot {f:Nat->Option α} {z:α} (h:Ev f z) (hp:P z):Tot f P:=⟨z,hp,h⟩
theorem Tot.pure {z:α} (h:P z):Tot (λ _=>some z) P:=⟨z,h,Ev.const⟩
theorem Tot.all {f:Nat->Option α} {z:α} (h:∀ n,f n=some z) (hp:P z):Tot f P:=⟨z,hp,Ev.all h⟩
theorem Tot.mono {f:Nat->Option α} (h:Tot f R) (hp:∀ x,R x->P x):Tot f P:=by obtain ⟨z,hz,h⟩:=h;exact ⟨z,hp z hz,h⟩
theorem Tot.bind {f:Nat->Option β} {g:Nat->β->Option α} {R:β->Prop} (h:Tot f R) (k:∀ x,R x->Tot (λ n=>g n x) P):Tot (λ n=>(f n).bind (g n)) P:=by
 obtain ⟨x,hx,h⟩:=h
 obtain ⟨z,hz,h'⟩:=k x hx
 exact ⟨z,hz,Ev.bind h h'⟩
theorem Tot.bindE {f:Nat->Option β} {g:Nat->β->Option α} {x:β} (h:Ev f x) (k:Tot (λ n=>g n x) P):Tot (λ n=>(f n).bind (g n)) P:=by
 obtain ⟨z,hz,h'⟩:=k
 exact ⟨z,hz,Ev.bind h h'⟩
theorem Tot.bindC {x:Option β} {y:β} {g:Nat->β->Option α} (h:x=some y) (k:Tot (λ n=>g n y) P):Tot (λ n=>x.bind (g n)) P:=by subst h;exact k
theorem Tot.bindA {f:Nat->Option β} {y:β} {g:Nat->β->Option α} (h:∀ n,f n=some y) (k:Tot (λ n=>g n y) P):Tot (λ n=>(f n).bind (g n)) P:=Tot.bindE (Ev.all h) k
theorem Tot.ite {c:Bool} {a b:Nat->Option α} (h1:c=true->Tot a P) (h2:c=false->Tot b P):Tot (λ n=>if c=true then a n else b n) P:=by
 cases c with
 | true=>exact h1 rfl
 | false=>exact h2 rfl
theorem Tot.iteT {c:Bool} {a b:Nat->Option α} (h:c=true) (k:Tot a P):Tot (λ n=>if c=true then a n else b n) P:=by subst h;exact k
theorem Tot.iteF {c:Bool} {a b:Nat->Option α} (h:c=false) (k:Tot b P):Tot (λ n=>if c=true then a n else b n) P:=by subst h;exact k
theorem Tot.guard {c:Bool} {f:Nat->Option β} {d:β} {g:Nat->β->Option α} {R:β->Prop} (h:c=true->Tot f R) (k:∀ x,(c=true->R x)->Tot (λ n=>g n x) P):Tot (λ n=>(if c=true then f n else some d).bind (g n)) P:=by
 cases c with
 | true=>exact Tot.bind (h rfl) λ x hx=>k x λ _=>hx
 | false=>exact k d λ h=>by cases h
theorem Tot.congr {f g:Nat->Option α} (h:Tot f P) (e:∀ n,g n=f n):Tot g P:=by obtain ⟨z,hz,h⟩:=h;exact ⟨z,hz,h.congr e⟩
theorem Tot.sum {y:β⊕σ} {f:Nat->β->Option α} {g:Nat->σ->Option α} (h1:∀ b,y=.inl b->Tot (λ n=>f n b) P) (h2:∀ b,y=.inr b->Tot (λ n=>g n b) P):Tot (λ n=>match y with | .inl b=>f n b | .inr b=>g n b) P:=by
 cases y with
 | inl b=>exact h1 b rfl
 | inr b=>exact h2 b rfl
theorem Tot.whl {body:Nat->σ->Option (σ⊕ρ)} {P:ρ->Prop} (I:Nat->σ->Prop) (h:∀ k x,I k x->Tot (λ n=>body n x) (Rd2 (λ y=>∃ j,j<k/\I j y) P)):∀ (k:Nat) (x:σ),I k x->Tot (λ n=>Go.AI.whl (body n) n x) P:=by
 have key:∀ (k:Nat) (x:σ),I k x->∃ r,P r/\∃ N c,∀ n fuel,N<=n->c<=fuel->Go.AI.whl (body n) fuel x=some r:=by
  intro k
  induction k using Nat.strongRecOn with
  | _ k ih=>
   intro x hx
   obtain ⟨z,hz,N1,h1⟩:=h k x hx
   cases z with
   | inl y=>
    obtain ⟨j,hj,hy⟩:=hz
    obtain ⟨r,hr,N2,c,h2⟩:=ih j hj y hy
    refine ⟨r,hr,max N1 N2,c+1,λ n fuel hn hf=>?_⟩
    cases fuel with
    | zero=>omega
    | succ fuel=>
     have e:=h1 n (by omega)
     simp only at e
     simp only [Go.AI.whl,e]
     exact h2 n fuel (by omega) (by omega)
   | inr r=>
    refine ⟨r,hz,N1,1,λ n fuel hn hf=>?_⟩
    cases fuel with
    | zero=>omega
    | succ fuel=>
     have e:=h1 n hn
     simp only at e
     simp only [Go.AI.whl,e]
 intro k x hx
 obtain ⟨r,hr,N,c,hh⟩:=key k x hx
 exact ⟨r,hr,max N c,λ m hm=>hh m m (by omega) (by omega)⟩
theorem Tot.upto {body:Nat->σ->Option (σ⊕ρ)} {P:ρ->Prop} (N:Nat) (I:Nat->σ->Prop)
  (step:∀ i x,i<N->I i x->Tot (λ n=>body n x) (Rd2 (I (i+1)) P))
  (last:∀ x,I N x->Tot (λ n=>body n x) (Rd2 (λ _=>False) P)) (x:σ) (h0:I 0 x):Tot (λ n=>Go.AI.whl (body n) n x) P:=by
 refine Tot.whl (body:=body) (λ k x=>∃ i,i<=N/\k=N-i/\I i x) ?_ N x ⟨0,by omega,by omega,h0⟩
 rintro k x ⟨i,hi,rfl,hx⟩
 rcases Nat.lt_or_ge i N with hlt|hge
 ·refine (step i x hlt hx).mono λ z hz=>?_
  cases z with
  | inl y=>exact ⟨N-(i+1),by omega,i+1,by omega,rfl,hz⟩
  | inr r=>exact hz
 ·have:i=N:=by omega
  subst this
  refine (last x hx).mono λ z hz=>?_
  cases z with
  | inl y=>exact hz.elim
  | inr r=>exact hz
theorem Ei {l:List α} {i:Nat} {x:α} (h:l[i]? = some x):idx l (i:Int)=some x:=by
 unfold idx
 rw [if_pos (by omega)]
 simpa using h
theorem Fl {l:List α} {i:Nat} (h:i<l.length):idx l (i:Int)=some l[i]:=Ei (Jls h)
theorem KO {eb:Nat} {xs ys:List α} (h:(xs.length+ys.length)*eb<=70368744177664):app eb xs ys=some (xs++ys):=by
 unfold app;rw [if_pos h]
theorem F6 {l:List α} {i:Nat} {y:α} (h:i<l.length):put l (i:Int) y=some (l.set i y):=by
 unfold put;rw [if_pos (by omega),JlC]
theorem Mr {x y:List UInt8} (h:x.length+y.length<=9223372036854775807):cat x y=some (x++y):=by
 unfold cat;rw [if_pos h]
end Go.AI
end
section
namespace Go.AI
theorem Jfb (a:Int):IntKind.i64.wrap a=if decide (a % 18446744073709551616>=9223372036854775808)=true then a % 18446744073709551616-18446744073709551616 else a % 18446744073709551616:=rfl
theorem w64 {a:Int} (h:-9223372036854775808<=a) (h':a<9223372036854775808):IntKind.i64.wrap a=a:=by
 rw [Jfb]
 simp only [decide_eq_true_eq]
 split<;>omega
theorem EJ {a b:Int} (h:-9223372036854775808<=a+b) (h':a+b<9223372036854775808):AE .i64 a b=a+b:=w64 h h'
theorem I6 {a b:Int} (h:-9223372036854775808<=a-b) (h':a-b<9223372036854775808):Dw .i64 a b=a-b:=w64 h h'
theorem Ib {i:Nat} (h:i<9223372036854775807):AE .i64 (i:Int) 1=((i+1:Nat):Int):=by rw [EJ]<;>omega
theorem Jak {a m:Int} (h:0<=a) (hm:0<m):By a m=a % m/\0<=By a m/\By a m<m:=by
 have e:By a m=a % m:=by unfold By;rw [Int.tmod_eq_emod_of_nonneg h]
 rw [e];exact ⟨rfl,Int.emod_nonneg _ (by omega),Int.emod_lt_of_pos _ hm⟩
variable {α β σ ρ:Type}
theorem JkM [Inhabited α] {l:List α} {i:Int} (h:0<=i) (h':i<l.length):idx l i=some (l.getD i.toNat default):=by
 unfold idx
 rw [if_pos h,JlB,Jls (by omega)];rfl
theorem Ms [Inhabited α] {l:List α} {i:Nat} (h:i<l.length):idx l (i:Int)=some (l.getD i default):=by
 rw [JkM (by omega) (by omega),JlC]
theorem Up {l:List α} {a b:Int} (h:0<=a) (h1:a<=b) (h2:b<=l.length):sub l a b=some ((l.take b.toNat).drop a.toNat):=by
 unfold sub;rw [if_pos ⟨h,h1,h2⟩]
theorem Pj {l:List α} {k:Nat} (h:k<=l.length):sub l 0 (k:Int)=some (l.take k):=by
 rw [Up (by omega) (by omega) (by omega)];simp
theorem S3 {eb:Nat} {k:Int} {z:α} (h:0<=k) (h':k.toNat*eb<=70368744177664):mkl eb k z=some (List.replicate k.toNat z):=by
 unfold mkl;rw [if_pos ⟨h,h'⟩]
theorem MT {b:Bool} (h:b=true):BE b=some ():=by subst h;rfl
theorem Yp {body:σ->Option (σ⊕ρ)} {r:ρ} (st:Nat->σ) (k:Nat) (step:∀ i,i<k->body (st i)=some (.inl (st (i+1)))) (last:body (st k)=some (.inr r)):∀ n,k<n->whl body n (st 0)=some r:=by
 have key:∀ (j n i:Nat),i+j=k->j<n->whl body n (st i)=some r:=by
  intro j
  induction j with
  | zero=>
   intro n i hi hn
   cases n with
   | zero=>omega
   | succ n=>
    have:i=k:=by omega
    subst this;simp only [whl,last]
  | succ j ih=>
   intro n i hi hn
   cases n with
   | zero=>omega
   | succ n=>simp only [whl,step i (by omega)];exact ih n (i+1) (by omega) (by omega)
 intro n hn
 exact key k n 0 (by omega) hn
theorem Ev.to {body:Nat->σ->Option (σ⊕ρ)} {r:ρ} (st:Nat->σ) (k:Nat) (h:∃ N,∀ n,N<=n->(∀ i,i<k->body n (st i)=some (.inl (st (i+1))))/\body n (st k)=some (.inr r)):Ev (λ n=>Go.AI.whl (body n) n (st 0)) r:=by
 obtain ⟨N,h⟩:=h
 exact ⟨max N (k+1),λ n hn=>Yp st k (h n (by omega)).1 (h n (by omega)).2 n (by omega)⟩
def I7 (N:Nat) (stop:Nat->Option ρ) (d:ρ):ρ:=((List.range N).findSome? stop).getD d
theorem Jal {N:Nat} {stop:Nat->Option ρ} {d:ρ} (h:∀ i,i<N->stop i=none):I7 N stop d=d:=by
 unfold I7
 rw [List.findSome?_eq_none_iff.2 λ i hi=>h i (List.mem_range.1 hi)];rfl
theorem Jam {N:Nat} {stop:Nat->Option ρ} {d r:ρ} (k:Nat) (hk:k<N) (hr:stop k=some r) (h:∀ i,i<k->stop i=none):I7 N stop d=r:=by
 unfold I7
 have:(List.range N).findSome? stop=some r:=by
  have e:List.range N=List.range k++(List.range (N-k)).map (k+·):=by rw [← List.range_add];congr 1;omega
  rw [e,List.findSome?_append,List.findSome?_eq_none_iff.2 λ i hi=>h i (List.mem_range.1 hi)]
  have:N-k=(N-k-1)+1:=by omega
  rw [this,List.range_succ_eq_map]
  simp [hr]
 rw [this];rfl
theorem TJ (N:Nat) (stop:Nat->Option ρ) (d:ρ):((∀ i,i<N->stop i=none)/\I7 N stop d=d)\/∃ k r,k<N/\stop k=some r/\(∀ i,i<k->stop i=none)/\I7 N stop d=r:=by
 by_cases h:∀ i,i<N->stop i=none
 ·exact .inl ⟨h,Jal h⟩
 ·right
  have hex:∃ k,k<N/\stop k≠none:=by
   apply Classical.byContradiction
   intro hh
   exact h λ i hi=>Classical.byContradiction λ hn=>hh ⟨i,hi,hn⟩
  have key:∀ m,(∃ k,k<m/\k<N/\stop k≠none)->∃ k,k<N/\stop k≠none/\∀ i,i<k->stop i=none:=by
   intro m
   induction m with
   | zero=>rintro ⟨k,hk,_⟩;omega
   | succ m ih=>
    rintro ⟨k,hk,h1,h2⟩
    by_cases hm:∃ k,k<m/\k<N/\stop k≠none
    ·exact ih hm
    ·refine ⟨k,h1,h2,λ i hi=>Classical.byContradiction λ hn=>hm ⟨i,by omega,by omega,hn⟩⟩
  obtain ⟨k0,h1,h2⟩:=hex
  obtain ⟨k,h3,h4,h5⟩:=key (k0+1) ⟨k0,by omega,h1,h2⟩
  obtain ⟨r,hr⟩:=Option.ne_none_iff_exists'.1 h4
  exact ⟨k,r,h3,hr,h5,Jam k h3 hr h5⟩
theorem Jan {body:Int->Option (Int⊕ρ)} {N:Nat} (stop:Nat->Option ρ) {d:ρ} (h1:∀ i,i<N->body (i:Int)=some (match stop i with|some r=>.inr r|none=>.inl ((i+1:Nat):Int))) (h2:body (N:Int)=some (.inr d)):∀ n,N<n->whl body n 0=some (I7 N stop d):=by
 intro n hn
 rcases TJ N stop d with ⟨h,e⟩|⟨k,r,hk,hr,h,e⟩
 ·rw [e]
  exact Yp (λ i=>(i:Int)) N (λ i hi=>by rw [h1 i hi,h i hi]) h2 n hn
 ·rw [e]
  exact Yp (λ i=>(i:Int)) k (λ i hi=>by rw [h1 i (by omega),h i hi]) (by rw [h1 k hk,hr]) n (by omega)
theorem Ev.first {body:Nat->Int->Option (Int⊕ρ)} {N:Nat} (stop:Nat->Option ρ) {d:ρ} (h:∃ M,∀ n,M<=n->(∀ i,i<N->body n (i:Int)=some (match stop i with|some r=>.inr r|none=>.inl ((i+1:Nat):Int)))/\body n (N:Int)=some (.inr d)):Ev (λ n=>Go.AI.whl (body n) n 0) (I7 N stop d):=by
 obtain ⟨M,h⟩:=h
 exact ⟨max M (N+1),λ n hn=>Jan stop (h n (by omega)).1 (h n (by omega)).2 n (by omega)⟩
theorem Tot.gE {P:α->Prop} {c:Bool} {f:Nat->Option β} {d x:β} {g:Nat->β->Option α} (hc:c=true) (h:Ev f x) (k:Tot (λ n=>g n x) P):Tot (λ n=>(if c=true then f n else some d).bind (g n)) P:=by
 subst hc;exact Tot.bindE h k
theorem Tot.gF {P:α->Prop} {c:Bool} {f:Nat->Option β} {d:β} {g:Nat->β->Option α} (hc:c=false) (k:Tot (λ n=>g n d) P):Tot (λ n=>(if c=true then f n else some d).bind (g n)) P:=by
 subst hc;exact k
theorem Ev.many {f:Nat->Nat->Option α} {z:Nat->α} (N:Nat) (h:∀ i,i<N->Ev (λ n=>f n i) (z i)):∃ M,∀ n,M<=n->∀ i,i<N->f n i=some (z i):=by
 induction N with
 | zero=>exact ⟨0,λ n _ i hi=>by omega⟩
 | succ N ih=>
  obtain ⟨M1,h1⟩:=ih λ i hi=>h i (by omega)
  obtain ⟨M2,h2⟩:=h N (by omega)
  exact ⟨max M1 M2,λ n hn i hi=>by
   by_cases e:i=N
   ·subst e;exact h2 n (by omega)
   ·exact h1 n (by omega) i (by omega)⟩
end Go.AI
end
section
namespace Go.AI
def scan {ρ:Type} (N:Nat) (stop:Nat->Option ρ):Unit⊕ρ:=match (List.range N).findSome? stop with
 | some r=>.inr r
 | none=>.inl ()
theorem MU {ρ:Type} {body:Nat->Int->Option (Int⊕(Unit⊕ρ))} (N:Nat) (stop:Nat->Option ρ)
  (h:∀ i,i<N->Ev (λ n=>body n (i:Int)) (match stop i with|some r=>.inr (.inr r)|none=>.inl ((i+1:Nat):Int)))
  (h2:Ev (λ n=>body n (N:Int)) (.inr (.inl ()))):Ev (λ n=>whl (body n) n 0) (AI.scan N stop):=by
 have key:∀ (k i:Nat),i+k=N->(List.range N).findSome? stop=((List.range k).map (i+·)).findSome? stop->∃ M c,∀ n fuel,M<=n->c<=fuel->whl (body n) fuel (i:Int)=some (AI.scan N stop):=by
  intro k
  induction k with
  | zero=>
   intro i hi hf
   have:i=N:=by omega
   subst this
   obtain ⟨M,hM⟩:=h2
   refine ⟨M,1,λ n fuel hn hfu=>?_⟩
   obtain ⟨fuel,rfl⟩:∃ f,fuel=f+1:=⟨fuel-1,by omega⟩
   have e:=hM n hn
   simp only at e
   simp only [AI.whl,e]
   unfold AI.scan
   rw [hf];rfl
  | succ k ih=>
   intro i hi hf
   obtain ⟨M,hM⟩:=h i (by omega)
   have hs:(List.range (k+1)).map (i+·)=i::(List.range k).map ((i+1)+·):=by
    rw [List.range_succ_eq_map]
    simp only [List.map_cons,Nat.add_zero,List.map_map,List.cons.injEq,true_and]
    apply List.map_congr_left
    intro a _
    simp only [Function.comp];omega
   rw [hs,List.findSome?_cons] at hf
   cases hst:stop i with
   | some r=>
    rw [hst] at hf hM
    refine ⟨M,1,λ n fuel hn hfu=>?_⟩
    obtain ⟨fuel,rfl⟩:∃ f,fuel=f+1:=⟨fuel-1,by omega⟩
    have e:=hM n hn
    simp only at e
    simp only [AI.whl,e]
    unfold AI.scan
    rw [hf]
   | none=>
    rw [hst] at hf hM
    obtain ⟨M2,c,h3⟩:=ih (i+1) (by omega) hf
    refine ⟨max M M2,c+1,λ n fuel hn hfu=>?_⟩
    obtain ⟨fuel,rfl⟩:∃ f,fuel=f+1:=⟨fuel-1,by omega⟩
    have e:=hM n (by omega)
    simp only at e
    simp only [AI.whl,e]
    exact h3 n fuel (by omega) (by omega)
 obtain ⟨M,c,hh⟩:=key N 0 (by omega) (by simp)
 exact ⟨max M c,λ m hm=>hh m m (by omega) (by omega)⟩
theorem MV {ρ:Type} {N:Nat} {stop:Nat->Option ρ} (h:∀ i,i<N->stop i=none):scan N stop=.inl ():=by
 unfold scan
 rw [List.findSome?_eq_none_iff.2 λ i hi=>h i (List.mem_range.1 hi)]
theorem MW {ρ:Type} {N:Nat} {stop:Nat->Option ρ} {i:Nat} (hi:i<N) (h:(stop i).isSome=true):∃ k r,k<N/\stop k=some r/\scan N stop=.inr r:=by
 unfold scan
 cases hf:(List.range N).findSome? stop with
 | none=>rw [List.findSome?_eq_none_iff.1 hf i (List.mem_range.2 hi)] at h;cases h
 | some r=>
  obtain ⟨k,hk,hr⟩:=List.exists_of_findSome?_eq_some hf
  exact ⟨k,r,List.mem_range.1 hk,hr,rfl⟩
def QI (b:UInt8):Int:=(b.toNat:Int)
def F7 (b:UInt8):Bool:=decide (Ch .u8 (QI b) 127>=32)&&decide (Ch .u8 (QI b) 127<=126)
def Ic (b:UInt8):Bool:=Ch .u8 (QI b) 127==32
theorem S4 {s:List UInt8} {i:Nat} {b:UInt8} (h:s[i]? = some b):NS s (i:Int)=some (QI b):=by
 rw [Ph (Ar h)]
 unfold NL QI
 rw [h];rfl
theorem He {i n:Nat} (h:i<n):decide ((i:Int)<((n:Nat):Int))=true:=by simpa using h
def Ht (s:List UInt8):Int×Int:=match scan s.length (λ i=>if F7 (s.getD i 0) then none else some ((i:Int),(60:Int))) with
 | .inl _=>(((s.length:Nat):Int),0)
 | .inr p=>p
theorem DH {α:Type} {l:List α} {i:Nat} {d:α} (h:i<l.length):l.getD i d=l[i]:=by
 rw [JlB,Jls h];rfl
theorem Y7 {s:List UInt8} (hl:s.length<9223372036854775807):Ev (λ n=>FQ n s) (Ht s):=by
 unfold FQ Ht
 refine Ev.bind (MU s.length (λ i=>if F7 (s.getD i 0) then none else some ((i:Int),(60:Int))) (λ i hi=>Ev.all λ n=>?_) (Ev.all λ n=>?_)) ?_
 ·unfold Fv
  have hg:s[i]? = some s[i]:=Jls hi
  rw [if_pos (He hi),S4 hg,DH hi]
  have hc:DM n (QI s[i])=some (F7 s[i]):=rfl
  simp only [Option.bind_some,hc]
  cases F7 s[i] with
  | true=>simp [Ib (show i<9223372036854775807 by omega)]
  | false=>simp
 ·unfold Fv
  rw [if_neg (by simp)]
 ·generalize scan s.length _=z;cases z<;>exact Ev.const
theorem JdD {s:List UInt8} (hl:s.length<9223372036854775807):Ev (λ n=>OS n s) (Ht s):=by
 unfold OS Ht
 refine Ev.bind (MU s.length (λ i=>if F7 (s.getD i 0) then none else some ((i:Int),(60:Int))) (λ i hi=>Ev.all λ n=>?_) (Ev.all λ n=>?_)) ?_
 ·unfold II
  have hg:s[i]? = some s[i]:=Jls hi
  rw [if_pos (He hi),S4 hg,DH hi]
  have hc:Jd n (QI s[i])=some (F7 s[i]):=rfl
  simp only [Option.bind_some,hc]
  cases F7 s[i] with
  | true=>simp [Ib (show i<9223372036854775807 by omega)]
  | false=>simp
 ·unfold II
  rw [if_neg (by simp)]
 ·generalize scan s.length _=z;cases z<;>exact Ev.const
theorem Xg {s:List UInt8} (h:s.all F7=true):Ht s=(((s.length:Nat):Int),0):=by
 unfold Ht
 rw [MV λ i hi=>by rw [DH hi,List.all_eq_true.1 h _ (List.getElem_mem hi)];rfl]
theorem Qf {s:List UInt8} (h:s.all F7=false):(Ht s).2=60:=by
 rw [List.all_eq_false] at h
 obtain ⟨b,hb,hc⟩:=h
 obtain ⟨i,hi,e⟩:=List.getElem_of_mem hb
 unfold Ht
 obtain ⟨k,r,hk,hr,hs⟩:=MW (stop:=λ i=>if F7 (s.getD i 0) then none else some ((i:Int),(60:Int))) hi (by
  rw [DH hi,e];simp only [Bool.not_eq_true] at hc;rw [hc];rfl)
 rw [hs]
 simp only at hr ⊢
 split at hr
 ·cases hr
 ·cases hr;rfl
theorem Qg {s:List UInt8} (hl:s.length<9223372036854775807):Ev (λ n=>H1 n s) (s.all F7):=by
 unfold H1
 refine Ev.bind (JdD hl) ?_
 cases h:s.all F7 with
 | true=>rw [Xg h];exact Ev.const
 | false=>rw [Qf h];exact Ev.const
def Hi (r:Ax) (m:Int):Bool:=
 r.Print.all F7&&decide (r.Print.length<=4)&&decide (1<=r.Cells.length)&&decide (r.Cells.length<=4) &&
 (decide (1<=r.Left)&&decide (r.Left<=63)&&decide (1<=r.Right)&&decide (r.Right<=63)&&decide (0<=r.From)&&decide (r.From<m)&&decide (0<=r.To)&&decide (r.To<m)) &&
 r.Cells.all (λ c=>decide (c<63)) &&
 (bif r.Print.any Ic then decide (r.Print.length=1)&&decide (r.Cells.length=1)&&r.Cells.any (λ c=>c==0) else !r.Cells.any (λ c=>c==0))
end Go.AI
end
section
namespace Go.AI
theorem Jao {r:Ax} (hl:r.Print.length<9223372036854775807):Ev (λ n=>whl (λ (x:(Bool×Int))=>EB n r x.1 x.2) n (false,0)) (r.Print.any Ic):=by
 refine Ev.whl (body:=λ n x=>EB n r x.1 x.2) (λ k x=>∃ i:Nat,x.2=(i:Int)/\i<=r.Print.length/\k=r.Print.length-i/\x.1=(r.Print.take i).any Ic) ?_ r.Print.length (false,0) ⟨0,rfl,by omega,by omega,by simp⟩
 rintro k ⟨b,i'⟩ ⟨i,h1,hi,rfl,h2⟩
 simp only at h1 h2
 subst h1
 subst h2
 rcases Nat.lt_or_ge i r.Print.length with hlt|hge
 ·left
  have hg:r.Print[i]? = some r.Print[i]:=Jls hlt
  have hcond:decide ((i:Int)<((r.Print.length:Nat):Int))=true:=by simpa using hlt
  refine ⟨((r.Print.take (i+1)).any Ic,((i+1:Nat):Int)),r.Print.length-(i+1),by omega,⟨i+1,rfl,by omega,rfl,rfl⟩,Ev.all λ n=>?_⟩
  unfold EB
  rw [if_pos hcond]
  have ht:(r.Print.take (i+1)).any Ic=((r.Print.take i).any Ic||Ic r.Print[i]):=by
   rw [List.take_add_one,hg];simp only [Option.toList_some,List.any_append,List.any_cons,List.any_nil,Bool.or_false]
  have hsp:∀ n,PL n (QI r.Print[i])=some (Ic r.Print[i]):=λ n=>rfl
  rw [ht,Qe (by omega) (by omega),S4 hg]
  cases (r.Print.take i).any Ic with
  | true=>simp
  | false=>simp [hsp]
 ·right
  have e:i=r.Print.length:=by omega
  subst e
  refine Ev.all λ n=>?_
  unfold EB
  rw [if_neg (by simp),List.take_length]
theorem Ev.upto {σ ρ:Type} {body:Nat->σ->Option (σ⊕ρ)} {R:ρ->Prop} (N:Nat) (I:Nat->σ->Prop)
  (step:∀ i x,i<N->I i x->(∃ y,I (i+1) y/\Ev (λ n=>body n x) (.inl y))\/∃ r,R r/\Ev (λ n=>body n x) (.inr r))
  (last:∀ x,I N x->∃ r,R r/\Ev (λ n=>body n x) (.inr r)) (x:σ) (h0:I 0 x):∃ r,R r/\Ev (λ n=>Go.AI.whl (body n) n x) r:=by
 refine Ev.whlR (body:=body) (λ k x=>∃ i,i<=N/\k=N-i/\I i x) ?_ N x ⟨0,by omega,by omega,h0⟩
 rintro k x ⟨i,hi,rfl,hx⟩
 rcases Nat.lt_or_ge i N with hlt|hge
 ·rcases step i x hlt hx with ⟨y,hy,hE⟩|h
  ·exact .inl ⟨y,N-(i+1),by omega,⟨i+1,by omega,rfl,hy⟩,hE⟩
  ·exact .inr h
 ·have:i=N:=by omega
  subst this
  exact .inr (last x hx)
theorem Jap {r:Ax} (hl:r.Cells.length<9223372036854775807) (y:Bool):∃ z:Bool⊕Bool,(if r.Cells.all (λ c=>decide (c<63))=true then z=.inl (r.Cells.any (λ c=>c==0)) else z=.inr false)/\Ev (λ n=>whl (λ (x:(Bool×Int))=>DE n r y x.1 x.2) n (false,0)) z:=by
 refine Ev.upto (body:=λ n x=>DE n r y x.1 x.2) r.Cells.length (λ i x=>x.2=(i:Int)/\x.1=(r.Cells.take i).any (λ c=>c==0)/\(r.Cells.take i).all (λ c=>decide (c<63))=true) ?_ ?_ (false,0) ⟨rfl,by simp,by simp⟩
 ·rintro i ⟨b,i'⟩ hlt ⟨h1,h2,h3⟩
  simp only at h1 h2
  subst h1
  subst h2
  have hg:r.Cells[i]? = some r.Cells[i]:=Jls hlt
  have hcond:decide ((i:Int)<((r.Cells.length:Nat):Int))=true:=by simpa using hlt
  by_cases hc:r.Cells[i]<63
  ·left
   refine ⟨((r.Cells.take (i+1)).any (λ c=>c==0),((i+1:Nat):Int)),⟨rfl,rfl,?_⟩,Ev.all λ n=>?_⟩
   ·rw [List.take_add_one,hg];simp only [Option.toList_some,List.all_append,h3,List.all_cons,decide_eq_true hc,List.all_nil,Bool.and_self]
   ·unfold DE
    have ht:(r.Cells.take (i+1)).any (λ c=>c==0)=((r.Cells.take i).any (λ c=>c==0)||r.Cells[i]==0):=by
     rw [List.take_add_one,hg];simp only [Option.toList_some,List.any_append,List.any_cons,List.any_nil,Bool.or_false]
    rw [if_pos hcond,KN hg,Option.bind_some,if_neg (by simpa using hc),ht,Qe (by omega) (by omega)]
    cases (r.Cells.take i).any (λ c=>c==0) with
    | true=>simp
    | false=>simp
  ·right
   refine ⟨.inr false,?_,Ev.all λ n=>?_⟩
   ·rw [if_neg]
    intro h
    rw [List.all_eq_true] at h
    exact hc (by simpa using h r.Cells[i] (List.getElem_mem hlt))
   ·unfold DE
    rw [if_pos hcond,KN hg,Option.bind_some,if_pos (by simp;omega)]
 ·rintro ⟨b,i'⟩ ⟨h1,h2,h3⟩
  simp only at h1 h2
  subst h1
  subst h2
  rw [List.take_length] at h3 ⊢
  refine ⟨.inl (r.Cells.any (λ c=>c==0)),by rw [if_pos h3],Ev.all λ n=>?_⟩
  unfold DE
  rw [if_neg (by simp)]
theorem JdE {r:Ax} (hp:r.Print.length<9223372036854775807) (hc:r.Cells.length<9223372036854775807) (m:Int):Ev (λ n=>MO n r m) (Hi r m):=by
 obtain ⟨z,hz,hE⟩:=Jap hc (r.Print.any Ic)
 have h1:=Qg hp
 have h2:=Jao (r:=r) hp
 unfold MO
 refine Ev.bind h1 ?_
 unfold Hi
 generalize r.Print.all F7=a
 by_cases g1:((((!a)||(decide (((r.Print.length:Nat):Int)>4)))||(decide (((r.Cells.length:Nat):Int)<1)))||(decide (((r.Cells.length:Nat):Int)>4)))=true
 ·simp only [g1,if_true]
  have:(a&&decide (r.Print.length<=4)&&decide (1<=r.Cells.length)&&decide (r.Cells.length<=4))=false:=by
   rw [← Bool.not_eq_true]
   intro h
   simp only [Jlt,decide_eq_true_eq] at h
   simp only [JlM,decide_eq_true_eq,Bool.not_eq_true'] at g1
   rcases g1 with ((g|g)|g)|g
   ·rw [g] at h;simp at h
   all_goals omega
  rw [this]
  exact Ev.const
 ·simp only [g1]
  by_cases g2:((((((((decide (r.Left<1))||(decide (r.Left>63)))||(decide (r.Right<1)))||(decide (r.Right>63)))||(decide (r.From<0)))||(decide (r.From>=m)))||(decide (r.To<0)))||(decide (r.To>=m)))=true
  ·simp only [g2,if_true]
   have:(decide (1<=r.Left)&&decide (r.Left<=63)&&decide (1<=r.Right)&&decide (r.Right<=63)&&decide (0<=r.From)&&decide (r.From<m)&&decide (0<=r.To)&&decide (r.To<m))=false:=by
    rw [← Bool.not_eq_true]
    intro h
    simp only [Jlt,decide_eq_true_eq] at h
    simp only [JlM,decide_eq_true_eq] at g2
    omega
   rw [this,Bool.and_false]
   exact Ev.const
  ·have e1:(a&&decide (r.Print.length<=4)&&decide (1<=r.Cells.length)&&decide (r.Cells.length<=4))=true:=by
    simp only [JlM,decide_eq_true_eq,Bool.not_eq_true',not_or] at g1
    simp only [Jlt,decide_eq_true_eq]
    refine ⟨⟨⟨by simpa using g1.1.1.1,?_⟩,?_⟩,?_⟩<;>omega
   have e2:(decide (1<=r.Left)&&decide (r.Left<=63)&&decide (1<=r.Right)&&decide (r.Right<=63)&&decide (0<=r.From)&&decide (r.From<m)&&decide (0<=r.To)&&decide (r.To<m))=true:=by
    simp only [JlM,decide_eq_true_eq,not_or] at g2
    simp only [Jlt,decide_eq_true_eq]
    omega
   rw [e1,e2]
   simp only [g2,JlF,if_false]
   refine Ev.bind h2 (Ev.bind hE ?_)
   split at hz
   ·rename_i h
    subst hz
    rw [h]
    generalize r.Print.any Ic=b
    cases b with
    | false=>exact Ev.const
    | true=>
     refine Ev.all λ n=>?_
     simp only [Bool.not_true,JlF,if_false,Bool.and_true,Bool.true_and,cond_true]
     congr 3<;>rw [Bool.eq_iff_iff]<;>simp<;>omega
   ·rename_i h
    subst hz
    rw [Bool.not_eq_true] at h
    rw [h]
    exact Ev.const
end Go.AI
end
section
namespace Go.AI
theorem Ev.iteT {α:Type} {c:Bool} {a b:Nat->Option α} {z:α} (h:c=true) (k:Ev a z):Ev (λ n=>if c=true then a n else b n) z:=by subst h;exact k
theorem Ev.iteF {α:Type} {c:Bool} {a b:Nat->Option α} {z:α} (h:c=false) (k:Ev b z):Ev (λ n=>if c=true then a n else b n) z:=by subst h;exact k
theorem Ev.bindC {α β:Type} {x:Option β} {y:β} {g:Nat->β->Option α} {z:α} (h:x=some y) (k:Ev (λ n=>g n y) z):Ev (λ n=>x.bind (g n)) z:=by subst h;exact k
theorem Ev.guard {α β:Type} {c:Bool} {f:Nat->Option β} {d x:β} {g:Nat->β->Option α} {z:α} (h:c=true->Ev f x) (k:Ev (λ n=>g n (if c=true then x else d)) z):Ev (λ n=>(if c=true then f n else some d).bind (g n)) z:=by
 cases c with
 | true=>exact Ev.bind (h rfl) k
 | false=>exact k
theorem Yq {α β:Type} {a:List α} {b:List β}:(((a.length:Nat):Int) != ((b.length:Nat):Int))=decide (a.length≠b.length):=by
 rw [Bool.eq_iff_iff]
 simp only [bne_iff_ne,ne_eq,decide_eq_true_eq]
 omega
theorem Uq {α:Type} [DecidableEq α] [Inhabited α] (a b:List α) (h:a.length=b.length):scan a.length (λ i=>if a.getD i default=b.getD i default then none else some false)=if a=b then .inl () else .inr false:=by
 by_cases e:a=b
 ·subst e
  rw [if_pos rfl]
  exact MV λ i _=>by rw [if_pos rfl]
 ·rw [if_neg e]
  have:∃ i,i<a.length/\a.getD i default≠b.getD i default:=by
   apply Classical.byContradiction
   intro hn
   refine e (List.ext_getElem h λ i h1 h2=>?_)
   have:=Classical.byContradiction λ hc=>hn ⟨i,h1,hc⟩
   rwa [DH h1,DH h2] at this
  obtain ⟨i,hi,hne⟩:=this
  obtain ⟨k,r,_,hr,hs⟩:=MW (stop:=λ i=>if a.getD i default=b.getD i default then none else some false) hi (by rw [if_neg hne];rfl)
  rw [hs]
  split at hr
  ·cases hr
  ·cases hr;rfl
theorem VE (a b:List Int) (ha:a.length<9223372036854775807):Ev (λ n=>Db n a b) (decide (a=b)):=by
 unfold Db
 rw [Yq]
 by_cases h:a.length=b.length
 ·refine Ev.iteF (by simp [h]) ?_
  refine Ev.bind (MU a.length (λ i=>if a.getD i default=b.getD i default then none else some false) (λ i hi=>Ev.all λ n=>?_) (Ev.all λ n=>?_)) ?_
  ·unfold CH
   rw [if_pos (He hi),Ms hi,Ms (by omega)]
   simp only [Option.bind_some]
   by_cases e:a.getD i default=b.getD i default
   ·rw [if_neg (by simp only [bne_iff_ne,ne_eq];exact λ hh=>hh e),if_pos e,Ib (by omega)]
   ·rw [if_pos (by simp only [bne_iff_ne,ne_eq];exact e),if_neg e]
  ·unfold CH
   rw [if_neg (by simp)]
  ·rw [Uq a b h]
   by_cases e:a=b
   ·rw [if_pos e,decide_eq_true e];exact Ev.const
   ·rw [if_neg e,decide_eq_false e];exact Ev.const
 ·refine Ev.iteT (by simp [h]) ?_
  rw [decide_eq_false (λ e=>h (by rw [e]))]
  exact Ev.const
theorem Jfc (a b:Ax):decide (a=b)=(a.Print==b.Print&&decide (a.Cells=b.Cells)&&a.Left==b.Left&&a.Right==b.Right&&a.From==b.From&&a.To==b.To):=by
 rw [Bool.eq_iff_iff]
 cases a;cases b
 simp only [decide_eq_true_eq,Ax.mk.injEq,Jlt,beq_iff_eq]
 exact ⟨λ ⟨h1,h2,h3,h4,h5,h6⟩=>⟨⟨⟨⟨⟨h1,h2⟩,h3⟩,h4⟩,h5⟩,h6⟩,λ ⟨⟨⟨⟨⟨h1,h2⟩,h3⟩,h4⟩,h5⟩,h6⟩=>⟨h1,h2,h3,h4,h5,h6⟩⟩
theorem Xh (a b:Ax) (ha:a.Cells.length<9223372036854775807):Ev (λ n=>HE n a b) (decide (a=b)):=by
 unfold HE
 refine Ev.guard (λ _=>VE a.Cells b.Cells ha) (Ev.all λ n=>?_)
 rw [Jfc]
 cases h:(a.Print==b.Print)<;>simp
end Go.AI
end
section
namespace Go.AI
def JdF (r:Ax):Prop:=r.Print.length<9223372036854775807/\r.Cells.length<9223372036854775807
def KP (t:Ad):Prop:=t.Rules.length<9223372036854775807/\∀ r∈t.Rules,JdF r
def Jaq (t:Ad) (i:Nat):Unit⊕(Int×Int):=scan i (λ k=>if t.Rules.getD k default=t.Rules.getD i default then some ((i:Int),(20:Int)) else none)
def Mt (t:Ad) (i:Nat):Option (Int×Int):=if Hi (t.Rules.getD i default) t.Modes=true then (match Jaq t i with | .inl _=>none | .inr p=>some p) else some ((i:Int),20)
def Yr (t:Ad):Bool:=decide (t.Modes<1)||decide (t.Modes>8)||(t.Accept==0)||decide (IntKind.i64.wrap t.Accept>=Tj .i64 1 t.Modes)||decide (((t.Rules.length:Nat):Int)<1)||decide (((t.Rules.length:Nat):Int)>64)
def VF (t:Ad):Int×Int:=if Yr t=true then (-1,1) else match scan t.Rules.length (Mt t) with
 | .inl _=>(0,0)
 | .inr p=>p
theorem KP.get {t:Ad} (h:KP t) {i:Nat} (hi:i<t.Rules.length):JdF (t.Rules.getD i default):=by
 rw [DH hi];exact h.2 _ (List.getElem_mem hi)
theorem Jar {t:Ad} (ht:KP t) {i:Nat} (hi:i<t.Rules.length):Ev (λ n=>whl (λ (x:Int)=>FR n t (i:Int) x) n 0) (Jaq t i):=by
 refine MU i _ (λ k hk=>?_) (Ev.all λ n=>?_)
 ·unfold FR
  refine Ev.iteT (by simpa using hk) (Ev.bindC (Ms (by omega)) (Ev.bindC (Ms hi) (Ev.bind (Xh _ _ (ht.get (by omega)).2) (Ev.all λ n=>?_))))
  by_cases e:t.Rules.getD k default=t.Rules.getD i default
  ·rw [if_pos (decide_eq_true e),if_pos e]
  ·rw [if_neg (by simpa using e),if_neg e,Ib (by have:=ht.1;omega)]
 ·unfold FR
  rw [if_neg (by simp)]
theorem Jas {t:Ad} (ht:KP t):Ev (λ n=>whl (λ (x:Int)=>FS n t x) n 0) (scan t.Rules.length (Mt t)):=by
 refine MU _ _ (λ i hi=>?_) (Ev.all λ n=>?_)
 ·unfold FS
  refine Ev.iteT (He hi) (Ev.bindC (Ms hi) (Ev.bind (JdE (ht.get hi).1 (ht.get hi).2 t.Modes) ?_))
  unfold Mt
  cases Hi (t.Rules.getD i default) t.Modes with
  | false=>exact Ev.iteT rfl Ev.const
  | true=>
   refine Ev.iteF rfl (Ev.bind (Jar ht hi) ?_)
   cases Jaq t i with
   | inl u=>refine Ev.all λ n=>?_;simp [Ib (show i<9223372036854775807 by have:=ht.1;omega)]
   | inr p=>exact Ev.const
 ·unfold FS
  rw [if_neg (by simp)]
theorem JdG {t:Ad} (ht:KP t):Ev (λ n=>MP n t) (VF t):=by
 unfold MP VF
 refine Ev.bindC (y:=()) ?_ ?_
 ·split
  ·rename_i h
   simp only [Bool.not_eq_true',Bool.or_eq_false_iff,decide_eq_false_iff_not] at h
   exact MT (by simp;omega)
  ·rfl
 ·show Ev (λ n=>if Yr t=true then _ else _) _
  cases Yr t with
  | true=>exact Ev.iteT rfl Ev.const
  | false=>
   refine Ev.iteF rfl (Ev.bind (Jas ht) ?_)
   generalize scan t.Rules.length _=z
   cases z<;>exact Ev.const
def Fm (t:Ad):Bool:=!Yr t&&t.Rules.all (λ r=>Hi r t.Modes)&&decide t.Rules.Nodup
theorem VG (t:Ad):((VF t).2==0)=Fm t:=by
 unfold VF Fm
 cases Yr t with
 | true=>rfl
 | false=>
  simp only [JlF,if_false,Bool.not_false,Bool.true_and]
  have h20:∀ i p,Mt t i=some p->p.2=20:=by
   intro i p h
   unfold Mt at h
   split at h
   ·split at h
    ·cases h
    ·rename_i q hq
     cases h
     unfold Jaq scan at hq
     split at hq
     ·rename_i r hr
      cases hq
      obtain ⟨k,_,hk⟩:=List.exists_of_findSome?_eq_some hr
      split at hk
      ·cases hk;rfl
      ·cases hk
     ·cases hq
   ·cases h;rfl
  have hiff:(∀ i,i<t.Rules.length->Mt t i=none)↔(t.Rules.all (λ r=>Hi r t.Modes)&&decide t.Rules.Nodup)=true:=by
   simp only [Jlt,List.all_eq_true,decide_eq_true_eq]
   constructor
   ·intro h
    have hs:∀ i,i<t.Rules.length->Hi (t.Rules.getD i default) t.Modes=true:=by
     intro i hi
     have:=h i hi
     unfold Mt at this
     split at this
     ·assumption
     ·cases this
    refine ⟨λ r hr=>?_,?_⟩
    ·obtain ⟨i,hi,e⟩:=List.getElem_of_mem hr
     have:=hs i hi
     rwa [DH hi,e] at this
    ·rw [List.Nodup,List.pairwise_iff_getElem]
     intro k i hk hi hlt e
     have h0:=h i hi
     unfold Mt at h0
     rw [if_pos (hs i hi)] at h0
     obtain ⟨_,r,_,_,hsc⟩:=MW (N:=i) (stop:=λ k=>if t.Rules.getD k default=t.Rules.getD i default then some ((i:Int),(20:Int)) else none) hlt (by rw [DH hk,DH hi,if_pos e];rfl)
     unfold Jaq at h0
     rw [hsc] at h0
     cases h0
   ·rintro ⟨h1,h2⟩ i hi
    unfold Mt
    rw [if_pos (by rw [DH hi];exact h1 _ (List.getElem_mem hi))]
    have:Jaq t i=.inl ():=MV λ k hk=>by
     rw [DH (show k<t.Rules.length by omega),DH hi,if_neg]
     rw [List.Nodup,List.pairwise_iff_getElem] at h2
     exact h2 k i (by omega) hi hk
    rw [this]
  cases hv:(t.Rules.all (λ r=>Hi r t.Modes)&&decide t.Rules.Nodup) with
  | true=>rw [MV (hiff.2 hv)];rfl
  | false=>
   have:¬∀ i,i<t.Rules.length->Mt t i=none:=λ h=>by rw [hiff.1 h] at hv;cases hv
   have:∃ i,i<t.Rules.length/\Mt t i≠none:=Classical.byContradiction λ hn=>this λ i hi=>Classical.byContradiction λ hc=>hn ⟨i,hi,hc⟩
   obtain ⟨i,hi,hne⟩:=this
   obtain ⟨k,r,_,hr,hs⟩:=MW hi (Option.isSome_iff_ne_none.2 hne)
   rw [hs]
   show (r.2==0)=false
   rw [h20 k r hr];rfl
theorem JdH {t:Ad} (ht:KP t):Ev (λ n=>PM n t) (Fm t):=by
 rw [← VG]
 exact Ev.bind (JdG ht) Ev.const
theorem Ys {t:Ad} {l:List Ax} (h:Fm t=true) (hl:l.Sublist t.Rules) (h1:1<=l.length):Fm ⟨t.Modes,t.Accept,l⟩=true:=by
 unfold Fm Yr at h ⊢
 simp only [Jlt,Bool.not_eq_true',Bool.or_eq_false_iff,decide_eq_false_iff_not,List.all_eq_true,decide_eq_true_eq] at h ⊢
 have hle:=hl.length_le
 exact ⟨⟨⟨⟨h.1.1.1.1,by omega⟩,by omega⟩,λ r hr=>h.1.2 r (hl.subset hr)⟩,hl.nodup h.2⟩
theorem HL {t:Ad} (h:Fm t=true):∀ r∈t.Rules,Hi r t.Modes=true:=by
 unfold Fm at h
 simp only [Jlt,List.all_eq_true] at h
 exact h.1.2
end Go.AI
end
section
namespace Go.AI
def Xi (r:Int):Ad:=(JE 0 r).getD default
theorem VH (n:Nat) (k:Int) (h0:0<=k):JE n k=some (Xi (By k 8))/\0<=By k 8/\By k 8<8:=by
 have e:By k 8=k % 8:=by unfold By;rw [Int.tmod_eq_emod_of_nonneg h0]
 have hr:By k 8=0\/By k 8=1\/By k 8=2\/By k 8=3\/By k 8=4\/By k 8=5\/By k 8=6\/By k 8=7:=by rw [e];omega
 rcases hr with h|h|h|h|h|h|h|h
 all_goals
  refine ⟨?_,by omega,by omega⟩
  unfold JE
  rw [h]
  rfl
def VI (r:Ax):Bool:=decide (0<=r.To)&&decide (r.To<2)&&decide (0<=r.Right)&&decide (r.Right<=63)&&decide (r.Print.length<=3)
theorem Yt {r:Ax} (h:VI r=true):Oi r:=by
 simp only [VI,Jlt,decide_eq_true_eq] at h
 obtain ⟨⟨⟨⟨h1,h2⟩,h3⟩,h4⟩,h5⟩:=h
 exact ⟨h1,h2,h3,h4,h5⟩
def VJ (t:Ad):Bool:=decide (t.Rules.length<=8)&&t.Rules.all VI&&decide (1<=t.Modes)&&decide (t.Modes<=2)&&Fm t
theorem Jfd {r:Int} (h:0<=r) (h':r<8):VJ (Xi r)=true:=by
 have:∀ k:Nat,k<8->VJ (Xi (k:Int))=true:=by decide +kernel
 have e:=this r.toNat (by omega)
 rwa [Int.toNat_of_nonneg h] at e
def U8 (n:Int):Prop:=0<=n/\n<256
def Y8 (x:Dp):Prop:=(∀ a∈x.P,U8 a)/\(∀ a∈x.C,U8 a)/\U8 x.L/\U8 x.R/\U8 x.W.a0/\U8 x.W.a1
theorem Ej {a m:Int} (h:0<=a) (hm:0<m):0<=By a m/\By a m<m:=(Jak h hm).2
theorem Oj {α:Type} {l:List α} {i:Int} (h:0<=i) (h':i<l.length):∃ x,x∈l/\idx l i=some x:=by
 have hl:i.toNat<l.length:=by omega
 refine ⟨l[i.toNat],List.getElem_mem hl,?_⟩
 unfold idx
 rw [if_pos h]
 exact Jls hl
theorem Jfe {α:Type} {l:List α} {i:Int} (h:0<=i) (h':i<l.length):∃ z,z.length=1/\sub l i (i+1)=some z:=by
 refine ⟨(l.take (i+1).toNat).drop i.toNat,?_,?_⟩
 ·simp;omega
 ·unfold sub
  rw [if_pos (by omega)]
def Y9 (a b:Ax):Prop:=a.Left=b.Left/\a.Right=b.Right/\a.From=b.From/\a.To=b.To
theorem JdI (x:Dp) (hx:∀ a∈x.P,U8 a) (r0:Ax) (h0:r0.Print=[]):Tot (λ n=>whl (λ (y:(Ax×Int))=>FA n x y.1 y.2) n (r0,0)) (λ r=>r.Print.length<=3/\Y9 r r0):=by
 refine Tot.upto (body:=λ n y=>FA n x y.1 y.2) (min x.P.length 3) (λ i y=>y.2=(i:Int)/\y.1.Print.length=i/\Y9 y.1 r0) ?_ ?_ (r0,0) ⟨rfl,by simp [h0],rfl,rfl,rfl,rfl⟩
 ·rintro i ⟨r,i'⟩ hi ⟨h1,h2,h3⟩
  simp only at h1 h2 h3
  subst h1
  obtain ⟨c,hcm,hci⟩:=Oj (l:=x.P) (i:=(i:Int)) (by omega) (by omega)
  have hu:=hx c hcm
  have hr:=Ej (m:=9) hu.1 (by omega)
  have hw:IntKind.i64.wrap (By c 9)=By c 9:=SZ (by omega) (by omega)
  obtain ⟨z,hz1,hz⟩:=Jfe (l:=([97,98,99,65,66,49,50,45,46]:List UInt8)) (i:=By c 9) hr.1 (by simpa using hr.2)
  unfold FA
  refine Tot.iteT (by simp only [Jlt,decide_eq_true_eq];omega) (Tot.bindC hci ?_)
  simp only [hw]
  rw [EJ (by omega) (by omega)]
  refine Tot.bindC hz (Tot.bindC (Mr (by omega)) (Tot.pure ⟨Ib (by omega),by simp [h2,hz1],h3⟩))
 ·rintro ⟨r,i'⟩ ⟨h1,h2,h3⟩
  simp only at h1 h2 h3
  subst h1
  unfold FA
  exact Tot.iteF (by rw [← Bool.not_eq_true];simp only [Jlt,decide_eq_true_eq];omega) (Tot.pure ⟨by show r.Print.length<=3;omega,h3⟩)
theorem JdJ (x:Dp) (hx:∀ a∈x.C,U8 a) (r0:Ax) (h0:r0.Cells.length=1):Tot (λ n=>whl (λ (y:(Ax×Int))=>FB n x y.1 y.2) n (r0,0)) (λ r=>(r.Cells.length<=3/\1<=r.Cells.length)/\r.Print=r0.Print/\Y9 r r0):=by
 refine Tot.upto (body:=λ n y=>FB n x y.1 y.2) (min x.C.length 2) (λ i y=>y.2=(i:Int)/\y.1.Cells.length=i+1/\y.1.Print=r0.Print/\Y9 y.1 r0) ?_ ?_ (r0,0) ⟨rfl,by simp [h0],rfl,rfl,rfl,rfl,rfl⟩
 ·rintro i ⟨r,i'⟩ hi ⟨h1,h2,h3,h4⟩
  simp only at h1 h2 h3 h4
  subst h1
  obtain ⟨c,hcm,hci⟩:=Oj (l:=x.C) (i:=(i:Int)) (by omega) (by omega)
  have hu:=hx c hcm
  have hr:=Ej (m:=8) hu.1 (by omega)
  obtain ⟨z,_,hz⟩:=Oj (l:=([1,3,9,5,7,32,44,60]:List Int)) (i:=By c 8) hr.1 (by simpa using hr.2)
  unfold FB
  refine Tot.iteT (by simp only [Jlt,decide_eq_true_eq];omega) (Tot.bindC hci (Tot.bindC hz (Tot.bindC (KO (by simp;omega)) (Tot.pure ⟨Ib (by omega),by simp [h2],h3,h4⟩))))
 ·rintro ⟨r,i'⟩ ⟨h1,h2,h3,h4⟩
  simp only at h1 h2 h3 h4
  subst h1
  unfold FB
  exact Tot.iteF (by rw [← Bool.not_eq_true];simp only [Jlt,decide_eq_true_eq];omega) (Tot.pure ⟨by show r.Cells.length<=3/\1<=r.Cells.length;omega,h3,h4⟩)
theorem Jff {x:Dp} (hx:Y8 x) {m:Int} (hm:1<=m) (hm':m<=2):Tot (λ n=>OR n x m) (λ r=>Oi r/\(r.Cells.length<=3/\1<=r.Cells.length)/\0<=r.From/\r.From<m/\0<=r.To/\r.To<m):=by
 obtain ⟨hP,hC,hL,hR,hW0,hW1⟩:=hx
 have l8:=Ej (m:=8) hL.1 (by omega)
 have r8:=Ej (m:=8) hR.1 (by omega)
 obtain ⟨a,ham,ha⟩:=Oj (l:=([63,63,2,8,17,62,4,1]:List Int)) (i:=By x.L 8) l8.1 (by simpa using l8.2)
 obtain ⟨b,hbm,hb⟩:=Oj (l:=([63,63,2,8,17,62,4,1]:List Int)) (i:=By x.R 8) r8.1 (by simpa using r8.2)
 have hq:0<=Jep .u8 x.L 8:=by unfold Jep;exact (Xa _).1
 have q8:=Ej (m:=8) hq (by omega)
 obtain ⟨c,_,hc⟩:=Oj (l:=([1,3,9,5,7,32,44,60]:List Int)) (i:=By (Jep .u8 x.L 8) 8) q8.1 (by simpa using q8.2)
 have hg:BE (!(m==0))=some ():=MT (by simp;omega)
 have w0:IntKind.i64.wrap x.W.a0=x.W.a0:=SZ (by have:=hW0.1;omega) (by have:=hW0.2;omega)
 have w1:IntKind.i64.wrap x.W.a1=x.W.a1:=SZ (by have:=hW1.1;omega) (by have:=hW1.2;omega)
 have hfr:=Ej (a:=x.W.a0) (m:=m) hW0.1 (by omega)
 have hto:=Ej (a:=x.W.a1) (m:=m) hW1.1 (by omega)
 have hbr:0<=b/\b<=63:=by
  simp at hbm
  omega
 unfold OR
 refine Tot.bindC ha (Tot.bindC hb (Tot.bindC hg (Tot.bindC hg (Tot.bind (JdI x hP _ rfl) ?_))))
 rintro r1 ⟨p1,p2,p3,p4,p5⟩
 refine Tot.bindC hc (Tot.bind (JdJ x hC _ rfl) ?_)
 rintro r2 ⟨q1,q2,q3,q4,q5,q6⟩
 simp only at q2 q3 q4 q5 q6
 rw [p3] at q4
 rw [p4] at q5
 rw [p5] at q6
 simp only [w0,w1] at q5 q6 q4
 refine Tot.pure ⟨⟨?_,?_,?_,?_,?_⟩,q1,?_,?_,?_,?_⟩
 all_goals first|(rw [q6];omega)|(rw [q4];omega)|(rw [q5];omega)|(rw [q2];exact p1)
def Pk (x:M9):Prop:=0<=x.Base/\∀ r∈x.More,Y8 r
structure KQ (t:Ad):Prop where
 tab:Hs t
 lo:1<=t.Modes
 hi:t.Modes<=2
 valid:Fm t=true
theorem KQ.sound {t:Ad} (h:KQ t):∀ r∈t.Rules,Hi r t.Modes=true:=HL h.valid
theorem Id {r:Ax} {m:Int} (h:Hi r m=true):r.Print.length<=4/\1<=r.Cells.length/\r.Cells.length<=4:=by
 simp only [Hi,Jlt,decide_eq_true_eq] at h
 omega
theorem KQ.small {t:Ad} (h:KQ t):KP t:=⟨by have:=h.tab.1;omega,λ r hr=>by have:=Id (h.sound r hr);exact ⟨by omega,by omega⟩⟩
theorem JdK (x:M9) (b:Ad) (hb:b.Rules.length<=8):Tot (λ n=>whl (λ (y:(Ad×Int))=>FC n x b y.1 y.2) n (({ Modes:=b.Modes,Accept:=b.Accept,Rules:=[] }:Ad),0)) (λ t=>t.Modes=b.Modes/\t.Accept=b.Accept/\t.Rules.Sublist b.Rules):=by
 refine Tot.upto (body:=λ n y=>FC n x b y.1 y.2) b.Rules.length (λ i y=>y.2=(i:Int)/\y.1.Modes=b.Modes/\y.1.Accept=b.Accept/\y.1.Rules.Sublist (b.Rules.take i)) ?_ ?_ _ ⟨rfl,rfl,rfl,by simp⟩
 ·rintro i ⟨t,i'⟩ hi ⟨h1,h2,h3,h4⟩
  simp only at h1 h2 h3 h4
  subst h1
  have ht:b.Rules.take (i+1)=b.Rules.take i++[b.Rules.getD i default]:=by rw [List.take_add_one,DH hi,Jls hi];rfl
  have hlen:=h4.length_le
  rw [List.length_take] at hlen
  unfold FC
  refine Tot.iteT (He hi) (Tot.bindC (MT (by simp)) (Tot.ite (λ _=>Tot.bindC (Ms hi) (Tot.bindC (KO (by simp;omega)) ?_)) λ _=>?_))
  ·unfold GZ
   exact Tot.pure ⟨Ib (by omega),h2,h3,by rw [ht];exact h4.append (List.Sublist.refl _)⟩
  ·unfold GZ
   exact Tot.pure ⟨Ib (by omega),h2,h3,by rw [ht];exact h4.trans (List.sublist_append_left _ _)⟩
 ·rintro ⟨t,i'⟩ ⟨h1,h2,h3,h4⟩
  simp only at h1 h2 h3 h4
  subst h1
  rw [List.take_length] at h4
  unfold FC
  exact Tot.iteF (by simp) (Tot.pure ⟨h2,h3,h4⟩)
structure Jjc (b t:Ad):Prop where
 modes:t.Modes=b.Modes
 accept:t.Accept=b.Accept
 rules:∀ r∈t.Rules,Oi r/\r.Cells.length<=4
 valid:t.Rules=[]\/Fm t=true
theorem Jat {t:Ad} (hl:t.Rules.length<=11) (h:∀ r∈t.Rules,Oi r/\r.Cells.length<=4):KP t:=⟨by omega,λ r hr=>⟨by have:=(h r hr).1.2.2.2.2;omega,by have:=(h r hr).2;omega⟩⟩
theorem JdL (x:M9) (hx:∀ r∈x.More,Y8 r) (b t0:Ad) (hlo:1<=b.Modes) (hhi:b.Modes<=2) (h0:Jjc b t0) (hl0:t0.Rules.length<=8):Tot (λ n=>whl (λ (y:(Ad×Int))=>FD n x b y.1 y.2) n (t0,0)) (λ t=>Jjc b t/\t.Rules.length<=10):=by
 refine Tot.upto (body:=λ n y=>FD n x b y.1 y.2) (min x.More.length 2) (λ i y=>y.2=(i:Int)/\Jjc b y.1/\y.1.Rules.length<=8+i) ?_ ?_ _ ⟨rfl,h0,by simpa using hl0⟩
 ·rintro i ⟨t,i'⟩ hi ⟨h1,h2,h3⟩
  simp only at h1 h2 h3
  subst h1
  unfold FD
  refine Tot.iteT (by simp only [Jlt,decide_eq_true_eq];omega) (Tot.bindC (Fl (by omega)) ?_)
  rw [h2.modes]
  refine Tot.bind (Jff (hx _ (List.getElem_mem _)) hlo hhi) ?_
  rintro r ⟨hr1,hr2,-⟩
  refine Tot.bindC (KO (by simp;omega)) ?_
  have hall:∀ q∈t.Rules++[r],Oi q/\q.Cells.length<=4:=by
   intro q hq
   simp only [List.mem_append,List.mem_singleton] at hq
   rcases hq with hq|rfl
   ·exact h2.rules q hq
   ·exact ⟨hr1,by omega⟩
  refine Tot.bindE (JdH (Jat (t:=⟨b.Modes,t.Accept,t.Rules++[r]⟩) (by simp;omega) hall)) ?_
  refine Tot.ite (λ _=>?_) λ hv=>?_
  ·have e:Dw .i64 ((List.length (t.Rules++[r]):Nat):Int) 1=(t.Rules.length:Nat):=by
    rw [I6 (by simp<;>omega) (by simp<;>omega)];simp
   rw [e]
   refine Tot.bindC (Pj (by simp)) ?_
   unfold G0
   rw [List.take_left' rfl]
   exact Tot.pure ⟨Ib (by omega),⟨rfl,h2.accept,h2.rules,by have:=h2.valid;have hm:=h2.modes;cases t;simp only at hm this ⊢;subst hm;exact this⟩,by simp only;omega⟩
  ·unfold G0
   exact Tot.pure ⟨Ib (by omega),⟨rfl,h2.accept,hall,.inr (by simpa using hv)⟩,by simp;omega⟩
 ·rintro ⟨t,i'⟩ ⟨h1,h2,h3⟩
  simp only at h1 h2 h3
  subst h1
  unfold FD
  exact Tot.iteF (by rw [← Bool.not_eq_true];simp only [Jlt,decide_eq_true_eq];omega) (Tot.pure ⟨h2,by show t.Rules.length<=10;omega⟩)
theorem Jau {x:M9} (hx:Pk x):∃ t,(KQ t/\1<=t.Rules.length/\t.Rules.length<=10)/\Ev (λ n=>JF n x) t:=by
 have hb:∀ n,JE n x.Base=some (Xi (By x.Base 8)):=λ n=>(VH n x.Base hx.1).1
 have hok:=Jfd (VH 0 x.Base hx.1).2.1 (VH 0 x.Base hx.1).2.2
 generalize Xi (By x.Base 8)=b at *
 unfold VJ at hok
 simp only [Jlt,decide_eq_true_eq,List.all_eq_true] at hok
 obtain ⟨⟨⟨⟨o1,o2⟩,o3⟩,o4⟩,o5⟩:=hok
 have gb:∀ r∈b.Rules,Oi r/\r.Cells.length<=4:=λ r hr=>⟨Yt (o2 r hr),(Id (HL o5 r hr)).2.2⟩
 have hne:∀ t:Ad,Fm t=true->1<=t.Rules.length:=λ t h=>by
  unfold Fm Yr at h
  simp only [Jlt,Bool.not_eq_true',Bool.or_eq_false_iff,decide_eq_false_iff_not] at h
  omega
 have:Tot (λ n=>JF n x) (λ t=>KQ t/\1<=t.Rules.length/\t.Rules.length<=10):=by
  unfold JF
  refine Tot.bindA hb (Tot.bind (JdK x b o1) ?_)
  rintro t1 ⟨a1,a2,a3⟩
  refine Tot.bind (JdL x hx.2 b t1 o3 o4 ⟨a1,a2,λ r hr=>gb r (a3.subset hr),?_⟩ (by have:=a3.length_le;omega)) ?_
  ·rcases Nat.eq_zero_or_pos t1.Rules.length with h|h
   ·exact .inl (List.length_eq_zero_iff.1 h)
   ·right
    have:=Ys o5 a3 h
    cases t1
    simp only at a1 a2 this ⊢
    subst a1 a2
    exact this
  rintro t2 ⟨b1,b2⟩
  refine Tot.ite (λ h=>?_) λ h=>?_
  ·unfold G1
   have e:(⟨t2.Modes,t2.Accept,b.Rules⟩:Ad)=b:=by rw [b1.modes,b1.accept]
   rw [e]
   exact Tot.pure ⟨⟨⟨by omega,λ r hr=>(gb r hr).1⟩,o3,o4,o5⟩,hne b o5,by omega⟩
  ·unfold G1
   have hv:Fm t2=true:=b1.valid.resolve_left λ e=>by rw [e] at h;cases h
   exact Tot.pure ⟨⟨⟨by omega,λ r hr=>(b1.rules r hr).1⟩,by rw [b1.modes];exact o3,by rw [b1.modes];exact o4,hv⟩,hne t2 hv,b2⟩
 obtain ⟨t,ht,hE⟩:=this
 exact ⟨t,ht,hE⟩
end Go.AI
end
section
namespace Go.AI
def Ek (t:Ad) (k:Int):Ax:=t.Rules[k.toNat]?.getD default
theorem DR {t:Ad} {s:Ab} {k:Int} (h:(AH t s k).2=true):0<=k/\k<t.Rules.length:=by
 unfold AH at h
 split at h
 ·cases h
 ·rename_i hk
  simp only [JlM,decide_eq_true_eq,not_or] at hk
  omega
theorem S5 {t:Ad} {k:Int} (h:0<=k) (h':k<t.Rules.length):idx t.Rules k=some (Ek t k):=S1 h h'
theorem Ie {t:Ad} {k:Int} (h:0<=k) (h':k<t.Rules.length):Ek t k∈t.Rules:=by
 unfold Ek
 rw [Jls (by omega)]
 exact List.getElem_mem _
end Go.AI
end
section
namespace Go.AI
theorem Jfg {st:List Ab} (hn:st.Nodup) {i j:Nat} {s:Ab} (h:st[i]? = some s) (h':st[j]? = some s):i=j:=by
 have a:=C4 hn h
 rw [C4 hn h'] at a
 cases a;rfl
theorem CN {i:Nat} (h:i<9223372036854775807):AE .i64 (i:Int) 1=((i+1:Nat):Int):=by
 rw [Qe (by omega) (by omega)];rfl
theorem Du {st:List Ab} {s:Ab} (h:s∈st):∃ i:Nat,Eh st s=i/\st[i]? = some s:=by
 unfold Eh
 cases hf:st.findIdx? (λ x=>decide (x=s)) with
 | none=>
  rw [List.findIdx?_eq_none_iff] at hf
  have:=hf s h
  simp at this
 | some i=>
  rw [List.findIdx?_eq_some_iff_getElem] at hf
  obtain ⟨hi,h1,_⟩:=hf
  refine ⟨i,rfl,?_⟩
  rw [Jls hi]
  simpa using h1
theorem Yu {st:List Ab} {s:Ab} (h:s ∉ st):Eh st s=-1:=by
 unfold Eh
 rw [HK h]
theorem S6 {st:List Ab} {s:Ab}:Eh st s<0↔s ∉ st:=by
 constructor
 ·intro h hm
  obtain ⟨i,e,_⟩:=Du hm
  omega
 ·intro h
  rw [Yu h];omega
theorem Xj {t:Ad} (ht:Hs t) {st:List Ab} (hF:Gq t st) {i:Nat} {s:Ab} (hi:st[i]? = some s):Tot (λ n=>whl (λ (x:((List Ab)×Int))=>DV n t (i:Int) x.1 x.2) n (st,0)) (λ r=>r=JW t s t.Rules.length st):=by
 have hr:=ht.1
 refine Tot.upto (body:=λ n x=>DV n t (i:Int) x.1 x.2) t.Rules.length (λ k x=>x.2=(k:Int)/\x.1=JW t s k st) ?_ ?_ _ ⟨rfl,rfl⟩
 ·rintro k ⟨l,k'⟩ hk ⟨e1,e2⟩
  simp only at e1 e2
  subst e1 e2
  have hFk:=hF.exp ht hi k (by omega)
  have hik:=Pi (Hd t s st k) hi
  have hlen:=hFk.len
  unfold DV
  refine Tot.iteT (by simpa using hk) (Tot.bindC (Ei hik) (Tot.bindA (λ n=>Xb ht.short n s k) (Tot.guard (R:=λ z=>z=Eh (JW t s k st) (AH t s k).1) (λ _=>(Xd (by dsimp only;omega)).tot rfl) (λ z hz=>?_))))
  have hJ:∀ l',l'=JW t s (k+1) st->Tot (λ n=>ES n (k:Int) l') (Rd2 (λ x:List Ab×Int=>x.2=((k+1:Nat):Int)/\x.1=JW t s (k+1) st) (λ r=>r=JW t s t.Rules.length st)):=by
   intro l' hl'
   unfold ES
   exact Tot.pure ⟨CN (by omega),hl'⟩
  have hx:JW t s (k+1) st=KM t s (JW t s k st) k:=JX t s k st
  refine Tot.ite (λ hc=>?_) (λ hc=>?_)
  ·simp only [Jlt,decide_eq_true_eq] at hc
   refine Tot.bindC (KO (by simp;omega)) (hJ _ ?_)
   rw [hx]
   unfold KM
   rw [if_pos ⟨hc.1,S6.1 (by rw [← hz hc.1];exact hc.2)⟩]
  ·refine hJ _ ?_
   rw [hx]
   unfold KM
   rw [if_neg]
   rintro ⟨h1,h2⟩
   rw [h1,hz h1,decide_eq_true (S6.2 h2)] at hc
   cases hc
 ·rintro ⟨l,k'⟩ ⟨e1,e2⟩
  simp only at e1 e2
  subst e1 e2
  unfold DV
  exact Tot.iteF (by simp) (Tot.pure rfl)
theorem Jjd (t:Ad):Gq t [BK]:=⟨by simp,λ s hs=>by simp at hs;subst hs;exact ⟨by decide,by decide,by decide,by decide,by decide,by decide⟩,rfl,λ j s hj h0=>by cases j with|zero=>omega|succ j=>simp at hj⟩
theorem Xk {t:Ad} (ht:Hs t):Ev (λ n=>Kg n t) (Aa t):=by
 have loop:Tot (λ n=>whl (λ (x:((List Ab)×Int))=>ET n t x.1 x.2) n ([BK],0)) (λ r=>r=Aa t):=by
  refine Tot.whl (body:=λ n x=>ET n t x.1 x.2) (λ k x=>∃ i:Nat,i<=x.1.length/\k=800-i/\S2 t (800-i) i x.1=Aa t/\x.2=(i:Int)/\Gq t x.1) ?_ 800 _ ⟨0,by simp,by omega,rfl,rfl,Jjd t⟩
  rintro k ⟨st,i'⟩ ⟨i,hil,rfl,hb,hi',hF⟩
  simp only at hil hb hi' hF
  subst hi'
  have hlen:=hF.len
  unfold ET
  refine Tot.ite (λ hc=>?_) (λ hc=>?_)
  ·have hlt:i<st.length:=by simpa using hc
   have hi:st[i]? = some st[i]:=Jls hlt
   have hexp:=hF.exp ht hi _ (Nat.le_refl _)
   refine Tot.bind (Xj ht hF hi) ?_
   rintro _ rfl
   refine Tot.pure ⟨800-(i+1),by omega,i+1,?_,rfl,?_,?_,hexp⟩
   ·have:=(Hd t st[i] st t.Rules.length).length_le
    dsimp only
    omega
   ·dsimp only
    rw [← hb]
    have e:800-i=(800-(i+1))+1:=by omega
    rw [e]
    simp only [S2,hi]
   ·exact CN (by omega)
  ·have hge:st.length<=i:=by simpa using hc
   have e:i=st.length:=by omega
   subst e
   refine Tot.pure ?_
   show st=Aa t
   rw [← hb]
   have e:800-st.length=(800-(st.length+1))+1:=by omega
   rw [e]
   simp [S2]
 refine Tot.ev ?_
 unfold Kg
 exact Tot.bindA (y:=BK) (λ n=>rfl) (Tot.bind loop λ _ h=>Tot.pure h)
end Go.AI
end
section
namespace Go.AI
def Edge (t:Ad) (st:List Ab) (i:Nat) (k:Nat) (j:Nat):Prop:=∃ s s',st[i]? = some s/\k<t.Rules.length/\st[j]? = some s'/\AH t s (k:Nat)=(s',true)
inductive Xl (t:Ad) (st:List Ab):Nat->Prop
 | acc (i:Nat) (s:Ab) (h:st[i]? = some s) (ha:Bx t s=true):Xl t st i
 | step (i k j:Nat) (h:Edge t st i k j) (hj:Xl t st j):Xl t st i
def S7 (t:Ad) (st:List Ab) (l:List Bool):Prop:=l.length=st.length/\∀ i:Nat,l[i]? = some true↔Xl t st i
theorem Xl.lt {t:Ad} {st:List Ab} {i:Nat} (h:Xl t st i):i<st.length:=by
 cases h with
 | acc _ s h ha=>exact Ar h
 | step _ k j h hj=>obtain ⟨s,s',h,_⟩:=h;exact Ar h
theorem S7.uniq {t:Ad} {st:List Ab} {l m:List Bool} (h:S7 t st l) (h':S7 t st m):l=m:=by
 refine List.ext_getElem? λ i=>?_
 rcases Nat.lt_or_ge i st.length with hi|hi
 ·have h1:i<l.length:=by rw [h.1];exact hi
  have h2:i<m.length:=by rw [h'.1];exact hi
  have e:=(h.2 i).trans (h'.2 i).symm
  rw [Jls h1,Jls h2] at e ⊢
  cases ha:l[i]<;>cases hb:m[i]<;>simp_all
 ·rw [List.getElem?_eq_none_iff.2 (by rw [h.1];exact hi),List.getElem?_eq_none_iff.2 (by rw [h'.1];exact hi)]
theorem S7.of {t:Ad} {st:List Ab} {l:List Bool} (hl:l.length=st.length) (hs:∀ i,l[i]? = some true->Xl t st i) (ha:∀ (i:Nat) s,st[i]? = some s->Bx t s=true->l[i]? = some true) (hc:∀ i k j,Edge t st i k j->l[j]? = some true->l[i]? = some true):S7 t st l:=by
 refine ⟨hl,λ i=>⟨hs i,λ h=>?_⟩⟩
 induction h with
 | acc i s h h'=>exact ha i s h h'
 | step i k j h _ ih=>exact hc i k j h ih
def Jfh (l:List Bool):Nat:=l.count false
structure JdM (t:Ad) (st:List Ab) (out0 out:List Bool) (g:Bool) (i m:Nat):Prop where
 len:out.length=st.length
 snd:∀ j:Nat,out[j]? = some true->Xl t st j
 acc:∀ (j:Nat) s,st[j]? = some s->Bx t s=true->out[j]? = some true
 same:g=false->out=out0
 less:g=true->Jfh out<Jfh out0
 cl:g=false->∀ i' k j,(i'<i\/(i'=i/\k<m))->Edge t st i' k j->out[j]? = some true->out[i']? = some true
theorem JdM.stop {t:Ad} {st:List Ab} {out0 out:List Bool} {g:Bool} {i m:Nat} (h:JdM t st out0 out g i m) (hm:t.Rules.length<=m\/out[i]? = some true):JdM t st out0 out g (i+1) 0:=by
 refine ⟨h.len,h.snd,h.acc,h.same,h.less,λ hg i' k j hi he hj=>?_⟩
 rcases Nat.lt_or_ge i' i with hlt|hge
 ·exact h.cl hg i' k j (.inl hlt) he hj
 ·have:i'=i:=by omega
  subst this
  rcases hm with hm|hm
  ·obtain ⟨s,s',_,hk,_⟩:=id he
   exact h.cl hg i' k j (.inr ⟨rfl,by omega⟩) he hj
  ·exact hm
end Go.AI
end
section
namespace Go.AI
def JfW (t:Ad) (st:List Ab) (near:List Bool) (out:List Int) (D:Nat):Prop:=
 ∃ rk:Nat->Nat,∀ j:Nat,near[j]? = some true->rk j<=D/\((∃ s,st[j]? = some s/\Bx t s=true)\/∃ k j':Nat,out[j]? = some (k:Int)/\Edge t st j k j'/\near[j']? = some true/\rk j'<rk j)
structure Xm (t:Ad) (st:List Ab) (near ring:List Bool) (out:List Int) (D:Nat) (g:Bool) (i m:Nat):Prop where
 len:ring.length=st.length
 oln:out.length=st.length
 sub:∀ j:Nat,near[j]? = some true->ring[j]? = some true
 new:∀ j:Nat,ring[j]? = some true->near[j]? = some true\/∃ k j':Nat,out[j]? = some (k:Int)/\Edge t st j k j'/\near[j']? = some true
 hom:JfW t st near out D
 same:g=false->ring=near
 less:g=true->Jfh ring<Jfh near
 cl:g=false->∀ i' k j,(i'<i\/(i'=i/\k<m))->Edge t st i' k j->near[j]? = some true->ring[i']? = some true
theorem Xm.stop {t:Ad} {st:List Ab} {near ring:List Bool} {out:List Int} {D:Nat} {g:Bool} {i m:Nat} (h:Xm t st near ring out D g i m) (hm:t.Rules.length<=m\/ring[i]? = some true):Xm t st near ring out D g (i+1) 0:=by
 refine ⟨h.len,h.oln,h.sub,h.new,h.hom,h.same,h.less,λ hg i' k j hi he hj=>?_⟩
 rcases Nat.lt_or_ge i' i with hlt|hge
 ·exact h.cl hg i' k j (.inl hlt) he hj
 ·have:i'=i:=by omega
  subst this
  rcases hm with hm|hm
  ·obtain ⟨s,s',_,hk,_⟩:=id he
   exact h.cl hg i' k j (.inr ⟨rfl,by omega⟩) he hj
  ·exact hm
theorem Xm.ring {t:Ad} {st:List Ab} {near ring:List Bool} {out:List Int} {D:Nat} {g:Bool} {i m:Nat} (h:Xm t st near ring out D g i m):JfW t st ring out (D+1):=by
 obtain ⟨rk,hrk⟩:=h.hom
 refine ⟨λ j=>if near[j]? = some true then rk j else D+1,λ j hj=>?_⟩
 by_cases hn:near[j]? = some true
 ·simp only [hn,if_true]
  obtain ⟨h1,h2⟩:=hrk j hn
  refine ⟨by omega,h2.imp id ?_⟩
  rintro ⟨k,j',a,b,c,d⟩
  exact ⟨k,j',a,b,h.sub j' c,by rw [if_pos c];exact d⟩
 ·simp only [if_neg hn]
  refine ⟨by omega,?_⟩
  rcases h.new j hj with hh|⟨k,j',a,b,c⟩
  ·exact absurd hh hn
  ·exact .inr ⟨k,j',a,b,h.sub j' c,by rw [if_pos c];have:=(hrk j' c).1;omega⟩
end Go.AI
end
section
namespace Go.AI
def Iy (t:Ad) (s:Ab):List Int->Ab->Prop
 | [],s'=>s=s'
 | k::p,s'=>(AH t s k).2=true/\Iy t (AH t s k).1 p s'
theorem Iy.snoc {t:Ad}:∀ {p:List Int} {s s':Ab} {k:Int},Iy t s p s'->(AH t s' k).2=true->Iy t s (p++[k]) (AH t s' k).1
 | [],s,s',k,h,h'=>by
  unfold Iy at h
  subst h
  exact ⟨h',rfl⟩
 | a::p,s,s',k,h,h'=>⟨h.1,Iy.snoc h.2 h'⟩
theorem Iy.mem {t:Ad}:∀ {p:List Int} {s s':Ab},Iy t s p s'->∀ k∈p,0<=k/\k<t.Rules.length
 | [],_,_,_,k,hk=>by cases hk
 | a::p,s,s',h,k,hk=>by
  rcases List.mem_cons.1 hk with rfl|hk
  ·exact DR h.1
  ·exact Iy.mem h.2 k hk
def El (t:Ad) (p:List Int):List UInt8:=p.flatMap λ k=>(Ek t k).Print
def cellsOf (t:Ad) (p:List Int):List Int:=p.flatMap λ k=>(Ek t k).Cells
end Go.AI
end
section
namespace Go.AI
def Way (t:Ad) (q:Ab) (x:List UInt8) (p:List Int):Prop:=(∃ q',Iy t q p q'/\Bx t q'=true)/\El t p=x
def Fn (t:Ad) (p:List Int):Nat:=(cellsOf t p).length
def Mv (t:Ad) (q:Ab) (x:List UInt8) (v:Int):Prop:=(v=-1/\∀ p,¬Way t q x p)\/∃ p,Way t q x p/\v=(Fn t p:Nat)/\∀ p',Way t q x p'->Fn t p<=Fn t p'
theorem Za (t:Ad) (q:Ab) (x:List UInt8):∃ v,Mv t q x v:=by
 by_cases h:∃ p,Way t q x p
 ·obtain ⟨p,hp⟩:=h
  have key:∀ (n:Nat) (p:List Int),Fn t p=n->Way t q x p->∃ v,Mv t q x v:=by
   intro n
   induction n using Nat.strongRecOn with
   | _ n ih=>
    intro p hn hp
    by_cases hm:∃ p',Way t q x p'/\Fn t p'<n
    ·obtain ⟨p',h1,h2⟩:=hm
     exact ih _ h2 p' rfl h1
    ·exact ⟨(Fn t p:Nat),.inr ⟨p,hp,rfl,λ p' hp'=>Nat.le_of_not_lt λ hlt=>hm ⟨p',hp',by omega⟩⟩⟩
  exact key _ p rfl hp
 ·exact ⟨-1,.inl ⟨rfl,λ p hp=>h ⟨p,hp⟩⟩⟩
theorem Mv.uniq {t:Ad} {q:Ab} {x:List UInt8} {v w:Int} (h:Mv t q x v) (h':Mv t q x w):v=w:=by
 rcases h with ⟨h1,h2⟩|⟨p,h1,h2,h3⟩
 ·rcases h' with ⟨g1,g2⟩|⟨p',g1,g2,g3⟩
  ·omega
  ·exact absurd g1 (h2 p')
 ·rcases h' with ⟨g1,g2⟩|⟨p',g1,g2,g3⟩
  ·exact absurd h1 (g2 p)
  ·have:=h3 p' g1
   have:=g3 p h1
   omega
noncomputable def AP (t:Ad) (q:Ab) (x:List UInt8):Int:=Classical.choose (Za t q x)
theorem Pm (t:Ad) (q:Ab) (x:List UInt8):Mv t q x (AP t q x):=Classical.choose_spec (Za t q x)
theorem JdN {t:Ad} {q:Ab} {x:List UInt8} {v:Int} (h:Mv t q x v):AP t q x=v:=(Pm t q x).uniq h
theorem Mw {t:Ad} {q:Ab} {x:List UInt8} {p:List Int} (h:Way t q x p):0<=AP t q x/\AP t q x<=(Fn t p:Nat):=by
 rcases Pm t q x with ⟨h1,h2⟩|⟨p',h1,h2,h3⟩
 ·exact absurd h (h2 p)
 ·have:=h3 p h
  omega
theorem GG {t:Ad} {q:Ab} {x:List UInt8} (h:0<=AP t q x):∃ p,Way t q x p/\AP t q x=(Fn t p:Nat):=by
 rcases Pm t q x with ⟨h1,h2⟩|⟨p',h1,h2,h3⟩
 ·omega
 ·exact ⟨p',h1,h2⟩
theorem Xn (t:Ad) (q:Ab) (x:List UInt8):-1<=AP t q x:=by
 rcases Pm t q x with h1|⟨p',h1,h2,h3⟩<;>omega
abbrev prt (t:Ad) (k:Int):List UInt8:=(Ek t k).Print
abbrev cls (t:Ad) (k:Int):List Int:=(Ek t k).Cells
theorem I8 (t:Ad) (k:Int) (p:List Int):El t (k::p)=prt t k++El t p:=by simp [El]
theorem FK (t:Ad) (k:Int) (p:List Int):Fn t (k::p)=(cls t k).length+Fn t p:=by simp [Fn,cellsOf]
theorem Way.cons {t:Ad} {q:Ab} {x:List UInt8} {p:List Int} {k:Int} (hk:(AH t q k).2=true) (h:Way t (AH t q k).1 x p):Way t q (prt t k++x) (k::p):=by
 obtain ⟨⟨q',h1,h2⟩,h3⟩:=h
 exact ⟨⟨q',⟨hk,h1⟩,h2⟩,by rw [I8,h3]⟩
theorem Way.uncons {t:Ad} {q:Ab} {x:List UInt8} {p:List Int} {k:Int} (h:Way t q x (k::p)):(AH t q k).2=true/\∃ y,x=prt t k++y/\Way t (AH t q k).1 y p:=by
 obtain ⟨⟨q',h1,h2⟩,h3⟩:=h
 exact ⟨h1.1,El t p,by rw [← h3,I8],⟨q',h1.2,h2⟩,rfl⟩
theorem Way.nil {t:Ad} {q:Ab} {x:List UInt8} (h:Way t q x []):x=[]/\Bx t q=true:=by
 obtain ⟨⟨q',h1,h2⟩,h3⟩:=h
 unfold Iy at h1
 subst h1
 exact ⟨h3.symm,h2⟩
noncomputable def Ok (t:Ad) (q:Ab) (x:List UInt8) (k:Int):Int:=
 if (AH t q k).2=true/\prt t k <+: x/\0<=AP t (AH t q k).1 (x.drop (prt t k).length) then AP t (AH t q k).1 (x.drop (prt t k).length)+(cls t k).length else -1
theorem JdO {t:Ad} {S:Ab->Prop} {x:List UInt8} {f:Ab->Int}
  (ach:∀ q,S q->f q=-1\/∃ p,Way t q x p/\f q=(Fn t p:Nat))
  (acc:∀ q,S q->x=[]->Bx t q=true->f q=0)
  (rel:∀ q k,S q->(AH t q k).2=true->prt t k≠[]->∀ y,x=prt t k++y->0<=AP t (AH t q k).1 y->0<=f q/\f q<=AP t (AH t q k).1 y+(cls t k).length)
  (sil:∀ q k,S q->(AH t q k).2=true->prt t k=[]->S (AH t q k).1/\(0<=f (AH t q k).1->0<=f q/\f q<=f (AH t q k).1+(cls t k).length)) :
  ∀ q,S q->Mv t q x (f q):=by
 have low:∀ (p:List Int) (q:Ab),S q->Way t q x p->0<=f q/\f q<=(Fn t p:Nat):=by
  intro p
  induction p with
  | nil=>
   intro q hq h
   obtain ⟨h1,h2⟩:=h.nil
   rw [acc q hq h1 h2]
   omega
  | cons k p ih=>
   intro q hq h
   obtain ⟨h1,y,h2,h3⟩:=h.uncons
   rw [FK]
   by_cases he:prt t k=[]
   ·obtain ⟨g1,g2⟩:=sil q k hq h1 he
    rw [he,List.nil_append] at h2
    subst h2
    have h4:=ih _ g1 h3
    have:=g2 h4.1
    omega
   ·have h4:=Mw h3
    have:=rel q k hq h1 he y h2 h4.1
    omega
 intro q hq
 rcases ach q hq with h|⟨p,h1,h2⟩
 ·exact .inl ⟨h,λ p hp=>by have:=low p q hq hp;omega⟩
 ·exact .inr ⟨p,h1,h2,λ p' hp'=>by have:=low p' q hq hp';omega⟩
inductive If (t:Ad):Ab->List UInt8->List Int->Prop
 | nil {q:Ab} {x:List UInt8} (h:AP t q x<=0):If t q x []
 | cons {q:Ab} {x:List UInt8} {k:Nat} {p:List Int} (h:0<AP t q x) (hk:Ok t q x k=AP t q x) (hm:∀ j:Nat,j<k->Ok t q x j≠AP t q x) (hp:If t (AH t q k).1 (x.drop (prt t k).length) p):If t q x (k::p)
theorem If.uniq {t:Ad} {q:Ab} {x:List UInt8} {p p':List Int} (h:If t q x p) (h':If t q x p'):p=p':=by
 induction h generalizing p' with
 | nil h=>
  cases h' with
  | nil=>rfl
  | cons g=>omega
 | cons h hk hm _ ih=>
  cases h' with
  | nil g=>omega
  | cons g gk gm gp=>
   rename_i k _ _ k' _
   have:k=k':=by
    rcases Nat.lt_trichotomy k k' with hlt|he|hgt
    ·exact absurd hk (gm _ hlt)
    ·exact he
    ·exact absurd gk (hm _ hgt)
   subst this
   rw [ih gp]
theorem Ur {t:Ad} {q:Ab} {x:List UInt8} {k:Int} (h:0<=Ok t q x k):(AH t q k).2=true/\(∃ y,x=prt t k++y/\x.drop (prt t k).length=y)/\0<=AP t (AH t q k).1 (x.drop (prt t k).length)/\Ok t q x k=AP t (AH t q k).1 (x.drop (prt t k).length)+(cls t k).length:=by
 unfold Ok at h ⊢
 split at h
 ·rename_i hc
  rw [if_pos hc]
  obtain ⟨y,hy⟩:=hc.2.1
  exact ⟨hc.1,⟨y,hy.symm,by rw [← hy,List.drop_left]⟩,hc.2.2,rfl⟩
 ·omega
theorem Jav {t:Ad} (hc:∀ r∈t.Rules,1<=r.Cells.length) {q:Ab} {x:List UInt8} (h:AP t q x=0):Way t q x []:=by
 obtain ⟨p,hp,he⟩:=GG (t:=t) (q:=q) (x:=x) (by omega)
 cases p with
 | nil=>exact hp
 | cons k p=>
  obtain ⟨h1,_⟩:=hp.uncons
  have hk:=DR h1
  have:=hc _ (Ie hk.1 hk.2)
  rw [FK] at he
  simp only [cls] at he
  omega
theorem If.way {t:Ad} (hc:∀ r∈t.Rules,1<=r.Cells.length) {q:Ab} {x:List UInt8} {p:List Int} (h:If t q x p) (h0:0<=AP t q x):Way t q x p/\AP t q x=(Fn t p:Nat):=by
 induction h with
 | nil h=>exact ⟨Jav hc (by omega),by simp [Fn,cellsOf];omega⟩
 | cons h hk hm _ ih=>
  obtain ⟨h1,⟨y,h2,h3⟩,h4,h5⟩:=Ur (by rw [hk];omega)
  obtain ⟨i1,i2⟩:=ih h4
  rw [h3] at i1 i2 h5
  refine ⟨by rw [h2];exact i1.cons h1,?_⟩
  rw [FK]
  omega
end Go.AI
end
section
namespace Go.AI
def Xo (l:List Int):Nat:=l.countP λ v=>decide (0<=v)
def phi (B:Nat) (l:List Int):Nat:=(l.map λ v=>if v<0 then B else v.toNat).sum
theorem Jfi {B:Nat} {l:List Int} {j:Nat} {v c:Int} (h:l[j]? = some v) (hc:0<=c) (hlt:c<if v<0 then (B:Int) else v):phi B (l.set j c)<phi B l:=by
 induction l generalizing j with
 | nil=>simp at h
 | cons a l ih=>
  cases j with
  | zero=>
   simp only [List.getElem?_cons_zero,JlD] at h
   subst h
   simp only [phi,List.set_cons_zero,List.map_cons,List.sum_cons]
   split at hlt
   ·rename_i h1;rw [if_pos h1,if_neg (by omega)];omega
   ·rename_i h1;rw [if_neg h1,if_neg (by omega)];omega
  | succ j=>
   simp only [List.getElem?_cons_succ] at h
   have:=ih h
   simp only [phi,List.set_cons_succ,List.map_cons,List.sum_cons] at this ⊢
   omega
theorem JdP {l:List Int} {j:Nat} {v c:Int} (h:l[j]? = some v) (hc:0<=c):Xo (l.set j c)=Xo l+(if v<0 then 1 else 0):=by
 induction l generalizing j with
 | nil=>simp at h
 | cons a l ih=>
  cases j with
  | zero=>
   simp only [List.getElem?_cons_zero,JlD] at h
   subst h
   simp only [Xo,List.set_cons_zero,List.countP_cons,decide_eq_true_eq]
   rw [if_pos hc]
   by_cases h0:a<0
   ·rw [if_pos h0,if_neg (by omega)]
   ·rw [if_neg h0,if_pos (by omega)]
  | succ j=>
   simp only [List.getElem?_cons_succ] at h
   have:=ih h
   simp only [Xo,List.set_cons_succ,List.countP_cons] at this ⊢
   omega
theorem Rl (l:List Int):Xo l<=l.length:=List.countP_le_length
structure Col (t:Ad) (x:List UInt8) (D:Nat) (qs:List Ab) (cur:List Int):Prop where
 len:cur.length=qs.length
 ach:∀ (j:Nat) q,qs[j]? = some q->∃ v,cur[j]? = some v/\(v=-1\/∃ p,Way t q x p/\v=(Fn t p:Nat))
 acc:∀ (j:Nat) q,qs[j]? = some q->x=[]->Bx t q=true->cur[j]? = some 0
 bnd:∀ (j:Nat) v,cur[j]? = some v->v<=((D+4*Xo cur:Nat):Int)
theorem Col.top {t:Ad} {x:List UInt8} {D:Nat} {qs:List Ab} {cur:List Int} (h:Col t x D qs cur) {j:Nat} {v:Int} (hv:cur[j]? = some v):-1<=v/\v<=((D+4*qs.length:Nat):Int):=by
 have h1:=h.bnd j v hv
 have h2:=Rl cur
 rw [h.len] at h2
 have hj:j<qs.length:=by rw [← h.len];exact Ar hv
 obtain ⟨w,hw,hd⟩:=h.ach j _ (Jls hj)
 rw [hv] at hw
 cases hw
 refine ⟨?_,by omega⟩
 rcases hd with rfl|⟨p,_,rfl⟩<;>omega
theorem Col.get {t:Ad} {x:List UInt8} {D:Nat} {qs:List Ab} {cur:List Int} (h:Col t x D qs cur) {j:Nat} (hj:j<qs.length):∃ v,cur[j]? = some v:=⟨_,Jls (by rw [h.len];exact hj)⟩
theorem Col.lower {t:Ad} {x:List UInt8} {D:Nat} {qs:List Ab} {cur:List Int} (h:Col t x D qs cur) {j:Nat} {q:Ab} {v c:Int} (hq:qs[j]? = some q) (hv:cur[j]? = some v)
  (hp:∃ p,Way t q x p/\c=(Fn t p:Nat)) (hlt:v<0\/c<v) (hb:c<=((D+4*Xo cur+4:Nat):Int)) {B:Nat} (hB:c<(B:Int)):Col t x D qs (cur.set j c)/\phi B (cur.set j c)<phi B cur:=by
 have hc:0<=c:=by obtain ⟨p,_,rfl⟩:=hp;omega
 have hjl:=Ar hv
 refine ⟨⟨by rw [JlK];exact h.len,λ i q' hi=>?_,λ i q' hi hx ha=>?_,λ i w hw=>?_⟩,Jfi hv hc (by split<;>omega)⟩
 ·by_cases e:j=i
  ·subst e
   rw [hq] at hi;cases hi
   exact ⟨c,JlE hjl,.inr hp⟩
  ·rw [JlJ e];exact h.ach i q' hi
 ·by_cases e:j=i
  ·subst e
   rw [h.acc j q' hi hx ha] at hv
   cases hv
   omega
  ·rw [JlJ e];exact h.acc i q' hi hx ha
 ·rw [JdP hv hc]
  by_cases e:j=i
  ·subst e
   rw [JlE hjl] at hw
   cases hw
   have:=h.bnd j v hv
   split<;>omega
  ·rw [JlJ e] at hw
   have:=h.bnd i w hw
   omega
structure JkN (t:Ad) (x:List UInt8) (qs:List Ab) (cur:List Int):Prop where
 rel:∀ (j:Nat) q (k:Nat),qs[j]? = some q->(AH t q k).2=true->prt t k≠[]->∀ y,x=prt t k++y->0<=AP t (AH t q k).1 y->∃ v,cur[j]? = some v/\0<=v/\v<=AP t (AH t q k).1 y+(cls t k).length
structure JkO (t:Ad) (qs:List Ab) (cur:List Int):Prop where
 sil:∀ (j:Nat) q (k:Nat),qs[j]? = some q->(AH t q k).2=true->prt t k=[]->∃ (i:Nat) (w:Int),qs[i]? = some (AH t q k).1/\cur[i]? = some w/\(0<=w->∃ v,cur[j]? = some v/\0<=v/\v<=w+(cls t k).length)
theorem Col.exact {t:Ad} {x:List UInt8} {D:Nat} {qs:List Ab} {cur:List Int} (h:Col t x D qs cur) (hn:qs.Nodup) (h1:JkN t x qs cur) (h2:JkO t qs cur) {j:Nat} {q:Ab} (hq:qs[j]? = some q):cur[j]? = some (AP t q x):=by
 let f:Ab->Int:=λ q=>cur.getD ((qs.findIdx? λ x=>decide (x=q)).getD 0) (-1)
 have hf:∀ (j:Nat) q v,qs[j]? = some q->cur[j]? = some v->f q=v:=by
  intro j q v hj hv
  show cur.getD ((qs.findIdx? λ x=>decide (x=q)).getD 0) (-1)=v
  rw [C4 hn hj,Option.getD_some,JlB,hv];rfl
 have key:=JdO (t:=t) (S:=λ q=>∃ j:Nat,qs[j]? = some q) (x:=x) (f:=f) ?_ ?_ ?_ ?_ q ⟨j,hq⟩
 ·obtain ⟨v,hv⟩:=h.get (Ar hq)
  rw [hf j q v hq hv] at key
  rw [hv,JdN key]
 ·rintro q ⟨j,hj⟩
  obtain ⟨v,hv,hd⟩:=h.ach j q hj
  rw [hf j q v hj hv];exact hd
 ·rintro q ⟨j,hj⟩ hx ha
  exact hf j q 0 hj (h.acc j q hj hx ha)
 ·rintro q k ⟨j,hj⟩ hs hp y hy hc
  obtain ⟨k,rfl⟩:∃ n:Nat,k=n:=⟨k.toNat,by have:=DR hs;omega⟩
  obtain ⟨v,hv,g1,g2⟩:=h1.rel j q k hj hs hp y hy hc
  rw [hf j q v hj hv];exact ⟨g1,g2⟩
 ·rintro q k ⟨j,hj⟩ hs hp
  obtain ⟨k,rfl⟩:∃ n:Nat,k=n:=⟨k.toNat,by have:=DR hs;omega⟩
  obtain ⟨i,w,hi,hw,hh⟩:=h2.sil j q k hj hs hp
  refine ⟨⟨i,hi⟩,?_⟩
  rw [hf i _ w hi hw]
  intro h0
  obtain ⟨v,hv,g1,g2⟩:=hh h0
  rw [hf j q v hj hv];exact ⟨g1,g2⟩
theorem Pn {t:Ad} {q:Ab} {k:Int} {y:List UInt8} {c:Int} (hs:(AH t q k).2=true) (h:∃ p,Way t (AH t q k).1 y p/\c=(Fn t p:Nat)):∃ p,Way t q (prt t k++y) p/\c+((cls t k).length:Nat)=(Fn t p:Nat):=by
 obtain ⟨p,hp,rfl⟩:=h
 exact ⟨k::p,hp.cons hs,by rw [FK];omega⟩
end Go.AI
end
section
namespace Go.AI
structure F8 (t:Ad):Prop where
 tab:Hs t
 cl:∀ r∈t.Rules,1<=r.Cells.length/\r.Cells.length<=4
theorem F8.one {t:Ad} (h:F8 t):∀ r∈t.Rules,1<=r.Cells.length:=λ r hr=>(h.cl r hr).1
theorem F8.pr {t:Ad} (h:F8 t) {k:Int} {q:Ab} (hk:(AH t q k).2=true):(prt t k).length<=3/\1<=(cls t k).length/\(cls t k).length<=4:=by
 have h1:=DR hk
 have hm:=Ie h1.1 h1.2
 exact ⟨(h.tab.2 _ hm).2.2.2.2,h.cl _ hm⟩
theorem S8 {α:Type} (l:List α) (i:Nat) (d:α):l.set i (l.getD i d)=l:=by
 apply List.ext_getElem?
 intro j
 rw [List.getElem?_set]
 split
 ·rename_i e;subst e
  split
  ·rename_i hl;rw [JlB,Jls hl];rfl
  ·rename_i hl;rw [JlO (by omega)]
 ·rfl
theorem Hf {α:Type} {l:List α} {i:Nat} (h:i<l.length) (y d:α):(l.set i y).getD i d=y:=by
 rw [JlB,JlE h];rfl
theorem I9 {α:Type} {l:List α} {i j:Nat} (h:i≠j) (y d:α):(l.set i y).getD j d=l.getD j d:=by
 rw [JlB,JlJ h,← JlB]
theorem Fp {α:Type} {l:List α} {i:Nat} (d:α) (h:i<l.length):idx l (i:Int)=some (l.getD i d):=by
 rw [Fl h,DH h]
theorem Jaw {s pr:List UInt8} {i:Nat} (hi:i<=s.length) (hs:s.length<1000000) (hp:pr.length<1000000) (n:Nat):Kh n s (i:Int) pr=some (pr.isPrefixOf (s.drop i)):=by
 unfold Kh
 have e:AE .i64 (i:Int) ((pr.length:Nat):Int)=((i+pr.length:Nat):Int):=by rw [EJ]<;>omega
 rw [e]
 by_cases h:i+pr.length<=s.length
 ·rw [if_pos (by simp;omega),Up (by omega) (by omega) (by omega),Option.bind_some]
  congr 1
  rw [Bool.eq_iff_iff,Jlt,beq_iff_eq,List.isPrefixOf_iff_prefix]
  have e2:(s.take ((i+pr.length:Nat):Int).toNat).drop (i:Int).toNat=(s.drop i).take pr.length:=by
   rw [JlC,JlC,List.drop_take];congr 1;omega
  rw [e2]
  constructor
  ·rintro ⟨_,h2⟩;rw [← h2];exact List.take_prefix _ _
  ·intro h2;exact ⟨by simp;omega,(List.prefix_iff_eq_take.1 h2).symm⟩
 ·rw [if_neg (by simp;omega),Option.bind_some]
  congr 1
  have:decide (((i+pr.length:Nat):Int)<=((s.length:Nat):Int))=false:=by simp;omega
  rw [this,Bool.false_and,eq_comm,← Bool.not_eq_true,List.isPrefixOf_iff_prefix]
  intro hp'
  have:=hp'.length_le
  rw [List.length_drop] at this
  omega
theorem Em {s pr:List UInt8} {i:Nat} (h:pr.isPrefixOf (s.drop i)=true):s.drop i=pr++s.drop (i+pr.length)/\(i<=s.length->i+pr.length<=s.length):=by
 rw [List.isPrefixOf_iff_prefix] at h
 obtain ⟨y,hy⟩:=h
 have:s.drop (i+pr.length)=y:=by rw [← List.drop_drop,← hy,List.drop_left]
 rw [this,hy]
 refine ⟨rfl,λ hi=>?_⟩
 have:=congrArg List.length hy
 rw [List.length_append,List.length_drop] at this
 omega
def KR (t:Ad) (s:List UInt8) (out:List (List Int)) (i:Nat) (q:Ab) (k:Nat):Int:=
 if (AH t q k).2=true/\(prt t k).isPrefixOf (s.drop i)=true then
  (if (out.getD (i+(prt t k).length) []).getD (Eh (Aa t) (AH t q k).1).toNat 0<0 then -1 else (out.getD (i+(prt t k).length) []).getD (Eh (Aa t) (AH t q k).1).toNat 0+(cls t k).length) else -1
structure NM (t:Ad) (s:List UInt8) (i:Nat) (row:List Int):Prop where
 len:row.length=(Aa t).length
 val:∀ (j:Nat) q,(Aa t)[j]? = some q->row[j]? = some (AP t q (s.drop i))
 bnd:∀ (j:Nat) v,row[j]? = some v->v<=((3072*(s.length-i+1):Nat):Int)
structure Suf (t:Ad) (s:List UInt8) (i:Nat) (out:List (List Int)):Prop where
 len:out.length=s.length+1
 rows:∀ i',i<i'->i'<=s.length->NM t s i' (out.getD i' [])
 col:Col t (s.drop i) (3072*(s.length-i)) (Aa t) (out.getD i [])
section
variable {t:Ad} (hT:F8 t) {s:List UInt8} (hs:s.length<=4000)
include hT
theorem GQ {q:Ab} (hq:q∈Aa t) {k:Nat} (hk:(AH t q k).2=true):(AH t q k).1∈Aa t:=by
 obtain ⟨j,hj,e⟩:=List.getElem_of_mem hq
 have h:=DR hk
 exact (HP hT.tab).2 (j+1) j q (by omega) (by rw [← e];exact Jls hj) k (by omega) hk
theorem HM:(Aa t).length<=768:=(HP hT.tab).1.len
theorem JdQ:(Aa t).Nodup:=(HP hT.tab).1.nodup
include hs
theorem Yv {i:Nat} (hi:i<=s.length) {out:List (List Int)} (hol:out.length=s.length+1) (hR:∀ i',i<=i'->i'<=s.length->(out.getD i' []).length=(Aa t).length/\∀ (j:Nat) v,(out.getD i' [])[j]? = some v->-1<=v/\v<=13000000) {q:Ab} (hq:q∈Aa t) {k:Nat} (hk:k<t.Rules.length):Ev (λ n=>JH n t ⟨s,i,q,Aa t⟩ k out) (KR t s out i q k):=by
 have hlen:=HM hT
 unfold JH KR
 refine Ev.bind (Ev.all λ n=>Xb hT.tab.short n q k) ?_
 cases hst:(AH t q k).2 with
 | false=>
  refine Ev.all λ n=>?_
  simp
 | true=>
  obtain ⟨p1,p2,p3⟩:=hT.pr hst
  have hr:=S5 (t:=t) (k:=(k:Int)) (by omega) (by omega)
  refine Ev.all (f:=λ n=>_) (λ n=>?_) |>.bind (x:=Ek t k) ?_
  ·simp [hr]
  refine Ev.bind (x:=(prt t k).isPrefixOf (s.drop i)) (Ev.all λ n=>?_) ?_
  ·rw [if_pos (by simp)]
   exact Jaw hi (by omega) (by simp only [prt] at p1;omega) n
  cases hb:(prt t k).isPrefixOf (s.drop i) with
  | false=>exact Ev.iteT (by simp) (by simp;exact Ev.const)
  | true=>
   obtain ⟨q1,q2⟩:=Em hb
   have q2:=q2 hi
   refine Ev.iteF (by simp) (Ev.bindC hr ?_)
   have e:AE .i64 (i:Int) ((List.length (Ek t k).Print:Nat):Int)=((i+(prt t k).length:Nat):Int):=by rw [EJ]<;>simp only [prt] at*<;> omega
   rw [show (({ S:=s,I:=(i:Int),State:=q,L:=Aa t }:Sr).I)=(i:Int) from rfl,e]
   refine Ev.bindC (Fp [] (by omega)) ?_
   have hmem:=GQ hT hq hst
   obtain ⟨m,hm,hmg⟩:=Du hmem
   refine Ev.bind (Xd (l:=Aa t) (s:=(AH t q k).1) (by omega)) ?_
   rw [hm]
   have hml:=Ar hmg
   obtain ⟨hrl,hrb⟩:=hR (i+(prt t k).length) (by omega) q2
   refine Ev.bindC (Fp 0 (by rw [hrl];exact hml)) ?_
   simp only [JlC,and_self,if_true]
   generalize hv:(out.getD (i+(prt t k).length) []).getD m 0=v
   have hvg:(out.getD (i+(prt t k).length) [])[m]? = some v:=by
    rw [← hv,JlB (l:=out.getD (i+(prt t k).length) []),Jls (by rw [hrl];exact hml)];rfl
   have hvb:=hrb m v hvg
   by_cases hneg:v<0
   ·rw [if_pos hneg]
    exact Ev.iteT (by simpa using hneg) Ev.const
   ·rw [if_neg hneg]
    refine Ev.iteF (by simpa using hneg) (Ev.bindC hr (Ev.all λ n=>?_))
    rw [EJ (by simp only [cls] at *;omega) (by simp only [cls] at *;omega)]
theorem S9 {i:Nat} {row:List Int} (h:NM t s i row):row.length=(Aa t).length/\∀ (j:Nat) v,row[j]? = some v->-1<=v/\v<=13000000:=by
 have _:=hT
 refine ⟨h.len,λ j v hv=>?_⟩
 have h1:=h.bnd j v hv
 have hj:j<(Aa t).length:=by rw [← h.len];exact Ar hv
 have h2:=h.val j _ (Jls hj)
 rw [hv] at h2
 have:=Xn t (Aa t)[j] (s.drop i)
 simp only [JlD] at h2
 omega
theorem JdR {i:Nat} (hi:i<=s.length) {out:List (List Int)} (ho:Suf t s i out) {q:Ab} (hq:q∈Aa t) {k:Nat} (hk:k<t.Rules.length):Ev (λ n=>JH n t ⟨s,i,q,Aa t⟩ k out) (KR t s out i q k):=by
 refine Yv hT hs hi ho.len (λ i' h1 h2=>?_) hq hk
 rcases Nat.eq_or_lt_of_le h1 with rfl|hlt
 ·refine ⟨ho.col.len,λ j v hv=>?_⟩
  have h1:=ho.col.top hv
  have:=HM hT
  omega
 ·exact S9 hT hs (ho.rows i' hlt h2)
omit hs in
theorem Jfj {i:Nat} (hi:i<=s.length) {out:List (List Int)} (ho:Suf t s i out) {q:Ab} (hq:q∈Aa t) {k:Nat} (h:0<=KR t s out i q k) :
  (∃ p,Way t q (s.drop i) p/\KR t s out i q k=(Fn t p:Nat))/\KR t s out i q k<=((3072*(s.length-i)+4*Xo (out.getD i [])+4:Nat):Int):=by
 unfold KR at h ⊢
 split at h
 ·rename_i hc
  rw [if_pos hc]
  obtain ⟨hst,hb⟩:=hc
  obtain ⟨p1,p2,p3⟩:=hT.pr hst
  obtain ⟨q1,q2⟩:=Em hb
  have q2:=q2 hi
  obtain ⟨m,hm,hmg⟩:=Du (GQ hT hq hst)
  rw [hm,JlC] at h ⊢
  split at h
  ·omega
  ·rename_i hneg
   rw [if_neg hneg]
   rcases Nat.eq_zero_or_pos (prt t k).length with h0|h0
   ·have hp0:prt t k=[]:=List.length_eq_zero_iff.1 h0
    rw [h0,Nat.add_zero] at h hneg ⊢
    obtain ⟨v,hv,hd⟩:=ho.col.ach m _ hmg
    have hvv:(out.getD i []).getD m 0=v:=by rw [JlB (l:=out.getD i []),hv];rfl
    rw [hvv] at h hneg ⊢
    have hbn:=ho.col.bnd m v hv
    refine ⟨?_,by omega⟩
    have:=Pn hst (hd.resolve_left (by omega))
    rw [hp0,List.nil_append] at this
    exact this
   ·have hR:=ho.rows _ (show i<i+(prt t k).length by omega) q2
    have hv:=hR.val m _ hmg
    have hvv:(out.getD (i+(prt t k).length) []).getD m 0=AP t (AH t q k).1 (s.drop (i+(prt t k).length)):=by
     rw [JlB (l:=out.getD (i+(prt t k).length) []),hv];rfl
    have hbn:=hR.bnd m _ hv
    rw [hvv] at h hneg ⊢
    refine ⟨?_,?_⟩
    ·have:=Pn hst (GG (x:=s.drop (i+(prt t k).length)) (by omega))
     rwa [← q1] at this
    ·have:3072*(s.length-(i+(prt t k).length)+1)<=3072*(s.length-i):=by omega
     omega
 ·omega
def Jje (t:Ad) (s:List UInt8) (i:Nat) (out:List (List Int)) (j k:Nat):Prop:=∀ q,(Aa t)[j]? = some q->0<=KR t s out i q k->∃ v,(out.getD i [])[j]? = some v/\0<=v/\v<=KR t s out i q k
omit hs in
theorem JdS {i:Nat} (hi:i<=s.length) {out:List (List Int)} (ho:Suf t s i out) (h:∀ j k,j<(Aa t).length->k<t.Rules.length->Jje t s i out j k):NM t s i (out.getD i []):=by
 have hx:∀ (j:Nat) q,(Aa t)[j]? = some q->(out.getD i [])[j]? = some (AP t q (s.drop i)):=by
  intro j q hq
  refine ho.col.exact (JdQ hT) ⟨λ j q k hj hst hp y hy hc=>?_⟩ ⟨λ j q k hj hst hp=>?_⟩ hq
  ·have hk:=DR hst
   have hb:(prt t k).isPrefixOf (s.drop i)=true:=by rw [List.isPrefixOf_iff_prefix,hy];exact List.prefix_append _ _
   obtain ⟨q1,q2⟩:=Em hb
   have q2:=q2 hi
   have hyy:s.drop (i+(prt t k).length)=y:=by rw [q1] at hy;exact List.append_cancel_left hy
   have hlp:0<(prt t k).length:=List.length_pos_iff.2 hp
   obtain ⟨m,hm,hmg⟩:=Du (GQ hT (Jlu hj) hst)
   have hv:=(ho.rows _ (show i<i+(prt t k).length by omega) q2).val m _ hmg
   have ha:KR t s out i q k=AP t (AH t q k).1 y+(cls t k).length:=by
    unfold KR
    rw [if_pos ⟨hst,hb⟩,hm,JlC,JlB (l:=out.getD (i+(prt t k).length) []),hv,Option.getD_some,hyy,if_neg (by omega)]
   have:=h j k (Ar hj) (by omega) q hj (by omega)
   rwa [ha] at this
  ·have hk:=DR hst
   obtain ⟨m,hm,hmg⟩:=Du (GQ hT (Jlu hj) hst)
   obtain ⟨w,hw,_⟩:=ho.col.ach m _ hmg
   refine ⟨m,w,hmg,hw,λ h0=>?_⟩
   have ha:KR t s out i q k=w+(cls t k).length:=by
    unfold KR
    rw [if_pos ⟨hst,by rw [hp];rfl⟩,hm,JlC,hp,List.length_nil,Nat.add_zero,JlB (l:=out.getD i []),hw,Option.getD_some,if_neg (by omega)]
   have:=h j k (Ar hj) (by omega) q hj (by omega)
   rwa [ha] at this
 refine ⟨ho.col.len,hx,λ j v hv=>?_⟩
 have h1:=(ho.col.top hv).2
 have:=HM hT
 omega
end
end Go.AI
end
section
namespace Go.AI
section
variable {t:Ad} (hT:F8 t) {s:List UInt8} (hs:s.length<=4000)
include hT
def Dd (t:Ad) (x:List UInt8) (q:Ab):Int:=if x=[]/\Bx t q=true then 0 else -1
omit hT in
theorem Us (t:Ad) (x:List UInt8) (D:Nat) (qs:List Ab):Col t x D qs (qs.map (Dd t x)):=by
 refine ⟨by simp,λ j q hj=>⟨Dd t x q,by simp [hj],?_⟩,λ j q hj hx ha=>by simp [hj,Dd,hx,ha],λ j v hv=>?_⟩
 ·unfold Dd
  split
  ·rename_i h;exact .inr ⟨[],⟨⟨q,rfl,h.2⟩,by rw [h.1];rfl⟩,by simp [Fn,cellsOf]⟩
  ·exact .inl rfl
 ·rw [Jlw,Jlv] at hv
  obtain ⟨q,_,rfl⟩:=hv
  unfold Dd
  split<;>omega
include hs
omit hT in
theorem Xp {i:Nat} (hi:i<=s.length):(((i:Nat):Int)==((s.length:Nat):Int))=decide (s.drop i=[]):=by
 have _:=hs
 rw [Bool.eq_iff_iff]
 simp only [beq_iff_eq,decide_eq_true_eq,List.drop_eq_nil_iff]
 omega
theorem Jfk {i:Nat} (hi:i<=s.length) (out0:List (List Int)) (hl:out0.length=s.length+1) (hr:(out0.getD i []).length=(Aa t).length) :
  Tot (λ n=>whl (λ (x:((List (List Int))×Int))=>CW n t s (Aa t) (i:Int) x.1 x.2) n (out0,0)) (λ out=>out=out0.set i ((Aa t).map (Dd t (s.drop i)))):=by
 have hlen:=HM hT
 refine Tot.upto (body:=λ n x=>CW n t s (Aa t) (i:Int) x.1 x.2) (Aa t).length (λ k x=>x.2=(k:Int)/\∃ row,x.1=out0.set i row/\row.length=(Aa t).length/\∀ (j:Nat) q,j<k->(Aa t)[j]? = some q->row[j]? = some (Dd t (s.drop i) q)) ?_ ?_ _ ⟨rfl,out0.getD i [],(S8 _ _ _).symm,hr,by omega⟩
 ·rintro k ⟨out,k'⟩ hk ⟨e1,row,e2,e3,e4⟩
  simp only at e1 e2
  subst e1 e2
  have hJ:∀ v,v=Dd t (s.drop i) (Aa t)[k]->∀ out',out'=out0.set i (row.set k v)->Tot (λ n=>DO n (k:Int) out') (Rd2 (λ x:List (List Int)×Int=>x.2=((k+1:Nat):Int)/\∃ row,x.1=out0.set i row/\row.length=(Aa t).length/\∀ (j:Nat) q,j<k+1->(Aa t)[j]? = some q->row[j]? = some (Dd t (s.drop i) q)) (λ out=>out=out0.set i ((Aa t).map (Dd t (s.drop i))))):=by
   intro v hv out' ho'
   unfold DO
   refine Tot.pure ⟨CN (by omega),_,ho',by rw [JlK];exact e3,λ j q hj hq=>?_⟩
   by_cases e:k=j
   ·subst e
    rw [JlE (by omega),hv]
    rw [Jls hk] at hq
    cases hq;rfl
   ·rw [JlJ e];exact e4 j q (by omega) hq
  unfold CW
  have hil:i<(out0.set i row).length:=by rw [JlK];omega
  have hg:(out0.set i row).getD i []=row:=Hf (by omega) _ _
  refine Tot.iteT (He hk) (Tot.bindC (Fp [] hil) ?_)
  rw [hg]
  refine Tot.bindC (Fp 0 (by omega)) (Tot.bindC (F6 (by omega)) ?_)
  rw [Xp hs hi,JlC,List.set_set]
  by_cases hd:s.drop i=[]
  ·refine Tot.gE (decide_eq_true hd) (Ev.all λ n=>Fl hk) (Tot.gE (decide_eq_true hd) (Ev.all λ n=>Xc n t _) (Tot.ite (λ h=>?_) λ h=>?_))
   ·have ha:Bx t (Aa t)[k]=true:=by simpa [hd] using h
    refine Tot.bindC (Fp [] (by rw [JlK];omega)) ?_
    rw [Hf (by omega)]
    refine Tot.bindC (Fp 0 (by rw [JlK];omega)) (Tot.bindC (F6 (by rw [JlK];omega)) (hJ 0 ?_ _ ?_))
    ·unfold Dd;rw [if_pos ⟨hd,ha⟩]
    ·rw [List.set_set,List.set_set]
   ·have ha:Bx t (Aa t)[k]=false:=by simpa [hd] using h
    refine hJ (-1) ?_ _ rfl
    unfold Dd;rw [if_neg (by rw [ha];simp)]
  ·refine Tot.gF (decide_eq_false hd) (Tot.gF (decide_eq_false hd) (Tot.iteF (by simp [hd]) (hJ (-1) ?_ _ rfl)))
   unfold Dd;rw [if_neg (λ h=>hd h.1)]
 ·rintro ⟨out,k'⟩ ⟨e1,row,e2,e3,e4⟩
  simp only at e1 e2
  subst e1 e2
  unfold CW
  refine Tot.iteF (by simp) (Tot.pure ?_)
  refine congrArg (out0.set i) (List.ext_getElem? λ j=>?_)
  rcases Nat.lt_or_ge j (Aa t).length with h|h
  ·rw [e4 j _ h (Jls h),Jlw,Jls h];rfl
  ·rw [JlO (by omega),JlO (by simpa using h)]
structure Po (t:Ad) (s:List UInt8) (i:Nat) (B:Nat) (out0 out:List (List Int)) (ch:Bool) (k r:Nat):Prop where
 suf:Suf t s i out
 same:ch=false->out=out0/\∀ j m,(j<k\/(j=k/\m<r))->m<t.Rules.length->Jje t s i out0 j m
 less:ch=true->phi B (out.getD i [])<phi B (out0.getD i [])
omit hT hs in
theorem JdT (n:Nat) (a c:Int) (hc:0<=c):MR n a c=some (if a<0\/c<a then c else a):=by
 unfold MR
 by_cases h:a<0\/c<a
 ·rw [if_pos h,if_pos (by simp only [JlM,Jlt,decide_eq_true_eq];omega)]
 ·rw [if_neg h,if_neg (by simp only [JlM,Jlt,decide_eq_true_eq];omega)]
theorem Jfl {i:Nat} (hi:i<=s.length) {B:Nat} (hB:13000000<=B) {out0 out1:List (List Int)} {ch1:Bool} {k:Nat} (hk:k<(Aa t).length) (h1:Po t s i B out0 out1 ch1 k 0) :
  Tot (λ n=>whl (λ (x:((List (List Int))×Bool×Int))=>CX n t s (Aa t) (i:Int) (k:Int) x.1 x.2.1 x.2.2) n (out1,ch1,0)) (λ y=>Po t s i B out0 y.1 y.2 k t.Rules.length):=by
 have hlen:=HM hT
 have hrl:=hT.tab.1
 refine Tot.upto (body:=λ n x=>CX n t s (Aa t) (i:Int) (k:Int) x.1 x.2.1 x.2.2) t.Rules.length (λ r x=>x.2.2=(r:Int)/\Po t s i B out0 x.1 x.2.1 k r) ?_ ?_ _ ⟨rfl,h1⟩
 ·rintro r ⟨out,ch,r'⟩ hr ⟨e1,hP⟩
  simp only at e1 hP
  subst e1
  have hq:(Aa t)[k]? = some (Aa t)[k]:=Jls hk
  have hqm:(Aa t)[k]∈Aa t:=List.getElem_mem hk
  have hA:=hP.suf
  have hJ:∀ out' ch',Po t s i B out0 out' ch' k (r+1)->Tot (λ n=>DP n (r:Int) out' ch') (Rd2 (λ x:List (List Int)×Bool×Int=>x.2.2=((r+1:Nat):Int)/\Po t s i B out0 x.1 x.2.1 k (r+1)) (λ y=>Po t s i B out0 y.1 y.2 k t.Rules.length)):=by
   intro out' ch' h
   unfold DP
   exact Tot.pure ⟨CN (by omega),h⟩
  have hskip:Jje t s i out k r->Po t s i B out0 out ch k (r+1):=by
   intro hrel
   refine ⟨hA,λ hc=>⟨(hP.same hc).1,λ j m hjm hm=>?_⟩,hP.less⟩
   by_cases e:j=k/\m=r
   ·obtain ⟨rfl,rfl⟩:=e
    rw [← (hP.same hc).1];exact hrel
   ·exact (hP.same hc).2 j m (by omega) hm
  unfold CX
  refine Tot.iteT (He hr) (Tot.bindC (Ei hq) (Tot.bindE (JdR hT hs hi hA hqm hr) ?_))
  have hil:i<out.length:=by rw [hA.len];omega
  rw [JlC]
  simp only [S8]
  have hcl:=hA.col.len
  obtain ⟨v,hv⟩:=hA.col.get hk
  have hvd:(out.getD i []).getD k 0=v:=by rw [JlB (l:=out.getD i []),hv];rfl
  by_cases hc:0<=KR t s out i (Aa t)[k] r
  ·obtain ⟨u1,u2⟩:=Jfj hT hi hA hqm hc
   have hgd:decide (KR t s out i (Aa t)[k] r>=0)=true:=by simpa using hc
   refine Tot.gE hgd (Ev.all λ n=>Fp [] hil) (Tot.gE hgd (Ev.all λ n=>Fp 0 (by omega)) ?_)
   rw [hvd]
   refine Tot.gE hgd (Ev.all λ n=>JdT n v _ hc) (Tot.gE hgd (Ev.all λ n=>Fp [] hil) (Tot.gE hgd (Ev.all λ n=>Fp 0 (by omega)) ?_))
   rw [hvd]
   by_cases hlt:v<0\/KR t s out i (Aa t)[k] r<v
   ·rw [if_pos hlt]
    refine Tot.iteT (by simp only [Jlt,bne_iff_ne,ne_eq];exact ⟨hgd,by omega⟩) ?_
    have hfin:=Rl (out.getD i [])
    obtain ⟨g1,g2⟩:=hA.col.lower hq hv u1 (hlt.imp id id) u2 (B:=B) (by omega)
    refine Tot.bindC (Fp [] hil) (Tot.bindC (Fp 0 (by omega)) (Tot.bindC (F6 (by omega)) (hJ _ _ ?_)))
    have hgs:(out.set i ((out.getD i []).set k (KR t s out i (Aa t)[k] r))).getD i []=(out.getD i []).set k (KR t s out i (Aa t)[k] r):=Hf hil _ _
    refine ⟨⟨by rw [JlK];exact hA.len,λ i' h1 h2=>by rw [I9 (by omega)];exact hA.rows i' h1 h2,by rw [hgs];exact g1⟩,(λ h=>by cases h),λ _=>?_⟩
    rw [hgs]
    cases hch:ch with
    | false=>rw [(hP.same hch).1] at g2 ⊢;exact g2
    | true=>have:=hP.less hch;omega
   ·rw [if_neg hlt]
    refine Tot.iteF (by simp) (hJ _ _ (hskip λ q hq' _=>?_))
    rw [hq] at hq'
    cases hq'
    exact ⟨v,hv,by omega,by omega⟩
  ·have hgd:decide (KR t s out i (Aa t)[k] r>=0)=false:=by simpa using hc
   refine Tot.gF hgd (Tot.gF hgd (Tot.gF hgd (Tot.gF hgd (Tot.gF hgd (Tot.iteF (by rw [hgd];rfl) (hJ _ _ (hskip λ q hq' h0=>?_)))))))
   rw [hq] at hq'
   cases hq'
   exact absurd h0 hc
 ·rintro ⟨out,ch,r'⟩ ⟨e1,hP⟩
  simp only at e1 hP
  subst e1
  unfold CX
  exact Tot.iteF (by simp) (Tot.pure hP)
theorem Jfm {i:Nat} (hi:i<=s.length) {B:Nat} (hB:13000000<=B) {out0:List (List Int)} (h1:Suf t s i out0) :
  Tot (λ n=>whl (λ (x:((List (List Int))×Bool×Int))=>CY n t s (Aa t) (i:Int) x.1 x.2.1 x.2.2) n (out0,false,0)) (λ y=>Po t s i B out0 y.1 y.2 (Aa t).length 0):=by
 have hlen:=HM hT
 refine Tot.upto (body:=λ n x=>CY n t s (Aa t) (i:Int) x.1 x.2.1 x.2.2) (Aa t).length (λ k x=>x.2.2=(k:Int)/\Po t s i B out0 x.1 x.2.1 k 0) ?_ ?_ _ ⟨rfl,h1,λ _=>⟨rfl,λ j m h=>by omega⟩,λ h=>by cases h⟩
 ·rintro k ⟨out,ch,k'⟩ hk ⟨e1,hP⟩
  simp only at e1 hP
  subst e1
  unfold CY
  refine Tot.iteT (He hk) (Tot.bind (Jfl hT hs hi hB hk hP) ?_)
  rintro ⟨out',ch'⟩ hP'
  exact Tot.pure ⟨CN (by omega),hP'.suf,λ hc=>⟨(hP'.same hc).1,λ j m hjm hm=>(hP'.same hc).2 j m (by omega) hm⟩,hP'.less⟩
 ·rintro ⟨out,ch,k'⟩ ⟨e1,hP⟩
  simp only at e1 hP
  subst e1
  unfold CY
  exact Tot.iteF (by simp) (Tot.pure hP)
theorem Jfn {i:Nat} (hi:i<=s.length) {out0:List (List Int)} (h1:Suf t s i out0) :
  Tot (λ n=>whl (λ (x:((List (List Int))×Bool))=>DQ n t s (Aa t) (i:Int) x.1 x.2) n (out0,true)) (λ out=>out.length=s.length+1/\∀ i',i<=i'->i'<=s.length->NM t s i' (out.getD i' [])):=by
 refine Tot.whl (body:=λ n x=>DQ n t s (Aa t) (i:Int) x.1 x.2) (λ m x=>Suf t s i x.1/\((x.2=true/\m=phi 13000000 (x.1.getD i [])+1)\/(x.2=false/\m=0/\NM t s i (x.1.getD i [])))) ?_ (phi 13000000 (out0.getD i [])+1) (out0,true) ⟨h1,.inl ⟨rfl,rfl⟩⟩
 rintro m ⟨out,ch⟩ ⟨hS,hm⟩
 simp only at hS hm
 unfold DQ
 rcases hm with ⟨rfl,rfl⟩|⟨rfl,rfl,hR⟩
 ·refine Tot.iteT rfl (Tot.bind (Jfm hT hs hi (Nat.le_refl _) hS) ?_)
  rintro ⟨out',ch'⟩ hP
  simp only at hP
  cases ch' with
  | false=>
   obtain ⟨e,hrel⟩:=hP.same rfl
   subst e
   exact Tot.pure ⟨0,by omega,hS,.inr ⟨rfl,rfl,JdS hT hi hS λ j k hj hk=>hrel j k (by omega) hk⟩⟩
  | true=>
   have:=hP.less rfl
   exact Tot.pure ⟨phi 13000000 (out'.getD i [])+1,by omega,hP.suf,.inl ⟨rfl,rfl⟩⟩
 ·refine Tot.iteF rfl (Tot.pure ⟨hS.len,λ i' h1 h2=>?_⟩)
  rcases Nat.eq_or_lt_of_le h1 with rfl|h
  ·exact hR
  ·exact hS.rows i' h h2
theorem Mx:Tot (λ n=>HF n t s) (λ out=>out.length=s.length+1/\∀ i,i<=s.length->NM t s i (out.getD i [])):=by
 have hlen:=HM hT
 unfold HF
 have e1:AE .i64 ((s.length:Nat):Int) 1=((s.length+1:Nat):Int):=CN (by omega)
 refine Tot.bindE (Xk hT.tab) ?_
 rw [e1]
 refine Tot.bindC (S3 (by omega) (by omega)) ?_
 rw [JlC]
 refine Tot.bind (R:=λ out=>out.length=s.length+1/\∀ i,i<=s.length->NM t s i (out.getD i [])) ?_ (λ out h=>Tot.pure h)
 refine Tot.whl (body:=λ n x=>Fd n t s (Aa t) x.1 x.2) (λ m x=>x.2=(m:Int)-1/\x.1.length=s.length+1/\m<=s.length+1/\∀ i',m<=i'->i'<=s.length->NM t s i' (x.1.getD i' [])) ?_ (s.length+1) _ ⟨by simp,by simp,by omega,by omega⟩
 rintro m ⟨out,i'⟩ ⟨e2,e3,e4,e5⟩
 simp only at e2 e3 e5
 subst e2
 unfold Fd
 cases m with
 | zero=>exact Tot.iteF (by simp) (Tot.pure ⟨e3,λ i hi=>e5 i (by omega) hi⟩)
 | succ i=>
  have ei:((i+1:Nat):Int)-1=(i:Int):=by omega
  rw [ei]
  refine Tot.iteT (by simp) (Tot.bindC (Fp [] (show i<out.length by omega)) (Tot.bindC (S3 (by omega) (by omega)) ?_))
  rw [JlC,JlC]
  refine Tot.bind (Jfk hT hs (show i<=s.length by omega) (out.set i (List.replicate (Aa t).length 0)) (by rw [JlK];exact e3) (by rw [Hf (by omega),List.length_replicate])) ?_
  rintro out1 rfl
  rw [List.set_set]
  refine Tot.bind (Jfn hT hs (show i<=s.length by omega) ⟨by rw [JlK];exact e3,λ i' h1 h2=>?_,?_⟩) ?_
  ·rw [I9 (by omega)];exact e5 i' (by omega) h2
  ·rw [Hf (by omega)];exact Us t _ _ _
  ·rintro out2 ⟨h1,h2⟩
   refine Tot.pure ⟨i,by omega,?_,h1,by omega,h2⟩
   show Dw .i64 (i:Int) 1=(i:Int)-1
   rw [I6 (by omega) (by omega)]
end
end Go.AI
end
section
namespace Go.AI
def Rch (t:Ad) (s:List UInt8) (i:Nat) (q:Ab):Prop:=i<=s.length/\∃ p,Iy t BK p q/\El t p=s.take i
theorem Rch.start (t:Ad) (s:List UInt8):Rch t s 0 BK:=⟨by omega,[],rfl,by simp [El]⟩
theorem My (t:Ad) (p:List Int) (k:Int):El t (p++[k])=El t p++prt t k:=by simp [El]
theorem Rch.next {t:Ad} {s:List UInt8} {i:Nat} {q:Ab} {k:Int} (h:Rch t s i q) (hk:(AH t q k).2=true) (hb:(prt t k).isPrefixOf (s.drop i)=true):Rch t s (i+(prt t k).length) (AH t q k).1:=by
 obtain ⟨h1,p,h2,h3⟩:=h
 obtain ⟨q1,q2⟩:=Em hb
 refine ⟨q2 h1,p++[k],h2.snoc hk,?_⟩
 rw [My,h3,List.take_add,q1,List.take_left' rfl]
theorem Rch.ind {t:Ad} {s:List UInt8} {A:Nat->Ab->Prop} (h0:A 0 BK) (h1:∀ i q (k:Nat),i<=s.length->A i q->(AH t q k).2=true->(prt t k).isPrefixOf (s.drop i)=true->A (i+(prt t k).length) (AH t q k).1):∀ {i:Nat} {q:Ab},Rch t s i q->A i q:=by
 have key:∀ (p:List Int) (i:Nat) (q q':Ab),A i q->i<=s.length->Iy t q p q'->(∃ y,s.drop i=El t p++y)->A (i+(El t p).length) q':=by
  intro p
  induction p with
  | nil=>
   intro i q q' hA _ hg _
   unfold Iy at hg
   subst hg
   simpa [El] using hA
  | cons k p ih=>
   intro i q q' hA hi hg hy
   obtain ⟨g1,g2⟩:=hg
   obtain ⟨y,hy⟩:=hy
   obtain ⟨k,rfl⟩:∃ n:Nat,k=n:=⟨k.toNat,by have:=DR g1;omega⟩
   rw [I8,List.append_assoc] at hy
   have hb:(prt t k).isPrefixOf (s.drop i)=true:=by rw [List.isPrefixOf_iff_prefix];exact ⟨_,hy.symm⟩
   obtain ⟨q1,q2⟩:=Em hb
   have:=ih _ _ q' (h1 i q k hi hA g1 hb) (q2 hi) g2 ⟨y,by rw [q1] at hy;exact List.append_cancel_left hy⟩
   rw [I8,List.length_append,← Nat.add_assoc]
   exact this
 rintro i q ⟨hi,p,hg,ht⟩
 have:=key p 0 BK q h0 (by omega) hg ⟨s.drop i,by rw [ht,List.drop_zero,List.take_append_drop]⟩
 rw [ht,List.length_take,JlH,Nat.min_eq_left hi] at this
 exact this
def Ut (s:List UInt8) (i:Nat):Int:=if i<s.length then F5 (NL s i) else 0
theorem Xq (s:List UInt8) (i:Nat):0<=Ut s i/\Ut s i<=5:=by
 unfold Ut
 split
 ·have:=I4 (NL s i);omega
 ·omega
def Yw (t:Ad) (s:List UInt8) (i:Nat):Prop:=∃ q,Rch t s i q/\LA q.Need (Ut s i)=true
def Uu (t:Ad) (s:List UInt8) (v:Int):Prop:=(∃ i:Nat,v=i/\Yw t s i)/\∀ i:Nat,Yw t s i->(i:Int)<=v
theorem Uu.uniq {t:Ad} {s:List UInt8} {v w:Int} (h:Uu t s v) (h':Uu t s w):v=w:=by
 obtain ⟨⟨i,e1,h1⟩,h2⟩:=h
 obtain ⟨⟨j,e2,g1⟩,g2⟩:=h'
 have:=h2 j g1
 have:=g2 i h1
 omega
theorem JkP (t:Ad) (s:List UInt8):Yw t s 0:=by
 refine ⟨BK,.start t s,?_⟩
 have h:=Xq s 0
 generalize Ut s 0=c at h
 have:c=0\/c=1\/c=2\/c=3\/c=4\/c=5:=by omega
 rcases this with rfl|rfl|rfl|rfl|rfl|rfl<;>decide +kernel
def Ta (t:Ad) (s:List UInt8) (i:Nat) (v:Int):Prop:=(∃ j:Nat,v=j/\(j=0\/(j<i/\Yw t s j)))/\∀ j:Nat,j<i->Yw t s j->(j:Int)<=v
theorem Ta.stop {t:Ad} {s:List UInt8} {i:Nat} (hs:Yw t s i):Ta t s (i+1) (i:Nat):=⟨⟨i,rfl,.inr ⟨by omega,hs⟩⟩,λ j h _=>by omega⟩
theorem Ta.skip {t:Ad} {s:List UInt8} {i:Nat} {v:Int} (h:Ta t s i v) (hs:¬Yw t s i):Ta t s (i+1) v:=by
 obtain ⟨⟨j,e,h1⟩,h2⟩:=h
 refine ⟨⟨j,e,h1.imp id λ h=>⟨by omega,h.2⟩⟩,λ k hk hS=>?_⟩
 by_cases e:k=i
 ·subst e;exact absurd hS hs
 ·exact h2 k (by omega) hS
theorem Ta.all {t:Ad} {s:List UInt8} {v:Int} (h:Ta t s (s.length+1) v):Uu t s v:=by
 obtain ⟨⟨j,e,h1⟩,h2⟩:=h
 refine ⟨⟨j,e,?_⟩,λ i hi=>h2 i ?_ hi⟩
 ·rcases h1 with rfl|h1
  ·exact JkP t s
  ·exact h1.2
 ·obtain ⟨q,hq,_⟩:=hi
  have:=hq.1
  omega
section
variable {t:Ad} (hT:F8 t) {s:List UInt8} (hs:s.length<=4000)
def Mk (m:List (List Bool)) (i j:Nat):Prop:=(m.getD i [])[j]? = some true
structure Rea (t:Ad) (s:List UInt8) (i:Nat) (m:List (List Bool)):Prop where
 len:m.length=s.length+1
 rows:∀ i,i<=s.length->(m.getD i []).length=(Aa t).length
 sound:∀ i j,i<=s.length->Mk m i j->∃ q,(Aa t)[j]? = some q/\Rch t s i q
 first:Mk m 0 0
 done:∀ i',i'<i->∀ j k:Nat,∀ q,Mk m i' j->(Aa t)[j]? = some q->(AH t q k).2=true->(prt t k).isPrefixOf (s.drop i')=true->∃ j',(Aa t)[j']? = some (AH t q k).1/\Mk m (i'+(prt t k).length) j'
theorem Mk.set {m:List (List Bool)} {i j:Nat} (hi:i<m.length) (hj:j<(m.getD i []).length) {i' j':Nat}:Mk (m.set i ((m.getD i []).set j true)) i' j'↔(i=i'/\j=j')\/Mk m i' j':=by
 unfold Mk
 by_cases e:i=i'
 ·subst e
  rw [Hf hi]
  by_cases e2:j=j'
  ·subst e2;rw [JlE hj];simp
  ·rw [JlJ e2];simp [e2]
 ·rw [I9 e];simp [e]
include hT hs
omit hs in
theorem Rea.all {i:Nat} {m:List (List Bool)} (h:Rea t s (i+1) m) {j:Nat} {q:Ab} (hq:(Aa t)[j]? = some q):Rch t s i q↔i<=s.length/\Mk m i j:=by
 constructor
 ·intro hr
  refine ⟨hr.1,?_⟩
  have key:∀ {i' q},Rch t s i' q->i'<=i->∃ j,(Aa t)[j]? = some q/\Mk m i' j:=λ {i' q} hr=>Rch.ind (A:=λ i' q=>i'<=i->∃ j,(Aa t)[j]? = some q/\Mk m i' j) (λ _=>⟨0,(HP hT.tab).1.first,h.first⟩) (λ i' q k hi' hA hst hpf hle=>by
   obtain ⟨j,h1,h2⟩:=hA (by omega)
   exact h.done i' (by omega) j k q h2 h1 hst hpf) hr
  obtain ⟨j',h1,h2⟩:=key hr (Nat.le_refl _)
  rwa [Jfg (JdQ hT) hq h1]
 ·rintro ⟨h1,h2⟩
  obtain ⟨q',g1,g2⟩:=h.sound i j h1 h2
  rw [hq] at g1;cases g1
  exact g2
end
end Go.AI
end
section
namespace Go.AI
def JkQ (t:Ad) (q:Ab) (k:Nat):Option A8:=if (AH t q k).2=true then some ⟨k,Eh (Aa t) (AH t q k).1⟩ else none
def Jjf (t:Ad) (q:Ab):List A8:=(List.range t.Rules.length).filterMap (JkQ t q)
structure JdU (t:Ad) (s:List UInt8) (w:Af):Prop where
 tt:w.T=t
 ss:w.S=s
 st:w.States=Aa t
 al:w.Arcs.length=(Aa t).length
 arc:∀ (j:Nat) q,(Aa t)[j]? = some q->w.Arcs[j]? = some (Jjf t q)
section
variable {t:Ad} (hT:F8 t) {s:List UInt8} (hs:s.length<=4000)
include hT hs
omit hs in
theorem Jfo {nb:List (Ab×Int)} (hN:I5 (Aa t) nb) {q:Ab} (hq:q∈Aa t):Option.getD (Ga q nb) 0=Eh (Aa t) q:=by
 obtain ⟨j,hj,hg⟩:=Du hq
 rw [hN q,C4 (JdQ hT) hg,hj];rfl
end
end Go.AI
end
section
namespace Go.AI
def LB (w:Af) (p:Nat):List Int:=(w.Columns.getD p default).States
def InC (w:Af) (p:Nat) (v:Int):Prop:=v∈LB w p
structure Kn (t:Ad) (s:List UInt8) (place:Nat) (w:Af) (kn:List (List Bool)):Prop where
 base:JdU t s w
 clen:w.Columns.length=s.length+1
 cost:∀ p,(w.Columns.getD p default).Costs=[]
 klen:kn.length=5
 rows:∀ c,c<5->(kn.getD c []).length=(Aa t).length
 nod:∀ p,(LB w p).Nodup
 ok:∀ p v,InC w p v->∃ (j:Nat) (q:Ab),v=(j:Int)/\(Aa t)[j]? = some q/\Rch t s p q
 row:∀ p,place<=p->p<place+5->∀ j:Nat,(kn.getD (p % 5) [])[j]? = some true↔InC w p (j:Int)
 far:∀ p,place+5<=p->LB w p=[]
structure Pp (w w':Af):Prop where
 last:w'.Last=w.Last
 pre:∀ p,LB w p <+: LB w' p
theorem Pp.refl (w:Af):Pp w w:=⟨rfl,λ _=>List.prefix_rfl⟩
theorem Pp.trans {w w' w'':Af} (h:Pp w w') (h':Pp w' w''):Pp w w'':=⟨h'.last.trans h.last,λ p=>(h.pre p).trans (h'.pre p)⟩
theorem Pp.inc {w w':Af} (h:Pp w w') {p:Nat} {v:Int} (hv:InC w p v):InC w' p v:=(h.pre p).subset hv
theorem JdV {w:Af} {p:Nat} (hp:p<w.Columns.length) (c:AC) (p':Nat) (a b d:Int) (x:List Ax):((w.Columns.set p c).getD p' default)=if p=p' then c else w.Columns.getD p' default:=by
 split
 ·rename_i e;subst e;exact Hf hp _ _
 ·rename_i e;exact I9 e _ _
section
variable {t:Ad} (hT:F8 t) {s:List UInt8} (hs:s.length<=4000)
include hT hs
omit hs in
theorem Kn.len {place:Nat} {w:Af} {kn:List (List Bool)} (h:Kn t s place w kn) (p:Nat):(LB w p).length<=(Aa t).length:=by
 have _:=hT
 have hsub:∀ v∈LB w p,v∈(List.range (Aa t).length).map (λ j:Nat=>(j:Int)):=by
  intro v hv
  obtain ⟨j,q,rfl,hq,_⟩:=h.ok p v hv
  exact List.mem_map.2 ⟨j,List.mem_range.2 (Ar hq),rfl⟩
 have:=(h.nod p).length_le_of_subset hsub
 simpa using this
def Clo (t:Ad) (s:List UInt8) (w:Af) (p:Nat) (q:Ab):Prop:=∀ k:Nat,(AH t q k).2=true->(prt t k).isPrefixOf (s.drop p)=true->∃ j:Nat,(Aa t)[j]? = some (AH t q k).1/\InC w (p+(prt t k).length) (j:Int)
omit hT hs in
theorem Clo.ext {w w':Af} {p:Nat} {q:Ab} (h:Clo t s w p q) (he:Pp w w'):Clo t s w' p q:=λ k h1 h2=>by
 obtain ⟨j,g1,g2⟩:=h k h1 h2
 exact ⟨j,g1,he.inc g2⟩
omit hT hs in
theorem Kn.last {place:Nat} {w:Af} {kn:List (List Bool)} (h:Kn t s place w kn) (v:Int):Kn t s place { w with Last:=v } kn:=⟨⟨h.base.tt,h.base.ss,h.base.st,h.base.al,h.base.arc⟩,h.clen,h.cost,h.klen,h.rows,h.nod,h.ok,h.row,h.far⟩
end
end Go.AI
end
section
namespace Go.AI
def Tb (t:Ad) (w:Af) (p:Nat):List Ab:=(LB w p).map λ v=>(Aa t).getD v.toNat default
abbrev QJ (w:Af) (p:Nat):List Int:=(w.Columns.getD p default).Costs
structure PI (t:Ad) (s:List UInt8) (place:Nat) (w:Af):Prop where
 base:JdU t s w
 clen:w.Columns.length=s.length+1
 nod:∀ p,(LB w p).Nodup
 ok:∀ p v,InC w p v->∃ (j:Nat) (q:Ab),v=(j:Int)/\(Aa t)[j]? = some q/\Rch t s p q
 all:∀ p (j:Nat) q,(Aa t)[j]? = some q->Rch t s p q->InC w p (j:Int)
 sort:∀ p,p<=s.length->(LB w p).Pairwise (·<=·)
 later:∀ p,place<p->p<=s.length->(∀ (i:Nat) q,(Tb t w p)[i]? = some q->(QJ w p)[i]? = some (AP t q (s.drop p)))/\∀ (i:Nat) v,(QJ w p)[i]? = some v->v<=((3072*(s.length-p+1):Nat):Int)
 col:Col t (s.drop place) (3072*(s.length-place)) (Tb t w place) (QJ w place)
section
variable {t:Ad} (hT:F8 t) {s:List UInt8} (hs:s.length<=4000)
include hT
omit hT in
theorem Jjg {w:Af} {p:Nat} (hok:∀ v,InC w p v->∃ (j:Nat) (q:Ab),v=(j:Int)/\(Aa t)[j]? = some q/\Rch t s p q) {i:Nat} {q:Ab}:(Tb t w p)[i]? = some q↔∃ j:Nat,(LB w p)[i]? = some (j:Int)/\(Aa t)[j]? = some q:=by
 unfold Tb
 rw [Jlw,Jlv]
 constructor
 ·rintro ⟨v,hv,rfl⟩
  obtain ⟨j,q,rfl,hq,_⟩:=hok v (Jlu hv)
  refine ⟨j,hv,?_⟩
  rw [JlC,JlB,hq];rfl
 ·rintro ⟨j,hv,hq⟩
  refine ⟨_,hv,?_⟩
  rw [JlC,JlB,hq];rfl
theorem PI.pos {place:Nat} {w:Af} (h:PI t s place w) {p:Nat} {q:Ab} (hr:Rch t s p q) (hq:q∈Aa t):∃ d:Nat,(LB w p)[d]? = some (Eh (Aa t) q)/\(Tb t w p)[d]? = some q:=by
 have _:=hT
 obtain ⟨j,hj,hg⟩:=Du hq
 obtain ⟨d,hd,e⟩:=List.getElem_of_mem (h.all p j q hg hr)
 have:(LB w p)[d]? = some (j:Int):=by rw [← e];exact Jls hd
 exact ⟨d,by rw [hj];exact this,(Jjg (h.ok p)).2 ⟨j,this,hg⟩⟩
include hs in
end
end Go.AI
end
section
namespace Go.AI
def Jax (w:Af) (p:Nat) (cs:List Int):Af:={ w with Columns:=w.Columns.set p ⟨(w.Columns.getD p default).States,cs⟩ }
theorem Dv {w:Af} {p:Nat} (hp:p<w.Columns.length) (cs:List Int) (p':Nat):LB (Jax w p cs) p'=LB w p'/\QJ (Jax w p cs) p'=if p=p' then cs else QJ w p':=by
 have h:=JdV hp ⟨(w.Columns.getD p default).States,cs⟩ p' 0 0 0 []
 unfold LB QJ Jax
 simp only
 rw [h]
 split
 ·rename_i e;subst e;exact ⟨rfl,rfl⟩
 ·exact ⟨rfl,rfl⟩
theorem Rm {t:Ad} {w:Af} {p:Nat} (hp:p<w.Columns.length) (cs:List Int) (p':Nat):Tb t (Jax w p cs) p'=Tb t w p':=by
 unfold Tb
 rw [(Dv hp cs p').1]
theorem PI.set {t:Ad} {s:List UInt8} {place:Nat} {w:Af} (h:PI t s place w) (hpl:place<=s.length) {cs:List Int} (hc:Col t (s.drop place) (3072*(s.length-place)) (Tb t w place) cs):PI t s place (Jax w place cs):=by
 have hp:place<w.Columns.length:=by rw [h.clen];omega
 refine ⟨⟨h.base.tt,h.base.ss,h.base.st,h.base.al,h.base.arc⟩,?_,λ p=>?_,λ p v hv=>?_,λ p j q h1 h2=>?_,λ p hp'=>?_,λ p h1 h2=>?_,?_⟩
 ·show (w.Columns.set _ _).length=_
  rw [JlK];exact h.clen
 ·rw [(Dv hp cs p).1];exact h.nod p
 ·unfold InC at hv;rw [(Dv hp cs p).1] at hv;exact h.ok p v hv
 ·unfold InC;rw [(Dv hp cs p).1];exact h.all p j q h1 h2
 ·rw [(Dv hp cs p).1];exact h.sort p hp'
 ·rw [Rm hp,(Dv hp cs p).2,if_neg (by omega)];exact h.later p h1 h2
 ·rw [Rm hp,(Dv hp cs place).2,if_pos rfl];exact hc
section
variable {t:Ad} (hT:F8 t) {s:List UInt8} (hs:s.length<=4000)
include hT hs
end
end Go.AI
end
section
namespace Go.AI
structure PB (t:Ad) (s:List UInt8) (m:Nat) (w:Af):Prop where
 base:JdU t s w
 clen:w.Columns.length=s.length+1
 nod:∀ p,(LB w p).Nodup
 ok:∀ p v,InC w p v->∃ (j:Nat) (q:Ab),v=(j:Int)/\(Aa t)[j]? = some q/\Rch t s p q
 all:∀ p (j:Nat) q,(Aa t)[j]? = some q->Rch t s p q->InC w p (j:Int)
 sort:∀ p,p<=s.length->(LB w p).Pairwise (·<=·)
 later:∀ p,m<=p->p<=s.length->(∀ (i:Nat) q,(Tb t w p)[i]? = some q->(QJ w p)[i]? = some (AP t q (s.drop p)))/\∀ (i:Nat) v,(QJ w p)[i]? = some v->v<=((3072*(s.length-p+1):Nat):Int)
theorem PB.set {t:Ad} {s:List UInt8} {place:Nat} {w:Af} (h:PB t s (place+1) w) (hpl:place<=s.length) {cs:List Int} (hc:Col t (s.drop place) (3072*(s.length-place)) (Tb t w place) cs):PI t s place (Jax w place cs):=by
 have hp:place<w.Columns.length:=by rw [h.clen];omega
 refine ⟨⟨h.base.tt,h.base.ss,h.base.st,h.base.al,h.base.arc⟩,?_,λ p=>?_,λ p v hv=>?_,λ p j q h1 h2=>?_,λ p hp'=>?_,λ p h1 h2=>?_,?_⟩
 ·show (w.Columns.set _ _).length=_
  rw [JlK];exact h.clen
 ·rw [(Dv hp cs p).1];exact h.nod p
 ·unfold InC at hv;rw [(Dv hp cs p).1] at hv;exact h.ok p v hv
 ·unfold InC;rw [(Dv hp cs p).1];exact h.all p j q h1 h2
 ·rw [(Dv hp cs p).1];exact h.sort p hp'
 ·rw [Rm hp,(Dv hp cs p).2,if_neg (by omega)];exact h.later p (by omega) h2
 ·rw [Rm hp,(Dv hp cs place).2,if_pos rfl];exact hc
section
variable {t:Ad} (hT:F8 t) {s:List UInt8} (hs:s.length<=4000)
include hT hs
end
end Go.AI
end
section
namespace Go.AI
structure Yx (t:Ad) (s:List UInt8) (w:AT) (a e:Int):Prop where
 bad:(Ht s).2≠0->w=⟨[],[]⟩/\a=(Ht s).1/\e=(Ht s).2
 none:(Ht s).2=0->AP t BK s<0->w=⟨[],[]⟩/\Uu t s a/\e=61
 path:(Ht s).2=0->0<=AP t BK s->e=0/\a=(s.length:Int)/\∃ p,If t BK s p/\w=⟨cellsOf t p,p⟩
theorem Yx.uniq {t:Ad} {s:List UInt8} {w w':AT} {a a' e e':Int} (h:Yx t s w a e) (h':Yx t s w' a' e'):w=w'/\a=a'/\e=e':=by
 by_cases h1:(Ht s).2=0
 ·by_cases h2:AP t BK s<0
  ·obtain ⟨g1,g2,g3⟩:=h.none h1 h2
   obtain ⟨k1,k2,k3⟩:=h'.none h1 h2
   exact ⟨g1.trans k1.symm,g2.uniq k2,g3.trans k3.symm⟩
  ·obtain ⟨g1,g2,p,g3,g4⟩:=h.path h1 (by omega)
   obtain ⟨k1,k2,p',k3,k4⟩:=h'.path h1 (by omega)
   have:=g3.uniq k3
   subst this
   exact ⟨g4.trans k4.symm,g2.trans k2.symm,g1.trans k1.symm⟩
 ·obtain ⟨g1,g2,g3⟩:=h.bad h1
  obtain ⟨k1,k2,k3⟩:=h'.bad h1
  exact ⟨g1.trans k1.symm,g2.trans k2.symm,g3.trans k3.symm⟩
theorem Iy.app {t:Ad}:∀ {p:List Int} {q q' q'':Ab} {p':List Int},Iy t q p q'->Iy t q' p' q''->Iy t q (p++p') q''
 | [],q,q',q'',p',h,h'=>by unfold Iy at h;subst h;exact h'
 | a::p,q,q',q'',p',h,h'=>⟨h.1,Iy.app h.2 h'⟩
theorem Uv (t:Ad) (p:List Int) (k:Int):Fn t (p++[k])=Fn t p+(cls t k).length:=by simp [Fn,cellsOf]
section
variable {t:Ad} (hT:F8 t) {s:List UInt8} (hs:s.length<=4000)
include hT
include hs
structure JdW (t:Ad) (s:List UInt8) (p0:List Int) (place:Nat) (q:Ab):Prop where
 goes:Iy t BK p0 q
 text:El t p0=s.take place
 le:place<=s.length
 greedy:∀ p1,If t q (s.drop place) p1->If t BK s (p0++p1)
 len:Fn t p0+(AP t q (s.drop place)).toNat<=(AP t BK s).toNat
 plen:p0.length<=Fn t p0
 pos:0<=AP t q (s.drop place)
omit hs in
theorem JdW.next {p0:List Int} {place:Nat} {q:Ab} (h:JdW t s p0 place q) {k:Nat} (hc:0<AP t q (s.drop place)) (hk:Ok t q (s.drop place) k=AP t q (s.drop place)) (hm:∀ j:Nat,j<k->Ok t q (s.drop place) j≠AP t q (s.drop place)):JdW t s (p0++[(k:Int)]) (place+(prt t k).length) (AH t q k).1:=by
 obtain ⟨g1,⟨y,g2,g3⟩,g4,g5⟩:=Ur (t:=t) (q:=q) (x:=s.drop place) (k:=(k:Int)) (by omega)
 rw [List.drop_drop] at g3 g4 g5
 have hpf:(prt t k).isPrefixOf (s.drop place)=true:=by rw [List.isPrefixOf_iff_prefix,g2];exact List.prefix_append _ _
 obtain ⟨q1,q2⟩:=Em hpf
 obtain ⟨p1,p2,p3⟩:=hT.pr g1
 refine ⟨h.goes.snoc g1,?_,q2 h.le,λ p' hp'=>?_,?_,?_,g4⟩
 ·rw [My,h.text,List.take_add,q1,List.take_left' rfl]
 ·rw [List.append_assoc]
  exact h.greedy _ (.cons hc hk hm (by rw [List.drop_drop];exact hp'))
 ·rw [Uv];have:=h.len;omega
 ·rw [Uv,List.length_append];have:=h.plen;simp only [List.length_cons,List.length_nil];omega
omit hT hs in
theorem JdW.start {t:Ad} {s:List UInt8} (h:0<=AP t BK s):JdW t s [] 0 BK:=⟨rfl,by simp [El],by omega,λ p hp=>by simpa using hp,by simp [Fn,cellsOf],by simp,h⟩
omit hs in
theorem Rch.mem {i:Nat} {q:Ab} (h:Rch t s i q):q∈Aa t:=by
 obtain ⟨j,hj⟩:=Rch.ind (A:=λ _ q=>∃ j:Nat,(Aa t)[j]? = some q) ⟨0,(HP hT.tab).1.first⟩ (λ i' q k _ hA hst _=>by
  obtain ⟨j,hj⟩:=hA
  obtain ⟨d,_,hd⟩:=Du (GQ hT (Jlu hj) hst)
  exact ⟨d,hd⟩) h
 exact Jlu hj
end
end Go.AI
end
section
namespace Go.AI
section
variable {t:Ad} (hT:F8 t) {s:List UInt8} (hs:s.length<=4000)
include hT
include hs
end
theorem VK (a b:List Int) (ha:a.length<9223372036854775807):Ev (λ n=>DN n a b) (decide (a=b)):=by
 unfold DN
 by_cases hl:a.length=b.length
 ·refine Ev.iteF (by rw [Yq];simp [hl]) ?_
  refine Ev.bind (MU a.length (λ i=>if a.getD i default=b.getD i default then none else some false) (λ i hi=>Ev.all λ n=>?_) (Ev.all λ n=>?_)) ?_
  ·unfold Fy
   rw [if_pos (He hi),Ms hi,Option.bind_some,Ms (by omega),Option.bind_some]
   by_cases h:a.getD i default=b.getD i default
   ·rw [if_neg (by simpa using h),if_pos h,CN (by omega)]
   ·rw [if_pos (by simpa using h),if_neg h]
  ·unfold Fy
   rw [if_neg (by simp)]
  ·rw [Uq a b hl]
   by_cases e:a=b
   ·rw [if_pos e,decide_eq_true e];exact Ev.const
   ·rw [if_neg e,decide_eq_false e];exact Ev.const
 ·refine Ev.iteT (by rw [Yq];simp [hl]) ?_
  rw [show decide (a=b)=false by simp;intro h;exact hl (by rw [h])]
  exact Ev.const
end Go.AI
end
section
namespace Go.AI
def Uw (t:Ad) (s:List UInt8):Prop:=s.length<=12/\∃ p:List Int,(∀ k∈p,0<=k/\k<t.Rules.length)/\El t p=s
theorem Yy {t:Ad} (ht:t.Rules.length<1000000) (hpr:∀ r∈t.Rules,r.Print.length<=1000) {l:List Int} (hl:∀ a∈l,U8 a):Tot (λ n=>IJ n t l) (Uw t):=by
 unfold IJ
 refine Tot.bind (R:=Uw t) ?_ λ y hy=>Tot.pure hy
 refine Tot.upto (body:=λ n x=>Ef n t l x.1 x.2) (min (min l.length 12) (t.Rules.length*13)) (λ i x=>x.2=(i:Int)/\Uw t x.1) ?_ ?_ _ ⟨rfl,by simp,[],by simp,rfl⟩
 ·rintro i ⟨s,x⟩ hi ⟨h1,h2,p,h3,h4⟩
  simp only at h1 h2 h4
  subst h1
  unfold Ef
  obtain ⟨a,ham,hai⟩:=Oj (l:=l) (i:=(i:Int)) (by omega) (by omega)
  have hu:=hl a ham
  have hw:IntKind.i64.wrap a=a:=w64 (by unfold U8 at hu;omega) (by unfold U8 at hu;omega)
  have hrr:=Ej (a:=a) (m:=((t.Rules.length:Nat):Int)) hu.1 (by omega)
  have hrule:=S5 (t:=t) hrr.1 hrr.2
  have hp:=hpr _ (Ie (t:=t) hrr.1 hrr.2)
  refine Tot.iteT (by simp;omega) (Tot.bindC hai (Tot.bindC (MT (by simp;intro h;rw [h] at hi;simp at hi)) ?_))
  rw [hw]
  refine Tot.bindC hrule ?_
  have hJ:∀ s',Uw t s'->Tot (λ n=>Ee n (i:Int) s') (Rd2 (λ x=>x.2=((i+1:Nat):Int)/\Uw t x.1) (Uw t)):=λ s' hs'=>by
   unfold Ee
   exact Tot.pure ⟨CN (by omega),hs'⟩
  have e1:AE .i64 ((s.length:Nat):Int) ((List.length (Ek t (By a ((t.Rules.length:Nat):Int))).Print:Nat):Int)=((s.length+(Ek t (By a ((t.Rules.length:Nat):Int))).Print.length:Nat):Int):=by rw [EJ]<;>omega
  simp only [e1]
  refine Tot.ite (λ hc=>Tot.bindC (Mr (by simp only [decide_eq_true_eq] at hc;omega)) (hJ _ ⟨by simp only [decide_eq_true_eq] at hc;rw [List.length_append];omega,p++[By a ((t.Rules.length:Nat):Int)],?_,by simp [My,h4]⟩)) (λ hc=>hJ _ ⟨h2,p,h3,h4⟩)
  intro k hk
  rcases List.mem_append.1 hk with hk|hk
  ·exact h3 k hk
  ·cases List.mem_singleton.1 hk;exact hrr
 ·rintro ⟨s,x⟩ ⟨h1,h2⟩
  simp only at h1 h2
  subst h1
  unfold Ef
  refine Tot.iteF ?_ (Tot.pure h2)
  simp
  intro h3 h4
  have:t.Rules.length*13<=12\/¬ t.Rules.length*13<=12:=Classical.em _
  apply Classical.byContradiction
  intro h5
  have:0<t.Rules.length:=List.length_pos_iff.2 h5
  omega
theorem KQ.six {t:Ad} (h:KQ t):F8 t:=⟨h.tab,λ r hr=>by have:=Id (h.sound r hr);exact ⟨by omega,by omega⟩⟩
end Go.AI
end
section
namespace Go.AI
theorem Ux {t:Ad} (hc:∀ r∈t.Rules,1<=r.Cells.length):∀ {p:List Int},(∀ k∈p,0<=k/\k<t.Rules.length)->p.length<=Fn t p
 | [],_=>by simp
 | k::p,h=>by
  have h1:=h k (by simp)
  have h2:=hc _ (Ie h1.1 h1.2)
  have h3:=Ux (t:=t) hc (p:=p) λ a ha=>h a (by simp [ha])
  rw [FK,List.length_cons]
  simp only [cls];omega
theorem Way.mem {t:Ad} {q:Ab} {x:List UInt8} {p:List Int} (h:Way t q x p):∀ k∈p,0<=k/\k<t.Rules.length:=by
 obtain ⟨⟨q',h1,_⟩,_⟩:=h
 exact h1.mem
section
variable {t:Ad} (hT:F8 t) {s:List UInt8} (hs:s.length<=4000)
include hT hs
theorem JdX:AP t BK s<=13000000:=by
 obtain ⟨out,⟨_,hR⟩,_⟩:=Mx hT hs
 have hf:=(HP hT.tab).1.first
 exact ((S9 hT hs (hR 0 (by omega))).2 0 _ ((hR 0 (by omega)).val 0 _ hf)).2
theorem Yx.size {w:AT} {a e:Int} (h:Yx t s w a e):w.Cells.length<=13000000/\w.Path.length<=13000000:=by
 by_cases h1:(Ht s).2=0
 ·by_cases h2:AP t BK s<0
  ·obtain ⟨rfl,_⟩:=h.none h1 h2
   simp
  ·obtain ⟨_,_,p,g3,rfl⟩:=h.path h1 (by omega)
   have g4:=g3.way hT.one (by omega)
   have g5:=Ux hT.one g4.1.mem
   have g6:=JdX hT hs
   have:Fn t p=(cellsOf t p).length:=rfl
   simp only;omega
 ·obtain ⟨rfl,_⟩:=h.bad h1
  simp
end
theorem Way.last {t:Ad} {s:List UInt8} {p:List Int} (h:Way t BK s p):Uu t s (s.length:Int):=by
 obtain ⟨⟨q,h1,h2⟩,h3⟩:=h
 refine ⟨⟨s.length,rfl,q,⟨by omega,p,h1,by rw [h3,List.take_length]⟩,?_⟩,λ i ⟨q,hq,_⟩=>by have:=hq.1;omega⟩
 unfold Bx at h2
 simp only [Jlt] at h2
 unfold Ut
 rw [if_neg (by omega)]
 exact h2.2
end Go.AI
end
section
namespace Go.AI
structure VL (t:Ad):Prop where
 tab:Hs t
 valid:Fm t=true
theorem VL.six {t:Ad} (h:VL t):F8 t:=⟨h.tab,λ r hr=>by have:=Id (HL h.valid r hr);exact ⟨by omega,by omega⟩⟩
theorem VL.small {t:Ad} (h:VL t):KP t:=⟨by have:=h.tab.1;omega,λ r hr=>by have:=Id (HL h.valid r hr);exact ⟨by omega,by omega⟩⟩
theorem Yz {x:M9} (hx:Pk x):∃ t,(KQ t/\t.Rules.length<=10)/\Ev (λ n=>JF n x) t:=by
 obtain ⟨t,h,hE⟩:=Jau hx
 exact ⟨t,⟨h.1,h.2.2⟩,hE⟩
structure Jay (t:Ad):Prop where
 modes:t.Modes=1
 accept:t.Accept=1
 rules:∀ r∈t.Rules,r.From=0/\r.To=0/\r.Left=63/\r.Right=63
def Xr (q:Ab):Prop:=q.Mode=0/\q.Need=63/\0<=q.Last/\q.Last<=5
theorem JfX {c:Int} (h:0<=c) (h':c<=5):LA 63 c=true:=by
 have:c=0\/c=1\/c=2\/c=3\/c=4\/c=5:=by omega
 rcases this with rfl|rfl|rfl|rfl|rfl|rfl<;>decide +kernel
theorem Jay.step {t:Ad} (h:Jay t) {q:Ab} (hq:Xr q) {k:Int} (h0:0<=k) (h1:k<t.Rules.length):(AH t q k).2=true/\Xr (AH t q k).1:=by
 obtain ⟨q1,q2,q3,q4⟩:=hq
 obtain ⟨r1,r2,r3,r4⟩:=h.rules _ (Ie h0 h1)
 unfold AH
 rw [if_neg (by simp;omega)]
 show (S0 (Ek t k) q).2=true/\Xr (S0 (Ek t k) q).1
 unfold S0
 have e63:Ch .u8 63 63=63:=by decide +kernel
 rw [r1,r2,r3,r4,q1,q2,JfX q3 q4,e63]
 rw [if_neg (by simp)]
 have hc:=I4 (NL (Ek t k).Print 0)
 have hc2:=I4 (NL (Ek t k).Print ((Ek t k).Print.length-1))
 split
 ·rw [if_neg (by simp)]
  exact ⟨rfl,rfl,rfl,q3,q4⟩
 ·rw [JfX (by omega) (by omega),if_neg (by simp)]
  exact ⟨rfl,rfl,rfl,by show 0<=F5 _;omega,by show F5 _<=5;omega⟩
theorem Jay.goes {t:Ad} (h:Jay t):∀ (p:List Int) (q:Ab),Xr q->(∀ k∈p,0<=k/\k<t.Rules.length)->∃ q',Iy t q p q'/\Xr q'
 | [],q,hq,_=>⟨q,rfl,hq⟩
 | k::p,q,hq,hk=>by
  have h1:=hk k (by simp)
  obtain ⟨h2,h3⟩:=h.step hq h1.1 h1.2
  obtain ⟨q',h4,h5⟩:=h.goes p _ h3 λ a ha=>hk a (by simp [ha])
  exact ⟨q',⟨h2,h4⟩,h5⟩
theorem Jay.way {t:Ad} (h:Jay t) {p:List Int} (hk:∀ k∈p,0<=k/\k<t.Rules.length):Way t BK (El t p) p:=by
 obtain ⟨q',h1,h2,h3,h4⟩:=h.goes p BK ⟨rfl,rfl,by decide,by decide⟩ hk
 refine ⟨⟨q',h1,?_⟩,rfl⟩
 unfold Bx
 rw [h.modes,h.accept,h2,h3]
 decide +kernel
end Go.AI
end
section
namespace Go.AI
noncomputable def AW (t:Ad) (x:List UInt8):List Int:=(Aa t).map λ q=>AP t q x
def Fq (a v:Int):Int:=if 0<=v/\(a<0\/v<a) then v else a
def Bf (l:List Int):Int:=l.foldl Fq (-1)
def Ct (l:List Int):List Int:=l.map λ v=>if v<0 then -1 else v-Bf l
noncomputable def Bp (t:Ad) (s:List UInt8):AX:=⟨s,(List.range (s.length+1)).map λ i=>Ct (AW t (s.drop i)),(List.range (s.length+1)).map λ i=>Bf (AW t (s.drop i))⟩
theorem NM.eq {t:Ad} {s:List UInt8} {i:Nat} {row:List Int} (h:NM t s i row):row=AW t (s.drop i):=by
 refine List.ext_getElem? λ j=>?_
 unfold AW
 rw [Jlw]
 rcases Nat.lt_or_ge j (Aa t).length with hj|hj
 ·rw [h.val j _ (Jls hj),Jls hj];rfl
 ·rw [JlO (by rw [h.len];exact hj),JlO hj];rfl
theorem Xs (l:List Int):∀ a,(l.foldl Fq a=a\/l.foldl Fq a∈l)/\(0<=a->0<=l.foldl Fq a/\l.foldl Fq a<=a)/\∀ v∈l,0<=v->0<=l.foldl Fq a/\l.foldl Fq a<=v:=by
 induction l with
 | nil=>intro a;exact ⟨.inl rfl,λ h=>⟨h,Int.le_refl _⟩,λ v hv=>by cases hv⟩
 | cons x l ih=>
  intro a
  obtain ⟨h1,h2,h3⟩:=ih (Fq a x)
  rw [List.foldl_cons]
  have hm:Fq a x=a\/Fq a x=x:=by unfold Fq;split<;>simp
  have hb:(0<=a->0<=Fq a x/\Fq a x<=a)/\(0<=x->0<=Fq a x/\Fq a x<=x):=by unfold Fq;split<;>omega
  refine ⟨?_,λ ha=>?_,λ v hv h0=>?_⟩
  ·rcases h1 with h1|h1
   ·rcases hm with hm|hm
    ·exact .inl (h1.trans hm)
    ·exact .inr (by rw [h1,hm];simp)
   ·exact .inr (List.mem_cons_of_mem _ h1)
  ·have:=hb.1 ha;have:=h2 this.1;omega
  ·rcases List.mem_cons.1 hv with rfl|hv
   ·have:=hb.2 h0;have:=h2 this.1;omega
   ·exact h3 v hv h0
theorem Qh {l:List Int} {v:Int} (hv:v∈l) (h0:0<=v):0<=Bf l/\Bf l<=v:=(Xs l (-1)).2.2 v hv h0
theorem YA (l:List Int):Bf l=-1\/Bf l∈l:=(Xs l (-1)).1
theorem Qi {l:List Int} {B:Int} (hB:-1<=B) (h:∀ v∈l,-1<=v/\v<=B):-1<=Bf l/\Bf l<=B:=by
 rcases YA l with h1|h1
 ·omega
 ·exact h _ h1
theorem Uy {l:List Int} {k:Nat} (h:k<l.length) (a:Int):(l.take (k+1)).foldl Fq a=Fq ((l.take k).foldl Fq a) l[k]:=by
 rw [List.take_add_one,Jls h,List.foldl_append]
 rfl
theorem JdY {out:List (List Int)} {i:Nat} {row:List Int} (hr:out[i]? = some row) (hl:row.length<1000000) (m:AX):Tot (λ n=>whl (λ (x:(Int×Int))=>FE n out m (i:Int) x.1 x.2) n (-1,0)) (λ y=>y=Bf row):=by
 have hi:=Ei hr
 refine Tot.upto (body:=λ n x=>FE n out m (i:Int) x.1 x.2) row.length (λ k x=>x.2=(k:Int)/\x.1=(row.take k).foldl Fq (-1)) ?_ ?_ _ ⟨rfl,rfl⟩
 ·rintro k ⟨a,k'⟩ hk ⟨e1,e2⟩
  simp only at e1 e2
  subst e1
  have hv:=Fl hk
  have hJ:∀ b,b=Fq a row[k]->Tot (λ n=>G2 n (k:Int) b) (Rd2 (λ x:Int×Int=>x.2=((k+1:Nat):Int)/\x.1=(row.take (k+1)).foldl Fq (-1)) (λ y=>y=Bf row)):=by
   intro b hb
   unfold G2
   exact Tot.pure ⟨CN (by omega),by rw [Uy hk,← e2];exact hb⟩
  unfold FE
  refine Tot.bindC hi (Tot.iteT (He hk) (Tot.bindC hi (Tot.bindC hv ?_)))
  by_cases h0:0<=row[k]
  ·by_cases h1:a<0
   ·refine Tot.gF (by simp [h1]) (Tot.gF (by simp [h1]) (Tot.iteT (by simp [h0,h1]) (Tot.bindC hi (Tot.bindC hv (hJ _ ?_)))))
    unfold Fq;rw [if_pos ⟨h0,.inl h1⟩]
   ·refine Tot.gE (by simp;omega) (Ev.all λ _=>hi) (Tot.gE (by simp;omega) (Ev.all λ _=>hv) (Tot.ite (λ h=>Tot.bindC hi (Tot.bindC hv (hJ _ ?_))) λ h=>hJ _ ?_))
    ·unfold Fq
     simp only [Jlt,JlM,decide_eq_true_eq] at h
     rw [if_pos ⟨h0,h.2⟩]
    ·unfold Fq
     rw [if_neg]
     intro hc
     rw [← Bool.not_eq_true] at h
     refine h ?_
     simp only [Jlt,JlM,decide_eq_true_eq]
     exact ⟨h0,hc.2⟩
  ·refine Tot.gF (by simp;omega) (Tot.gF (by simp;omega) (Tot.iteF (by simp;omega) (hJ _ ?_)))
   unfold Fq;rw [if_neg λ h=>h0 h.1]
 ·rintro ⟨a,k'⟩ ⟨e1,e2⟩
  simp only at e1 e2
  subst e1
  rw [List.take_length] at e2
  unfold FE
  exact Tot.bindC hi (Tot.iteF (by simp) (Tot.pure e2))
theorem JdZ {out:List (List Int)} {i:Nat} {row:List Int} (hr:out[i]? = some row) (hl:row.length<1000000) (hb:∀ v∈row,-1<=v/\v<=13000000) (m:AX):Tot (λ n=>whl (λ (x:((List Int)×Int))=>FF n out m (i:Int) (Bf row) x.1 x.2) n ([],0)) (λ y=>y=Ct row):=by
 have hi:=Ei hr
 have hlr:=Qi (by decide) hb
 refine Tot.upto (body:=λ n x=>FF n out m (i:Int) (Bf row) x.1 x.2) row.length (λ k x=>x.2=(k:Int)/\x.1=(row.take k).map λ v=>if v<0 then -1 else v-Bf row) ?_ ?_ _ ⟨rfl,by simp⟩
 ·rintro k ⟨a,k'⟩ hk ⟨e1,e2⟩
  simp only at e1 e2
  subst e1
  have hv:=Fl hk
  have hbk:=hb _ (List.getElem_mem hk)
  have hla:a.length=k:=by rw [e2];simp;omega
  have hJ:∀ b,b=a++[if row[k]<0 then -1 else row[k]-Bf row]->Tot (λ n=>G3 n (k:Int) b) (Rd2 (λ x:List Int×Int=>x.2=((k+1:Nat):Int)/\x.1=(row.take (k+1)).map λ v=>if v<0 then -1 else v-Bf row) (λ y=>y=Ct row)):=by
   intro b h
   unfold G3
   refine Tot.pure ⟨CN (by omega),?_⟩
   rw [h,e2,List.take_add_one,Jls hk,List.map_append]
   rfl
  unfold FF
  refine Tot.bindC hi (Tot.iteT (He hk) (Tot.bindC hi (Tot.bindC hv (Tot.ite (λ h=>Tot.bindC (KO (by simp;omega)) (hJ _ ?_)) λ h=>Tot.bindC hi (Tot.bindC hv (Tot.bindC (KO (by simp;omega)) (hJ _ ?_)))))))
  ·rw [decide_eq_true_eq] at h
   rw [if_pos h]
  ·rw [decide_eq_false_iff_not] at h
   rw [if_neg h,I6 (by omega) (by omega)]
 ·rintro ⟨a,k'⟩ ⟨e1,e2⟩
  simp only at e1 e2
  subst e1
  rw [List.take_length] at e2
  unfold FF
  exact Tot.bindC hi (Tot.iteF (by simp) (Tot.pure e2))
section
variable {t:Ad} (hT:F8 t) {s:List UInt8} (hs:s.length<=4000)
include hT hs
theorem Rn {i:Nat} (hi:i<=s.length):(AW t (s.drop i)).length=(Aa t).length/\∀ v∈AW t (s.drop i),-1<=v/\v<=((3072*(s.length-i+1):Nat):Int):=by
 refine ⟨by simp [AW],λ v hv=>?_⟩
 obtain ⟨out,⟨_,hR⟩,_⟩:=Mx hT hs
 have h:=hR i hi
 rw [← h.eq] at hv
 obtain ⟨j,hj⟩:=List.mem_iff_getElem?.1 hv
 exact ⟨((S9 hT hs h).2 j v hj).1,h.bnd j v hj⟩
theorem VM {i:Nat} (hi:i<=s.length) {v:Int} (hv:v∈AW t (s.drop i)):-1<=v/\v<=13000000:=by
 have:=(Rn hT hs hi).2 v hv
 omega
theorem Zb:Ev (λ n=>LY n t s) (Bp t s):=by
 have hlen:=HM hT
 refine Tot.ev ?_
 unfold LY
 refine Tot.bind (Mx hT hs) ?_
 rintro out ⟨hol,hR⟩
 refine Tot.bind (R:=λ y=>y=Bp t s) ?_ (λ y h=>Tot.pure h)
 refine Tot.upto (body:=λ n x=>G4 n out x.1 x.2) (s.length+1) (λ k x=>x.2=(k:Int)/\x.1=⟨s,(List.range k).map λ i=>Ct (AW t (s.drop i)),(List.range k).map λ i=>Bf (AW t (s.drop i))⟩) ?_ ?_ _ ⟨rfl,rfl⟩
 ·rintro k ⟨m,k'⟩ hk ⟨e1,e2⟩
  simp only at e1 e2
  subst e1 e2
  have hRk:=hR k (by omega)
  have hg:out[k]? = some (AW t (s.drop k)):=by
   rw [← hRk.eq,JlB,Jls (by omega)];rfl
  have hrr:=Rn hT hs (show k<=s.length by omega)
  unfold G4
  refine Tot.iteT (by rw [hol];exact He hk) (Tot.bind (JdY hg (by omega) _) ?_)
  rintro _ rfl
  refine Tot.bind (JdZ hg (by omega) (λ v hv=>VM hT hs (by omega) hv) _) ?_
  rintro _ rfl
  refine Tot.bindC (KO (by simp;omega)) (Tot.bindC (KO (by simp;omega)) (Tot.pure ⟨CN (by omega),?_⟩))
  simp only [List.range_succ,List.map_append,List.map_cons,List.map_nil]
 ·rintro ⟨m,k'⟩ ⟨e1,e2⟩
  simp only at e1 e2
  subst e1
  unfold G4
  exact Tot.iteF (by rw [hol];simp) (Tot.pure e2)
end
theorem Xt (a b:AX) (h1:a.Least.length<1000000) (h2:a.Costs.length<1000000) (h3:∀ l∈a.Costs,l.length<1000000):Ev (λ n=>G6 n a b) (decide (a=b)):=by
 refine Tot.ev ?_
 unfold G6
 obtain ⟨at',ac,al⟩:=a
 obtain ⟨bt,bc,bl⟩:=b
 simp only at h1 h2 h3 ⊢
 by_cases ht:at'=bt
 ·by_cases hc:ac.length=bc.length
  ·refine Tot.gE (by simp [ht,hc]) (VK al bl (by omega)) ?_
   by_cases hl:al=bl
   ·refine Tot.iteF (by simp [ht,hc,hl]) ?_
    subst ht hl
    refine Tot.bind (R:=λ y:Unit⊕Bool=>(y=.inl ()/\ac=bc)\/(y=.inr false/\ac≠bc)) ?_ ?_
    ·refine Tot.upto (body:=λ n x=>G5 n ⟨at',ac,al⟩ ⟨at',bc,al⟩ x) ac.length (λ k x=>x=(k:Int)/\ac.take k=bc.take k) ?_ ?_ _ ⟨rfl,rfl⟩
     ·rintro k _ hk ⟨rfl,e⟩
      have hkb:k<bc.length:=by omega
      unfold G5
      refine Tot.iteT (He hk) (Tot.bindC (Fl hk) (Tot.bindC (Fl hkb) (Tot.bindE (VK _ _ (by have:=h3 _ (List.getElem_mem hk);omega)) (Tot.ite (λ h=>?_) λ h=>?_))))
      ·refine Tot.pure (.inr ⟨rfl,λ he=>?_⟩)
       subst he
       simp at h
      ·refine Tot.pure ⟨CN (by omega),?_⟩
       have:ac[k]=bc[k]:=by simpa using h
       rw [List.take_add_one,List.take_add_one,e,Jls hk,Jls hkb,this]
     ·rintro _ ⟨rfl,e⟩
      unfold G5
      refine Tot.iteF (by simp) (Tot.pure (.inl ⟨rfl,?_⟩))
      rwa [List.take_length,hc,List.take_length] at e
    ·rintro y (⟨rfl,h⟩|⟨rfl,h⟩)
     ·exact Tot.pure (by simp [h])
     ·exact Tot.pure (by simp [h])
   ·refine Tot.iteT (by simp [hl]) (Tot.pure ?_)
    simp [hl]
  ·have hc':((ac.length:Nat):Int)≠((bc.length:Nat):Int):=by omega
   refine Tot.gF (by simp [ht,hc']) (Tot.iteT (by simp [ht,hc']) (Tot.pure ?_))
   simp only [AX.mk.injEq]
   exact (decide_eq_false λ h=>hc (by rw [h.2.1])).symm
 ·refine Tot.gF (by simp [ht]) (Tot.iteT (by simp [ht]) (Tot.pure ?_))
  simp [ht]
theorem Jd0 {t:Ad} (hT:F8 t) {s:List UInt8} (hs:s.length<=4000) (b:AX):Ev (λ n=>G6 n (Bp t s) b) (decide (Bp t s=b)):=by
 have hlen:=HM hT
 refine Xt _ _ (by simp [Bp];omega) (by simp [Bp];omega) λ l hl=>?_
 simp only [Bp,List.mem_map] at hl
 obtain ⟨i,_,rfl⟩:=hl
 simp only [Ct,AW,List.length_map]
 omega
end Go.AI
end
section
namespace Go.AI
def GH (t:Ad) (q:Ab) (k:Nat):Option NV:=if (AH t q k).2=true then some ⟨prt t k,((cls t k).length:Nat),Eh (Aa t) (AH t q k).1⟩ else none
def Be (t:Ad) (q:Ab):List NV:=(List.range t.Rules.length).filterMap (GH t q)
def BH (t:Ad):AM:=⟨(Aa t).map (Be t),(Aa t).map (Bx t)⟩
theorem Qj {t:Ad} {q:Ab} {a:NV}:a∈Be t q↔∃ k:Nat,k<t.Rules.length/\(AH t q k).2=true/\a=⟨prt t k,((cls t k).length:Nat),Eh (Aa t) (AH t q k).1⟩:=by
 unfold Be
 rw [List.mem_filterMap]
 constructor
 ·rintro ⟨k,hk,h⟩
  unfold GH at h
  split at h
  ·rename_i hs;cases h;exact ⟨k,List.mem_range.1 hk,hs,rfl⟩
  ·cases h
 ·rintro ⟨k,hk,hs,rfl⟩
  exact ⟨k,List.mem_range.2 hk,by unfold GH;rw [if_pos hs]⟩
theorem Uz (t:Ad) (q:Ab):(Be t q).length<=t.Rules.length:=by
 have:=List.length_filterMap_le (GH t q) (List.range t.Rules.length)
 simpa [Be] using this
section
variable {t:Ad} (hT:F8 t)
include hT
theorem Jfp:Tot (λ n=>whl (λ (x:((List (Ab×Int))×Int))=>B0 n t (Aa t) x.1 x.2) n ([],0)) (I5 (Aa t)):=by
 have hlen:=HM hT
 refine Tot.upto (body:=λ n y=>B0 n t (Aa t) y.1 y.2) (Aa t).length (λ k y=>y.2=(k:Int)/\I5 ((Aa t).take k) y.1) ?_ ?_ _ ⟨rfl,λ q=>rfl⟩
 ·rintro k ⟨nb,k'⟩ hk ⟨e1,hN⟩
  simp only at e1 hN
  subst e1
  unfold B0
  refine Tot.iteT (He hk) (Tot.bindC (Fl hk) (Tot.pure ⟨CN (by omega),?_⟩))
  have hn:=JdQ hT
  have e:(Aa t).take (k+1)=(Aa t).take k++[(Aa t)[k]]:=by rw [List.take_add_one,Jls hk];rfl
  have hnd:((Aa t).take (k+1)).Nodup:=(List.take_sublist _ _).nodup hn
  rw [e] at hnd
  have hp:(Aa t)[k] ∉ (Aa t).take k:=by
   intro hm
   exact (List.nodup_append.1 hnd).2.2 _ hm _ (by simp) rfl
  have:=I5.snoc hN ((List.take_sublist _ _).nodup hn) hp
  rw [← e,List.length_take,Nat.min_eq_left (by omega)] at this
  exact this
 ·rintro ⟨nb,k'⟩ ⟨e1,hN⟩
  simp only at e1 hN
  subst e1
  rw [List.take_length] at hN
  unfold B0
  exact Tot.iteF (by simp) (Tot.pure hN)
theorem Jd1 {nb:List (Ab×Int)} (hN:I5 (Aa t) nb) {j:Nat} {q:Ab} (hq:(Aa t)[j]? = some q) (g0:AM) (hl:g0.Arcs.length=(Aa t).length) (h0:g0.Arcs[j]? = some []) :
  Tot (λ n=>whl (λ (x:(AM×Int))=>B1 n t (Aa t) nb (j:Int) q x.1 x.2) n (g0,0)) (λ g=>g={ g0 with Arcs:=g0.Arcs.set j (Be t q) }):=by
 have hrl:=hT.tab.1
 have hjl:=Ar hq
 refine Tot.upto (body:=λ n x=>B1 n t (Aa t) nb (j:Int) q x.1 x.2) t.Rules.length (λ k x=>x.2=(k:Int)/\x.1={ g0 with Arcs:=g0.Arcs.set j ((List.range k).filterMap (GH t q)) }/\((List.range k).filterMap (GH t q)).length<=k) ?_ ?_ _ ⟨rfl,?_,by simp⟩
 ·rintro k ⟨g,k'⟩ hk ⟨e1,e2,e3⟩
  simp only at e1 e2 e3
  subst e1
  have hJ:∀ g',g'={ g0 with Arcs:=g0.Arcs.set j ((List.range (k+1)).filterMap (GH t q)) }->Tot (λ n=>Cp n (k:Int) g') (Rd2 (λ x:AM×Int=>x.2=((k+1:Nat):Int)/\x.1={ g0 with Arcs:=g0.Arcs.set j ((List.range (k+1)).filterMap (GH t q)) }/\((List.range (k+1)).filterMap (GH t q)).length<=k+1) (λ g=>g={ g0 with Arcs:=g0.Arcs.set j (Be t q) })):=by
   intro g' hg
   unfold Cp
   refine Tot.pure ⟨CN (by omega),hg,?_⟩
   exact Nat.le_trans (List.length_filterMap_le _ _) (by simp)
  unfold B1
  have hir:idx t.Rules (k:Int)=some (Ek t k):=S5 (by omega) (by omega)
  refine Tot.iteT (He hk) (Tot.bindC hir (Tot.bindA (λ n=>Rk hT.tab.short n q k) (Tot.ite (λ h=>?_) λ h=>?_)))
  ·subst e2
   refine Tot.bindC (Fp [] (by rw [JlK];omega)) ?_
   rw [Hf (by omega)]
   refine Tot.bindC (KO (by simp;omega)) (hJ _ ?_)
   rw [Jfo hT hN (GQ hT (Jlu hq) h)]
   simp only [JlC,List.set_set,List.range_succ,List.filterMap_append]
   have:(List.filterMap (GH t q) [k])=[⟨prt t k,((cls t k).length:Nat),Eh (Aa t) (AH t q k).1⟩]:=by
    simp only [List.filterMap_cons,GH,h,if_true,List.filterMap_nil]
   rw [this]
  ·refine hJ _ ?_
   rw [e2]
   simp only [List.range_succ,List.filterMap_append]
   have:(List.filterMap (GH t q) [k])=[]:=by
    simp only [List.filterMap_cons,GH,h,JlF,if_false,List.filterMap_nil]
   rw [this,List.append_nil]
 ·rintro ⟨g,k'⟩ ⟨e1,e2,e3⟩
  simp only at e1 e2
  subst e1
  unfold B1
  exact Tot.iteF (by simp) (Tot.pure e2)
 ·show g0={ g0 with Arcs:=g0.Arcs.set j [] }
  have:g0.Arcs.set j []=g0.Arcs:=by
   have:=S8 g0.Arcs j []
   rwa [JlB,h0] at this
  rw [this]
theorem Jd2:Ev (λ n=>DD n t) (BH t):=by
 have hlen:=HM hT
 refine Tot.ev ?_
 unfold DD
 refine Tot.bindE (Yo hT.tab) (Tot.bind (Jfp hT) ?_)
 intro nb hN
 refine Tot.bindC (S3 (by omega) (by omega)) (Tot.bindC (S3 (by omega) (by omega)) ?_)
 simp only [JlC]
 refine Tot.bind (R:=λ g=>g=BH t) ?_ (λ g h=>Tot.pure h)
 refine Tot.upto (body:=λ n x=>Cq n t (Aa t) nb x.1 x.2) (Aa t).length (λ k x=>x.2=(k:Int)/\∃ A B,x.1=(⟨A,B⟩:AM)/\(A.length=(Aa t).length/\(∀ (j:Nat) q,j<k->(Aa t)[j]? = some q->A[j]? = some (Be t q))/\∀ j,k<=j->j<(Aa t).length->A[j]? = some [])/\B.length=(Aa t).length/\∀ (j:Nat) q,j<k->(Aa t)[j]? = some q->B[j]? = some (Bx t q)) ?_ ?_ _ ⟨rfl,_,_,rfl,⟨by simp,by omega,λ j _ h=>by rw [List.getElem?_replicate,if_pos h]⟩,by simp,by omega⟩
 ·rintro k ⟨g,k'⟩ hk ⟨e1,A,B,e2,⟨a1,a2,a3⟩,b1,b2⟩
  simp only at e1 e2
  subst e1 e2
  have hq:(Aa t)[k]? = some (Aa t)[k]:=Jls hk
  unfold Cq
  refine Tot.iteT (He hk) (Tot.bindC (Ei hq) (Tot.bindA (λ n=>Yl n t _) (Tot.bindC (Fp false (show k<B.length by omega)) (Tot.bindC (F6 (show k<B.length by omega)) (Tot.bind (Jd1 hT hN hq _ a1 (a3 k (Nat.le_refl _) hk)) ?_)))))
  rintro _ rfl
  refine Tot.pure ⟨CN (by omega),_,_,rfl,⟨by rw [JlK];exact a1,λ j q hj hjq=>?_,λ j h1 h2=>?_⟩,by rw [JlK];exact b1,λ j q hj hjq=>?_⟩
  ·by_cases e:k=j
   ·subst e
    rw [hq] at hjq;cases hjq
    exact JlE (show k<A.length by omega)
   ·rw [JlJ e];exact a2 j q (by omega) hjq
  ·rw [JlJ (by omega)];exact a3 j (by omega) h2
  ·by_cases e:k=j
   ·subst e
    rw [hq] at hjq;cases hjq
    exact JlE (show k<B.length by omega)
   ·rw [JlJ e];exact b2 j q (by omega) hjq
 ·rintro ⟨g,k'⟩ ⟨e1,A,B,e2,⟨a1,a2,a3⟩,b1,b2⟩
  simp only at e1 e2
  subst e1 e2
  unfold Cq
  refine Tot.iteF (by simp) (Tot.pure ?_)
  show (⟨A,B⟩:AM)=⟨(Aa t).map (Be t),(Aa t).map (Bx t)⟩
  congr 1
  ·refine List.ext_getElem? λ j=>?_
   rcases Nat.lt_or_ge j (Aa t).length with h|h
   ·rw [a2 j _ h (Jls h),Jlw,Jls h];rfl
   ·rw [JlO (by omega),JlO (by simpa using h)]
  ·refine List.ext_getElem? λ j=>?_
   rcases Nat.lt_or_ge j (Aa t).length with h|h
   ·rw [b2 j _ h (Jls h),Jlw,Jls h];rfl
   ·rw [JlO (by omega),JlO (by simpa using h)]
end
theorem YB:Ev (λ n=>HZ n) true:=Ev.of (λ n m h=>TI h) (n:=60) (by kernel_rfl)
end Go.AI
end
section
namespace Go.AI
section
variable {α:Type}
theorem E5 {l ys:List α} {lo k:Nat} (h:lo+ys.length<=l.length) (hk:k<ys.length):(spl l lo ys)[lo+k]? = ys[k]? := by
 unfold spl
 have e:(l.take lo).length=lo:=by simp;omega
 rw [List.append_assoc,JlL (by omega),e,JlA (by omega)]
 congr 1;omega
theorem Pq {l ys:List α} {lo j:Nat} (h:lo+ys.length<=l.length) (hj:j<lo\/lo+ys.length<=j):(spl l lo ys)[j]? = l[j]? := by
 unfold spl
 have e:(l.take lo).length=lo:=by simp;omega
 rw [List.append_assoc]
 rcases hj with hj|hj
 ·rw [JlA (by omega),JlN hj]
 ·rw [JlL (by omega),JlL (by omega),List.getElem?_drop]
  congr 1;omega
theorem Ig {l ys:List α} {lo:Nat} (h:lo+ys.length<=l.length):(spl l lo ys).length=l.length:=by
 unfold spl
 simp
 omega
theorem Mz {l ys:List α} {lo k:Nat} (h:lo+ys.length<=l.length) (hk:k<ys.length) (v:α):(spl l lo ys).set (lo+k) v=spl l lo (ys.set k v):=by
 have h':lo+(ys.set k v).length<=l.length:=by rw [JlK];exact h
 refine List.ext_getElem? λ j=>?_
 by_cases e:lo+k=j
 ·subst e
  rw [JlE (by rw [Ig h];omega),E5 h' (by rw [JlK];exact hk),JlE hk]
 ·rw [JlJ e]
  by_cases hj:j<lo\/lo+ys.length<=j
  ·rw [Pq h hj,Pq h' (by rw [JlK];exact hj)]
  ·obtain ⟨m,rfl⟩:∃ m,j=lo+m:=⟨j-lo,by omega⟩
   rw [E5 h (by omega),E5 h' (by rw [JlK];omega),JlJ (by omega)]
theorem Jd3 {l:List α} {lo S:Nat} (h:lo+S<=l.length):spl l lo ((l.drop lo).take S)=l:=by
 unfold spl
 have e:((l.drop lo).take S).length=S:=by simp;omega
 rw [e,List.append_assoc]
 have:(l.drop lo).take S++l.drop (lo+S)=l.drop lo:=by
  rw [← List.drop_drop];exact List.take_append_drop _ _
 rw [this,List.take_append_drop]
theorem Jaz {l ys:List α} {lo:Nat} (h:lo+ys.length<=l.length):((spl l lo ys).drop lo).take ys.length=ys:=by
 refine List.ext_getElem? λ j=>?_
 rw [List.getElem?_take,List.getElem?_drop]
 split
 ·rename_i hj;exact E5 h hj
 ·rename_i hj;rw [JlO (by omega)]
theorem YC {l ys:List α} {lo lo' S:Nat} (h:lo+ys.length<=l.length) (hd:lo'+S<=lo\/lo+ys.length<=lo'):((spl l lo ys).drop lo').take S=(l.drop lo').take S:=by
 refine List.ext_getElem? λ j=>?_
 rw [List.getElem?_take,List.getElem?_take]
 split
 ·rename_i hj
  rw [List.getElem?_drop,List.getElem?_drop,Pq h (by omega)]
 ·rfl
theorem Jjh {n k:Nat} (h:k<n):inB n (k:Int)=some ():=by
 unfold inB BE
 rw [if_pos (by simp;omega)]
theorem Jr {l:List α} {lo S k:Nat} {v:α} (hk:k<S) (h:l[lo+k]? = some v):ixP l (lo,S) (k:Int)=some v:=by
 unfold ixP
 rw [Jjh hk,Option.bind_some,JlC]
 exact Ei h
end
def Hj (S n:Nat):List (Nat×Nat):=(List.range n).map λ i=>(i*S,S)
theorem Tc {S n i:Nat} (h:i<n):idx (Hj S n) (i:Int)=some (i*S,S):=by
 refine Ei ?_
 simp [Hj,h]
theorem Ja {S n i:Nat} (h:i<n):i*S+S<=S*n:=by
 have:(i+1)*S<=n*S:=Nat.mul_le_mul_right S h
 rw [JlG,Nat.one_mul,Nat.mul_comm n S] at this
 exact this
theorem VN {S i j:Nat} (h:i<j):i*S+S<=j*S:=by
 have:(i+1)*S<=j*S:=Nat.mul_le_mul_right S h
 rw [JlG,Nat.one_mul] at this
 exact this
structure Lat (t:Ad) (s:List UInt8) (i:Nat) (l ls:List Int):Prop where
 len:l.length=(Aa t).length*(s.length+1)
 ll:ls.length=s.length+1
 col:∀ p,i<p->p<=s.length->(l.drop (p*(Aa t).length)).take (Aa t).length=Ct (AW t (s.drop p))
 lst:∀ p,i<p->p<=s.length->ls[p]? = some (Bf (AW t (s.drop p)))
def Low (a b:List Int):Prop:=∀ (j:Nat) v,a[j]? = some v->0<=v->∃ w,b[j]? = some w/\0<=w/\w<=v
theorem Low.refl (a:List Int):Low a a:=λ _ v h h0=>⟨v,h,h0,Int.le_refl _⟩
theorem Low.set {a:List Int} {k:Nat} {v c:Int} (hv:a[k]? = some v) (hc:0<=c) (hlt:v<0\/c<v):Low a (a.set k c):=by
 intro j w hw h0
 by_cases e:k=j
 ·subst e
  rw [hv] at hw
  cases hw
  exact ⟨c,JlE (Ar hv),hc,by omega⟩
 ·exact ⟨w,by rw [JlJ e];exact hw,h0,Int.le_refl _⟩
def A1 (t:Ad) (x:List UInt8) (cur:List Int) (j:Nat) (g:NV):Prop:=g.Print≠[]->∀ y,x=g.Print++y->∀ q',(Aa t)[g.To.toNat]? = some q'->0<=AP t q' y->∃ v,cur[j]? = some v/\0<=v/\v<=AP t q' y+g.Cells
def A2 (cur:List Int) (j:Nat) (g:NV):Prop:=g.Print=[]->∀ w,cur[g.To.toNat]? = some w->0<=w->∃ v,cur[j]? = some v/\0<=v/\v<=w+g.Cells
theorem A1.low {t:Ad} {x:List UInt8} {a b:List Int} {j:Nat} {g:NV} (h:A1 t x a j g) (hl:Low a b):A1 t x b j g:=by
 intro hp y hy q' hq' h0
 obtain ⟨v,h1,h2,h3⟩:=h hp y hy q' hq' h0
 obtain ⟨w,g1,g2,g3⟩:=hl j v h1 h2
 exact ⟨w,g1,g2,by omega⟩
section
variable {t:Ad} (hT:F8 t) {s:List UInt8} (hs:s.length<=4000)
include hT hs
theorem Xu {p:Nat} (hp:p<=s.length) {j:Nat} {q:Ab} (hq:(Aa t)[j]? = some q):-1<=AP t q (s.drop p)/\AP t q (s.drop p)<=((3072*(s.length-p+1):Nat):Int):=by
 refine (Rn hT hs hp).2 _ ?_
 unfold AW
 exact List.mem_map.2 ⟨q,Jlu hq,rfl⟩
omit hT hs in
theorem Jji (p:Nat) {j:Nat} {q:Ab} (hq:(Aa t)[j]? = some q) :
  (Ct (AW t (s.drop p)))[j]? = some (if AP t q (s.drop p)<0 then -1 else AP t q (s.drop p)-Bf (AW t (s.drop p)))/\(0<=AP t q (s.drop p)->0<=Bf (AW t (s.drop p))/\Bf (AW t (s.drop p))<=AP t q (s.drop p)):=by
 have hr:(AW t (s.drop p))[j]? = some (AP t q (s.drop p)):=by unfold AW;rw [Jlw,hq];rfl
 refine ⟨by rw [Ct,Jlw,hr];rfl,λ h0=>Qh (Jlu hr) h0⟩
theorem YD {i:Nat} {l ls cur:List Int} (hL:Lat t s i l ls) (hc:cur.length=(Aa t).length) (hi:i<=s.length) {p:Nat} (h1:i<p) (h2:p<=s.length) {j:Nat} {q:Ab} (hq:(Aa t)[j]? = some q) (x:List UInt8) (n:Nat) :
  Fx n x (p:Int) (j:Int) (Hj (Aa t).length (s.length+1)) ls (spl l (i*(Aa t).length) cur)=some (AP t q (s.drop p)):=by
 have hjl:=Ar hq
 have hlo:i*(Aa t).length+cur.length<=l.length:=by rw [hc,hL.len];exact Ja (by omega)
 obtain ⟨n1,n2⟩:=Jji p hq
 have hrng:=Xu hT hs h2 hq
 have hv:(spl l (i*(Aa t).length) cur)[p*(Aa t).length+j]? = some (if AP t q (s.drop p)<0 then -1 else AP t q (s.drop p)-Bf (AW t (s.drop p))):=by
  have:=VN (S:=(Aa t).length) h1
  rw [Pq hlo (by omega),← n1,← hL.col p h1 h2,JlN hjl,List.getElem?_drop]
 unfold Fx
 rw [Tc (by omega),Option.bind_some]
 by_cases h0:AP t q (s.drop p)<0
 ·rw [if_pos h0] at hv
  rw [Jr hjl hv,Option.bind_some,if_pos (by simp)]
  congr 1;omega
 ·rw [if_neg h0] at hv
  have:=n2 (by omega)
  rw [Jr hjl hv,Option.bind_some,if_neg (by simp;omega),Ei (hL.lst p h1 h2),Option.bind_some,Option.bind_some,Jr hjl hv,Option.bind_some,EJ (by omega) (by omega)]
  congr 1;omega
omit hT hs in
theorem Xv {l cur:List Int} {lo k:Nat} {v rest cells:Int} (hlo:lo+cur.length<=l.length) (hv:cur[k]? = some v) (hr:-1<=rest/\rest<=100000000) (hc:0<=cells/\cells<=100) (n:Nat) :
  Br n (k:Int) rest cells (lo,cur.length) (spl l lo cur)=some (if rest<0\/(0<=v/\v<=rest+cells) then (spl l lo cur,false) else (spl l lo (cur.set k (rest+cells)),true)):=by
 have hk:=Ar hv
 have hix:ixP (spl l lo cur) (lo,cur.length) (k:Int)=some v:=Jr hk (by rw [E5 hlo hk];exact hv)
 unfold Br
 rw [hix]
 by_cases h0:rest<0
 ·rw [if_neg (by simp;omega),Option.bind_some,if_neg (by simp;omega),Option.bind_some,if_pos (by simp [h0]),if_pos (.inl h0)]
 ·rw [if_pos (by simp;omega),Option.bind_some]
  have e:AE .i64 rest cells=rest+cells:=EJ (by omega) (by omega)
  rw [e]
  by_cases h1:0<=v
  ·rw [if_pos (by simp;omega),Option.bind_some]
   by_cases h2:v<=rest+cells
   ·rw [if_pos (by simp;omega),if_pos (.inr ⟨h1,h2⟩)]
   ·rw [if_neg (by simp;omega),if_neg (by omega),Option.bind_some,JlC,F6 (by rw [Ig hlo];omega),Option.bind_some,Mz hlo hk]
  ·rw [if_neg (by simp;omega),Option.bind_some,if_neg (by simp;omega),if_neg (by omega),Option.bind_some,JlC,F6 (by rw [Ig hlo];omega),Option.bind_some,Mz hlo hk]
theorem Jfq {i:Nat} (hi:i<=s.length) {l cur0:List Int} (hc:cur0.length=(Aa t).length) (hlo:i*(Aa t).length+cur0.length<=l.length) (offs:List (Nat×Nat)) (ls:List Int) :
  Tot (λ n=>whl (λ (x:((List Int)×Int))=>A9 n (i:Int) s (BH t) offs ls (i*(Aa t).length,(Aa t).length) x.1 x.2) n (spl l (i*(Aa t).length) cur0,0)) (λ y=>y=spl l (i*(Aa t).length) ((Aa t).map (Dd t (s.drop i)))):=by
 have hlen:=HM hT
 generalize hlo':i*(Aa t).length=lo at *
 refine Tot.upto (body:=λ n x=>A9 n (i:Int) s (BH t) offs ls (lo,(Aa t).length) x.1 x.2) (Aa t).length (λ k x=>x.2=(k:Int)/\∃ cur,x.1=spl l lo cur/\cur.length=(Aa t).length/\∀ (j:Nat) q,j<k->(Aa t)[j]? = some q->cur[j]? = some (Dd t (s.drop i) q)) ?_ ?_ _ ⟨rfl,cur0,rfl,hc,by omega⟩
 ·rintro k ⟨c,k'⟩ hk ⟨e1,cur,e2,e3,e4⟩
  simp only at e1 e2
  subst e1 e2
  have hlc:lo+cur.length<=l.length:=by omega
  have hJ:∀ v,v=Dd t (s.drop i) (Aa t)[k]->∀ c',c'=spl l lo (cur.set k v)->Tot (λ n=>Bm n (k:Int) c') (Rd2 (λ x:List Int×Int=>x.2=((k+1:Nat):Int)/\∃ cur,x.1=spl l lo cur/\cur.length=(Aa t).length/\∀ (j:Nat) q,j<k+1->(Aa t)[j]? = some q->cur[j]? = some (Dd t (s.drop i) q)) (λ y=>y=spl l lo ((Aa t).map (Dd t (s.drop i))))):=by
   intro v hv c' hc'
   unfold Bm
   refine Tot.pure ⟨CN (by omega),_,hc',by rw [JlK];exact e3,λ j q hj hq=>?_⟩
   by_cases e:k=j
   ·subst e
    rw [JlE (by omega),hv]
    rw [Jls hk] at hq
    cases hq;rfl
   ·rw [JlJ e];exact e4 j q (by omega) hq
  unfold A9
  have hg:(spl l lo cur)[lo+k]? = some cur[k]:=by rw [E5 hlc (by omega)];exact Jls (by omega)
  refine Tot.iteT (by simpa using hk) (Tot.bindC (Jr hk hg) ?_)
  rw [JlC]
  refine Tot.bindC (F6 (by rw [Ig hlc];omega)) ?_
  rw [Mz hlc (by omega),Xp hs hi]
  have hacc:idx (BH t).Accepts (k:Int)=some (Bx t (Aa t)[k]):=Ei (by simp [BH,hk])
  by_cases hd:s.drop i=[]
  ·refine Tot.gE (decide_eq_true hd) (Ev.all λ n=>hacc) (Tot.ite (λ h=>?_) λ h=>?_)
   ·have ha:Bx t (Aa t)[k]=true:=by simpa [hd] using h
    have hls:lo+(cur.set k (-1)).length<=l.length:=by rw [JlK];exact hlc
    refine Tot.bindC (Jr hk (v:=-1) (by rw [E5 hls (by rw [JlK];omega),JlE (by omega)])) (Tot.bindC (F6 (by rw [Ig hls];omega)) (hJ 0 ?_ _ ?_))
    ·unfold Dd;rw [if_pos ⟨hd,ha⟩]
    ·rw [Mz hls (by rw [JlK];omega),List.set_set]
   ·have ha:Bx t (Aa t)[k]=false:=by simpa [hd] using h
    refine hJ (-1) ?_ _ rfl
    unfold Dd;rw [if_neg (by rw [ha];simp)]
  ·refine Tot.gF (decide_eq_false hd) (Tot.iteF (by simp [hd]) (hJ (-1) ?_ _ rfl))
   unfold Dd;rw [if_neg (λ h=>hd h.1)]
 ·rintro ⟨c,k'⟩ ⟨e1,cur,e2,e3,e4⟩
  simp only at e1 e2
  subst e1 e2
  unfold A9
  refine Tot.iteF (by simp) (Tot.pure ?_)
  refine congrArg (spl l lo) (List.ext_getElem? λ j=>?_)
  rcases Nat.lt_or_ge j (Aa t).length with h|h
  ·rw [e4 j _ h (Jls h),Jlw,Jls h];rfl
  ·rw [JlO (by omega),JlO (by simpa using h)]
end
end Go.AI
end
section
namespace Go.AI
structure VO (t:Ad) (x:List UInt8) (D B:Nat) (cur0 cur:List Int) (ch:Bool) (k a:Nat):Prop where
 col:Col t x D (Aa t) cur
 all:∀ (j:Nat) q,(Aa t)[j]? = some q->∀ g∈Be t q,A1 t x cur j g
 same:ch=false->cur=cur0/\(∀ (j:Nat) q,j<k->(Aa t)[j]? = some q->∀ g∈Be t q,A2 cur0 j g)/\∀ q,(Aa t)[k]? = some q->∀ g∈(Be t q).take a,A2 cur0 k g
 less:ch=true->phi B cur<phi B cur0
section
variable {t:Ad} (hT:F8 t) {s:List UInt8} (hs:s.length<=4000)
include hT hs
omit hs in
theorem Xw {q:Ab} (hq:q∈Aa t) {g:NV} (hg:g∈Be t q):∃ (k m:Nat),(AH t q k).2=true/\g=⟨prt t k,((cls t k).length:Nat),(m:Nat)⟩/\(Aa t)[m]? = some (AH t q k).1/\(prt t k).length<=3/\1<=(cls t k).length/\(cls t k).length<=4:=by
 obtain ⟨k,hk,hst,rfl⟩:=Qj.1 hg
 obtain ⟨m,hm,hmg⟩:=Du (GQ hT hq hst)
 exact ⟨k,m,hst,by rw [hm],hmg,hT.pr hst⟩
theorem Jfr {i:Nat} (hi:i<=s.length) {l ls cur1:List Int} (hL:Lat t s i l ls) {k:Nat} {q:Ab} (hq:(Aa t)[k]? = some q) (h1:Col t (s.drop i) (3072*(s.length-i)) (Aa t) cur1) (gr:AM) :
  Tot (λ n=>whl (λ (x:((List Int)×Int))=>Ba n (i:Int) s gr (Hj (Aa t).length (s.length+1)) ls (i*(Aa t).length,(Aa t).length) (k:Int) (Be t q) x.1 x.2) n (spl l (i*(Aa t).length) cur1,0))
   (λ y=>∃ cur,y=spl l (i*(Aa t).length) cur/\Col t (s.drop i) (3072*(s.length-i)) (Aa t) cur/\Low cur1 cur/\∀ g∈Be t q,A1 t (s.drop i) cur k g):=by
 have hlen:=HM hT
 have hrl:=hT.tab.1
 have hgl:=Uz t q
 have hkl:=Ar hq
 have hlo0:i*(Aa t).length+(Aa t).length<=l.length:=by rw [hL.len];exact Ja (by omega)
 refine Tot.upto (body:=λ n x=>Ba n (i:Int) s gr (Hj (Aa t).length (s.length+1)) ls (i*(Aa t).length,(Aa t).length) (k:Int) (Be t q) x.1 x.2) (Be t q).length (λ a x=>x.2=(a:Int)/\∃ cur,x.1=spl l (i*(Aa t).length) cur/\Col t (s.drop i) (3072*(s.length-i)) (Aa t) cur/\Low cur1 cur/\∀ g∈(Be t q).take a,A1 t (s.drop i) cur k g) ?_ ?_ _ ⟨rfl,cur1,rfl,h1,.refl _,by simp⟩
 ·rintro a ⟨c,a'⟩ ha ⟨e1,cur,e2,hC,hlw,hA⟩
  simp only at e1 e2
  subst e1 e2
  have hcl:=hC.len
  have hlo:i*(Aa t).length+cur.length<=l.length:=by omega
  obtain ⟨r,m,hst,hge,hm,p1,p2,p3⟩:=Xw hT (Jlu hq) (List.getElem_mem ha)
  obtain ⟨v,hv⟩:=hC.get hkl
  have hJ:∀ cur',Col t (s.drop i) (3072*(s.length-i)) (Aa t) cur'->Low cur cur'->A1 t (s.drop i) cur' k (Be t q)[a]->Tot (λ n=>Bn n (a:Int) (spl l (i*(Aa t).length) cur')) (Rd2 (λ x:List Int×Int=>x.2=((a+1:Nat):Int)/\∃ cur,x.1=spl l (i*(Aa t).length) cur/\Col t (s.drop i) (3072*(s.length-i)) (Aa t) cur/\Low cur1 cur/\∀ g∈(Be t q).take (a+1),A1 t (s.drop i) cur k g) (λ y=>∃ cur,y=spl l (i*(Aa t).length) cur/\Col t (s.drop i) (3072*(s.length-i)) (Aa t) cur/\Low cur1 cur/\∀ g∈Be t q,A1 t (s.drop i) cur k g)):=by
   intro cur' hC' hl' hA'
   unfold Bn
   refine Tot.pure ⟨CN (by omega),cur',rfl,hC',λ j w hw h0=>?_,λ g hg=>?_⟩
   ·obtain ⟨w1,g1,g2,g3⟩:=hlw j w hw h0
    obtain ⟨w2,g4,g5,g6⟩:=hl' j w1 g1 g2
    exact ⟨w2,g4,g5,by omega⟩
   ·rw [List.take_add_one,Jls ha,List.mem_append] at hg
    rcases hg with hg|hg
    ·exact (hA g hg).low hl'
    ·simp at hg;subst hg;exact hA'
  unfold Ba
  refine Tot.iteT (He ha) (Tot.bindC (Fl ha) ?_)
  rw [hge] at hJ ⊢
  simp only
  by_cases hp:prt t r=[]
  ·refine Tot.gF (by simp [hp]) (Tot.gF (by simp [hp]) (Tot.iteF (by simp [hp]) (hJ cur hC (.refl _) λ h=>absurd hp h)))
  ·have hpl:0<(prt t r).length:=List.length_pos_iff.2 hp
   refine Tot.gE (x:=s.drop i) (by simp [hp]) (Ev.all λ n=>?_) (Tot.gE (x:=(prt t r).isPrefixOf (s.drop i)) (by simp [hp]) (Ev.all λ n=>?_) (Tot.ite (λ h=>?_) λ h=>?_))
   ·rw [Up (by omega) (by omega) (by omega)];simp
   ·unfold DU EP
    by_cases hle:(prt t r).length<=(s.drop i).length
    ·have hd:decide (((List.length (s.drop i):Nat):Int)>=((List.length (prt t r):Nat):Int))=true:=by simp only [ge_iff_le,decide_eq_true_eq];omega
     rw [if_pos hd,Pj (by omega),Option.bind_some,hd,Bool.true_and,Option.bind_some]
     congr 1
     rw [Bool.eq_iff_iff,beq_iff_eq,List.isPrefixOf_iff_prefix]
     constructor
     ·intro h2
      have:=List.take_prefix (prt t r).length (s.drop i)
      rw [h2] at this;exact this
     ·intro h2;exact (List.prefix_iff_eq_take.1 h2).symm
    ·have hd:decide (((List.length (s.drop i):Nat):Int)>=((List.length (prt t r):Nat):Int))=false:=by simp only [ge_iff_le,decide_eq_false_iff_not];omega
     rw [if_neg (by rw [hd];simp),Option.bind_some,hd,Bool.false_and,Option.bind_some]
     congr 1
     rw [eq_comm,← Bool.not_eq_true,List.isPrefixOf_iff_prefix]
     intro hp'
     exact hle hp'.length_le
   ·have hb:(prt t r).isPrefixOf (s.drop i)=true:=by simpa [hp] using h
    obtain ⟨q1,q2⟩:=Em hb
    have q2:=q2 hi
    rw [EJ (by omega) (by omega)]
    have ep:(i:Int)+((List.length (prt t r):Nat):Int)=((i+(prt t r).length:Nat):Int):=by omega
    rw [ep]
    have hrg:=Xu hT hs q2 hm
    refine Tot.bindA (λ n=>YD hT hs hL hcl hi (by omega) q2 hm s n) ?_
    have hlq:=λ n=>Xv (l:=l) (cur:=cur) (lo:=i*(Aa t).length) (k:=k) (v:=v) (rest:=AP t (AH t q r).1 (s.drop (i+(prt t r).length))) (cells:=((cls t r).length:Nat)) hlo hv (by omega) (by omega) n
    rw [hcl] at hlq
    refine Tot.bindA hlq ?_
    have hy:∀ y,s.drop i=prt t r++y->y=s.drop (i+(prt t r).length):=λ y hy=>by
     rw [q1] at hy
     exact (List.append_cancel_left hy).symm
    by_cases hc:AP t (AH t q r).1 (s.drop (i+(prt t r).length))<0\/(0<=v/\v<=AP t (AH t q r).1 (s.drop (i+(prt t r).length))+((cls t r).length:Nat))
    ·rw [if_pos hc]
     refine hJ cur hC (.refl _) λ _ y hyy q' hq' h0=>?_
     simp only [JlC] at hq' hyy ⊢
     rw [hm] at hq'
     cases hq'
     rw [hy y hyy] at h0 ⊢
     exact ⟨v,hv,by omega,by omega⟩
    ·rw [if_neg hc]
     have hfin:=Rl cur
     have hbd:AP t (AH t q r).1 (s.drop (i+(prt t r).length))<=((3072*(s.length-i):Nat):Int):=by
      have:3072*(s.length-(i+(prt t r).length)+1)<=3072*(s.length-i):=by omega
      omega
     have hlow:=hC.lower (c:=AP t (AH t q r).1 (s.drop (i+(prt t r).length))+((cls t r).length:Nat)) hq hv (by
      have:=Pn hst (GG (t:=t) (q:=(AH t q r).1) (x:=s.drop (i+(prt t r).length)) (by omega))
      rwa [← q1] at this) (by omega) (by omega) (B:=20000000) (by omega)
     refine hJ _ hlow.1 (.set hv (by omega) (by omega)) λ _ y hyy q' hq' h0=>?_
     simp only [JlC] at hq' hyy ⊢
     rw [hm] at hq'
     cases hq'
     rw [hy y hyy]
     exact ⟨_,JlE (by omega),by omega,by omega⟩
   ·have hb:(prt t r).isPrefixOf (s.drop i)=false:=by simpa [hp] using h
    refine hJ cur hC (.refl _) λ _ y hyy=>?_
    simp only at hyy
    rw [hyy] at hb
    rw [← Bool.not_eq_true,List.isPrefixOf_iff_prefix] at hb
    exact absurd (List.prefix_append _ _) hb
 ·rintro ⟨c,a'⟩ ⟨e1,cur,e2,hC,hlw,hA⟩
  simp only at e1 e2
  subst e1 e2
  rw [List.take_length] at hA
  unfold Ba
  exact Tot.iteF (by simp) (Tot.pure ⟨cur,rfl,hC,hlw,hA⟩)
theorem Jfs {i:Nat} (hi:i<=s.length) {l ls cur1:List Int} (hL:Lat t s i l ls) (h1:Col t (s.drop i) (3072*(s.length-i)) (Aa t) cur1) :
  Tot (λ n=>whl (λ (x:((List Int)×Int))=>Bb n (i:Int) s (BH t) (Hj (Aa t).length (s.length+1)) ls (i*(Aa t).length,(Aa t).length) x.1 x.2) n (spl l (i*(Aa t).length) cur1,0))
   (λ y=>∃ cur,y=spl l (i*(Aa t).length) cur/\Col t (s.drop i) (3072*(s.length-i)) (Aa t) cur/\∀ (j:Nat) q,(Aa t)[j]? = some q->∀ g∈Be t q,A1 t (s.drop i) cur j g):=by
 have hlen:=HM hT
 have hgl:(BH t).Arcs.length=(Aa t).length:=by simp [BH]
 refine Tot.upto (body:=λ n x=>Bb n (i:Int) s (BH t) (Hj (Aa t).length (s.length+1)) ls (i*(Aa t).length,(Aa t).length) x.1 x.2) (Aa t).length (λ k x=>x.2=(k:Int)/\∃ cur,x.1=spl l (i*(Aa t).length) cur/\Col t (s.drop i) (3072*(s.length-i)) (Aa t) cur/\∀ (j:Nat) q,j<k->(Aa t)[j]? = some q->∀ g∈Be t q,A1 t (s.drop i) cur j g) ?_ ?_ _ ⟨rfl,cur1,rfl,h1,by omega⟩
 ·rintro k ⟨c,k'⟩ hk ⟨e1,cur,e2,hC,hA⟩
  simp only at e1 e2
  subst e1 e2
  have hq:(Aa t)[k]? = some (Aa t)[k]:=Jls hk
  unfold Bb
  have hix:idx (BH t).Arcs (k:Int)=some (Be t (Aa t)[k]):=Ei (by simp [BH,hk])
  refine Tot.iteT (by rw [hgl];exact He hk) (Tot.bindC hix (Tot.bind (Jfr hT hs hi hL hq hC (BH t)) ?_))
  rintro _ ⟨cur',rfl,hC',hlw,hA'⟩
  refine Tot.pure ⟨CN (by omega),cur',rfl,hC',λ j q hj hjq g hg=>?_⟩
  by_cases e:k=j
  ·subst e
   rw [hq] at hjq;cases hjq
   exact hA' g hg
  ·exact (hA j q (by omega) hjq g hg).low hlw
 ·rintro ⟨c,k'⟩ ⟨e1,cur,e2,hC,hA⟩
  simp only at e1 e2
  subst e1 e2
  unfold Bb
  exact Tot.iteF (by rw [hgl];simp) (Tot.pure ⟨cur,rfl,hC,λ j q hq=>hA j q (Ar hq) hq⟩)
end
end Go.AI
end
section
namespace Go.AI
section
variable {t:Ad} (hT:F8 t) {s:List UInt8} (hs:s.length<=4000)
include hT hs
theorem Jft {i lo:Nat} {l:List Int} (hlo0:lo+(Aa t).length<=l.length) {cur0 cur1:List Int} {ch1:Bool} {k:Nat} {q:Ab} (hq:(Aa t)[k]? = some q) (h1:VO t (s.drop i) (3072*(s.length-i)) 20000000 cur0 cur1 ch1 k 0) (x0:List UInt8) (gr:AM) (offs:List (Nat×Nat)) (ls:List Int) :
  Tot (λ n=>whl (λ (x:((List Int)×Bool×Int))=>Bc n x0 gr offs ls (lo,(Aa t).length) (k:Int) (Be t q) x.1 x.2.1 x.2.2) n (spl l lo cur1,ch1,0))
   (λ y=>∃ cur,y.1=spl l lo cur/\VO t (s.drop i) (3072*(s.length-i)) 20000000 cur0 cur y.2 k (Be t q).length):=by
 have hlen:=HM hT
 have hrl:=hT.tab.1
 have hgl:=Uz t q
 have hkl:=Ar hq
 refine Tot.upto (body:=λ n x=>Bc n x0 gr offs ls (lo,(Aa t).length) (k:Int) (Be t q) x.1 x.2.1 x.2.2) (Be t q).length (λ a x=>x.2.2=(a:Int)/\∃ cur,x.1=spl l lo cur/\VO t (s.drop i) (3072*(s.length-i)) 20000000 cur0 cur x.2.1 k a) ?_ ?_ _ ⟨rfl,cur1,rfl,h1⟩
 ·rintro a ⟨c,ch,a'⟩ ha ⟨e1,cur,e2,hP⟩
  simp only at e1 e2 hP
  subst e1 e2
  have hC:=hP.col
  have hcl:=hC.len
  have hlo:lo+cur.length<=l.length:=by omega
  obtain ⟨r,m,hst,hge,hm,p1,p2,p3⟩:=Xw hT (Jlu hq) (List.getElem_mem ha)
  obtain ⟨v,hv⟩:=hC.get hkl
  have hml:=Ar hm
  obtain ⟨w,hw⟩:=hC.get hml
  have hJ:∀ cur' ch',VO t (s.drop i) (3072*(s.length-i)) 20000000 cur0 cur' ch' k (a+1)->Tot (λ n=>A6 n (a:Int) (spl l lo cur') ch') (Rd2 (λ x:List Int×Bool×Int=>x.2.2=((a+1:Nat):Int)/\∃ cur,x.1=spl l lo cur/\VO t (s.drop i) (3072*(s.length-i)) 20000000 cur0 cur x.2.1 k (a+1)) (λ y=>∃ cur,y.1=spl l lo cur/\VO t (s.drop i) (3072*(s.length-i)) 20000000 cur0 cur y.2 k (Be t q).length)):=by
   intro cur' ch' h
   unfold A6
   exact Tot.pure ⟨CN (by omega),cur',rfl,h⟩
  have hskip:A2 cur k (Be t q)[a]->VO t (s.drop i) (3072*(s.length-i)) 20000000 cur0 cur ch k (a+1):=by
   intro hA
   refine ⟨hC,hP.all,λ hc=>?_,hP.less⟩
   obtain ⟨g1,g2,g3⟩:=hP.same hc
   refine ⟨g1,g2,λ q' hq' g hg=>?_⟩
   rw [hq] at hq'
   cases hq'
   rw [List.take_add_one,Jls ha,List.mem_append] at hg
   rcases hg with hg|hg
   ·exact g3 q hq g hg
   ·simp at hg;subst hg;rw [← g1];exact hA
  unfold Bc
  refine Tot.iteT (He ha) (Tot.bindC (Fl ha) ?_)
  rw [hge] at hskip ⊢
  simp only
  by_cases hp:prt t r=[]
  ·have hpd:(prt t r==[])=true:=by simp [hp]
   have hix:ixP (spl l lo cur) (lo,(Aa t).length) (m:Int)=some w:=Jr hml (by rw [E5 hlo (by omega)];exact hw)
   refine Tot.gE hpd (Ev.all λ n=>hix) (Tot.iteT hpd ?_)
   have hwt:=hC.top hw
   have hlq:=λ n=>Xv (l:=l) (cur:=cur) (lo:=lo) (k:=k) (v:=v) (rest:=w) (cells:=((cls t r).length:Nat)) hlo hv (by omega) (by omega) n
   rw [hcl] at hlq
   refine Tot.bindA hlq ?_
   by_cases hc:w<0\/(0<=v/\v<=w+((cls t r).length:Nat))
   ·rw [if_pos hc]
    refine Tot.iteF (by simp) (hJ cur ch (hskip λ _ w' hw' h0=>?_))
    simp only [JlC] at hw' ⊢
    rw [hw] at hw'
    cases hw'
    exact ⟨v,hv,by omega,by omega⟩
   ·rw [if_neg hc]
    refine Tot.iteT (by simp [hp]) ?_
    obtain ⟨v',hv',hd⟩:=hC.ach m _ hm
    rw [hw] at hv'
    cases hv'
    have hbn:=hC.bnd m w hw
    have hfin:=Rl cur
    have hlow:=hC.lower (c:=w+((cls t r).length:Nat)) hq hv (by
     have:=Pn hst (hd.resolve_left (by omega))
     rwa [hp,List.nil_append] at this) (by omega) (by omega) (B:=20000000) (by omega)
    refine hJ _ _ ⟨hlow.1,λ j q' hj g hg=>(hP.all j q' hj g hg).low (.set hv (by omega) (by omega)),(λ h=>by cases h),λ _=>?_⟩
    cases hch:ch with
    | false=>rw [← (hP.same hch).1];exact hlow.2
    | true=>have:=hP.less hch;have:=hlow.2;omega
  ·have hpd:(prt t r==[])=false:=by simp [hp]
   refine Tot.gF hpd (Tot.iteF hpd (Tot.iteF (by simp) (hJ cur ch (hskip λ h=>absurd h hp))))
 ·rintro ⟨c,ch,a'⟩ ⟨e1,cur,e2,hP⟩
  simp only at e1 e2 hP
  subst e1 e2
  unfold Bc
  exact Tot.iteF (by simp) (Tot.pure ⟨cur,rfl,hP⟩)
theorem Jfu {i lo:Nat} {l:List Int} (hlo0:lo+(Aa t).length<=l.length) {cur0:List Int} (h1:Col t (s.drop i) (3072*(s.length-i)) (Aa t) cur0) (h2:∀ (j:Nat) q,(Aa t)[j]? = some q->∀ g∈Be t q,A1 t (s.drop i) cur0 j g) (x0:List UInt8) (offs:List (Nat×Nat)) (ls:List Int) :
  Tot (λ n=>whl (λ (x:((List Int)×Bool×Int))=>Bd n x0 (BH t) offs ls (lo,(Aa t).length) x.1 x.2.1 x.2.2) n (spl l lo cur0,false,0))
   (λ y=>∃ cur,y.1=spl l lo cur/\VO t (s.drop i) (3072*(s.length-i)) 20000000 cur0 cur y.2 (Aa t).length 0):=by
 have hlen:=HM hT
 have hgl:(BH t).Arcs.length=(Aa t).length:=by simp [BH]
 refine Tot.upto (body:=λ n x=>Bd n x0 (BH t) offs ls (lo,(Aa t).length) x.1 x.2.1 x.2.2) (Aa t).length (λ k x=>x.2.2=(k:Int)/\∃ cur,x.1=spl l lo cur/\VO t (s.drop i) (3072*(s.length-i)) 20000000 cur0 cur x.2.1 k 0) ?_ ?_ _ ⟨rfl,cur0,rfl,h1,h2,λ _=>⟨rfl,by omega,by simp⟩,λ h=>by cases h⟩
 ·rintro k ⟨c,ch,k'⟩ hk ⟨e1,cur,e2,hP⟩
  simp only at e1 e2 hP
  subst e1 e2
  have hq:(Aa t)[k]? = some (Aa t)[k]:=Jls hk
  unfold Bd
  have hix:idx (BH t).Arcs (k:Int)=some (Be t (Aa t)[k]):=Ei (by simp [BH,hk])
  refine Tot.iteT (by rw [hgl];exact He hk) (Tot.bindC hix (Tot.bind (Jft hT hs hlo0 hq hP x0 (BH t) offs ls) ?_))
  rintro ⟨_,ch'⟩ ⟨cur',rfl,hP'⟩
  refine Tot.pure ⟨CN (by omega),cur',rfl,hP'.col,hP'.all,λ hc=>?_,hP'.less⟩
  obtain ⟨g1,g2,g3⟩:=hP'.same hc
  refine ⟨g1,λ j q hj hjq g hg=>?_,by simp⟩
  by_cases e:k=j
  ·subst e
   rw [hq] at hjq;cases hjq
   exact g3 _ hq g (by rw [List.take_length];exact hg)
  ·exact g2 j q (by omega) hjq g hg
 ·rintro ⟨c,ch,k'⟩ ⟨e1,cur,e2,hP⟩
  simp only at e1 e2 hP
  subst e1 e2
  unfold Bd
  exact Tot.iteF (by rw [hgl];simp) (Tot.pure ⟨cur,rfl,hP⟩)
theorem Jfv {i lo:Nat} {l:List Int} (hlo0:lo+(Aa t).length<=l.length) {cur0:List Int} (h1:Col t (s.drop i) (3072*(s.length-i)) (Aa t) cur0) (h2:∀ (j:Nat) q,(Aa t)[j]? = some q->∀ g∈Be t q,A1 t (s.drop i) cur0 j g) (x0:List UInt8) (offs:List (Nat×Nat)) (ls:List Int) :
  Tot (λ n=>whl (λ (x:((List Int)×Bool))=>Bo n x0 (BH t) offs ls (lo,(Aa t).length) x.1 x.2) n (spl l lo cur0,true))
   (λ y=>y=spl l lo (AW t (s.drop i))):=by
 refine Tot.whl (body:=λ n x=>Bo n x0 (BH t) offs ls (lo,(Aa t).length) x.1 x.2) (λ m x=>∃ cur,x.1=spl l lo cur/\Col t (s.drop i) (3072*(s.length-i)) (Aa t) cur/\(∀ (j:Nat) q,(Aa t)[j]? = some q->∀ g∈Be t q,A1 t (s.drop i) cur j g)/\((x.2=true/\m=phi 20000000 cur+1)\/(x.2=false/\m=0/\∀ (j:Nat) q,(Aa t)[j]? = some q->∀ g∈Be t q,A2 cur j g))) ?_ (phi 20000000 cur0+1) (spl l lo cur0,true) ⟨cur0,rfl,h1,h2,.inl ⟨rfl,rfl⟩⟩
 rintro m ⟨c,ch⟩ ⟨cur,e2,hC,hA,hm⟩
 simp only at e2 hm
 subst e2
 unfold Bo
 rcases hm with ⟨rfl,rfl⟩|⟨rfl,rfl,hR⟩
 ·refine Tot.iteT rfl (Tot.bind (Jfu hT hs hlo0 hC hA x0 offs ls) ?_)
  rintro ⟨_,ch'⟩ ⟨cur',rfl,hP⟩
  simp only at hP
  cases ch' with
  | false=>
   obtain ⟨g1,g2,_⟩:=hP.same rfl
   subst g1
   exact Tot.pure ⟨0,by omega,cur',rfl,hC,hA,.inr ⟨rfl,rfl,λ j q hq=>g2 j q (Ar hq) hq⟩⟩
  | true=>
   have:=hP.less rfl
   exact Tot.pure ⟨phi 20000000 cur'+1,by omega,cur',rfl,hP.col,hP.all,.inl ⟨rfl,rfl⟩⟩
 ·refine Tot.iteF rfl (Tot.pure ?_)
  show spl l lo cur=spl l lo (AW t (s.drop i))
  congr 1
  refine List.ext_getElem? λ j=>?_
  rcases Nat.lt_or_ge j (Aa t).length with hj|hj
  ·have hq:(Aa t)[j]? = some (Aa t)[j]:=Jls hj
   rw [hC.exact (JdQ hT) ⟨λ j q k hjq hst hp y hy hc=>?_⟩ ⟨λ j q k hjq hst hp=>?_⟩ hq]
   ·unfold AW;rw [Jlw,hq];rfl
   ·have hk:=DR hst
    obtain ⟨m,hm,hmg⟩:=Du (GQ hT (Jlu hjq) hst)
    have:=hA j q hjq _ (Qj.2 ⟨k,by omega,hst,rfl⟩) hp y hy (AH t q k).1 (by rw [hm];simpa using hmg) hc
    simpa using this
   ·have hk:=DR hst
    obtain ⟨m,hm,hmg⟩:=Du (GQ hT (Jlu hjq) hst)
    obtain ⟨w,hw⟩:=hC.get (Ar hmg)
    refine ⟨m,w,hmg,hw,λ h0=>?_⟩
    exact hR j q hjq _ (Qj.2 ⟨k,by omega,hst,rfl⟩) hp w (by rw [hm];simpa using hw) h0
  ·rw [JlO (by rw [hC.len];exact hj),JlO (by simp [AW];exact hj)]
omit hT hs in
theorem Jfw {l cur:List Int} {lo:Nat} (hlo:lo+cur.length<=l.length) (hl:cur.length<1000000):Tot (λ n=>whl (λ (x:(Int×Int))=>CD n (lo,cur.length) (spl l lo cur) x.1 x.2) n (-1,0)) (λ y=>y=Bf cur):=by
 refine Tot.upto (body:=λ n x=>CD n (lo,cur.length) (spl l lo cur) x.1 x.2) cur.length (λ k x=>x.2=(k:Int)/\x.1=(cur.take k).foldl Fq (-1)) ?_ ?_ _ ⟨rfl,rfl⟩
 ·rintro k ⟨a,k'⟩ hk ⟨e1,e2⟩
  simp only at e1 e2
  subst e1
  have hJ:∀ b,b=Fq a cur[k]->Tot (λ n=>C6 n (k:Int) b) (Rd2 (λ x:Int×Int=>x.2=((k+1:Nat):Int)/\x.1=(cur.take (k+1)).foldl Fq (-1)) (λ y=>y=Bf cur)):=by
   intro b hb
   unfold C6
   exact Tot.pure ⟨CN (by omega),by rw [Uy hk,← e2];exact hb⟩
  unfold CD
  refine Tot.iteT (He hk) (Tot.bindC (Jr hk (v:=cur[k]) (by rw [E5 hlo hk];exact Jls hk)) (Tot.ite (λ h=>hJ _ ?_) λ h=>hJ _ ?_))
  ·simp only [Jlt,JlM,decide_eq_true_eq] at h
   unfold Fq;rw [if_pos ⟨h.1,h.2⟩]
  ·unfold Fq
   rw [if_neg]
   intro hc
   rw [← Bool.not_eq_true] at h
   refine h ?_
   simp only [Jlt,JlM,decide_eq_true_eq]
   exact ⟨hc.1,hc.2⟩
 ·rintro ⟨a,k'⟩ ⟨e1,e2⟩
  simp only at e1 e2
  subst e1
  rw [List.take_length] at e2
  unfold CD
  exact Tot.iteF (by simp) (Tot.pure e2)
omit hT hs in
theorem Jfx {l cur:List Int} {lo:Nat} (hlo:lo+cur.length<=l.length) (hl:cur.length<1000000) (hb:∀ v∈cur,-1<=v/\v<=13000000):Tot (λ n=>whl (λ (x:((List Int)×Int))=>CE n (lo,cur.length) (Bf cur) x.1 x.2) n (spl l lo cur,0)) (λ y=>y=spl l lo (Ct cur)):=by
 have hlr:=Qi (by decide) hb
 refine Tot.upto (body:=λ n x=>CE n (lo,cur.length) (Bf cur) x.1 x.2) cur.length (λ k x=>x.2=(k:Int)/\x.1=spl l lo ((Ct cur).take k++cur.drop k)) ?_ ?_ _ ⟨rfl,by simp⟩
 ·rintro k ⟨c,k'⟩ hk ⟨e1,e2⟩
  simp only at e1 e2
  subst e1 e2
  have hnl:(Ct cur).length=cur.length:=by simp [Ct]
  have hml:((Ct cur).take k++cur.drop k).length=cur.length:=by simp;omega
  have hlm:lo+((Ct cur).take k++cur.drop k).length<=l.length:=by omega
  have htk:((Ct cur).take k).length=k:=by simp;omega
  have hg:((Ct cur).take k++cur.drop k)[k]? = some cur[k]:=by
   rw [JlL (by omega),htk,List.getElem?_drop,Nat.sub_self,Nat.add_zero]
   exact Jls hk
  have hbk:=hb _ (List.getElem_mem hk)
  have hn:(Ct cur)[k]? = some (if cur[k]<0 then -1 else cur[k]-Bf cur):=by rw [Ct,Jlw,Jls hk];rfl
  have hset:∀ v,(Ct cur)[k]? = some v->((Ct cur).take k++cur.drop k).set k v=(Ct cur).take (k+1)++cur.drop (k+1):=by
   intro v hv
   refine List.ext_getElem? λ j=>?_
   by_cases e:k=j
   ·subst e
    rw [JlE (by omega),JlA (by simp;omega),JlN (by omega),hv]
   ·rw [JlJ e]
    by_cases hj:j<k
    ·rw [JlA (by omega),JlA (by simp;omega),JlN hj,JlN (by omega)]
    ·have:((Ct cur).take (k+1)).length=k+1:=by simp;omega
     rw [JlL (by omega),JlL (by omega),List.getElem?_drop,List.getElem?_drop]
     congr 1;omega
  have hJ:∀ c',c'=spl l lo ((Ct cur).take (k+1)++cur.drop (k+1))->Tot (λ n=>C7 n (k:Int) c') (Rd2 (λ x:List Int×Int=>x.2=((k+1:Nat):Int)/\x.1=spl l lo ((Ct cur).take (k+1)++cur.drop (k+1))) (λ y=>y=spl l lo (Ct cur))):=by
   intro c' hc'
   unfold C7
   exact Tot.pure ⟨CN (by omega),hc'⟩
  have hix:ixP (spl l lo ((Ct cur).take k++cur.drop k)) (lo,cur.length) (k:Int)=some cur[k]:=Jr hk (by rw [E5 hlm (by omega)];exact hg)
  unfold CE
  refine Tot.iteT (He hk) (Tot.bindC hix (Tot.ite (λ h=>?_) λ h=>hJ _ ?_))
  ·have h0:0<=cur[k]:=by simpa using h
   have hle:=Qh (List.getElem_mem hk) h0
   refine Tot.bindC hix ?_
   rw [JlC]
   refine Tot.bindC (F6 (by rw [Ig hlm];omega)) (hJ _ ?_)
   rw [Mz hlm (by omega),I6 (by omega) (by omega),hset _ (by rw [hn,if_neg (by omega)])]
  ·have h0:cur[k]<0:=by simpa using h
   rw [← hset (-1) (by rw [hn,if_pos h0])]
   refine congrArg (spl l lo) ?_
   refine List.ext_getElem? λ j=>?_
   by_cases e:k=j
   ·subst e
    rw [JlE (by omega),hg]
    congr 1;omega
   ·rw [JlJ e]
 ·rintro ⟨c,k'⟩ ⟨e1,e2⟩
  simp only at e1 e2
  subst e1 e2
  unfold CE
  refine Tot.iteF (by simp) (Tot.pure ?_)
  show spl l lo _=_
  rw [List.drop_length,List.append_nil,List.take_of_length_le (by simp [Ct])]
theorem Jjj {i:Nat} (hi:i<=s.length) {l ls:List Int} (hL:Lat t s i l ls) :
  Ev (λ n=>BG n (i:Int) s (BH t) (Hj (Aa t).length (s.length+1)) ls l) (spl l (i*(Aa t).length) (Ct (AW t (s.drop i))),Bf (AW t (s.drop i))):=by
 have hlen:=HM hT
 have hlo0:i*(Aa t).length+(Aa t).length<=l.length:=by rw [hL.len];exact Ja (by omega)
 have hr:=Rn hT hs hi
 refine Tot.ev ?_
 unfold BG
 refine Tot.bindC (Tc (by omega)) ?_
 have hcut:=Jd3 hlo0
 have hcl:((l.drop (i*(Aa t).length)).take (Aa t).length).length=(Aa t).length:=by simp;omega
 have h1:=Jfq hT hs hi (l:=l) (cur0:=(l.drop (i*(Aa t).length)).take (Aa t).length) hcl (by omega) (Hj (Aa t).length (s.length+1)) ls
 rw [hcut] at h1
 refine Tot.bind h1 ?_
 rintro _ rfl
 refine Tot.bind (Jfs hT hs hi hL (Us t _ _ _)) ?_
 rintro _ ⟨cur,rfl,hC,hA⟩
 refine Tot.bind (Jfv hT hs hlo0 hC hA s _ ls) ?_
 rintro _ rfl
 refine Tot.bind (R:=λ y=>y=(spl l (i*(Aa t).length) (Ct (AW t (s.drop i))),Bf (AW t (s.drop i)))) ?_ (λ y hy=>by subst hy;exact Tot.pure rfl)
 have hlr:i*(Aa t).length+(AW t (s.drop i)).length<=l.length:=by omega
 have r1:=Jfw hlr (by omega)
 have r2:=Jfx hlr (by omega) (λ v hv=>VM hT hs hi hv)
 rw [hr.1] at r1 r2
 unfold HX
 refine Tot.bind r1 ?_
 rintro _ rfl
 refine Tot.bind r2 ?_
 rintro _ rfl
 exact Tot.pure rfl
end
end Go.AI
end
section
namespace Go.AI
structure Cl (t:Ad) (s:List UInt8) (P:Nat->Prop) (l ls:List Int):Prop where
 len:l.length=(Aa t).length*(s.length+1)
 ll:ls.length=s.length+1
 col:∀ p,P p->p<=s.length->(l.drop (p*(Aa t).length)).take (Aa t).length=Ct (AW t (s.drop p))
 lst:∀ p,P p->p<=s.length->ls[p]? = some (Bf (AW t (s.drop p)))
theorem Cl.mono {t:Ad} {s:List UInt8} {P R:Nat->Prop} {l ls:List Int} (h:Cl t s P l ls) (hr:∀ p,p<=s.length->R p->P p):Cl t s R l ls:=⟨h.len,h.ll,λ p hp hl=>h.col p (hr p hl hp) hl,λ p hp hl=>h.lst p (hr p hl hp) hl⟩
theorem Cl.lat {t:Ad} {s:List UInt8} {i:Nat} {P:Nat->Prop} {l ls:List Int} (h:Cl t s P l ls) (hr:∀ p,p<=s.length->i<p->P p):Lat t s i l ls:=⟨h.len,h.ll,λ p h1 h2=>h.col p (hr p h2 h1) h2,λ p h1 h2=>h.lst p (hr p h2 h1) h2⟩
section
variable {t:Ad} (hT:F8 t) {s:List UInt8} (hs:s.length<=4000)
theorem KS (t:Ad) (x:List UInt8):(Ct (AW t x)).length=(Aa t).length:=by simp [Ct,AW]
theorem Cl.set {P:Nat->Prop} {l ls:List Int} (h:Cl t s P l ls) {i:Nat} (hi:i<=s.length):Cl t s (λ p=>P p\/p=i) (spl l (i*(Aa t).length) (Ct (AW t (s.drop i)))) (ls.set i (Bf (AW t (s.drop i)))):=by
 have hnl:=KS t (s.drop i)
 have hlo0:i*(Aa t).length+(Ct (AW t (s.drop i))).length<=l.length:=by rw [h.len,hnl];exact Ja (by omega)
 have hll:=h.ll
 refine ⟨by rw [Ig hlo0];exact h.len,by rw [JlK];exact h.ll,λ p h1 h2=>?_,λ p h1 h2=>?_⟩
 ·by_cases e:p=i
  ·subst e
   have:=Jaz hlo0
   rwa [hnl] at this
  ·rw [YC hlo0]
   ·exact h.col p (h1.resolve_right e) h2
   ·rw [hnl]
    rcases Nat.lt_or_gt_of_ne e with e|e
    ·exact .inl (VN e)
    ·exact .inr (VN e)
 ·by_cases e:i=p
  ·subst e
   exact JlE (by omega)
  ·rw [JlJ e]
   exact h.lst p (h1.resolve_right λ h=>e h.symm) h2
theorem Cl.memo {P:Nat->Prop} {l ls:List Int} (h:Cl t s P l ls) (hp:∀ p,p<=s.length->P p):ZX l (Hj (Aa t).length (s.length+1))=some ()/\(⟨s,PG l (Hj (Aa t).length (s.length+1)),ls⟩:AX)=Bp t s:=by
 constructor
 ·unfold ZX BE
  rw [if_pos]
  rw [List.all_eq_true]
  intro x hx
  simp only [Hj,List.mem_map,List.mem_range] at hx
  obtain ⟨i,hi,rfl⟩:=hx
  rw [decide_eq_true_eq,h.len]
  exact Ja hi
 ·unfold Bp PG Hj
  rw [List.map_map]
  congr 1
  ·refine List.map_congr_left λ i hi=>?_
   have:=List.mem_range.1 hi
   exact h.col i (hp i (by omega)) (by omega)
  ·refine List.ext_getElem? λ j=>?_
   rw [Jlw]
   rcases Nat.lt_or_ge j (s.length+1) with hj|hj
   ·rw [h.lst j (hp j (by omega)) (by omega),List.getElem?_range hj];rfl
   ·rw [JlO (by rw [h.ll];exact hj),JlO (by simpa using hj)];rfl
include hT hs
theorem Jd4:Ev (λ n=>B8 n s (BH t)) (Hj (Aa t).length (s.length+1),List.replicate (s.length+1) 0,List.replicate ((Aa t).length*(s.length+1)) 0):=by
 have hlen:=HM hT
 have hgl:(BH t).Arcs.length=(Aa t).length:=by simp [BH]
 have hmul:(Aa t).length*(s.length+1)<=768*4001:=Nat.mul_le_mul hlen (by omega)
 refine Tot.ev ?_
 unfold B8
 have e1:AE .i64 ((s.length:Nat):Int) 1=((s.length+1:Nat):Int):=CN (by omega)
 rw [e1,hgl]
 have e2:Kd .i64 (((Aa t).length:Nat):Int) ((s.length+1:Nat):Int)=(((Aa t).length*(s.length+1):Nat):Int):=by
  have:(((Aa t).length:Nat):Int)*((s.length+1:Nat):Int)=(((Aa t).length*(s.length+1):Nat):Int):=by push_cast;rfl
  unfold Kd;rw [this];exact w64 (by omega) (by omega)
 rw [e2]
 refine Tot.bindC (S3 (by omega) (by omega)) (Tot.bindC (S3 (by omega) (by omega)) (Tot.bindC (S3 (by omega) (by omega)) ?_))
 simp only [JlC,List.length_replicate]
 refine Tot.bind (R:=λ y=>y=Hj (Aa t).length (s.length+1)) ?_ (λ y hy=>by subst hy;exact Tot.pure rfl)
 refine Tot.upto (body:=λ n x=>BF n s (BH t) _ _ x.1 x.2) (s.length+1) (λ k x=>x.2=(k:Int)/\x.1.length=s.length+1/\∀ j,j<k->x.1[j]? = some (j*(Aa t).length,(Aa t).length)) ?_ ?_ _ ⟨rfl,by simp,by omega⟩
 ·rintro k ⟨m,k'⟩ hk ⟨e3,h1,h2⟩
  simp only at e3 h1 h2
  subst e3
  unfold BF
  rw [e1,hgl]
  have hk1:(k+1)*(Aa t).length<=4001*768:=Nat.mul_le_mul (by omega) hlen
  have hk0:(k+1)*(Aa t).length=k*(Aa t).length+(Aa t).length:=by rw [JlG,Nat.one_mul]
  have hle:=Ja (S:=(Aa t).length) hk
  have i1:AE .i64 (k:Int) 1=((k+1:Nat):Int):=CN (by omega)
  have i2:Kd .i64 (k:Int) (((Aa t).length:Nat):Int)=((k*(Aa t).length:Nat):Int):=by
   have:(k:Int)*(((Aa t).length:Nat):Int)=((k*(Aa t).length:Nat):Int):=by push_cast;rfl
   unfold Kd;rw [this];exact w64 (by omega) (by omega)
  have i3:Kd .i64 ((k+1:Nat):Int) (((Aa t).length:Nat):Int)=(((k+1)*(Aa t).length:Nat):Int):=by
   have:((k+1:Nat):Int)*(((Aa t).length:Nat):Int)=(((k+1)*(Aa t).length:Nat):Int):=by push_cast;rfl
   unfold Kd;rw [this];exact w64 (by omega) (by omega)
  rw [i1,i2,i3,List.length_replicate]
  have hcut:JbI ((Aa t).length*(s.length+1)) ((k*(Aa t).length:Nat):Int) (((k+1)*(Aa t).length:Nat):Int) (((k+1)*(Aa t).length:Nat):Int)=some ():=by
   unfold JbI BE
   rw [if_pos]
   simp only [Jlt,decide_eq_true_eq]
   omega
  refine Tot.iteT (He hk) (Tot.bindC hcut (Tot.bindC (Fl (show k<m.length by omega)) (Tot.bindC (F6 (show k<m.length by omega)) (Tot.pure ⟨rfl,by simp only [JlK];exact h1,λ j hj=>?_⟩))))
  by_cases e:k=j
  ·subst e
   rw [JlE (show k<m.length by omega)]
   simp only [JlC,JlH]
   congr 2;omega
  ·rw [JlJ e];exact h2 j (by omega)
 ·rintro ⟨m,k'⟩ ⟨e3,h1,h2⟩
  simp only at e3 h1 h2
  subst e3
  unfold BF
  rw [e1]
  refine Tot.iteF (by simp) (Tot.pure (List.ext_getElem? λ j=>?_))
  rcases Nat.lt_or_ge j (s.length+1) with hj|hj
  ·rw [h2 j hj];simp [Hj,hj]
  ·rw [JlO (show m.length<=j by omega),JlO (by simpa [Hj] using hj)]
omit hT hs in
theorem YE (t:Ad) (s:List UInt8):Cl t s (λ _=>False) (List.replicate ((Aa t).length*(s.length+1)) 0) (List.replicate (s.length+1) 0):=⟨by simp,by simp,λ _ h=>h.elim,λ _ h=>h.elim⟩
end
end Go.AI
end
section
namespace Go.AI
def Sh (t:Ad) (d:Int) (x x':List UInt8):Prop:=∀ q∈Aa t,(AP t q x<0/\AP t q x'<0)\/(0<=AP t q x/\0<=AP t q x'/\AP t q x'=AP t q x+d)
def EqC (t:Ad) (d:Int) (x x':List UInt8):Prop:=Ct (AW t x)=Ct (AW t x')/\(0<=Bf (AW t x)->Bf (AW t x')-Bf (AW t x)=d)
theorem Jjk {t:Ad} {x:List UInt8} {j:Nat} {q:Ab} (hq:(Aa t)[j]? = some q):(AW t x)[j]? = some (AP t q x):=by unfold AW;rw [Jlw,hq];rfl
theorem MX {t:Ad} {x:List UInt8} {v:Int}:v∈AW t x↔∃ q∈Aa t,v=AP t q x:=by
 unfold AW
 rw [List.mem_map]
 constructor
 ·rintro ⟨q,h,rfl⟩;exact ⟨q,h,rfl⟩
 ·rintro ⟨q,h,rfl⟩;exact ⟨q,h,rfl⟩
theorem KT {t:Ad} (x:List UInt8):(Bf (AW t x)=-1/\∀ q∈Aa t,AP t q x<0)\/(0<=Bf (AW t x)/\(∃ q∈Aa t,Bf (AW t x)=AP t q x)/\∀ q∈Aa t,0<=AP t q x->Bf (AW t x)<=AP t q x):=by
 by_cases h:∃ q∈Aa t,0<=AP t q x
 ·obtain ⟨q,hq,h0⟩:=h
  have h1:=Qh (MX.2 ⟨q,hq,rfl⟩) h0
  refine .inr ⟨h1.1,?_,λ q' hq' h0'=>(Qh (MX.2 ⟨q',hq',rfl⟩) h0').2⟩
  rcases YA (AW t x) with h2|h2
  ·omega
  ·exact MX.1 h2
 ·have hn:∀ q∈Aa t,AP t q x<0:=λ q hq=>Int.not_le.1 λ h0=>h ⟨q,hq,h0⟩
  refine .inl ⟨?_,hn⟩
  rcases YA (AW t x) with h2|h2
  ·exact h2
  ·obtain ⟨q,hq,e⟩:=MX.1 h2
   have:=hn q hq
   have:=Xn t q x
   omega
theorem VP {t:Ad} {x:List UInt8} {j:Nat} {q:Ab} (hq:(Aa t)[j]? = some q):(Ct (AW t x))[j]? = some (if AP t q x<0 then -1 else AP t q x-Bf (AW t x)):=by
 rw [Ct,Jlw,Jjk hq];rfl
theorem EqC.sh {t:Ad} {d:Int} {x x':List UInt8} (h:EqC t d x x'):Sh t d x x':=by
 intro q hq
 obtain ⟨j,hj,e⟩:=List.getElem_of_mem hq
 have hg:(Aa t)[j]? = some q:=by rw [Jls hj,e]
 have he:=VP (x:=x) hg
 rw [h.1,VP hg] at he
 simp only [JlD] at he
 have g:=h.2
 rcases KT (t:=t) x with ⟨a1,a2⟩|⟨a1,_,a3⟩
 ·have b1:=a2 q hq
  rcases KT (t:=t) x' with ⟨c1,c2⟩|⟨c1,_,c3⟩
  ·exact .inl ⟨b1,c2 q hq⟩
  ·refine .inl ⟨b1,Int.not_le.1 λ h0=>?_⟩
   have:=c3 q hq h0
   rw [if_neg (by omega),if_pos b1] at he
   omega
 ·rcases KT (t:=t) x' with ⟨c1,c2⟩|⟨c1,_,c3⟩
  ·have:=g a1;
   have b2:=c2 q hq
   refine .inl ⟨Int.not_le.1 λ h0=>?_,b2⟩
   have:=a3 q hq h0
   rw [if_pos b2,if_neg (by omega)] at he
   omega
  ·have hd:=g a1
   by_cases h0:AP t q x<0
   ·refine .inl ⟨h0,Int.not_le.1 λ h1=>?_⟩
    have:=c3 q hq h1
    rw [if_neg (by omega),if_pos h0] at he
    omega
   ·by_cases h1:AP t q x'<0
    ·have:=a3 q hq (by omega)
     rw [if_pos h1,if_neg h0] at he
     omega
    ·rw [if_neg h1,if_neg h0] at he
     exact .inr ⟨by omega,by omega,by omega⟩
theorem Sh.lst {t:Ad} {d:Int} {x x':List UInt8} (h:Sh t d x x'):Bf (AW t x')=if Bf (AW t x)<0 then -1 else Bf (AW t x)+d:=by
 rcases KT (t:=t) x with ⟨a1,a2⟩|⟨a1,⟨q,hq,e⟩,a3⟩
 ·rw [if_pos (by omega)]
  rcases KT (t:=t) x' with ⟨c1,c2⟩|⟨c1,⟨q',hq',e'⟩,c3⟩
  ·exact c1
  ·rcases h q' hq' with h1|h1
   ·omega
   ·have:=a2 q' hq';omega
 ·rw [if_neg (by omega)]
  have hh:=h q hq
  rcases KT (t:=t) x' with ⟨c1,c2⟩|⟨c1,⟨q',hq',e'⟩,c3⟩
  ·have:=c2 q hq;omega
  ·have g1:=c3 q hq (by omega)
   have g2:=h q' hq'
   have g3:=a3 q' hq' (by omega)
   omega
theorem Sh.eqc {t:Ad} {d:Int} {x x':List UInt8} (h:Sh t d x x'):EqC t d x x':=by
 have hl:=h.lst
 refine ⟨List.ext_getElem? λ j=>?_,λ h0=>by rw [hl,if_neg (by omega)];omega⟩
 rcases Nat.lt_or_ge j (Aa t).length with hj|hj
 ·have hg:=Jls hj
  rw [VP hg,VP hg]
  congr 1
  rcases h _ (List.getElem_mem hj) with ⟨h1,h2⟩|⟨h1,h2,h3⟩
  ·rw [if_pos h1,if_pos h2]
  ·rw [if_neg (by omega),if_neg (by omega)]
   have:=(Qh (MX.2 ⟨_,List.getElem_mem hj,rfl⟩) h1).1
   rw [hl,if_neg (by omega)]
   omega
 ·rw [JlO (by rw [KS];exact hj),JlO (by rw [KS];exact hj)]
section
variable {t:Ad} (hT:F8 t)
include hT
theorem Jd5 {d:Int} {x x':List UInt8} (h3:3<=x.length) (ht:x.take 3=x'.take 3) (hS:∀ k,1<=k->k<=3->∀ q∈Aa t,0<=AP t q (x.drop k)->0<=AP t q (x'.drop k)/\AP t q (x'.drop k)<=AP t q (x.drop k)+d) :
  ∀ (p:List Int) (q:Ab),q∈Aa t->Way t q x p->∃ p',Way t q x' p'/\((Fn t p':Nat):Int)<=(Fn t p:Nat)+d:=by
 intro p
 induction p with
 | nil=>intro q _ h;have:=h.nil.1;subst this;simp at h3
 | cons k p ih=>
  intro q hq h
  obtain ⟨h1,y,h2,hw⟩:=h.uncons
  rw [FK]
  obtain ⟨n,rfl⟩:∃ n:Nat,k=n:=⟨k.toNat,by have:=DR h1;omega⟩
  have hq':=GQ hT hq h1
  by_cases he:prt t n=[]
  ·rw [he,List.nil_append] at h2
   subst h2
   obtain ⟨p',g1,g2⟩:=ih _ hq' hw
   have:=g1.cons h1
   rw [he,List.nil_append] at this
   exact ⟨_,this,by rw [FK];omega⟩
  ·have hpl:=(hT.pr h1).1
   have hp0:0<(prt t n).length:=List.length_pos_iff.2 he
   have hy:y=x.drop (prt t n).length:=by rw [h2,List.drop_left]
   have hx':x'=prt t n++x'.drop (prt t n).length:=by
    have e1:x.take (prt t n).length=prt t n:=by rw [h2,List.take_left]
    have e2:x'.take (prt t n).length=x.take (prt t n).length:=by
     have:=congrArg (List.take (prt t n).length) ht
     rwa [List.take_take,List.take_take,Nat.min_eq_left hpl,eq_comm] at this
    have:=List.take_append_drop (prt t n).length x'
    rw [e2,e1] at this
    exact this.symm
   have hc:=Mw hw
   rw [hy] at hc
   have g:=hS _ hp0 hpl _ hq' hc.1
   obtain ⟨p',g1,g2⟩:=GG g.1
   have hn:=g1.cons h1
   rw [← hx'] at hn
   exact ⟨_,hn,by rw [FK];omega⟩
theorem Sh.step {d:Int} {x x':List UInt8} (h3:3<=x.length) (h3':3<=x'.length) (ht:x.take 3=x'.take 3) (hS:∀ k,1<=k->k<=3->Sh t d (x.drop k) (x'.drop k)):Sh t d x x':=by
 have f1:=Jd5 hT (d:=d) h3 ht λ k h1 h2 q hq h0=>by
  rcases hS k h1 h2 q hq with h|h<;>omega
 have f2:=Jd5 hT (d:=-d) h3' ht.symm λ k h1 h2 q hq h0=>by
  rcases hS k h1 h2 q hq with h|h<;>omega
 intro q hq
 by_cases h0:0<=AP t q x
 ·obtain ⟨p,hp,e⟩:=GG h0
  obtain ⟨p',hp',e'⟩:=f1 p q hq hp
  have g:=Mw hp'
  obtain ⟨p2,hp2,e2⟩:=GG g.1
  obtain ⟨p3,hp3,e3⟩:=f2 p2 q hq hp2
  have g3:=Mw hp3
  exact .inr ⟨h0,g.1,by omega⟩
 ·refine .inl ⟨by omega,Int.not_le.1 λ h1=>?_⟩
  obtain ⟨p,hp,e⟩:=GG h1
  obtain ⟨p',hp',e'⟩:=f2 p q hq hp
  have:=(Mw hp').1
  omega
theorem Sh.all {d:Int} {s s':List UInt8} {i a:Nat} (ha:i+3<=a) (hl:a<=s.length) (hl':a<=s'.length) (ht:s.take a=s'.take a) (hS:∀ j,i<=j->j<=i+2->Sh t d (s.drop j) (s'.drop j)):∀ m j,j+m=i->Sh t d (s.drop j) (s'.drop j):=by
 intro m
 induction m using Nat.strongRecOn with
 | _ m ih=>
  intro j hj
  rcases Nat.eq_zero_or_pos m with rfl|h0
  ·exact hS j (by omega) (by omega)
  ·refine Sh.step hT (by simp;omega) (by simp;omega) ?_ λ k h1 h2=>?_
   ·have:=congrArg (λ l=>(List.drop j l).take 3) ht
    simp only [List.drop_take,List.take_take] at this
    rwa [Nat.min_eq_left (by omega)] at this
   ·rw [List.drop_drop,List.drop_drop]
    by_cases hk:k<=m
    ·exact ih (m-k) (by omega) (j+k) (by omega)
    ·exact hS (j+k) (by omega) (by omega)
end
end Go.AI
end
section
namespace Go.AI
def Aq (s put:List UInt8) (a k:Nat):List UInt8:=s.take a++put++s.drop (a+k)
theorem En {s put:List UInt8} {a k:Nat} (h:a+k<=s.length):(Aq s put a k).length=s.length-k+put.length:=by
 simp [Aq];omega
theorem VQ {s put:List UInt8} {a k:Nat} (h:a+k<=s.length) {i:Nat} (hi:a+put.length<=i):(Aq s put a k).drop i=s.drop (i-put.length+k):=by
 unfold Aq
 have e:(s.take a++put).length=a+put.length:=by simp;omega
 rw [List.drop_append,List.drop_eq_nil_of_le (by omega),List.nil_append,e,List.drop_drop]
 congr 1;omega
theorem VR {s put:List UInt8} {a k:Nat} (h:a+k<=s.length):(Aq s put a k).take a=s.take a:=by
 unfold Aq
 rw [List.append_assoc,List.take_append_of_le_length (by simp;omega),List.take_take,Nat.min_self]
def F9 (t:Ad) (s s':List UInt8) (a i:Nat):Prop:=i+3<=a/\∃ d,∀ j,i<=j->j<=i+3->EqC t d (s.drop j) (s'.drop j)
def Pr (t:Ad) (s s':List UInt8) (a b r:Nat):Prop:=r<=b/\(∀ j,r<j->j<b->¬F9 t s s' a j)/\(r=0\/F9 t s s' a r)
theorem Pr.uniq {t:Ad} {s s':List UInt8} {a b r r':Nat} (hab:a<=b) (h:Pr t s s' a b r) (h':Pr t s s' a b r'):r=r':=by
 obtain ⟨h1,h2,h3⟩:=h
 obtain ⟨g1,g2,g3⟩:=h'
 rcases Nat.lt_trichotomy r r' with h|h|h
 ·rcases g3 with g3|g3
  ·omega
  ·exact absurd g3 (h2 r' h (by have:=g3.1;omega))
 ·exact h
 ·rcases h3 with h3|h3
  ·omega
  ·exact absurd h3 (g2 r h (by have:=h3.1;omega))
theorem Zc {t:Ad} {x x':List UInt8} (h:Ct (AW t x)=Ct (AW t x')):Bf (AW t x)<0↔Bf (AW t x')<0:=by
 have key:∀ {x x':List UInt8},Ct (AW t x)=Ct (AW t x')->Bf (AW t x')<0->Bf (AW t x)<0:=by
  intro x x' h hn
  refine Int.not_le.1 λ h0=>?_
  have hS:Sh t (Bf (AW t x')-Bf (AW t x)) x x':=EqC.sh ⟨h,λ _=>rfl⟩
  rcases KT (t:=t) x with ⟨a1,_⟩|⟨_,⟨q,hq,e⟩,_⟩
  ·omega
  ·rcases hS q hq with h1|h1
   ·omega
   ·have:=(Qh (MX.2 ⟨q,hq,rfl⟩) h1.2.1).1
    omega
 exact ⟨key h.symm,key h⟩
section
variable {t:Ad} (hT:F8 t)
include hT
theorem Jjl {a l:List Int} {lo S:Nat} (h:lo+S<=l.length) (ha:a.length<1000000) (hS:S<1000000):Ev (λ n=>B9 n a (lo,S) l) (decide (a=(l.drop lo).take S)):=by
 have _:=hT
 have hl:((l.drop lo).take S).length=S:=by simp;omega
 refine Tot.ev ?_
 unfold B9
 by_cases he:a.length=S
 ·refine Tot.iteF (by simp [he]) (Tot.bind (R:=λ y:Unit⊕Bool=>(y=.inl ()/\a=(l.drop lo).take S)\/(y=.inr false/\a≠(l.drop lo).take S)) ?_ ?_)
  ·refine Tot.upto (body:=λ n x=>Bs n a (lo,S) l x) a.length (λ k x=>x=(k:Int)/\a.take k=((l.drop lo).take S).take k) ?_ ?_ _ ⟨rfl,rfl⟩
   ·rintro k _ hk ⟨rfl,e⟩
    have hkb:k<((l.drop lo).take S).length:=by omega
    have hg:l[lo+k]? = some ((l.drop lo).take S)[k]:=by
     rw [← Jls hkb,JlN (by omega),List.getElem?_drop]
    unfold Bs
    refine Tot.iteT (He hk) (Tot.bindC (Fl hk) (Tot.bindC (Jr (by omega) hg) (Tot.ite (λ h=>?_) λ h=>?_)))
    ·refine Tot.pure (.inr ⟨rfl,λ he=>?_⟩)
     have h1:a[k]≠((l.drop lo).take S)[k]:=by simpa using h
     have h2:a[k]? = ((l.drop lo).take S)[k]? := by rw [← he]
     rw [Jls hk,Jls hkb] at h2
     exact h1 (Option.some.inj h2)
    ·refine Tot.pure ⟨CN (by omega),?_⟩
     have h1:a[k]=((l.drop lo).take S)[k]:=by simpa using h
     rw [List.take_add_one,List.take_add_one (l:=(l.drop lo).take S),e,Jls hk,Jls hkb,h1]
   ·rintro _ ⟨rfl,e⟩
    unfold Bs
    refine Tot.iteF (by simp) (Tot.pure (.inl ⟨rfl,?_⟩))
    rw [List.take_length,he] at e
    rwa [List.take_of_length_le (by omega)] at e
  ·rintro y (⟨rfl,h⟩|⟨rfl,h⟩)
   ·exact Tot.pure (decide_eq_true h).symm
   ·exact Tot.pure (decide_eq_false h).symm
 ·refine Tot.iteT (by simp;omega) (Tot.pure (decide_eq_false λ h=>he ?_).symm)
  rw [h,hl]
variable {s:List UInt8} (hs:s.length<=4000) {s':List UInt8} (hs':s'.length<=4000)
include hs
theorem MY {i:Nat} (hi:i<=s.length):-1<=Bf (AW t (s.drop i))/\Bf (AW t (s.drop i))<=13000000:=Qi (by decide) λ _ hv=>VM hT hs hi hv
omit hT hs in
theorem MZ {i:Nat} (hi:i<=s.length):idx (Bp t s).Costs (i:Int)=some (Ct (AW t (s.drop i)))/\idx (Bp t s).Least (i:Int)=some (Bf (AW t (s.drop i))):=⟨Ei (by simp only [Bp,Jlw];rw [List.getElem?_range (by omega)];rfl),Ei (by simp only [Bp,Jlw];rw [List.getElem?_range (by omega)];rfl)⟩
omit hs in
theorem Jjm (hl:s.length<=4000):Ev (λ n=>Dq n (Bp t s) (BH t)) true:=by
 have hlen:=HM hT
 have hgl:(BH t).Arcs.length=(Aa t).length:=by simp [BH]
 have e1:AE .i64 ((s.length:Nat):Int) 1=((s.length+1:Nat):Int):=CN (by omega)
 have c1:(Bp t s).Costs.length=s.length+1:=by simp [Bp]
 have c2:(Bp t s).Least.length=s.length+1:=by simp [Bp]
 have c3:(Bp t s).Text=s:=rfl
 refine Tot.ev ?_
 unfold Dq
 rw [c1,c2,c3,e1]
 refine Tot.iteF (by simp) (Tot.bind (R:=λ y:Unit⊕Bool=>y=.inl ()) ?_ (λ y hy=>by subst hy;exact Tot.pure rfl))
 refine Tot.upto (body:=λ n x=>BV n (Bp t s) (BH t) x) (s.length+1) (λ k x=>x=(k:Int)) ?_ ?_ _ rfl
 ·rintro k _ hk rfl
  unfold BV
  rw [c1]
  refine Tot.iteT (He hk) (Tot.bindC (MZ (t:=t) (s:=s) (show k<=s.length by omega)).1 (Tot.iteF ?_ (Tot.pure (CN (by omega)))))
  rw [KS,hgl];simp
 ·rintro _ rfl
  unfold BV
  rw [c1]
  exact Tot.iteF (by simp) (Tot.pure rfl)
include hs'
theorem YF {a i:Nat} (ha:i+3<=a) (h1:a<=s.length) (h2:a<=s'.length) {l ls:List Int} (hC:Cl t s' (λ p=>i<=p) l ls) (x0:List UInt8) :
  Tot (λ n=>Et n (Bp t s) x0 (i:Int) (Hj (Aa t).length (s'.length+1)) ls l) (λ y=>(y.2=true/\∀ j,i<=j->j<=i+3->EqC t y.1 (s.drop j) (s'.drop j))\/(y.2=false/\¬F9 t s s' a i)):=by
 have hlen:=HM hT
 unfold Et
 refine Tot.bind (R:=λ y:Int⊕(Int×Bool)=>(∃ d,y=.inl d/\∀ j,i<=j->j<=i+3->EqC t d (s.drop j) (s'.drop j))\/(y=.inr (0,false)/\¬F9 t s s' a i)) ?_ ?_
 ·have e3:AE .i64 (i:Int) 3=((i+3:Nat):Int):=by rw [EJ (by omega) (by omega)];omega
  refine Tot.upto (body:=λ n x=>Cs n (Bp t s) x0 (i:Int) (Hj (Aa t).length (s'.length+1)) ls l x.1 x.2.1 x.2.2) 4 (λ m x=>x.2.2=((i+m:Nat):Int)/\(∀ j,i<=j->j<i+m->EqC t x.1 (s.drop j) (s'.drop j))/\(x.2.1=false->∀ j,i<=j->j<i+m->Bf (AW t (s.drop j))<0)/\(x.2.1=true->∃ j,i<=j/\j<i+m/\0<=Bf (AW t (s.drop j)))) ?_ ?_ _ ⟨rfl,by omega,by omega,λ h=>by cases h⟩
  ·rintro m ⟨sh,kn,j'⟩ hm ⟨e1,g1,g2,g3⟩
   simp only at e1 g1 g2 g3
   subst e1
   have hj1:i+m<=s.length:=by omega
   have hj2:i+m<=s'.length:=by omega
   obtain ⟨m1,m2⟩:=MZ (t:=t) hj1
   have hcol:=hC.col (i+m) (by omega) hj2
   have hlst:=Ei (hC.lst (i+m) (by omega) hj2)
   have hr1:=MY hT hs hj1
   have hr2:=MY hT hs' hj2
   have hlo:(i+m)*(Aa t).length+(Aa t).length<=l.length:=by rw [hC.len];exact Ja (by omega)
   unfold Cs
   rw [e3]
   refine Tot.iteT (by simp;omega) (Tot.bindC m1 (Tot.bindC (Tc (by omega)) (Tot.bindE (Jjl hT hlo (by rw [KS];omega) (by omega)) ?_)))
   rw [hcol]
   by_cases he:Ct (AW t (s.drop (i+m)))=Ct (AW t (s'.drop (i+m)))
   ·rw [decide_eq_true he]
    have hneg:=Zc he
    refine Tot.iteF rfl (Tot.bindC m2 ?_)
    have hJ:∀ sh' kn',EqC t sh' (s.drop (i+m)) (s'.drop (i+m))->(∀ j,i<=j->j<i+m->EqC t sh' (s.drop j) (s'.drop j))->(kn'=false->Bf (AW t (s.drop (i+m)))<0/\kn=false)->(kn'=true->kn=true\/0<=Bf (AW t (s.drop (i+m))))->Tot (λ n=>Cr n ((i+m:Nat):Int) sh' kn') (Rd2 (λ x:Int×Bool×Int=>x.2.2=((i+(m+1):Nat):Int)/\(∀ j,i<=j->j<i+(m+1)->EqC t x.1 (s.drop j) (s'.drop j))/\(x.2.1=false->∀ j,i<=j->j<i+(m+1)->Bf (AW t (s.drop j))<0)/\(x.2.1=true->∃ j,i<=j/\j<i+(m+1)/\0<=Bf (AW t (s.drop j)))) (λ y:Int⊕(Int×Bool)=>(∃ d,y=.inl d/\∀ j,i<=j->j<=i+3->EqC t d (s.drop j) (s'.drop j))\/(y=.inr (0,false)/\¬F9 t s s' a i))):=by
     intro sh' kn' h1 h2 h3 h4
     unfold Cr
     refine Tot.pure ⟨CN (by omega),λ j q1 q2=>?_,λ hk j q1 q2=>?_,λ hk=>?_⟩
     ·by_cases e:j=i+m
      ·rw [e];exact h1
      ·exact h2 j q1 (by omega)
     ·by_cases e:j=i+m
      ·rw [e];exact (h3 hk).1
      ·exact g2 (h3 hk).2 j q1 (by omega)
     ·rcases h4 hk with h|h
      ·obtain ⟨j,q1,q2,q3⟩:=g3 h
       exact ⟨j,q1,by omega,q3⟩
      ·exact ⟨i+m,by omega,by omega,h⟩
    by_cases h0:Bf (AW t (s.drop (i+m)))<0
    ·have hn':=hneg.1 h0
     refine Tot.gF (by simp [h0]) (Tot.iteT (by simp [h0]) (hJ sh kn ⟨he,λ h=>by omega⟩ g1 (λ h=>⟨h0,h⟩) (λ h=>.inl h)))
    ·have hn':¬Bf (AW t (s'.drop (i+m)))<0:=λ h=>h0 (hneg.2 h)
     refine Tot.gE (by simp;omega) (Ev.all λ _=>hlst) (Tot.iteF (by simp;omega) (Tot.bindC hlst (Tot.bindC m2 ?_)))
     rw [I6 (by omega) (by omega)]
     by_cases hk:kn=true/\Bf (AW t (s'.drop (i+m)))-Bf (AW t (s.drop (i+m)))≠sh
     ·refine Tot.iteT (by simp [hk.1];exact hk.2) (Tot.pure (.inr ⟨rfl,?_⟩))
      rintro ⟨_,d,hd⟩
      obtain ⟨j,q1,q2,q3⟩:=g3 hk.1
      have w1:=(hd j q1 (by omega)).2 q3
      have w2:=(g1 j q1 q2).2 q3
      have w3:=(hd (i+m) (by omega) (by omega)).2 (by omega)
      exact hk.2 (by omega)
     ·refine Tot.iteF ?_ (hJ _ true ⟨he,λ _=>rfl⟩ (λ j q1 q2=>⟨(g1 j q1 q2).1,λ h=>?_⟩) (λ h=>by cases h) (λ _=>.inr (by omega)))
      ·cases kn with
       | false=>rfl
       | true=>
        have:Bf (AW t (s'.drop (i+m)))-Bf (AW t (s.drop (i+m)))=sh:=Decidable.byContradiction λ h=>hk ⟨rfl,h⟩
        simp [this]
      ·cases kn with
       | false=>have:=g2 rfl j q1 q2;omega
       | true=>
        have:Bf (AW t (s'.drop (i+m)))-Bf (AW t (s.drop (i+m)))=sh:=Decidable.byContradiction λ h=>hk ⟨rfl,h⟩
        rw [this]
        exact (g1 j q1 q2).2 h
   ·rw [decide_eq_false he]
    refine Tot.iteT rfl (Tot.pure (.inr ⟨rfl,?_⟩))
    rintro ⟨_,d,hd⟩
    exact he (hd (i+m) (by omega) (by omega)).1
  ·rintro ⟨sh,kn,j'⟩ ⟨e1,g1,g2,g3⟩
   simp only at e1 g1 g2 g3
   subst e1
   unfold Cs
   rw [e3]
   exact Tot.iteF (by simp) (Tot.pure (.inl ⟨sh,rfl,λ j q1 q2=>g1 j q1 (by omega)⟩))
 ·rintro y (⟨d,rfl,h⟩|⟨rfl,h⟩)
  ·exact Tot.pure (.inl ⟨rfl,h⟩)
  ·exact Tot.pure (.inr ⟨rfl,h⟩)
end
end Go.AI
end
section
namespace Go.AI
section
variable {t:Ad} (hT:F8 t) {s:List UInt8} (hs:s.length<=4000)
include hT hs
omit hs in
theorem Zd {s':List UInt8} {i:Nat} (hi:i<=s'.length) {P:Nat->Prop} {l ls:List Int} (hC:Cl t s' P l ls) {x:List UInt8}:ZW l (Ct (AW t x)) (i*(Aa t).length) (Aa t).length=some (spl l (i*(Aa t).length) (Ct (AW t x))):=by
 have _:=hT
 unfold ZW
 rw [if_pos]
 rw [KS,hC.len]
 exact ⟨Ja (by omega),Nat.le_refl _⟩
theorem Jfy {put:List UInt8} {a k:Nat} (hak:a+k<=s.length) (hl':(Aq s put a k).length<=4000) (gr:AM) (e1 e2:List Int) {l0 ls0:List Int} (h0:Cl t (Aq s put a k) (λ _=>False) l0 ls0) :
  Tot (λ n=>whl (λ (x:((List Int)×(List Int)×Int))=>CF n (Bp t s) ⟨(a:Int),(k:Int),put⟩ (Aq s put a k) gr (Hj (Aa t).length ((Aq s put a k).length+1),e1,e2) x.1 x.2.1 x.2.2) n (ls0,l0,((a+put.length:Nat):Int))) (λ y=>Cl t (Aq s put a k) (λ p=>a+put.length<=p) y.2 y.1):=by
 have hlen:=HM hT
 have hsl:=En (put:=put) hak
 refine Tot.upto (body:=λ n x=>CF n (Bp t s) ⟨(a:Int),(k:Int),put⟩ (Aq s put a k) gr (Hj (Aa t).length ((Aq s put a k).length+1),e1,e2) x.1 x.2.1 x.2.2) ((Aq s put a k).length+1-(a+put.length)) (λ m x=>x.2.2=((a+put.length+m:Nat):Int)/\Cl t (Aq s put a k) (λ p=>a+put.length<=p/\p<a+put.length+m) x.2.1 x.1) ?_ ?_ _ ⟨rfl,h0.mono λ p _ h=>by omega⟩
 ·rintro m ⟨ls,l,i'⟩ hm ⟨q1,hC⟩
  simp only at q1 hC
  subst q1
  have hi:a+put.length+m<=(Aq s put a k).length:=by omega
  have ho:a+m+k<=s.length:=by omega
  have hd:=VQ (put:=put) hak (i:=a+put.length+m) (by omega)
  have ei:a+put.length+m-put.length+k=a+m+k:=by omega
  rw [ei] at hd
  obtain ⟨m1,m2⟩:=MZ (t:=t) ho
  have hll:=hC.ll
  unfold CF
  have eo:AE .i64 (Dw .i64 ((a+put.length+m:Nat):Int) ((put.length:Nat):Int)) (k:Int)=((a+m+k:Nat):Int):=by
   rw [I6 (by omega) (by omega),EJ (by omega) (by omega)];omega
  simp only [eo]
  have hset:=hC.set hi
  rw [hd] at hset
  refine Tot.iteT (by simp;omega) (Tot.bindC (Tc (by omega)) (Tot.bindC m1 (Tot.bindC (Zd hT hi hC) (Tot.bindC m2 (Tot.bindC (Fl (show a+put.length+m<ls.length by omega)) (Tot.bindC (F6 (show a+put.length+m<ls.length by omega)) (Tot.pure ⟨CN (by omega),hset.mono λ p _ h=>by omega⟩)))))))
 ·rintro ⟨ls,l,i'⟩ ⟨q1,hC⟩
  simp only at q1 hC
  subst q1
  unfold CF
  refine Tot.iteF (by simp;omega) (Tot.pure (hC.mono λ p h1 h2=>by omega))
theorem Jfz {put:List UInt8} {a k:Nat} (hak:a+k<=s.length) (hl':(Aq s put a k).length<=4000) (e1 e2:List Int) {l0 ls0:List Int} (h0:Cl t (Aq s put a k) (λ p=>a+put.length<=p) l0 ls0) :
  Tot (λ n=>whl (λ (x:((List Int)×(List Int)×Int×Int))=>C9 n (Bp t s) ⟨(a:Int),(k:Int),put⟩ (Aq s put a k) (BH t) (Hj (Aa t).length ((Aq s put a k).length+1),e1,e2) x.1 x.2.1 x.2.2.1 x.2.2.2) n (ls0,l0,0,Dw .i64 ((a+put.length:Nat):Int) 1))
   (λ y=>∃ r:Nat,y.2.2.2.1=(r:Int)/\y.2.2.1=((a+put.length-r:Nat):Int)/\Cl t (Aq s put a k) (λ p=>r<=p) y.2.1 y.1/\Pr t s (Aq s put a k) a (a+put.length) r/\(0<r->r+3<=a/\∀ j,r<=j->j<=r+3->EqC t y.2.2.2.2 (s.drop j) ((Aq s put a k).drop j))):=by
 have hlen:=HM hT
 have hsl:=En (put:=put) hak
 have e0:Dw .i64 ((a+put.length:Nat):Int) 1=((a+put.length:Nat):Int)-1:=I6 (by omega) (by omega)
 rw [e0]
 refine Tot.whl (body:=λ n x=>C9 n (Bp t s) ⟨(a:Int),(k:Int),put⟩ (Aq s put a k) (BH t) (Hj (Aa t).length ((Aq s put a k).length+1),e1,e2) x.1 x.2.1 x.2.2.1 x.2.2.2) (λ m x=>x.2.2.2=(m:Int)-1/\m<=a+put.length/\x.2.2.1=((a+put.length-m:Nat):Int)/\Cl t (Aq s put a k) (λ p=>m<=p) x.2.1 x.1/\∀ j,m<=j->j<a+put.length->¬F9 t s (Aq s put a k) a j) ?_ (a+put.length) _ ⟨rfl,Nat.le_refl _,by simp,h0,by omega⟩
 rintro m ⟨ls,l,cnt,i'⟩ ⟨q1,q2,q3,hC,hN⟩
 simp only at q1 q3 hC
 subst q1 q3
 unfold C9
 cases m with
 | zero=>
  refine Tot.iteF (by simp) (Tot.pure ⟨0,rfl,by simp,hC,⟨by omega,λ j h1 h2=>hN j (by omega) h2,.inl rfl⟩,λ h=>by omega⟩)
 | succ i=>
  have ei:((i+1:Nat):Int)-1=(i:Int):=by omega
  rw [ei]
  have hi:i<=(Aq s put a k).length:=by omega
  have hll:=hC.ll
  have hset:=(hC.set hi).mono (R:=λ p=>i<=p) λ p _ h=>by omega
  have ec:AE .i64 ((a+put.length-(i+1):Nat):Int) 1=((a+put.length-i:Nat):Int):=by rw [EJ (by omega) (by omega)];omega
  have hJ:¬F9 t s (Aq s put a k) a i->Tot (λ n=>C8 n ((a+put.length-(i+1):Nat):Int) (i:Int) (ls.set i (Bf (AW t ((Aq s put a k).drop i)))) (spl l (i*(Aa t).length) (Ct (AW t ((Aq s put a k).drop i)))))
    (Rd2 (λ x:List Int×List Int×Int×Int=>∃ j,j<i+1/\(x.2.2.2=(j:Int)-1/\j<=a+put.length/\x.2.2.1=((a+put.length-j:Nat):Int)/\Cl t (Aq s put a k) (λ p=>j<=p) x.2.1 x.1/\∀ j',j<=j'->j'<a+put.length->¬F9 t s (Aq s put a k) a j'))
     (λ y:List Int×List Int×Int×Int×Int=>∃ r:Nat,y.2.2.2.1=(r:Int)/\y.2.2.1=((a+put.length-r:Nat):Int)/\Cl t (Aq s put a k) (λ p=>r<=p) y.2.1 y.1/\Pr t s (Aq s put a k) a (a+put.length) r/\(0<r->r+3<=a/\∀ j,r<=j->j<=r+3->EqC t y.2.2.2.2 (s.drop j) ((Aq s put a k).drop j)))):=by
   intro hst
   unfold C8
   refine Tot.pure ⟨i,by omega,?_,by omega,ec,hset,λ j h1 h2=>?_⟩
   ·show Dw .i64 (i:Int) 1=(i:Int)-1
    rw [I6 (by omega) (by omega)]
   ·by_cases e:j=i
    ·rw [e];exact hst
    ·exact hN j (by omega) h2
  have e3:AE .i64 (i:Int) 3=((i+3:Nat):Int):=by rw [EJ (by omega) (by omega)];omega
  refine Tot.iteT (by simp) (Tot.bindE (Jjj hT hl' hi (hC.lat λ p _ h=>by omega)) (Tot.bindC (Fl (show i<ls.length by omega)) (Tot.bindC (F6 (show i<ls.length by omega)) ?_)))
  rw [e3]
  by_cases ha:a<i+3
  ·exact Tot.iteT (by simp;omega) (hJ λ h=>by have:=h.1;omega)
  ·refine Tot.iteF (by simp;omega) (Tot.bind (YF hT hs hl' (a:=a) (i:=i) (by omega) (by omega) (by omega) hset _) ?_)
   rintro ⟨d,ok⟩ (⟨h1,h2⟩|⟨h1,h2⟩)
   ·simp only at h1 h2
    subst h1
    refine Tot.iteT rfl (Tot.pure ⟨i,rfl,ec,hset,⟨by omega,λ j g1 g2=>hN j (by omega) g2,.inr ⟨by omega,d,h2⟩⟩,λ _=>⟨by omega,h2⟩⟩)
   ·simp only at h1
    subst h1
    exact Tot.iteF rfl (hJ h2)
theorem JfA {put:List UInt8} {a k:Nat} (hak:a+k<=s.length) (hl':(Aq s put a k).length<=4000) (e1 e2:List Int) {l0 ls0:List Int} {r:Nat} (hr:r<=a) (h0:Cl t (Aq s put a k) (λ p=>r<=p) l0 ls0) {d cnt:Int} (hS:∀ p,p<r->Sh t d (s.drop p) ((Aq s put a k).drop p)) :
  Tot (λ n=>whl (λ (x:((List Int)×(List Int)×Int))=>CG n (Bp t s) (Aq s put a k) (Hj (Aa t).length ((Aq s put a k).length+1),e1,e2) (ls0,l0,cnt,(r:Int),d) x.1 x.2.1 x.2.2) n (ls0,l0,0)) (λ y=>Cl t (Aq s put a k) (λ _=>True) y.2 y.1):=by
 have hlen:=HM hT
 have hsl:=En (put:=put) hak
 refine Tot.upto (body:=λ n x=>CG n (Bp t s) (Aq s put a k) (Hj (Aa t).length ((Aq s put a k).length+1),e1,e2) (ls0,l0,cnt,(r:Int),d) x.1 x.2.1 x.2.2) r (λ m x=>x.2.2=(m:Int)/\Cl t (Aq s put a k) (λ p=>r<=p\/p<m) x.2.1 x.1) ?_ ?_ _ ⟨rfl,h0.mono λ p _ h=>by omega⟩
 ·rintro m ⟨ls,l,i'⟩ hm ⟨q1,hC⟩
  simp only at q1 hC
  subst q1
  have hi:m<=(Aq s put a k).length:=by omega
  obtain ⟨m1,m2⟩:=MZ (t:=t) (s:=s) (i:=m) (by omega)
  have hll:=hC.ll
  have hE:=(hS m hm).eqc
  have hL:=(hS m hm).lst
  have r1:=MY hT hs (i:=m) (by omega)
  have r2:=MY hT hl' hi
  have hset:=(hC.set hi).mono (R:=λ p=>r<=p\/p<m+1) λ p _ h=>by omega
  rw [← hE.1] at hset
  have hJ:∀ v,v=Bf (AW t ((Aq s put a k).drop m))->Tot (λ n=>Da n (m:Int) (ls.set m v) (spl l (m*(Aa t).length) (Ct (AW t (s.drop m))))) (Rd2 (λ x:List Int×List Int×Int=>x.2.2=((m+1:Nat):Int)/\Cl t (Aq s put a k) (λ p=>r<=p\/p<m+1) x.2.1 x.1) (λ y=>Cl t (Aq s put a k) (λ _=>True) y.2 y.1)):=by
   rintro v rfl
   unfold Da
   exact Tot.pure ⟨CN (by omega),hset⟩
  unfold CG
  refine Tot.iteT (He hm) (Tot.bindC (Tc (by omega)) (Tot.bindC m1 (Tot.bindC (Zd hT hi hC) (Tot.bindC m2 (Tot.bindC (Fl (show m<ls.length by omega)) (Tot.bindC (F6 (show m<ls.length by omega)) (Tot.bindC m2 (Tot.ite (λ h=>?_) λ h=>?_))))))))
  ·have h0:0<=Bf (AW t (s.drop m)):=by simpa using h
   rw [if_neg (by omega)] at hL
   have hgs:(ls.set m (Bf (AW t (s.drop m))))[m]? = some (Bf (AW t (s.drop m))):=JlE (show m<ls.length by omega)
   refine Tot.bindC (Ei hgs) (Tot.bindC (Ei hgs) (Tot.bindC (F6 (by rw [JlK];exact (show m<ls.length by omega))) ?_))
   have ea:AE .i64 (Bf (AW t (s.drop m))) d=Bf (AW t (s.drop m))+d:=EJ (by omega) (by omega)
   simp only [List.set_set,ea]
   exact hJ _ hL.symm
  ·have h0:Bf (AW t (s.drop m))<0:=by simpa using h
   rw [if_pos h0] at hL
   exact hJ _ (by omega)
 ·rintro ⟨ls,l,i'⟩ ⟨q1,hC⟩
  simp only at q1 hC
  subst q1
  unfold CG
  exact Tot.iteF (by simp) (Tot.pure (hC.mono λ p _ _=>by omega))
theorem JaA {put:List UInt8} {a k:Nat} (hak:a+k<=s.length) (hp:put.length<=4000) (hl':(Aq s put a k).length<=4000) (hx:(Aq s put a k).all F7=true) :
  Tot (λ n=>BW n t (Bp t s) ⟨(a:Int),(k:Int),put⟩) (λ y=>y.1=Bp t (Aq s put a k)/\y.2.2=0/\∃ r,Pr t s (Aq s put a k) a (a+put.length) r/\y.2.1=((a+put.length-r:Nat):Int)):=by
 have hsl:=En (put:=put) hak
 have c3:(Bp t s).Text=s:=rfl
 unfold BW
 have es:Dw .i64 ((s.length:Nat):Int) (a:Int)=((s.length-a:Nat):Int):=by rw [I6 (by omega) (by omega)];omega
 have eak:AE .i64 (a:Int) (k:Int)=((a+k:Nat):Int):=by rw [EJ (by omega) (by omega)];omega
 have ep:AE .i64 (a:Int) ((put.length:Nat):Int)=((a+put.length:Nat):Int):=by rw [EJ (by omega) (by omega)];omega
 simp only [c3,es,eak,ep]
 have hsub:sub s ((a+k:Nat):Int) ((s.length:Nat):Int)=some (s.drop (a+k)):=by
  rw [Up (by omega) (by omega) (by omega),JlC,JlC,List.take_length]
 have ht:=Y7 (s:=Aq s put a k) (by omega)
 rw [Xg hx] at ht
 refine Tot.iteF (by simp;omega) (Tot.bindC (Pj (by omega)) (Tot.bindC (Mr (by simp;omega)) (Tot.bindC hsub (Tot.bindC (Mr (by simp;omega)) ?_))))
 refine Tot.bindE ht (Tot.iteF rfl (Tot.bindE (Jd2 hT) (Tot.bindE (Jjm hT hs) (Tot.iteF rfl (Tot.bindE (Jd4 hT hl') (Tot.bind (Jfy hT hs hak hl' _ _ _ (YE _ _)) ?_))))))
 rintro ⟨ls1,l1⟩ h1
 refine Tot.bindC (y:=()) rfl (Tot.bind (Jfz hT hs hak hl' _ _ h1) ?_)
 rintro ⟨ls2,l2,cnt,rst,d⟩ ⟨r,q1,q2,hC,hR,hE⟩
 simp only at q1 q2 hC hE
 subst q1 q2
 have hra:r<=a:=by
  rcases Nat.eq_zero_or_pos r with h|h
  ·omega
  ·have:=(hE h).1;omega
 have hS:∀ p,p<r->Sh t d (s.drop p) ((Aq s put a k).drop p):=by
  intro p hp'
  obtain ⟨g1,g2⟩:=hE (by omega)
  exact Sh.all hT (d:=d) (i:=r) (a:=a) g1 (by omega) (by omega) (VR hak).symm (λ j j1 j2=>(g2 j j1 (by omega)).sh) (r-p) p (by omega)
 refine Tot.bind (JfA hT hs hak hl' _ _ hra hC hS) ?_
 rintro ⟨ls3,l3⟩ h3
 obtain ⟨g1,g2⟩:=h3.memo λ _ _=>trivial
 refine Tot.bindC g1 (Tot.pure ⟨g2,rfl,r,hR,rfl⟩)
end
end Go.AI
end
section
namespace Go.AI
theorem Td {s put:List UInt8} {a k:Nat} (hak:a+k<=s.length) (hs:s.length<=4000) (hp:put.length<=4000):Ev (λ n=>IL n s ⟨(a:Int),(k:Int),put⟩) (Aq s put a k):=by
 refine Tot.ev ?_
 unfold IL
 have eak:AE .i64 (a:Int) (k:Int)=((a+k:Nat):Int):=by rw [EJ (by omega) (by omega)];omega
 simp only [eak]
 have hsub:sub s ((a+k:Nat):Int) ((s.length:Nat):Int)=some (s.drop (a+k)):=by
  rw [Up (by omega) (by omega) (by omega),JlC,JlC,List.take_length]
 exact Tot.bindC (Pj (by omega)) (Tot.bindC (Mr (by simp;omega)) (Tot.bindC hsub (Tot.bindC (Mr (by simp;omega)) (Tot.pure rfl))))
end Go.AI
end
section
namespace Go.AI
theorem Yx.empty {t:Ad} {s:List UInt8} {w:AT} {a e:Int} (h:Yx t s w a e) (he:e≠0):w=⟨[],[]⟩:=by
 by_cases h1:(Ht s).2=0
 ·by_cases h2:AP t BK s<0
  ·exact (h.none h1 h2).1
  ·exact absurd (h.path h1 (by omega)).1 he
 ·exact (h.bad h1).1
section
variable {t:Ad} (hT:F8 t) {s:List UInt8} (hs:s.length<=4000) {s':List UInt8} (hs':s'.length<=4000)
include hT hs hs'
theorem JaB {a i:Nat} (ha:i+3<=a) (h1:a<=s.length) (h2:a<=s'.length) :
  Tot (λ n=>MS n (Bp t s) (Bp t s') (i:Int)) (λ y=>(y=true/\F9 t s s' a i)\/(y=false/\¬F9 t s s' a i)):=by
 have hlen:=HM hT
 unfold MS
 refine Tot.bind (R:=λ y:Unit⊕Bool=>(y=.inl ()/\F9 t s s' a i)\/(y=.inr false/\¬F9 t s s' a i)) ?_ ?_
 ·have e3:AE .i64 (i:Int) 4=((i+4:Nat):Int):=by rw [EJ (by omega) (by omega)];omega
  refine Tot.upto (body:=λ n x=>FU n (Bp t s) (Bp t s') (i:Int) x.1 x.2.1 x.2.2) 4 (λ m x=>x.2.2=((i+m:Nat):Int)/\(∀ j,i<=j->j<i+m->EqC t x.2.1 (s.drop j) (s'.drop j))/\(x.1=false->∀ j,i<=j->j<i+m->Bf (AW t (s.drop j))<0)/\(x.1=true->∃ j,i<=j/\j<i+m/\0<=Bf (AW t (s.drop j)))) ?_ ?_ _ ⟨rfl,by omega,by omega,λ h=>by cases h⟩
  ·rintro m ⟨kn,sh,j'⟩ hm ⟨e1,g1,g2,g3⟩
   simp only at e1 g1 g2 g3
   subst e1
   have hj1:i+m<=s.length:=by omega
   have hj2:i+m<=s'.length:=by omega
   obtain ⟨m1,m2⟩:=MZ (t:=t) hj1
   obtain ⟨n1,n2⟩:=MZ (t:=t) hj2
   have hr1:=MY hT hs hj1
   have hr2:=MY hT hs' hj2
   unfold FU
   rw [e3]
   refine Tot.iteT (by simp;omega) (Tot.bindC m1 (Tot.bindC n1 (Tot.bindE (VK _ _ (by rw [KS];omega)) ?_)))
   by_cases he:Ct (AW t (s.drop (i+m)))=Ct (AW t (s'.drop (i+m)))
   ·rw [decide_eq_true he]
    have hneg:=Zc he
    refine Tot.gE rfl (Ev.all λ _=>m2) (Tot.gE rfl (Ev.all λ _=>n2) (Tot.iteF ?_ (Tot.bindC m2 ?_)))
    ·by_cases h0:Bf (AW t (s.drop (i+m)))<0
     ·simp [h0,hneg.1 h0]
     ·have:¬Bf (AW t (s'.drop (i+m)))<0:=λ h=>h0 (hneg.2 h)
      simp [h0,this]
    have hJ:∀ sh' kn',EqC t sh' (s.drop (i+m)) (s'.drop (i+m))->(∀ j,i<=j->j<i+m->EqC t sh' (s.drop j) (s'.drop j))->(kn'=false->Bf (AW t (s.drop (i+m)))<0/\kn=false)->(kn'=true->kn=true\/0<=Bf (AW t (s.drop (i+m))))->Tot (λ n=>FT n ((i+m:Nat):Int) kn' sh') (Rd2 (λ x:Bool×Int×Int=>x.2.2=((i+(m+1):Nat):Int)/\(∀ j,i<=j->j<i+(m+1)->EqC t x.2.1 (s.drop j) (s'.drop j))/\(x.1=false->∀ j,i<=j->j<i+(m+1)->Bf (AW t (s.drop j))<0)/\(x.1=true->∃ j,i<=j/\j<i+(m+1)/\0<=Bf (AW t (s.drop j)))) (λ y:Unit⊕Bool=>(y=.inl ()/\F9 t s s' a i)\/(y=.inr false/\¬F9 t s s' a i))):=by
     intro sh' kn' h1 h2 h3 h4
     unfold FT
     refine Tot.pure ⟨CN (by omega),λ j q1 q2=>?_,λ hk j q1 q2=>?_,λ hk=>?_⟩
     ·by_cases e:j=i+m
      ·rw [e];exact h1
      ·exact h2 j q1 (by omega)
     ·by_cases e:j=i+m
      ·rw [e];exact (h3 hk).1
      ·exact g2 (h3 hk).2 j q1 (by omega)
     ·rcases h4 hk with h|h
      ·obtain ⟨j,q1,q2,q3⟩:=g3 h
       exact ⟨j,q1,by omega,q3⟩
      ·exact ⟨i+m,by omega,by omega,h⟩
    by_cases h0:Bf (AW t (s.drop (i+m)))<0
    ·exact Tot.iteT (by simp [h0]) (hJ sh kn ⟨he,λ h=>by omega⟩ g1 (λ h=>⟨h0,h⟩) (λ h=>.inl h))
    ·have hn':¬Bf (AW t (s'.drop (i+m)))<0:=λ h=>h0 (hneg.2 h)
     have es:Dw .i64 (Bf (AW t (s'.drop (i+m)))) (Bf (AW t (s.drop (i+m))))=Bf (AW t (s'.drop (i+m)))-Bf (AW t (s.drop (i+m))):=I6 (by omega) (by omega)
     refine Tot.iteF (by simp;omega) ?_
     cases hk:kn with
     | false=>
      refine Tot.gF rfl (Tot.gF rfl (Tot.iteF rfl (Tot.bindC n2 (Tot.bindC m2 ?_))))
      rw [es]
      exact hJ _ true ⟨he,λ _=>rfl⟩ (λ j q1 q2=>⟨(g1 j q1 q2).1,λ h=>by have:=g2 hk j q1 q2;omega⟩) (λ h=>by cases h) (λ _=>.inr (by omega))
     | true=>
      refine Tot.gE rfl (Ev.all λ _=>n2) (Tot.gE rfl (Ev.all λ _=>m2) ?_)
      rw [es]
      by_cases hd:Bf (AW t (s'.drop (i+m)))-Bf (AW t (s.drop (i+m)))=sh
      ·refine Tot.iteF (by simp [hd]) (Tot.bindC n2 (Tot.bindC m2 ?_))
       rw [es,hd]
       exact hJ sh true ⟨he,λ _=>hd⟩ g1 (λ h=>by cases h) (λ _=>.inl hk)
      ·refine Tot.iteT (by simp;exact hd) (Tot.pure (.inr ⟨rfl,?_⟩))
       rintro ⟨_,d,hdd⟩
       obtain ⟨j,q1,q2,q3⟩:=g3 hk
       have w1:=(hdd j q1 (by omega)).2 q3
       have w2:=(g1 j q1 q2).2 q3
       have w3:=(hdd (i+m) (by omega) (by omega)).2 (by omega)
       exact hd (by omega)
   ·rw [decide_eq_false he]
    refine Tot.gF rfl (Tot.gF rfl (Tot.iteT rfl (Tot.pure (.inr ⟨rfl,?_⟩))))
    rintro ⟨_,d,hd⟩
    exact he (hd (i+m) (by omega) (by omega)).1
  ·rintro ⟨kn,sh,j'⟩ ⟨e1,g1,g2,g3⟩
   simp only at e1 g1 g2 g3
   subst e1
   unfold FU
   rw [e3]
   exact Tot.iteF (by simp) (Tot.pure (.inl ⟨rfl,ha,sh,λ j q1 q2=>g1 j q1 (by omega)⟩))
 ·rintro y (⟨rfl,h⟩|⟨rfl,h⟩)
  ·exact Tot.pure (.inl ⟨rfl,h⟩)
  ·exact Tot.pure (.inr ⟨rfl,h⟩)
theorem JaC {a k:Nat} {put:List UInt8} (h1:a<=s.length) (h2:a+put.length<=s'.length) :
  Tot (λ n=>Ki n (Bp t s) (Bp t s') ⟨(a:Int),(k:Int),put⟩) (λ y=>∃ r,Pr t s s' a (a+put.length) r/\y=((a+put.length-r:Nat):Int)):=by
 unfold Ki
 have ep:AE .i64 (a:Int) ((put.length:Nat):Int)=((a+put.length:Nat):Int):=by rw [EJ (by omega) (by omega)];omega
 simp only [ep]
 refine Tot.bind (R:=λ y:Int=>∃ r,Pr t s s' a (a+put.length) r/\y=((a+put.length-r:Nat):Int)) ?_ (λ y hy=>Tot.pure hy)
 refine Tot.whl (body:=λ n x=>GO n (Bp t s) (Bp t s') ⟨(a:Int),(k:Int),put⟩ x.1 x.2) (λ m x=>x.1=(m:Int)/\m<=a+put.length/\x.2=((a+put.length-m:Nat):Int)/\∀ j,m<j->j<a+put.length->¬F9 t s s' a j) ?_ (a+put.length) _ ⟨rfl,Nat.le_refl _,by simp,by omega⟩
 rintro m ⟨i',c⟩ ⟨q1,q2,q3,hN⟩
 simp only at q1 q3
 subst q1 q3
 unfold GO
 rcases Nat.eq_zero_or_pos m with rfl|h0
 ·exact Tot.iteF (by simp) (Tot.pure ⟨0,⟨by omega,hN,.inl rfl⟩,by simp⟩)
 ·have e3:AE .i64 (m:Int) 3=((m+3:Nat):Int):=by rw [EJ (by omega) (by omega)];omega
  refine Tot.iteT (by simp;omega) ?_
  simp only [e3]
  have hgo:¬F9 t s s' a m->∃ j,j<m/\(Dw .i64 (m:Int) 1=(j:Int)/\j<=a+put.length/\AE .i64 ((a+put.length-m:Nat):Int) 1=((a+put.length-j:Nat):Int)/\∀ j',j<j'->j'<a+put.length->¬F9 t s s' a j'):=by
   intro hst
   refine ⟨m-1,by omega,?_,by omega,?_,λ j g1 g2=>?_⟩
   ·rw [I6 (by omega) (by omega)];omega
   ·rw [EJ (by omega) (by omega)];omega
   ·by_cases e:j=m
    ·rw [e];exact hst
    ·exact hN j (by omega) g2
  by_cases ha:m+3<=a
  ·have hd:decide (((m+3:Nat):Int)<=(a:Int))=true:=by simp;omega
   refine Tot.guard (R:=λ y=>(y=true/\F9 t s s' a m)\/(y=false/\¬F9 t s s' a m)) (λ _=>JaB hT hs hs' ha h1 (by omega)) λ y hy=>?_
   rw [hd]
   rcases hy hd with ⟨rfl,hst⟩|⟨rfl,hst⟩
   ·exact Tot.iteT rfl (Tot.pure ⟨m,⟨q2,hN,.inr hst⟩,rfl⟩)
   ·exact Tot.iteF rfl (Tot.pure (hgo hst))
  ·have hd:decide (((m+3:Nat):Int)<=(a:Int))=false:=by simp;omega
   refine Tot.gF hd (Tot.iteF (by rw [hd];rfl) (Tot.pure (hgo λ h=>ha h.1)))
end
section
variable {t:Ad} (hT:F8 t) {s:List UInt8} (hs:s.length<=4000)
include hT hs
theorem Ze {a k:Nat} {put:List UInt8} (h:a+k<=s.length) (n:Nat):LZ n s ⟨(a:Int),(k:Int),put⟩=some true:=by
 have _:=hT
 unfold LZ
 have es:Dw .i64 ((s.length:Nat):Int) (a:Int)=((s.length-a:Nat):Int):=by rw [I6 (by omega) (by omega)];omega
 simp only [es]
 congr 1
 simp;omega
theorem YG {put:List UInt8} {a k:Nat} (hak:a+k<=s.length) (hp:put.length<=4000) (hl':(Aq s put a k).length<=4000) (hx:(Aq s put a k).all F7=true) :
  Tot (λ n=>DG n t (Bp t s) ⟨(a:Int),(k:Int),put⟩) (λ y=>y.1=Bp t (Aq s put a k)/\y.2.2=0/\∃ r,Pr t s (Aq s put a k) a (a+put.length) r/\y.2.1=((a+put.length-r:Nat):Int)):=by
 have hsl:=En (put:=put) hak
 have c3:(Bp t s).Text=s:=rfl
 unfold DG
 rw [c3]
 have hi:=Qg (s:=Aq s put a k) (by omega)
 rw [hx] at hi
 refine Tot.bindA (λ n=>Ze hT hs hak n) (Tot.iteF rfl (Tot.bindE (Td hak hs hp) (Tot.bindE hi (Tot.iteF rfl (Tot.bindE (Zb hT hl') (Tot.bind (JaC hT hs hl' (by omega) (by omega)) ?_))))))
 intro y hy
 exact Tot.pure ⟨rfl,rfl,hy⟩
theorem Xx {put:List UInt8} {a k:Nat} (hak:a+k<=s.length) (hp:put.length<=4000) (hl':(Aq s put a k).length<=4000) (hx:(Aq s put a k).all F7=false) :
  Ev (λ n=>DG n t (Bp t s) ⟨(a:Int),(k:Int),put⟩) (⟨[],[],[]⟩,0,60):=by
 have c3:(Bp t s).Text=s:=rfl
 refine Tot.ev ?_
 unfold DG
 rw [c3]
 have hi:=Qg (s:=Aq s put a k) (by omega)
 rw [hx] at hi
 exact Tot.bindA (λ n=>Ze hT hs hak n) (Tot.iteF rfl (Tot.bindE (Td hak hs hp) (Tot.bindE hi (Tot.iteT rfl (Tot.pure rfl)))))
omit hT in
theorem YH {put:List UInt8} {a k:Nat} (hak:a+k<=s.length) (hp:put.length<=4000) (hl':(Aq s put a k).length<=4000) (hx:(Aq s put a k).all F7=false) :
  Ev (λ n=>BW n t (Bp t s) ⟨(a:Int),(k:Int),put⟩) (⟨[],[],[]⟩,0,60):=by
 have hsl:=En (put:=put) hak
 have c3:(Bp t s).Text=s:=rfl
 refine Tot.ev ?_
 unfold BW
 have es:Dw .i64 ((s.length:Nat):Int) (a:Int)=((s.length-a:Nat):Int):=by rw [I6 (by omega) (by omega)];omega
 have eak:AE .i64 (a:Int) (k:Int)=((a+k:Nat):Int):=by rw [EJ (by omega) (by omega)];omega
 simp only [c3,es,eak]
 have hsub:sub s ((a+k:Nat):Int) ((s.length:Nat):Int)=some (s.drop (a+k)):=by
  rw [Up (by omega) (by omega) (by omega),JlC,JlC,List.take_length]
 refine Tot.iteF (by simp;omega) (Tot.bindC (Pj (by omega)) (Tot.bindC (Mr (by simp;omega)) (Tot.bindC hsub (Tot.bindC (Mr (by simp;omega)) ?_))))
 refine Tot.bindE (Y7 (s:=Aq s put a k) (by omega)) (Tot.iteT ?_ (Tot.pure ?_))
 ·rw [Qf hx];rfl
 ·rw [Qf hx]
end
theorem JkR {x:M9} (hx:Pk x) {l:List Int} (hl:∀ a∈l,U8 a) (c:B6):Ev (λ n=>D4 n x l c) true:=by
 obtain ⟨t,⟨ht,_⟩,hE⟩:=Yz hx
 have h6:=ht.six
 have hrl:=h6.tab.1
 refine Tot.ev ?_
 unfold D4
 refine Tot.bindE YB (Tot.ite (λ _=>Tot.pure rfl) λ hp6=>?_)
 have hp:c.Put.length<=6:=by
  have:((c.Put.length:Nat):Int)<=6:=by simpa using hp6
  omega
 obtain ⟨s,hr,hrE⟩:=Yy (t:=t) (by omega) (λ r hr=>by have:=(h6.tab.2 r hr).2.2.2.2;omega) hl
 have hs12:=hr.1
 have hs4:s.length<=4000:=by omega
 have c3:(Bp t s).Text=s:=rfl
 refine Tot.bindE hE (Tot.bindE hrE (Tot.bindE (Zb h6 hs4) ?_))
 have fin:∀ (m:AX) (d e:Int),(∀ m',Ev (λ n=>G6 n m m') (decide (m=m')))->Ev (λ n=>BW n t (Bp t s) c) (m,d,e)->Ev (λ n=>DG n t (Bp t s) c) (m,d,e)->Tot (λ n=>(BW n t (Bp t s) c).bind λ r196=>(DG n t (Bp t s) c).bind λ r197=>(if ((true&&(r196.2.2==r197.2.2))&&(r196.2.1==r197.2.1))=true then G6 n r196.1 r197.1 else some default).bind λ r198=>some (((true&&(r196.2.2==r197.2.2))&&(r196.2.1==r197.2.1))&&r198)) (λ z=>z=true):=by
  intro m d e hm h1 h2
  refine Tot.bindE h1 (Tot.bindE h2 (Tot.gE (by simp) (hm m) (Tot.pure ?_)))
  simp
 have hnil:∀ m',Ev (λ n=>G6 n ⟨[],[],[]⟩ m') (decide ((⟨[],[],[]⟩:AX)=m')):=λ m'=>Xt _ _ (by simp) (by simp) (by simp)
 cases hf:((((decide (c.At>=0))&&(decide (c.Cut>=0)))&&(decide (c.At<=((s.length:Nat):Int))))&&(decide (c.Cut<=Dw .i64 ((s.length:Nat):Int) c.At))) with
 | false=>
  refine fin ⟨[],[],[]⟩ 0 1 hnil ?_ ?_
  ·refine Tot.ev ?_
   unfold BW
   simp only [c3]
   refine Tot.iteT ?_ (Tot.pure rfl)
   rw [← Bool.not_eq_true] at hf
   cases hcc:((((decide (c.At<0))||(decide (c.Cut<0)))||(decide (c.At>((s.length:Nat):Int))))||(decide (c.Cut>Dw .i64 ((s.length:Nat):Int) c.At))) with
   | true=>rfl
   | false=>
    refine absurd ?_ hf
    simp only [Bool.or_eq_false_iff,decide_eq_false_iff_not,Jlt,decide_eq_true_eq] at hcc ⊢
    omega
  ·refine Tot.ev ?_
   unfold DG LZ
   simp only [c3]
   exact Tot.bindC rfl (Tot.iteT (by rw [hf];rfl) (Tot.pure rfl))
 | true=>
  obtain ⟨ca,ck,put⟩:=c
  simp only [Jlt,decide_eq_true_eq] at hf hp
  obtain ⟨⟨⟨f1,f2⟩,f3⟩,f4⟩:=hf
  obtain ⟨a,rfl⟩:∃ a:Nat,ca=a:=⟨ca.toNat,by omega⟩
  obtain ⟨k,rfl⟩:∃ k:Nat,ck=k:=⟨ck.toNat,by omega⟩
  rw [I6 (by omega) (by omega)] at f4
  have hak:a+k<=s.length:=by omega
  have hsl:=En (put:=put) hak
  have hs4':(Aq s put a k).length<=4000:=by omega
  cases hx':(Aq s put a k).all F7 with
  | false=>exact fin _ _ _ hnil (YH hs4 hak (by omega) hs4' hx') (Xx h6 hs4 hak (by omega) hs4' hx')
  | true=>
   obtain ⟨⟨m1,c1,e1⟩,⟨q1,q2,r,hR,q3⟩,g1⟩:=JaA h6 hs4 hak (by omega) hs4' hx'
   obtain ⟨⟨m2,c2,e2⟩,⟨p1,p2,r',hR',p3⟩,g2⟩:=YG h6 hs4 hak (by omega) hs4' hx'
   simp only at q1 q2 q3 p1 p2 p3
   subst q1 q2 q3 p1 p2 p3
   have:=hR.uniq (by omega) hR'
   subst this
   exact fin _ _ _ (Jd0 h6 hs4') g1 g2
end Go.AI
end
section
namespace Go.AI
theorem MA {n:Int} (h:okI .u8 n):U8 n:=by
 unfold okI Lit.wf at h
 have:IntKind.u8.min=0/\IntKind.u8.max=255:=by decide
 unfold U8
 simp only [Jlt,decide_eq_true_eq] at h
 omega
theorem TL {r:Dp} (h:Ky r):Y8 r:=by
 obtain ⟨a,b,c,d,e,f⟩:=h
 exact ⟨λ y hy=>MA (a y hy),λ y hy=>MA (b y hy),MA c,MA d,MA e,MA f⟩
theorem JaD {x:M9} (h:Yj x):Pk x:=⟨(MA h.1).1,λ r hr=>TL (h.2.2 r hr)⟩
theorem Jjn {l:List Int} (h:∀ a∈l,okI .u8 a):∀ a∈l,U8 a:=λ a ha=>MA (h a ha)
theorem Jjo:∀ x l c,Yj x->(∀ a∈l,okI .u8 a)->Un c->∃ n,D4 n x l c=some true:=λ _ _ c h hl _=>(JkR (JaD h) (Jjn hl) c).out
end Go.AI
end
section
namespace Go.Proofs.YtjaogfjfamffnaaGreat
open Go.AI Go.ChangeShapes Go.WideShapes Go.ChangeAt Go.RowKit
theorem own:ownKnob Tryz.prog.godebug=none:=by kernel_rfl
set_option maxRecDepth 100000 in
theorem Jjp (os:Os) (started:os.Started) (H:Type) (enc:TypeId×Value->H) :
  ReturnsInHanded {} Tryz.checked os 5 .any (Rows.reviseRejectsSpec.pre6 enc Tryz.prog Tryz.f5 Rows.reviseRejectsRow.domain false) (Rows.reviseRejectsSpec.post enc Tryz.prog Tryz.f5 false true false false):=by
 refine returnsInHanded_of_change (C:=Tryz.checked) own started (by kernel_rfl) Tryz.func5
  (ChangeSpec.witness6 (enc:=enc) (C:=Tryz.checked) false ⟨#[],#[.agg #[.int .u8 0,.int .u8 0,.slice none 0 0],.slice none 0 0,.agg #[.int .i64 0,.int .i64 0,.string ⟨#[]⟩]],[]⟩ 8 (by kernel_rfl) (by kernel_rfl) (by kernel_rfl) (by kernel_rfl)) ?_
 intro W base args ds gs before hval0 hW hcnd _
 have hval:∀ (j:Nat) t v,Tryz.f5.params[j]? = some t->args[j]? = some v->Value.okWide Tryz.prog W .any base t v:=hval0
 have hW':=hW
 obtain ⟨p,q,hA0,hV,rfl,hfz,hnd⟩:=hW
 have hA:DataW.TrodAll enc Tryz.prog W 0 (λ _=>true) true Tryz.f5.params.toList args.toList ds p:=hA0
 have hlt:=hA.lt
 rw [Tryz.params5] at hA hval
 obtain ⟨v0,vs0,d0,ds0,p0,q0,hargs,rfl,rfl,h0,r0⟩:=trodAll_cons hA
 obtain ⟨v1,vs1,d1,ds1,p1,q1,rfl,rfl,rfl,h1,r1⟩:=trodAll_cons r0
 obtain ⟨v2,vs2,d2,ds2,p2,q2,rfl,rfl,rfl,h2,r2⟩:=trodAll_cons r1
 obtain ⟨rfl,rfl,rfl⟩:=trodAll_nil r2
 obtain rfl:args=#[v0,v1,v2]:=by cases args;simp_all
 obtain ⟨rfl,rfl⟩:=trodVars_none hV
 obtain ⟨cs0,hc0,_⟩:=okWide_struct Tryz.underlying24 (hval 0 24 v0 rfl rfl)
 obtain ⟨a0,k0,rep0⟩:=Y5 hc0 h0 Jlp
 obtain ⟨x1,y1,z1,hc1⟩:=okWide_slice Tryz.underlying25 (hval 1 25 v1 rfl rfl)
 obtain ⟨a1,k1,rep1⟩:=Jfa (y:=λ a=>.sl (a.map eU8)) (by rw [hc1];rfl) h1 Ji8 (λ _=>rfl)
 obtain ⟨cs2,hc2,_⟩:=okWide_struct Tryz.underlying40 (hval 2 40 v2 rfl rfl)
 obtain ⟨a2,k2,rep2⟩:=Y5 hc2 h2 Jlq
 clear hA0 hval0
 simp only [List.append_nil] at hW' hlt
 obtain ⟨n,hn⟩:=Jjo a0 a1 a2 k0 k1 k2
 refine (Jdp (Mn hn) (Vu rep0 (Vu rep1 (Vu rep2 Ji7)))).mono λ e W' ⟨he,hg,hold⟩=>?_
 subst he
 exact ⟨_,rfl,Jah (pv:=[]) hW' (λ _ _ _=>(trodAll_cons_mk (shut_bool Tryz.underlying4 _) trodAll_mk0)) (λ sp hsp=>trodAll_cons_mk (Jdq (by kernel_rfl) (by kernel_rfl) (of_decide_eq_true (by kernel_rfl)) h0 (λ p hp=>hlt p (by simp [hp])) (λ p hp=>hsp p (by simp [hp])) hold) (trodAll_cons_mk (Jdq (by kernel_rfl) (by kernel_rfl) (of_decide_eq_true (by kernel_rfl)) h1 (λ p hp=>hlt p (by simp [hp])) (λ p hp=>hsp p (by simp [hp])) hold) (trodAll_cons_mk (Jdq (by kernel_rfl) (by kernel_rfl) (of_decide_eq_true (by kernel_rfl)) h2 (λ p hp=>hlt p (by simp [hp])) (λ p hp=>hsp p (by simp [hp])) hold) trodAll_mk0))) (λ _ _=>rfl) (by simp) (hg _) hold (ok_one (by kernel_rfl) rfl (okWide_bool_mk Tryz.underlying4 _))⟩
theorem Jlr:Rows.reviseRejectsRow.holds Tryz.pinned (OpenSpec.ofChange Rows.reviseRejectsSpec):=
 OpenClaim.holds_of_wide 5 Tryz.f5 rfl rfl rfl rfl rfl rfl rfl ⟨rfl,rfl,rfl,rfl,rfl⟩ rfl rfl rfl rfl rfl (by kernel_rfl) Tryz.func5 (by kernel_rfl)
  (of_decide_eq_true (by kernel_rfl)) (by unfold Func.isWrapper;first|(rw [if_pos (by decide +kernel)];kernel_rfl)|(rw [if_neg (by decide +kernel)];exact ⟨rfl,rfl⟩))
  (λ os started H enc _=>Jjp os started H enc)
theorem reviseRejects_holds:Rows.ReviseRejectsSaid:=Jlr
end Go.Proofs.YtjaogfjfamffnaaGreat
end
