/- Part 6 of 7 of the proof. -/
import Derived.Test.YtnpikfdkjmebjaaLE
import Derived.KernelRfl
section
namespace Go.AI
theorem Jlw {σ ρ:Type} {body:Nat->σ->Option (σ⊕ρ)} {R:ρ->Prop} (I:Nat->σ->Prop) (h:∀ k x,I k x->(∃ y j,j<k/\I j y/\Ev (λ n=>body n x) (.inl y))\/∃ r,R r/\Ev (λ n=>body n x) (.inr r)):∀ (k:Nat) (x:σ),I k x->∃ r,R r/\Ev (λ n=>Go.AI.whl (body n) n x) r:=by
 have key:∀ (k:Nat) (x:σ),I k x->∃ r,R r/\∃ N c,∀ n fuel,N<=n->c<=fuel->Go.AI.whl (body n) fuel x=some r:=by
  intro k;induction k using Nat.strongRecOn with
  | _ k ih=>
   intro x hx;rcases h k x hx with⟨y,j,hj,hy,N1,h1⟩|⟨r,hr,N1,h1⟩
   ·obtain⟨r,hr,N2,c,h2⟩:=ih j hj y hy;refine⟨r,hr,max N1 N2,c+1,λ n fuel hn hf=>?_⟩;cases fuel with
    | zero=>omega
    | succ fuel=>
     have e:=h1 n (by omega);simp only at e;simp only[Go.AI.whl,e];exact h2 n fuel (by omega) (by omega)
   ·refine⟨r,hr,N1,1,λ n fuel hn hf=>?_⟩;cases fuel with
    | zero=>omega
    | succ fuel=>
     have e:=h1 n hn;simp only at e;simp only[Go.AI.whl,e]
 intro k x hx;obtain⟨r,hr,N,c,hh⟩:=key k x hx;exact⟨r,hr,max N c,λ m hm=>hh m m (by omega) (by omega)⟩
def JV (st:List Ae) (nb:List (Ae×Int)):Prop:=∀ s,BR s nb=(st.findIdx? λ x=>decide (x=s)).map λ i=>(i:Int)
theorem DD {st:List Ae} {s:Ae} {i:Nat} (hn:st.Nodup) (h:st[i]?=some s):(st.findIdx? λ x=>decide (x=s))=some i:=by
 have hi:=Am h;rw[List.findIdx?_eq_some_iff_getElem];have he:st[i]=s:=by rw[JlZ hi]at h;exact Option.some.inj h
 refine⟨hi,by simpa using he,λ j hj=>?_⟩;simp only[JlN,decide_eq_false_iff_not];intro e;have:=(List.getElem_inj (i:=j) (j:=i) (h₀:=by omega) (h₁:=hi) hn).1 (by rw[e,he]);omega
theorem Ju {st:List Ae} {s:Ae} (h:s ∉ st):(st.findIdx? λ x=>decide (x=s))=none:=by
 rw[List.findIdx?_eq_none_iff];intro y hy;simp only[decide_eq_false_iff_not];exact λ e=>h (e▸hy)
theorem IP {κ α:Type} [DecidableEq κ] (k k':κ) (v:α) (m:List (κ×α)):BR k' (Eh k v m)=if k'=k then some v else BR k' m:=by
 induction m with
 | nil=>simp[Eh,BR]
 | cons p m ih=>
  simp only[Eh];by_cases h:k=p.1
  ·rw[if_pos h];simp only[BR];by_cases h':k'=k
   ·simp[h']
   ·have:k'≠p.1:=λ e=>h' (e.trans h.symm);simp[h',this]
  ·rw[if_neg h];simp only[BR];by_cases h':k'=p.1
   ·have:k'≠k:=λ e=>h (e▸h');rw[if_pos h',if_neg this,if_pos h']
   ·rw[if_neg h',if_neg h',ih]
theorem JV.snoc {st:List Ae} {nb:List (Ae×Int)} (h:JV st nb) (hn:st.Nodup) {p:Ae} (hp:p ∉ st):JV (st++[p]) (Eh p (st.length:Nat) nb):=by
 intro s;rw[IP];have hnd:(st++[p]).Nodup:=by
  rw[List.nodup_append];exact⟨hn,by simp,λ a ha b hb=>by simp at hb;subst hb;exact λ e=>hp (e▸ha)⟩
 by_cases e:s=p
 ·subst e;rw[if_pos rfl,DD hnd (i:=st.length) (by simp)];rfl
 ·rw[if_neg e,h s];by_cases hs:s∈st
  ·obtain⟨i,hi⟩:=List.mem_iff_getElem?.1 hs;rw[DD hn hi,DD hnd (i:=i) (by rw[Jl7 (Am hi)];exact hi)]
  ·rw[Ju hs,Ju (by simp[hs,e])]
def HO (i m j k:Nat):Prop:=j<i\/(j=i/\k<m)
structure Da (t:Ab) (st:List Ae) (fr:List (List Int)) (i m:Nat):Prop where
 len:fr.length=st.length
 cov:∀ j s k,HO i m j k->st[j]?=some s->k<t.Rules.length->(By t s (k:Nat)).2=true->(By t s (k:Nat)).1∈st
 sound:∀ (n:Nat) l,fr[n]?=some l->∀ x∈l,∃ (j:Nat) (s:Ae) (k:Nat) (s':Ae),x=(j:Int)/\st[j]?=some s/\k<t.Rules.length/\st[n]?=some s'/\By t s (k:Nat)=(s',true)
 compl:∀ (n:Nat) l,fr[n]?=some l->∀ (j:Nat) (s:Ae) (k:Nat) (s':Ae),HO i m j k->st[j]?=some s->k<t.Rules.length->st[n]?=some s'->By t s (k:Nat)=(s',true)->(j:Int)∈l
 small:∀ (n:Nat) l,fr[n]?=some l->l.length<=i*11+m
theorem Da.snoc {t:Ab} {st:List Ae} {fr:List (List Int)} {i m:Nat} (h:Da t st fr i m) {p:Ae} (hp:p ∉ st) (hi:i<st.length):Da t (st++[p]) (fr++[[]]) i m:=by
 have hget:∀ (j:Nat) s,HO i m j 0\/j<=i->(st++[p])[j]?=some s->st[j]?=some s:=λ j s hj hs=>by
  rcases JlP j st.length with hlt|hge
  ·rwa[Jl7 hlt]at hs
  ·rcases hj with (h1|⟨h1,_⟩)|h1<;>omega
 have hle:∀ {j k},HO i m j k->j<=i:=λ h=>by rcases h with h|⟨h,_⟩<;>omega
 refine⟨by simp[h.len],λ j s k ht hs hk h2=>?_,λ n l hl x hx=>?_,λ n l hl j s k s' ht hs hk hs' he=>?_,λ n l hl=>?_⟩
 ·exact List.mem_append_left _ (h.cov j s k ht (hget j s (.inr (hle ht)) hs) hk h2)
 ·rcases JlP n fr.length with hlt|hge
  ·rw[Jl7 hlt]at hl;obtain⟨j,s,k,s',a1,a2,a3,a4,a5⟩:=h.sound n l hl x hx;exact⟨j,s,k,s',a1,by rw[Jl7 (Am a2)];exact a2,a3,by rw[Jl7 (Am a4)];exact a4,a5⟩
  ·rw[Jmh hge]at hl;have:n-fr.length=0:=by have:=Am hl;simp at this;omega
   rw[this]at hl;simp at hl;subst hl;simp at hx
 ·have hs0:=hget j s (.inr (hle ht)) hs;have hmem:s'∈st:=by have:=h.cov j s k ht hs0 hk (by rw[he]);rwa[he]at this
  rcases JlP n fr.length with hlt|hge
  ·rw[Jl7 hlt]at hl;rw[Jl7 (by rw[← h.len];exact hlt)]at hs';exact h.compl n l hl j s k s' ht hs0 hk hs' he
  ·have hn:n=st.length:=by have:=Am hs';simp at this;rw[h.len]at hge;omega
   subst hn;simp at hs';subst hs';exact absurd hmem hp
 ·rcases JlP n fr.length with hlt|hge
  ·rw[Jl7 hlt]at hl;exact h.small n l hl
  ·rw[Jmh hge]at hl;have:n-fr.length=0:=by have:=Am hl;simp at this;omega
   rw[this]at hl;simp at hl;subst hl;simp
theorem Da.put {t:Ab} {st:List Ae} {fr:List (List Int)} {i m:Nat} (h:Da t st fr i m) (hnd:st.Nodup) {s p:Ae} {q:Nat} {l:List Int} (hs:st[i]?=some s) (hm:m<t.Rules.length) (hst:By t s (m:Nat)=(p,true)) (hq:st[q]?=some p) (hl:fr[q]?=some l):Da t st (fr.set q (l++[(i:Int)])) i (m+1):=by
 have htk:∀ {j k},HO i (m+1) j k->HO i m j k\/(j=i/\k=m):=λ {j k} h=>by
  unfold HO at *;omega
 have hql:=Am hl;refine⟨by simp[h.len],λ j x k ht hx hk h2=>?_,λ n l' hl' x hx=>?_,λ n l' hl' j x k x' ht hx hk hx' he=>?_,λ n l' hl'=>?_⟩
 ·rcases htk ht with ht|⟨rfl,rfl⟩
  ·exact h.cov j x k ht hx hk h2
  ·rw[hs]at hx;cases hx;rw[hst];exact Jl1 hq
 ·by_cases e:n=q
  ·subst e;rw[Jma hql]at hl';cases hl';simp only[List.mem_append,List.mem_singleton]at hx;rcases hx with hx|rfl
   ·exact h.sound n l hl x hx
   ·exact⟨i,s,m,p,rfl,hs,hm,hq,hst⟩
  ·rw[Jmf (Ne.symm e)]at hl';exact h.sound n l' hl' x hx
 ·rcases htk ht with ht|⟨rfl,rfl⟩
  ·by_cases e:n=q
   ·subst e;rw[Jma hql]at hl';cases hl';exact List.mem_append_left _ (h.compl n l hl j x k x' ht hx hk hx' he)
   ·rw[Jmf (Ne.symm e)]at hl';exact h.compl n l' hl' j x k x' ht hx hk hx' he
  ·rw[hs]at hx;cases hx;rw[hst]at he;cases he;have e:n=q:=by
    have h1:=Am hx';have h2:=Am hq;rw[JlZ h1]at hx';rw[JlZ h2]at hq;exact(List.getElem_inj (h₀:=h1) (h₁:=h2) hnd).1 ((Option.some.inj hx').trans (Option.some.inj hq).symm)
   subst e;rw[Jma hql]at hl';cases hl';simp
 ·by_cases e:n=q
  ·subst e;rw[Jma hql]at hl';cases hl';have:=h.small n l hl;simp;omega
  ·rw[Jmf (Ne.symm e)]at hl';have:=h.small n l' hl';omega
theorem Da.skip {t:Ab} {st:List Ae} {fr:List (List Int)} {i m:Nat} (h:Da t st fr i m) {s:Ae} (hs:st[i]?=some s) (hst:(By t s (m:Nat)).2=false):Da t st fr i (m+1):=by
 have htk:∀ {j k},HO i (m+1) j k->HO i m j k\/(j=i/\k=m):=λ {j k} h=>by
  unfold HO at *;omega
 refine⟨h.len,λ j x k ht hx hk h2=>?_,h.sound,λ n l hl j x k x' ht hx hk hx' he=>?_,λ n l hl=>by have:=h.small n l hl;omega⟩
 ·rcases htk ht with ht|⟨rfl,rfl⟩
  ·exact h.cov j x k ht hx hk h2
  ·rw[hs]at hx;cases hx;rw[hst]at h2;cases h2
 ·rcases htk ht with ht|⟨rfl,rfl⟩
  ·exact h.compl n l hl j x k x' ht hx hk hx' he
  ·rw[hs]at hx;cases hx;rw[he]at hst;cases hst
end Go.AI
end
section
namespace Go.AI
theorem Jv {α:Type} {l:List α} {i:Nat} {x:α} (h:l[i]?=some x):idx l (i:Int)=some x:=by
 unfold idx;rw[if_pos (by omega)];simpa using h
theorem CU {α:Type} {eb:Nat} {xs ys:List α} (h:(xs.length+ys.length)*eb<=70368744177664):app eb xs ys=some (xs++ys):=by
 unfold app;rw[if_pos h]
theorem VN {t:Ab} (ht:Hj t) {i m:Nat} {s:Ae} {st:List Ae} {fr:List (List Int)} {nb:List (Ae×Int)} (hF:FX t st) (hi:st[i]?=some s) (hN:JV st nb) (hR:Da t st fr i m) (hm:m<t.Rules.length) :
  ∃ fr' nb',JV (LQ t s st m) nb'/\Da t (LQ t s st m) fr' i (m+1)/\∀ n,B4 n t (i:Int) st fr nb (m:Int)=some (.inl (LQ t s st m,fr',nb',((m+1:Nat):Int))):=by
 have hil:=Am hi;have hlen:=hF.len;have hrl:=ht.1;have hinc:Be .i64 (m:Int) 1=((m+1:Nat):Int):=by rw[Rc (by omega) (by omega)];rfl
 have hcond:decide ((m:Int)<((t.Rules.length:Nat):Int))=true:=by simpa using hm
 cases hp:(By t s (m:Nat)).2 with
 | false=>
  have ha:LQ t s st m=st:=by unfold LQ;rw[if_neg (by rw[hp];simp)]
  refine⟨fr,nb,by rw[ha];exact hN,by rw[ha];exact hR.skip hi hp,λ n=>?_⟩;unfold B4;rw[if_pos hcond,Jv hi];simp only[JlF,Py ht.short,hp,Bool.not_false,if_true,Df,hinc,ha]
 | true=>
  have hpe:By t s (m:Nat)=((By t s (m:Nat)).1,true):=Prod.ext rfl hp;generalize hpp:(By t s (m:Nat)).1=p at hpe;by_cases hmem:p∈st
  ·have ha:LQ t s st m=st:=by unfold LQ;rw[if_neg (by rw[hpp];exact λ hh=>hh.2 hmem)]
   obtain⟨q,hq⟩:=List.mem_iff_getElem?.1 hmem;have hql:=Am hq;obtain⟨lq,hfq⟩:∃ lq,fr[q]?=some lq:=⟨_,JlZ (by rw[hR.len];exact hql)⟩;have hsm:=hR.small q _ hfq;have hget:BR p nb=some (q:Int):=by rw[hN p,DD hF.nodup hq];rfl
   have hiv:i<768:=by omega
   refine⟨fr.set q (lq++[(i:Int)]),nb,by rw[ha];exact hN,by rw[ha];exact hR.put hF.nodup hi hm hpe hq hfq,λ n=>?_⟩;unfold B4;rw[if_pos hcond,Jv hi];simp only[JlF,Py ht.short,hpe,hget,Option.isSome_some,JlM,Jmb,if_false,JlK,El];rw[Jv hfq];simp only[JlF];rw[CU (by simp;omega)];simp only[JlF,Df,hinc,ha,Jl8]
  ·have ha:LQ t s st m=st++[p]:=by unfold LQ;rw[if_pos ⟨hp,by rw[hpp];exact hmem⟩,hpp]
   have hnd:(st++[p]).Nodup:=by have:=(hF.add ht hi hm).nodup;rwa[ha]at this
   have hget:BR p nb=none:=by rw[hN p,Ju hmem];rfl
   have hR':=hR.snoc hmem hil;have hfq:(fr++[[]])[st.length]?=some ([]:List Int):=by rw[← hR.len];simp
   refine⟨(fr++[[]]).set st.length ([]++[(i:Int)]),Eh p (st.length:Nat) nb,by rw[ha];exact hN.snoc hF.nodup hmem,by rw[ha];exact hR'.put hnd (by rw[Jl7 hil];exact hi) hm hpe (by simp) hfq,λ n=>?_⟩;unfold B4;rw[if_pos hcond,Jv hi];simp only[JlF,Py ht.short,hpe,hget,Option.isSome_none,Bool.not_false,JlM,Jmb,if_true,if_false];rw[CU (by simp;omega),JlF,CU (by simp[hR.len];omega),JlF];simp only[El];rw[Jv hfq];simp only[JlF];rw[CU (by simp)];simp only[JlF,Df,hinc,ha,Jl8]
theorem Da.next {t:Ab} {st:List Ae} {fr:List (List Int)} {i:Nat} (h:Da t st fr i t.Rules.length) (hr:t.Rules.length<=11):Da t st fr (i+1) 0:=by
 have htk:∀ {j k},k<t.Rules.length->HO (i+1) 0 j k->HO i t.Rules.length j k:=λ {j k} hk h=>by
  unfold HO at *;omega
 exact⟨h.len,λ j s k ht hs hk=>h.cov j s k (htk hk ht) hs hk,h.sound,λ n l hl j s k s' ht hs hk=>h.compl n l hl j s k s' (htk hk ht) hs hk,λ n l hl=>by have:=h.small n l hl;omega⟩
theorem Jcg {t:Ab} (ht:Hj t) {i:Nat} {s:Ae} {st:List Ae} {fr:List (List Int)} {nb:List (Ae×Int)} (hF:FX t st) (hi:st[i]?=some s) (hN:JV st nb) (hR:Da t st fr i 0) :
  ∃ r:List Ae×List (List Int)×List (Ae×Int),(r.1=Pj t s t.Rules.length st/\JV r.1 r.2.2/\Da t r.1 r.2.1 (i+1) 0) /\
   Ev (λ n=>whl (λ (x:((List Ae)×(List (List Int))×(List (Ae×Int))×Int))=>B4 n t (i:Int) x.1 x.2.1 x.2.2.1 x.2.2.2) n (st,fr,nb,0)) r:=by
 refine Jlw (body:=λ n x=>B4 n t (i:Int) x.1 x.2.1 x.2.2.1 x.2.2.2) (λ k x=>∃ m:Nat,m<=t.Rules.length/\k=t.Rules.length-m/\x.1=Pj t s m st/\x.2.2.2=(m:Int)/\JV x.1 x.2.2.1/\Da t x.1 x.2.1 i m) ?_ t.Rules.length (st,fr,nb,0) ⟨0,by omega,by omega,rfl,rfl,hN,hR⟩;rintro k ⟨st',fr',nb',m'⟩ ⟨m,hm,rfl,h1,h2,h3,h4⟩;simp only at h1 h2 h3 h4;subst h1;subst h2;rcases JlP m t.Rules.length with hlt|hge
 ·left;have hi':(Pj t s m st)[i]?=some s:=CT (IN t s st m) hi;obtain⟨fr2,nb2,g1,g2,g3⟩:=VN ht (hF.exp ht hi m hm) hi' h3 h4 hlt;exact⟨_,t.Rules.length-(m+1),by omega,⟨m+1,hlt,rfl,(Lx t s m st).symm,rfl,g1,g2⟩,Ev.all g3⟩
 ·right;have e:m=t.Rules.length:=by omega
  subst e;refine⟨(Pj t s t.Rules.length st,fr',nb'),⟨rfl,h3,h4.next ht.1⟩,Ev.all λ n=>?_⟩;unfold B4;rw[if_neg (by simp)]
theorem Rg {t:Ab} (ht:Hj t):∃ fr,Da t (AN t) fr (AN t).length 0/\Ev (λ n=>GC n t) (AN t,fr):=by
 have h0:FX t [G5]:=⟨by simp,λ s hs=>by simp at hs;subst hs;exact⟨by decide,by decide,by decide,by decide,by decide,by decide⟩,rfl,λ j s hj h0=>by cases j with|zero=>omega|succ j=>simp at hj⟩;have loop:∃ r:List Ae×List (List Int),(r.1=AN t/\Da t r.1 r.2 r.1.length 0) /\
   Ev (λ n=>whl (λ (x:((List Ae)×(List (List Int))×(List (Ae×Int))×Int))=>Dg n t x.1 x.2.1 x.2.2.1 x.2.2.2) n ([G5],([[]]:List (List Int)),(Eh G5 0 []),0)) r:=by
  refine Jlw (body:=λ n x=>Dg n t x.1 x.2.1 x.2.2.1 x.2.2.2) (λ k x=>∃ i:Nat,i<=x.1.length/\k=800-i/\VL t (800-i) i x.1=AN t/\x.2.2.2=(i:Int)/\FX t x.1/\JV x.1 x.2.2.1/\Da t x.1 x.2.1 i 0) ?_ 800 _ ⟨0,by simp,by omega,rfl,rfl,h0,?_,?_⟩
  ·rintro k ⟨st,fr,nb,i'⟩ ⟨i,hil,rfl,hb,hi',hF,hN,hR⟩;simp only at hil hb hi' hF hN hR;subst hi';have hlen:=hF.len;rcases JlP i st.length with hlt|hge
   ·left;have hi:st[i]?=some st[i]:=JlZ hlt;obtain⟨r,⟨g1,g2,g3⟩,g4⟩:=Jcg ht hF hi hN hR;have hexp:=hF.exp ht hi _ (JlO _);refine⟨(r.1,r.2.1,r.2.2,((i+1:Nat):Int)),800-(i+1),by omega,⟨i+1,?_,rfl,?_,rfl,by rw[g1];exact hexp,g2,g3⟩,?_⟩
    ·simp only[g1];have:=(IN t st[i] st t.Rules.length).length_le;omega
    ·simp only[g1];rw[← hb];have e:800-i=(800-(i+1))+1:=by omega
     rw[e];simp only[VL,hi]
    ·refine(Ev.bind g4 (g:=λ _ y2=>some (.inl (y2.1,y2.2.1,y2.2.2,((i+1:Nat):Int)))) Ev.const).congr λ n=>?_;unfold Dg;rw[if_pos (by simpa using hlt)];have hinc:Be .i64 (i:Int) 1=((i+1:Nat):Int):=by rw[Rc (by omega) (by omega)];rfl
     rw[hinc]
   ·right;have e:i=st.length:=by omega
    subst e;have hst:st=AN t:=by
     rw[← hb];have e:800-st.length=(800-(st.length+1))+1:=by omega
     rw[e];simp[VL]
    refine⟨(st,fr),⟨hst,hR⟩,Ev.all λ n=>?_⟩;unfold Dg;rw[if_neg (by simp)]
  ·intro s;simp only[Eh,BR];by_cases e:s=G5
   ·subst e;simp
   ·have:¬ G5=s:=λ h=>e h.symm;simp[e,this]
  ·refine⟨rfl,λ j s k ht=>?_,λ n l hl x hx=>?_,λ n l hl j s k s' ht=>?_,λ n l hl=>?_⟩
   ·unfold HO at ht;omega
   ·cases n with
    | zero=>simp at hl;subst hl;simp at hx
    | succ n=>simp at hl
   ·unfold HO at ht;omega
   ·cases n with
    | zero=>simp at hl;subst hl;simp
    | succ n=>simp at hl
 obtain⟨⟨st,fr⟩,⟨g1,g2⟩,g3⟩:=loop;simp only at g1 g2;subst g1;refine⟨fr,g2,?_⟩;have hs:∀ n,NW n=some G5:=λ n=>rfl;refine(Ev.bind g3 (g:=λ _ y3=>some (y3.1,y3.2)) Ev.const).congr λ n=>?_;unfold GC;rw[hs,JlF]
theorem W3 {t:Ab} (ht:Hj t):Ev (λ n=>Mw n t) (AN t):=by
 obtain⟨fr,_,h⟩:=Rg ht;exact(Ev.bind h (g:=λ _ r=>some r.1) Ev.const).congr λ n=>rfl
end Go.AI
end
section
namespace Go.AI
def Tot {α:Type} (f:Nat->Option α) (P:α->Prop):Prop:=∃ z,P z/\Ev f z
def Rd2 {σ ρ:Type} (I:σ->Prop) (P:ρ->Prop):σ⊕ρ->Prop
 | .inl y=>I y
 | .inr r=>P r
variable {α β σ ρ:Type} {P R:α->Prop}
theorem Tot.ev {f:Nat->Option α} {z:α} (h:Tot f (λ x=>x=z)):Ev f z:=by obtain⟨_,rfl,h⟩:=h;exact h
theorem Ev.tot {f:Nat->Option α} {z:α} (h:Ev f z) (hp:P z):Tot f P:=⟨z,hp,h⟩
theorem Jlx {z:α} (h:P z):Tot (λ _=>some z) P:=⟨z,h,Ev.const⟩
theorem Tot.mono {f:Nat->Option α} (h:Tot f R) (hp:∀ x,R x->P x):Tot f P:=by obtain⟨z,hz,h⟩:=h;exact⟨z,hp z hz,h⟩
theorem Tot.bind {f:Nat->Option β} {g:Nat->β->Option α} {R:β->Prop} (h:Tot f R) (k:∀ x,R x->Tot (λ n=>g n x) P):Tot (λ n=>(f n).bind (g n)) P:=by
 obtain⟨x,hx,h⟩:=h;obtain⟨z,hz,h'⟩:=k x hx;exact⟨z,hz,Ev.bind h h'⟩
theorem Jly {f:Nat->Option β} {g:Nat->β->Option α} {x:β} (h:Ev f x) (k:Tot (λ n=>g n x) P):Tot (λ n=>(f n).bind (g n)) P:=by
 obtain⟨z,hz,h'⟩:=k;exact⟨z,hz,Ev.bind h h'⟩
theorem Tot.bindC {x:Option β} {y:β} {g:Nat->β->Option α} (h:x=some y) (k:Tot (λ n=>g n y) P):Tot (λ n=>x.bind (g n)) P:=by subst h;exact k
theorem Jlz {f:Nat->Option β} {y:β} {g:Nat->β->Option α} (h:∀ n,f n=some y) (k:Tot (λ n=>g n y) P):Tot (λ n=>(f n).bind (g n)) P:=Jly (Ev.all h) k
theorem Tot.ite {c:Bool} {a b:Nat->Option α} (h1:c=true->Tot a P) (h2:c=false->Tot b P):Tot (λ n=>if c=true then a n else b n) P:=by
 cases c with
 | true=>exact h1 rfl
 | false=>exact h2 rfl
theorem Tot.iteT {c:Bool} {a b:Nat->Option α} (h:c=true) (k:Tot a P):Tot (λ n=>if c=true then a n else b n) P:=by subst h;exact k
theorem Tot.iteF {c:Bool} {a b:Nat->Option α} (h:c=false) (k:Tot b P):Tot (λ n=>if c=true then a n else b n) P:=by subst h;exact k
theorem Tot.guard {c:Bool} {f:Nat->Option β} {d:β} {g:Nat->β->Option α} {R:β->Prop} (h:c=true->Tot f R) (k:∀ x,(c=true->R x)->Tot (λ n=>g n x) P):Tot (λ n=>(if c=true then f n else some d).bind (g n)) P:=by
 cases c with
 | true=>exact Tot.bind (h rfl) λ x hx=>k x λ _=>hx
 | false=>exact k d λ h=>by cases h
theorem Tot.whl {body:Nat->σ->Option (σ⊕ρ)} {P:ρ->Prop} (I:Nat->σ->Prop) (h:∀ k x,I k x->Tot (λ n=>body n x) (Rd2 (λ y=>∃ j,j<k/\I j y) P)):∀ (k:Nat) (x:σ),I k x->Tot (λ n=>Go.AI.whl (body n) n x) P:=by
 have key:∀ (k:Nat) (x:σ),I k x->∃ r,P r/\∃ N c,∀ n fuel,N<=n->c<=fuel->Go.AI.whl (body n) fuel x=some r:=by
  intro k;induction k using Nat.strongRecOn with
  | _ k ih=>
   intro x hx;obtain⟨z,hz,N1,h1⟩:=h k x hx;cases z with
   | inl y=>
    obtain⟨j,hj,hy⟩:=hz;obtain⟨r,hr,N2,c,h2⟩:=ih j hj y hy;refine⟨r,hr,max N1 N2,c+1,λ n fuel hn hf=>?_⟩;cases fuel with
    | zero=>omega
    | succ fuel=>
     have e:=h1 n (by omega);simp only at e;simp only[Go.AI.whl,e];exact h2 n fuel (by omega) (by omega)
   | inr r=>
    refine⟨r,hz,N1,1,λ n fuel hn hf=>?_⟩;cases fuel with
    | zero=>omega
    | succ fuel=>
     have e:=h1 n hn;simp only at e;simp only[Go.AI.whl,e]
 intro k x hx;obtain⟨r,hr,N,c,hh⟩:=key k x hx;exact⟨r,hr,max N c,λ m hm=>hh m m (by omega) (by omega)⟩
theorem Tot.upto {body:Nat->σ->Option (σ⊕ρ)} {P:ρ->Prop} (N:Nat) (I:Nat->σ->Prop)
  (step:∀ i x,i<N->I i x->Tot (λ n=>body n x) (Rd2 (I (i+1)) P))
  (last:∀ x,I N x->Tot (λ n=>body n x) (Rd2 (λ _=>False) P)) (x:σ) (h0:I 0 x):Tot (λ n=>Go.AI.whl (body n) n x) P:=by
 refine Tot.whl (body:=body) (λ k x=>∃ i,i<=N/\k=N-i/\I i x) ?_ N x ⟨0,by omega,by omega,h0⟩;rintro k x ⟨i,hi,rfl,hx⟩;rcases JlP i N with hlt|hge
 ·refine(step i x hlt hx).mono λ z hz=>?_;cases z with
  | inl y=>exact⟨N-(i+1),by omega,i+1,by omega,rfl,hz⟩
  | inr r=>exact hz
 ·have:i=N:=by omega
  subst this;refine(last x hx).mono λ z hz=>?_;cases z with
  | inl y=>exact hz.elim
  | inr r=>exact hz
theorem DE {l:List α} {i:Nat} {x:α} (h:l[i]?=some x):idx l (i:Int)=some x:=by
 unfold idx;rw[if_pos (by omega)];simpa using h
theorem A8 {l:List α} {i:Nat} (h:i<l.length):idx l (i:Int)=some l[i]:=DE (JlZ h)
theorem Rh {eb:Nat} {xs ys:List α} (h:(xs.length+ys.length)*eb<=70368744177664):app eb xs ys=some (xs++ys):=by
 unfold app;rw[if_pos h]
theorem Jw {l:List α} {i:Nat} {y:α} (h:i<l.length):put l (i:Int) y=some (l.set i y):=by
 unfold put;rw[if_pos (by omega),Jl8]
theorem Ri {x y:List UInt8} (h:x.length+y.length<=9223372036854775807):cat x y=some (x++y):=by
 unfold cat;rw[if_pos h]
end Go.AI
end
section
namespace Go.AI
theorem Jel (a:Int):IntKind.i64.wrap a=if decide (a % 18446744073709551616>=9223372036854775808)=true then a % 18446744073709551616-18446744073709551616 else a % 18446744073709551616:=rfl
theorem w64 {a:Int} (h:-9223372036854775808<=a) (h':a<9223372036854775808):IntKind.i64.wrap a=a:=by
 rw[Jel];simp only[decide_eq_true_eq];split<;>omega
theorem Jch {a b:Int} (h:-9223372036854775808<=a+b) (h':a+b<9223372036854775808):Be .i64 a b=a+b:=w64 h h'
theorem Rj {a b:Int} (h:-9223372036854775808<=a-b) (h':a-b<9223372036854775808):C4 .i64 a b=a-b:=w64 h h'
theorem Bg {i:Nat} (h:i<9223372036854775807):Be .i64 (i:Int) 1=((i+1:Nat):Int):=by rw[Jch]<;>omega
theorem JiS (a:Int):IntKind.u8.wrap a=a % 256:=rfl
theorem w8 {a:Int} (h:0<=a) (h':a<256):IntKind.u8.wrap a=a:=by rw[JiS];omega
theorem SJ {a m:Int} (h:0<=a) (hm:0<m):Bl a m=a % m/\0<=Bl a m/\Bl a m<m:=by
 have e:Bl a m=a % m:=by unfold Bl;rw[Int.tmod_eq_emod_of_nonneg h]
 rw[e];exact⟨rfl,Int.emod_nonneg _ (by omega),Int.emod_lt_of_pos _ hm⟩
variable {α β σ ρ:Type}
theorem Jkr [Inhabited α] {l:List α} {i:Int} (h:0<=i) (h':i<l.length):idx l i=some (l.getD i.toNat default):=by
 unfold idx;rw[if_pos h,List.getD_eq_getElem?_getD,JlZ (by omega)];rfl
theorem HP [Inhabited α] {l:List α} {i:Nat} (h:i<l.length):idx l (i:Int)=some (l.getD i default):=by
 rw[Jkr (by omega) (by omega),Jl8]
theorem Jci {l:List α} {a b:Int} (h:0<=a) (h1:a<=b) (h2:b<=l.length):sub l a b=some ((l.take b.toNat).drop a.toNat):=by
 unfold sub;rw[if_pos ⟨h,h1,h2⟩]
theorem XV {l:List α} {k:Nat} (h:k<=l.length):sub l 0 (k:Int)=some (l.take k):=by
 rw[Jci (by omega) (by omega) (by omega)];simp
theorem Jcj {eb:Nat} {k:Int} {z:α} (h:0<=k) (h':k.toNat*eb<=70368744177664):mkl eb k z=some (List.replicate k.toNat z):=by
 unfold mkl;rw[if_pos ⟨h,h'⟩]
theorem Dh {b:Bool} (h:b=true):B7 b=some ():=by subst h;rfl
end Go.AI
end
section
namespace Go.AI
def scan {ρ:Type} (N:Nat) (stop:Nat->Option ρ):Unit⊕ρ:=match (List.range N).findSome? stop with
 | some r=>.inr r
 | none=>.inl ()
theorem Gs {ρ:Type} {body:Nat->Int->Option (Int⊕(Unit⊕ρ))} (N:Nat) (stop:Nat->Option ρ)
  (h:∀ i,i<N->Ev (λ n=>body n (i:Int)) (match stop i with|some r=>.inr (.inr r)|none=>.inl ((i+1:Nat):Int)))
  (h2:Ev (λ n=>body n (N:Int)) (.inr (.inl ()))):Ev (λ n=>whl (body n) n 0) (AI.scan N stop):=by
 have key:∀ (k i:Nat),i+k=N->(List.range N).findSome? stop=((List.range k).map (i+·)).findSome? stop->∃ M c,∀ n fuel,M<=n->c<=fuel->whl (body n) fuel (i:Int)=some (AI.scan N stop):=by
  intro k;induction k with
  | zero=>
   intro i hi hf;have:i=N:=by omega
   subst this;obtain⟨M,hM⟩:=h2;refine⟨M,1,λ n fuel hn hfu=>?_⟩;obtain⟨fuel,rfl⟩:∃ f,fuel=f+1:=⟨fuel-1,by omega⟩;have e:=hM n hn;simp only at e;simp only[AI.whl,e];unfold AI.scan;rw[hf];rfl
  | succ k ih=>
   intro i hi hf;obtain⟨M,hM⟩:=h i (by omega);have hs:(List.range (k+1)).map (i+·)=i::(List.range k).map ((i+1)+·):=by
    rw[List.range_succ_eq_map];simp only[JlV,Nat.add_zero,List.map_map,List.cons.injEq,true_and];apply JlX;intro a _;simp only[Function.comp];omega
   rw[hs,List.findSome?_cons]at hf;cases hst:stop i with
   | some r=>
    rw[hst]at hf hM;refine⟨M,1,λ n fuel hn hfu=>?_⟩;obtain⟨fuel,rfl⟩:∃ f,fuel=f+1:=⟨fuel-1,by omega⟩;have e:=hM n hn;simp only at e;simp only[AI.whl,e];unfold AI.scan;rw[hf]
   | none=>
    rw[hst]at hf hM;obtain⟨M2,c,h3⟩:=ih (i+1) (by omega) hf;refine⟨max M M2,c+1,λ n fuel hn hfu=>?_⟩;obtain⟨fuel,rfl⟩:∃ f,fuel=f+1:=⟨fuel-1,by omega⟩;have e:=hM n (by omega);simp only at e;simp only[AI.whl,e];exact h3 n fuel (by omega) (by omega)
 obtain⟨M,c,hh⟩:=key N 0 (by omega) (by simp);exact⟨max M c,λ m hm=>hh m m (by omega) (by omega)⟩
theorem Hv {ρ:Type} {N:Nat} {stop:Nat->Option ρ} (h:∀ i,i<N->stop i=none):scan N stop=.inl ():=by
 unfold scan;rw[List.findSome?_eq_none_iff.2 λ i hi=>h i (List.mem_range.1 hi)]
theorem Hw {ρ:Type} {N:Nat} {stop:Nat->Option ρ} {i:Nat} (hi:i<N) (h:(stop i).isSome=true):∃ k r,k<N/\stop k=some r/\scan N stop=.inr r:=by
 unfold scan;cases hf:(List.range N).findSome? stop with
 | none=>rw[List.findSome?_eq_none_iff.1 hf i (List.mem_range.2 hi)]at h;cases h
 | some r=>
  obtain⟨k,hk,hr⟩:=List.exists_of_findSome?_eq_some hf;exact⟨k,r,List.mem_range.1 hk,hr,rfl⟩
def Nv (b:UInt8):Int:=(b.toNat:Int)
def Hk (b:UInt8):Bool:=decide (Cs .u8 (Nv b) 127>=32)&&decide (Cs .u8 (Nv b) 127<=126)
def Di (b:UInt8):Bool:=Cs .u8 (Nv b) 127==32
theorem Nw {s:List UInt8} {i:Nat} {b:UInt8} (h:s[i]?=some b):Iu s (i:Int)=some (Nv b):=by
 rw[Nu (Am h)];unfold SI Nv;rw[h];rfl
theorem R5 {i n:Nat} (h:i<n):decide ((i:Int)<((n:Nat):Int))=true:=by simpa using h
def O2 (s:List UInt8):Int×Int:=match scan s.length (λ i=>if Hk (s.getD i 0)then none else some ((i:Int),(60:Int)))with
 | .inl _=>(((s.length:Nat):Int),0)
 | .inr p=>p
theorem Cm {α:Type} {l:List α} {i:Nat} {d:α} (h:i<l.length):l.getD i d=l[i]:=by
 rw[List.getD_eq_getElem?_getD,JlZ h];rfl
theorem Jem {s:List UInt8} (hl:s.length<9223372036854775807):Ev (λ n=>Nc n s) (O2 s):=by
 unfold Nc O2;refine Ev.bind (Gs s.length (λ i=>if Hk (s.getD i 0)then none else some ((i:Int),(60:Int))) (λ i hi=>Ev.all λ n=>?_) (Ev.all λ n=>?_)) ?_
 ·unfold H3;have hg:s[i]?=some s[i]:=JlZ hi;rw[if_pos (R5 hi),Nw hg,Cm hi];have hc:G3 n (Nv s[i])=some (Hk s[i]):=rfl;simp only[JlF,hc];cases Hk s[i]with
  | true=>simp[Bg (show i<9223372036854775807 by omega)]
  | false=>simp
 ·unfold H3;rw[if_neg (by simp)]
 ·generalize scan s.length _=z;cases z<;>exact Ev.const
theorem Jck {s:List UInt8} (hl:s.length<9223372036854775807):Ev (λ n=>Nd n s) (O2 s):=by
 unfold Nd O2;refine Ev.bind (Gs s.length (λ i=>if Hk (s.getD i 0)then none else some ((i:Int),(60:Int))) (λ i hi=>Ev.all λ n=>?_) (Ev.all λ n=>?_)) ?_
 ·unfold H4;have hg:s[i]?=some s[i]:=JlZ hi;rw[if_pos (R5 hi),Nw hg,Cm hi];have hc:Id n (Nv s[i])=some (Hk s[i]):=rfl;simp only[JlF,hc];cases Hk s[i]with
  | true=>simp[Bg (show i<9223372036854775807 by omega)]
  | false=>simp
 ·unfold H4;rw[if_neg (by simp)]
 ·generalize scan s.length _=z;cases z<;>exact Ev.const
theorem VO {s:List UInt8} (h:s.all Hk=true):O2 s=(((s.length:Nat):Int),0):=by
 unfold O2;rw[Hv λ i hi=>by rw[Cm hi,JlJ.1 h _ (JlL hi)];rfl]
theorem SK {s:List UInt8} (h:s.all Hk=false):(O2 s).2=60:=by
 rw[List.all_eq_false]at h;obtain⟨b,hb,hc⟩:=h;obtain⟨i,hi,e⟩:=List.getElem_of_mem hb;unfold O2;obtain⟨k,r,hk,hr,hs⟩:=Hw (stop:=λ i=>if Hk (s.getD i 0)then none else some ((i:Int),(60:Int))) hi (by
  rw[Cm hi,e];simp only[JlN]at hc;rw[hc];rfl)
 rw[hs];simp only at hr⊢;split at hr
 ·cases hr
 ·cases hr;rfl
theorem Zg {s:List UInt8} (hl:s.length<9223372036854775807):Ev (λ n=>Ji n s) (s.all Hk):=by
 unfold Ji;refine Ev.bind (Jck hl) ?_;cases h:s.all Hk with
 | true=>rw[VO h];exact Ev.const
 | false=>rw[SK h];exact Ev.const
def Cr (r:AE) (m:Int):Bool:=
 r.Print.all Hk&&decide (r.Print.length<=4)&&decide (1<=r.Cells.length)&&decide (r.Cells.length<=4) &&
 (decide (1<=r.Left)&&decide (r.Left<=63)&&decide (1<=r.Right)&&decide (r.Right<=63)&&decide (0<=r.From)&&decide (r.From<m)&&decide (0<=r.To)&&decide (r.To<m)) &&
 r.Cells.all (λ c=>decide (c<63)) &&
 (bif r.Print.any Di then decide (r.Print.length=1)&&decide (r.Cells.length=1)&&r.Cells.any (λ c=>c==0)else !r.Cells.any (λ c=>c==0))
end Go.AI
end
section
namespace Go.AI
theorem Zh {r:AE} (hl:r.Print.length<9223372036854775807):Ev (λ n=>whl (λ (x:(Bool×Int))=>EH n r x.1 x.2) n (false,0)) (r.Print.any Di):=by
 refine Ev.whl (body:=λ n x=>EH n r x.1 x.2) (λ k x=>∃ i:Nat,x.2=(i:Int)/\i<=r.Print.length/\k=r.Print.length-i/\x.1=(r.Print.take i).any Di) ?_ r.Print.length (false,0) ⟨0,rfl,by omega,by omega,by simp⟩;rintro k ⟨b,i'⟩ ⟨i,h1,hi,rfl,h2⟩;simp only at h1 h2;subst h1;subst h2;rcases JlP i r.Print.length with hlt|hge
 ·left;have hg:r.Print[i]?=some r.Print[i]:=JlZ hlt;have hcond:decide ((i:Int)<((r.Print.length:Nat):Int))=true:=by simpa using hlt
  refine⟨((r.Print.take (i+1)).any Di,((i+1:Nat):Int)),r.Print.length-(i+1),by omega,⟨i+1,rfl,by omega,rfl,rfl⟩,Ev.all λ n=>?_⟩;unfold EH;rw[if_pos hcond];have ht:(r.Print.take (i+1)).any Di=((r.Print.take i).any Di||Di r.Print[i]):=by
   rw[List.take_add_one,hg];simp only[Option.toList_some,List.any_append,List.any_cons,List.any_nil,Bool.or_false]
  have hsp:∀ n,NX n (Nv r.Print[i])=some (Di r.Print[i]):=λ n=>rfl;rw[ht,Rc (by omega) (by omega),Nw hg];cases (r.Print.take i).any Di with
  | true=>simp
  | false=>simp[hsp]
 ·right;have e:i=r.Print.length:=by omega
  subst e;refine Ev.all λ n=>?_;unfold EH;rw[if_neg (by simp),List.take_length]
theorem Ev.upto {σ ρ:Type} {body:Nat->σ->Option (σ⊕ρ)} {R:ρ->Prop} (N:Nat) (I:Nat->σ->Prop)
  (step:∀ i x,i<N->I i x->(∃ y,I (i+1) y/\Ev (λ n=>body n x) (.inl y))\/∃ r,R r/\Ev (λ n=>body n x) (.inr r))
  (last:∀ x,I N x->∃ r,R r/\Ev (λ n=>body n x) (.inr r)) (x:σ) (h0:I 0 x):∃ r,R r/\Ev (λ n=>Go.AI.whl (body n) n x) r:=by
 refine Jlw (body:=body) (λ k x=>∃ i,i<=N/\k=N-i/\I i x) ?_ N x ⟨0,by omega,by omega,h0⟩;rintro k x ⟨i,hi,rfl,hx⟩;rcases JlP i N with hlt|hge
 ·rcases step i x hlt hx with⟨y,hy,hE⟩|h
  ·exact .inl ⟨y,N-(i+1),by omega,⟨i+1,by omega,rfl,hy⟩,hE⟩
  ·exact .inr h
 ·have:i=N:=by omega
  subst this;exact .inr (last x hx)
theorem Zi {r:AE} (hl:r.Cells.length<9223372036854775807) (y:Bool):∃ z:Bool⊕Bool,(if r.Cells.all (λ c=>decide (c<63))=true then z=.inl (r.Cells.any (λ c=>c==0))else z=.inr false)/\Ev (λ n=>whl (λ (x:(Bool×Int))=>DA n r y x.1 x.2) n (false,0)) z:=by
 refine Ev.upto (body:=λ n x=>DA n r y x.1 x.2) r.Cells.length (λ i x=>x.2=(i:Int)/\x.1=(r.Cells.take i).any (λ c=>c==0)/\(r.Cells.take i).all (λ c=>decide (c<63))=true) ?_ ?_ (false,0) ⟨rfl,by simp,by simp⟩
 ·rintro i ⟨b,i'⟩ hlt ⟨h1,h2,h3⟩;simp only at h1 h2;subst h1;subst h2;have hg:r.Cells[i]?=some r.Cells[i]:=JlZ hlt;have hcond:decide ((i:Int)<((r.Cells.length:Nat):Int))=true:=by simpa using hlt
  by_cases hc:r.Cells[i]<63
  ·left;refine⟨((r.Cells.take (i+1)).any (λ c=>c==0),((i+1:Nat):Int)),⟨rfl,rfl,?_⟩,Ev.all λ n=>?_⟩
   ·rw[List.take_add_one,hg];simp only[Option.toList_some,List.all_append,h3,List.all_cons,decide_eq_true hc,List.all_nil,Bool.and_self]
   ·unfold DA;have ht:(r.Cells.take (i+1)).any (λ c=>c==0)=((r.Cells.take i).any (λ c=>c==0)||r.Cells[i]==0):=by
     rw[List.take_add_one,hg];simp only[Option.toList_some,List.any_append,List.any_cons,List.any_nil,Bool.or_false]
    rw[if_pos hcond,Jv hg,JlF,if_neg (by simpa using hc),ht,Rc (by omega) (by omega)];cases (r.Cells.take i).any (λ c=>c==0)with
    | true=>simp
    | false=>simp
  ·right;refine⟨.inr false,?_,Ev.all λ n=>?_⟩
   ·rw[if_neg];intro h;rw[JlJ]at h;exact hc (by simpa using h r.Cells[i] (JlL hlt))
   ·unfold DA;rw[if_pos hcond,Jv hg,JlF,if_pos (by simp;omega)]
 ·rintro⟨b,i'⟩ ⟨h1,h2,h3⟩;simp only at h1 h2;subst h1;subst h2;rw[List.take_length]at h3⊢;refine⟨.inl (r.Cells.any (λ c=>c==0)),by rw[if_pos h3],Ev.all λ n=>?_⟩;unfold DA;rw[if_neg (by simp)]
theorem Jcl {r:AE} (hp:r.Print.length<9223372036854775807) (hc:r.Cells.length<9223372036854775807) (m:Int):Ev (λ n=>Lu n r m) (Cr r m):=by
 obtain⟨z,hz,hE⟩:=Zi hc (r.Print.any Di);have h1:=Zg hp;have h2:=Zh (r:=r) hp;unfold Lu;refine Ev.bind h1 ?_;unfold Cr;generalize r.Print.all Hk=a;by_cases g1:((((!a)||(decide (((r.Print.length:Nat):Int)>4)))||(decide (((r.Cells.length:Nat):Int)<1)))||(decide (((r.Cells.length:Nat):Int)>4)))=true
 ·simp only[g1,if_true];have:(a&&decide (r.Print.length<=4)&&decide (1<=r.Cells.length)&&decide (r.Cells.length<=4))=false:=by
   rw[← JlN];intro h;simp only[Jl0,decide_eq_true_eq]at h;simp only[Jmi,decide_eq_true_eq,Bool.not_eq_true']at g1;rcases g1 with ((g|g)|g)|g
   ·rw[g]at h;simp at h
   all_goals omega
  rw[this];exact Ev.const
 ·simp only[g1];by_cases g2:((((((((decide (r.Left<1))||(decide (r.Left>63)))||(decide (r.Right<1)))||(decide (r.Right>63)))||(decide (r.From<0)))||(decide (r.From>=m)))||(decide (r.To<0)))||(decide (r.To>=m)))=true
  ·simp only[g2,if_true];have:(decide (1<=r.Left)&&decide (r.Left<=63)&&decide (1<=r.Right)&&decide (r.Right<=63)&&decide (0<=r.From)&&decide (r.From<m)&&decide (0<=r.To)&&decide (r.To<m))=false:=by
    rw[← JlN];intro h;simp only[Jl0,decide_eq_true_eq]at h;simp only[Jmi,decide_eq_true_eq]at g2;omega
   rw[this,Bool.and_false];exact Ev.const
  ·have e1:(a&&decide (r.Print.length<=4)&&decide (1<=r.Cells.length)&&decide (r.Cells.length<=4))=true:=by
    simp only[Jmi,decide_eq_true_eq,Bool.not_eq_true',not_or]at g1;simp only[Jl0,decide_eq_true_eq];refine⟨⟨⟨by simpa using g1.1.1.1,?_⟩,?_⟩,?_⟩<;>omega
   have e2:(decide (1<=r.Left)&&decide (r.Left<=63)&&decide (1<=r.Right)&&decide (r.Right<=63)&&decide (0<=r.From)&&decide (r.From<m)&&decide (0<=r.To)&&decide (r.To<m))=true:=by
    simp only[Jmi,decide_eq_true_eq,not_or]at g2;simp only[Jl0,decide_eq_true_eq];omega
   rw[e1,e2];simp only[g2,Jmb,if_false];refine Ev.bind h2 (Ev.bind hE ?_);split at hz
   ·rename_i h;subst hz;rw[h];generalize r.Print.any Di=b;cases b with
    | false=>exact Ev.const
    | true=>
     refine Ev.all λ n=>?_;simp only[JlM,Jmb,if_false,Bool.and_true,Bool.true_and,cond_true];congr 3<;>rw[Bool.eq_iff_iff]<;>simp<;>omega
   ·rename_i h;subst hz;rw[JlN]at h;rw[h];exact Ev.const
end Go.AI
end
section
namespace Go.AI
theorem Ev.iteT {α:Type} {c:Bool} {a b:Nat->Option α} {z:α} (h:c=true) (k:Ev a z):Ev (λ n=>if c=true then a n else b n) z:=by subst h;exact k
theorem Ev.iteF {α:Type} {c:Bool} {a b:Nat->Option α} {z:α} (h:c=false) (k:Ev b z):Ev (λ n=>if c=true then a n else b n) z:=by subst h;exact k
theorem Ev.bindC {α β:Type} {x:Option β} {y:β} {g:Nat->β->Option α} {z:α} (h:x=some y) (k:Ev (λ n=>g n y) z):Ev (λ n=>x.bind (g n)) z:=by subst h;exact k
theorem Ev.guard {α β:Type} {c:Bool} {f:Nat->Option β} {d x:β} {g:Nat->β->Option α} {z:α} (h:c=true->Ev f x) (k:Ev (λ n=>g n (if c=true then x else d)) z):Ev (λ n=>(if c=true then f n else some d).bind (g n)) z:=by
 cases c with
 | true=>exact Ev.bind (h rfl) k
 | false=>exact k
theorem Jcm {α β:Type} {a:List α} {b:List β}:(((a.length:Nat):Int) != ((b.length:Nat):Int))=decide (a.length≠b.length):=by
 rw[Bool.eq_iff_iff];simp only[bne_iff_ne,ne_eq,decide_eq_true_eq];omega
theorem SL {α:Type} [DecidableEq α] [Inhabited α] (a b:List α) (h:a.length=b.length):scan a.length (λ i=>if a.getD i default=b.getD i default then none else some false)=if a=b then .inl ()else .inr false:=by
 by_cases e:a=b
 ·subst e;rw[if_pos rfl];exact Hv λ i _=>by rw[if_pos rfl]
 ·rw[if_neg e];have:∃ i,i<a.length/\a.getD i default≠b.getD i default:=by
   apply Classical.byContradiction;intro hn;refine e (List.ext_getElem h λ i h1 h2=>?_);have:=Classical.byContradiction λ hc=>hn ⟨i,h1,hc⟩;rwa[Cm h1,Cm h2]at this
  obtain⟨i,hi,hne⟩:=this;obtain⟨k,r,_,hr,hs⟩:=Hw (stop:=λ i=>if a.getD i default=b.getD i default then none else some false) hi (by rw[if_neg hne];rfl)
  rw[hs];split at hr
  ·cases hr
  ·cases hr;rfl
theorem Nx (a b:List Int) (ha:a.length<9223372036854775807):Ev (λ n=>EV n a b) (decide (a=b)):=by
 unfold EV;rw[Jcm];by_cases h:a.length=b.length
 ·refine Ev.iteF (by simp[h]) ?_;refine Ev.bind (Gs a.length (λ i=>if a.getD i default=b.getD i default then none else some false) (λ i hi=>Ev.all λ n=>?_) (Ev.all λ n=>?_)) ?_
  ·unfold EG;rw[if_pos (R5 hi),HP hi,HP (by omega)];simp only[JlF];by_cases e:a.getD i default=b.getD i default
   ·rw[if_neg (by simp only[bne_iff_ne,ne_eq];exact λ hh=>hh e),if_pos e,Bg (by omega)]
   ·rw[if_pos (by simp only[bne_iff_ne,ne_eq];exact e),if_neg e]
  ·unfold EG;rw[if_neg (by simp)]
  ·rw[SL a b h];by_cases e:a=b
   ·rw[if_pos e,decide_eq_true e];exact Ev.const
   ·rw[if_neg e,decide_eq_false e];exact Ev.const
 ·refine Ev.iteT (by simp[h]) ?_;rw[decide_eq_false (λ e=>h (by rw[e]))];exact Ev.const
theorem VP (a b:List Int) (ha:a.length<9223372036854775807):Ev (λ n=>Lo n a b) (decide (a=b)):=by
 unfold Lo;rw[Jcm];by_cases h:a.length=b.length
 ·refine Ev.iteF (by simp[h]) ?_;refine Ev.bind (Gs a.length (λ i=>if a.getD i default=b.getD i default then none else some false) (λ i hi=>Ev.all λ n=>?_) (Ev.all λ n=>?_)) ?_
  ·unfold Hp;rw[if_pos (R5 hi),HP hi,HP (by omega)];simp only[JlF];by_cases e:a.getD i default=b.getD i default
   ·rw[if_neg (by simp only[bne_iff_ne,ne_eq];exact λ hh=>hh e),if_pos e,Bg (by omega)]
   ·rw[if_pos (by simp only[bne_iff_ne,ne_eq];exact e),if_neg e]
  ·unfold Hp;rw[if_neg (by simp)]
  ·rw[SL a b h];by_cases e:a=b
   ·rw[if_pos e,decide_eq_true e];exact Ev.const
   ·rw[if_neg e,decide_eq_false e];exact Ev.const
 ·refine Ev.iteT (by simp[h]) ?_;rw[decide_eq_false (λ e=>h (by rw[e]))];exact Ev.const
theorem XW (a b:AE):decide (a=b)=(a.Print==b.Print&&decide (a.Cells=b.Cells)&&a.Left==b.Left&&a.Right==b.Right&&a.From==b.From&&a.To==b.To):=by
 rw[Bool.eq_iff_iff];cases a;cases b;simp only[decide_eq_true_eq,AE.mk.injEq,Jl0,beq_iff_eq];exact⟨λ⟨h1,h2,h3,h4,h5,h6⟩=>⟨⟨⟨⟨⟨h1,h2⟩,h3⟩,h4⟩,h5⟩,h6⟩,λ⟨⟨⟨⟨⟨h1,h2⟩,h3⟩,h4⟩,h5⟩,h6⟩=>⟨h1,h2,h3,h4,h5,h6⟩⟩
theorem VQ (a b:AE) (ha:a.Cells.length<9223372036854775807):Ev (λ n=>Hr n a b) (decide (a=b)):=by
 unfold Hr;refine Ev.guard (λ _=>Nx a.Cells b.Cells ha) (Ev.all λ n=>?_);rw[XW];cases h:(a.Print==b.Print)<;>simp
theorem Jcn (a b:AE) (ha:a.Cells.length<9223372036854775807):Ev (λ n=>Lp n a b) (decide (a=b)):=by
 unfold Lp;refine Ev.guard (λ _=>VP a.Cells b.Cells ha) (Ev.all λ n=>?_);rw[XW];cases (a.Print==b.Print)<;>cases (a.Left==b.Left)<;>cases (a.Right==b.Right)<;>cases (a.From==b.From)<;>cases (a.To==b.To)<;>simp
theorem VR (b:UInt8):(Gj (Nv b)==4)=Di b:=by
 have:∀ k:Nat,k<256->(Gj (k:Int)==4)=(Cs .u8 (k:Int) 127==32):=by decide +kernel
 exact this b.toNat b.toNat_lt
theorem Jco {s:List UInt8} {f:UInt8->Bool}:scan s.length (λ i=>if f (s.getD i 0)then some true else none)=if s.any f then .inr true else .inl ():=by
 cases h:s.any f with
 | false=>
  rw[List.any_eq_false]at h;exact Hv λ i hi=>by rw[Cm hi,if_neg (h _ (JlL hi))]
 | true=>
  rw[List.any_eq_true]at h;obtain⟨b,hb,hf⟩:=h;obtain⟨i,hi,e⟩:=List.getElem_of_mem hb;obtain⟨k,r,_,hr,hs⟩:=Hw (stop:=λ i=>if f (s.getD i 0)then some true else none) hi (by rw[Cm hi,e,hf];rfl)
  rw[hs];split at hr
  ·cases hr;rfl
  ·cases hr
theorem VS {s:List UInt8} (hl:s.length<9223372036854775807):Ev (λ n=>Hn n s) (s.any Di):=by
 unfold Hn;refine Ev.bind (Gs s.length (λ i=>if Di (s.getD i 0)then some true else none) (λ i hi=>Ev.all λ n=>?_) (Ev.all λ n=>?_)) ?_
 ·unfold E3;have hg:s[i]?=some s[i]:=JlZ hi;rw[if_pos (R5 hi),Nw hg,Cm hi];simp only[JlF,VI,VR];cases Di s[i]with
  | true=>simp
  | false=>simp[Bg (show i<9223372036854775807 by omega)]
 ·unfold E3;rw[if_neg (by simp)]
 ·rw[Jco];cases s.any Di<;>exact Ev.const
theorem Zj {l:List Int} {f:Int->Bool}:scan l.length (λ i=>if f (l.getD i 0)then none else some false)=if l.all f then .inl ()else .inr false:=by
 cases h:l.all f with
 | true=>
  rw[JlJ]at h;exact Hv λ i hi=>by rw[Cm hi,if_pos (h _ (JlL hi))]
 | false=>
  rw[List.all_eq_false]at h;obtain⟨b,hb,hf⟩:=h;obtain⟨i,hi,e⟩:=List.getElem_of_mem hb;obtain⟨k,r,_,hr,hs⟩:=Hw (stop:=λ i=>if f (l.getD i 0)then none else some false) hi (by rw[Cm hi,e,if_neg hf];rfl)
  rw[hs];split at hr
  ·cases hr
  ·cases hr;rfl
def O3 (c:Int):Bool:=decide (c<63)&&!(c==0)
theorem Zk {r:AE} (hp:r.Print.length<9223372036854775807) (hc:r.Cells.length<9223372036854775807) (m:Int):Ev (λ n=>Ln n r m) (Cr r m):=by
 unfold Ln;by_cases g1:(((decide (((r.Print.length:Nat):Int)>4))||(decide (((r.Cells.length:Nat):Int)<1)))||(decide (((r.Cells.length:Nat):Int)>4)))=true
 ·refine Ev.iteT g1 ?_;have:Cr r m=false:=by
   rw[← JlN];intro h;simp only[Cr,Jl0,decide_eq_true_eq]at h;simp only[Jmi,decide_eq_true_eq]at g1;omega
  rw[this];exact Ev.const
 ·rw[JlN]at g1;refine Ev.iteF g1 (Ev.bind (Jem hp) ?_);cases ha:r.Print.all Hk with
  | false=>
   refine Ev.iteT (by rw[SK ha];rfl) ?_;have:Cr r m=false:=by simp[Cr,ha]
   rw[this];exact Ev.const
  | true=>
   refine Ev.iteF (by rw[VO ha];rfl) ?_;by_cases g2:((((decide (r.Left<1))||(decide (r.Left>63)))||(decide (r.Right<1)))||(decide (r.Right>63)))=true
   ·refine Ev.iteT g2 ?_;have:Cr r m=false:=by
     rw[← JlN];intro h;simp only[Cr,Jl0,decide_eq_true_eq]at h;simp only[Jmi,decide_eq_true_eq]at g2;omega
    rw[this];exact Ev.const
   ·rw[JlN]at g2;refine Ev.iteF g2 ?_;by_cases g3:((((decide (r.From<0))||(decide (r.From>=m)))||(decide (r.To<0)))||(decide (r.To>=m)))=true
    ·refine Ev.iteT g3 ?_;have:Cr r m=false:=by
      rw[← JlN];intro h;simp only[Cr,Jl0,decide_eq_true_eq]at h;simp only[Jmi,decide_eq_true_eq]at g3;omega
     rw[this];exact Ev.const
    ·rw[JlN]at g3;refine Ev.iteF g3 (Ev.bind (VS hp) ?_);simp only[JlY,decide_eq_false_iff_not]at g1 g2 g3;have e1:Cr r m=(r.Cells.all (λ c=>decide (c<63))&&(bif r.Print.any Di then decide (r.Print.length=1)&&decide (r.Cells.length=1)&&r.Cells.any (λ c=>c==0)else !r.Cells.any (λ c=>c==0))):=by
      unfold Cr;rw[ha];have:(true&&decide (r.Print.length<=4)&&decide (1<=r.Cells.length)&&decide (r.Cells.length<=4)&&(decide (1<=r.Left)&&decide (r.Left<=63)&&decide (1<=r.Right)&&decide (r.Right<=63)&&decide (0<=r.From)&&decide (r.From<m)&&decide (0<=r.To)&&decide (r.To<m)))=true:=by
       simp only[Jl0,decide_eq_true_eq,true_and];omega
      rw[this,Bool.true_and]
     rw[e1];cases hsp:r.Print.any Di with
     | true=>
      refine Ev.iteT rfl ?_;by_cases g4:((((r.Print.length:Nat):Int)==1)&&(((r.Cells.length:Nat):Int)==1))=true
      ·have hl:r.Print.length=1/\r.Cells.length=1:=by
        simp only[Jl0,beq_iff_eq]at g4;omega
       obtain⟨c,hcell⟩:=List.length_eq_one_iff.1 hl.2;have hi:idx r.Cells 0=some c:=by rw[hcell];rfl
       simp only[g4,if_true,hi,JlF];refine Ev.all λ n=>?_;rw[hcell];simp only[hl.1,List.all_cons,List.all_nil,List.any_cons,List.any_nil,List.length_cons,List.length_nil,Bool.and_true,Bool.or_false,decide_true,Bool.true_and,cond_true];cases h0:(c==0)with
       | false=>simp
       | true=>
        have:c=0:=by simpa using h0
        subst this;rfl
      ·rw[JlN]at g4;simp only[g4,Jmb,if_false,JlF,Bool.false_and];refine Ev.all λ n=>?_;have:(decide (r.Print.length=1)&&decide (r.Cells.length=1))=false:=by
        rw[← JlN];intro h;simp only[Jl0,decide_eq_true_eq]at h;rw[← JlN]at g4;apply g4;simp[h.1,h.2]
       simp[this]
     | false=>
      refine Ev.iteF rfl ?_;refine Ev.bind (Gs r.Cells.length (λ i=>if O3 (r.Cells.getD i 0)then none else some false) (λ i hi=>Ev.all λ n=>?_) (Ev.all λ n=>?_)) ?_
      ·unfold Ho;rw[if_pos (R5 hi),HP hi,show r.Cells.getD i default=r.Cells.getD i 0 from rfl];generalize r.Cells.getD i 0=c;simp only[JlF,NV];by_cases hcc:O3 c=true
       ·simp only[O3,Jl0,decide_eq_true_eq,Bool.not_eq_true',beq_eq_false_iff_ne,ne_eq]at hcc;rw[if_neg (by simp;omega),if_pos (by simp[O3];omega),Bg (by omega)]
       ·rw[if_pos (by simp[O3]at hcc⊢;omega),if_neg hcc]
      ·unfold Ho;rw[if_neg (by simp)]
      ·rw[Zj];have e2:(r.Cells.all (λ c=>decide (c<63))&&!r.Cells.any (λ c=>c==0))=r.Cells.all O3:=by
        rw[Bool.eq_iff_iff];simp only[O3,Jl0,JlJ,Bool.not_eq_true',List.any_eq_false,JlN];exact⟨λ h x hx=>⟨h.1 x hx,h.2 x hx⟩,λ h=>⟨λ x hx=>(h x hx).1,λ x hx=>(h x hx).2⟩⟩
       simp only[cond_false];rw[e2];cases r.Cells.all O3<;>exact Ev.const
end Go.AI
end
section
namespace Go.AI
def Jcp (r:AE):Prop:=r.Print.length<9223372036854775807/\r.Cells.length<9223372036854775807
def G6 (t:Ab):Prop:=t.Rules.length<9223372036854775807/\∀ r∈t.Rules,Jcp r
def VT (t:Ab) (i:Nat):Unit⊕(Int×Int):=scan i (λ k=>if t.Rules.getD k default=t.Rules.getD i default then some ((i:Int),(20:Int))else none)
def IQ (t:Ab) (i:Nat):Option (Int×Int):=if Cr (t.Rules.getD i default) t.Modes=true then(match VT t i with | .inl _=>none | .inr p=>some p)else some ((i:Int),20)
def VU (t:Ab):Bool:=decide (t.Modes<1)||decide (t.Modes>8)||(t.Accept==0)||decide (IntKind.i64.wrap t.Accept>=Qg .i64 1 t.Modes)||decide (((t.Rules.length:Nat):Int)<1)||decide (((t.Rules.length:Nat):Int)>64)
def Oc (t:Ab):Int×Int:=if VU t=true then(-1,1)else match scan t.Rules.length (IQ t)with
 | .inl _=>(0,0)
 | .inr p=>p
theorem G6.get {t:Ab} (h:G6 t) {i:Nat} (hi:i<t.Rules.length):Jcp (t.Rules.getD i default):=by
 rw[Cm hi];exact h.2 _ (JlL hi)
theorem Zl {t:Ab} (ht:G6 t) {i:Nat} (hi:i<t.Rules.length):Ev (λ n=>whl (λ (x:Int)=>FK n t (i:Int) x) n 0) (VT t i):=by
 refine Gs i _ (λ k hk=>?_) (Ev.all λ n=>?_)
 ·unfold FK;refine Ev.iteT (by simpa using hk) (Ev.bindC (HP (by omega)) (Ev.bindC (HP hi) (Ev.bind (VQ _ _ (ht.get (by omega)).2) (Ev.all λ n=>?_))));by_cases e:t.Rules.getD k default=t.Rules.getD i default
  ·rw[if_pos (decide_eq_true e),if_pos e]
  ·rw[if_neg (by simpa using e),if_neg e,Bg (by have:=ht.1;omega)]
 ·unfold FK;rw[if_neg (by simp)]
theorem W4 {t:Ab} (ht:G6 t) {i:Nat} (hi:i<t.Rules.length):Ev (λ n=>whl (λ (x:Int)=>FE n t (i:Int) (t.Rules.getD i default) (t.Rules.take i) x) n 0) (VT t i):=by
 refine Gs i _ (λ k hk=>?_) (Ev.all λ n=>?_)
 ·unfold FE;have hk':k<(t.Rules.take i).length:=by rw[List.length_take];omega
  have hg:(t.Rules.take i).getD k default=t.Rules.getD k default:=by rw[Cm hk',Cm (by omega),List.getElem_take]
  refine Ev.iteT (R5 hk') (Ev.bindC (HP hk') ?_);rw[hg];refine Ev.bind (Jcn _ _ (ht.get (by omega)).2) (Ev.all λ n=>?_);by_cases e:t.Rules.getD k default=t.Rules.getD i default
  ·rw[if_pos (decide_eq_true e),if_pos e]
  ·rw[if_neg (by simpa using e),if_neg e,Bg (by have:=ht.1;omega)]
 ·unfold FE;rw[if_neg (by simp;omega)]
theorem Zm {t:Ab} (ht:G6 t):Ev (λ n=>whl (λ (x:Int)=>FL n t x) n 0) (scan t.Rules.length (IQ t)):=by
 refine Gs _ _ (λ i hi=>?_) (Ev.all λ n=>?_)
 ·unfold FL;refine Ev.iteT (R5 hi) (Ev.bindC (HP hi) (Ev.bind (Jcl (ht.get hi).1 (ht.get hi).2 t.Modes) ?_));unfold IQ;cases Cr (t.Rules.getD i default) t.Modes with
  | false=>exact Ev.iteT rfl Ev.const
  | true=>
   refine Ev.iteF rfl (Ev.bind (Zl ht hi) ?_);cases VT t i with
   | inl u=>refine Ev.all λ n=>?_;simp[Bg (show i<9223372036854775807 by have:=ht.1;omega)]
   | inr p=>exact Ev.const
 ·unfold FL;rw[if_neg (by simp)]
theorem W5 {t:Ab} (ht:G6 t):Ev (λ n=>whl (λ (x:Int)=>FF n t x) n 0) (scan t.Rules.length (IQ t)):=by
 refine Gs _ _ (λ i hi=>?_) (Ev.all λ n=>?_)
 ·unfold FF;refine Ev.iteT (R5 hi) (Ev.bindC (HP hi) (Ev.bind (Zk (ht.get hi).1 (ht.get hi).2 t.Modes) ?_));unfold IQ;cases Cr (t.Rules.getD i default) t.Modes with
  | false=>exact Ev.iteT rfl Ev.const
  | true=>
   refine Ev.iteF rfl (Ev.bindC (XV (by omega)) (Ev.bind (W4 ht hi) ?_));cases VT t i with
   | inl u=>refine Ev.all λ n=>?_;simp[Bg (show i<9223372036854775807 by have:=ht.1;omega)]
   | inr p=>exact Ev.const
 ·unfold FF;rw[if_neg (by simp)]
theorem Jcq {t:Ab} (ht:G6 t):Ev (λ n=>Lv n t) (Oc t):=by
 unfold Lv Oc;refine Ev.bindC (y:=()) ?_ ?_
 ·split
  ·rename_i h;simp only[Bool.not_eq_true',JlY,decide_eq_false_iff_not]at h;exact Dh (by simp;omega)
  ·rfl
 ·show Ev (λ n=>if VU t=true then _ else _) _
  cases VU t with
  | true=>exact Ev.iteT rfl Ev.const
  | false=>
   refine Ev.iteF rfl (Ev.bind (Zm ht) ?_);generalize scan t.Rules.length _=z;cases z<;>exact Ev.const
theorem Zn {t:Ab} (ht:G6 t):Ev (λ n=>Lq n t) (Oc t):=by
 unfold Lq Oc VU;cases h1:((decide (t.Modes<1))||(decide (t.Modes>8)))with
 | true=>exact Ev.iteT rfl (by simp only[Bool.true_or,if_true];exact Ev.const)
 | false=>
  refine Ev.iteF rfl (Ev.bindC (y:=()) ?_ ?_)
  ·split
   ·simp only[JlY,decide_eq_false_iff_not]at h1;exact Dh (by simp;omega)
   ·rfl
  ·simp only[Bool.false_or];cases h2:((t.Accept==0)||(decide (IntKind.i64.wrap t.Accept>=Qg .i64 1 t.Modes)))with
   | true=>exact Ev.iteT rfl (by simp only[Bool.true_or,if_true];exact Ev.const)
   | false=>
    refine Ev.iteF rfl ?_;simp only[Bool.false_or];cases h3:((decide (((t.Rules.length:Nat):Int)<1))||(decide (((t.Rules.length:Nat):Int)>64)))with
    | true=>exact Ev.iteT rfl (by simp only[if_true];exact Ev.const)
    | false=>
     refine Ev.iteF rfl (Ev.bind (W5 ht) ?_);simp only[Jmb,if_false];generalize scan t.Rules.length _=z;cases z<;>exact Ev.const
def Ey (t:Ab):Bool:=!VU t&&t.Rules.all (λ r=>Cr r t.Modes)&&decide t.Rules.Nodup
theorem Ny (t:Ab):((Oc t).2==0)=Ey t:=by
 unfold Oc Ey;cases VU t with
 | true=>rfl
 | false=>
  simp only[Jmb,if_false,Bool.not_false,Bool.true_and];have h20:∀ i p,IQ t i=some p->p.2=20:=by
   intro i p h;unfold IQ at h;split at h
   ·split at h
    ·cases h
    ·rename_i q hq;cases h;unfold VT scan at hq;split at hq
     ·rename_i r hr;cases hq;obtain⟨k,_,hk⟩:=List.exists_of_findSome?_eq_some hr;split at hk
      ·cases hk;rfl
      ·cases hk
     ·cases hq
   ·cases h;rfl
  have hiff:(∀ i,i<t.Rules.length->IQ t i=none)↔(t.Rules.all (λ r=>Cr r t.Modes)&&decide t.Rules.Nodup)=true:=by
   simp only[Jl0,JlJ,decide_eq_true_eq];constructor
   ·intro h;have hs:∀ i,i<t.Rules.length->Cr (t.Rules.getD i default) t.Modes=true:=by
     intro i hi;have:=h i hi;unfold IQ at this;split at this
     ·assumption
     ·cases this
    refine⟨λ r hr=>?_,?_⟩
    ·obtain⟨i,hi,e⟩:=List.getElem_of_mem hr;have:=hs i hi;rwa[Cm hi,e]at this
    ·rw[List.Nodup,List.pairwise_iff_getElem];intro k i hk hi hlt e;have h0:=h i hi;unfold IQ at h0;rw[if_pos (hs i hi)]at h0;obtain⟨_,r,_,_,hsc⟩:=Hw (N:=i) (stop:=λ k=>if t.Rules.getD k default=t.Rules.getD i default then some ((i:Int),(20:Int))else none) hlt (by rw[Cm hk,Cm hi,if_pos e];rfl)
     unfold VT at h0;rw[hsc]at h0;cases h0
   ·rintro⟨h1,h2⟩ i hi;unfold IQ;rw[if_pos (by rw[Cm hi];exact h1 _ (JlL hi))];have:VT t i=.inl ():=Hv λ k hk=>by
     rw[Cm (show k<t.Rules.length by omega),Cm hi,if_neg];rw[List.Nodup,List.pairwise_iff_getElem]at h2;exact h2 k i (by omega) hi hk
    rw[this]
  cases hv:(t.Rules.all (λ r=>Cr r t.Modes)&&decide t.Rules.Nodup)with
  | true=>rw[Hv (hiff.2 hv)];rfl
  | false=>
   have:¬∀ i,i<t.Rules.length->IQ t i=none:=λ h=>by rw[hiff.1 h]at hv;cases hv
   have:∃ i,i<t.Rules.length/\IQ t i≠none:=Classical.byContradiction λ hn=>this λ i hi=>Classical.byContradiction λ hc=>hn ⟨i,hi,hc⟩;obtain⟨i,hi,hne⟩:=this;obtain⟨k,r,_,hr,hs⟩:=Hw hi (Option.isSome_iff_ne_none.2 hne);rw[hs];show(r.2==0)=false;rw[h20 k r hr];rfl
theorem Jcr {t:Ab} (ht:G6 t):Ev (λ n=>NY n t) (Ey t):=by
 rw[← Ny];exact Ev.bind (Jcq ht) Ev.const
theorem SM {t:Ab} (ht:G6 t):Ev (λ n=>Lr n t) (Ey t):=by
 rw[← Ny];exact Ev.bind (Zn ht) Ev.const
theorem W6 {t:Ab} {l:List AE} (h:Ey t=true) (hl:l.Sublist t.Rules) (h1:1<=l.length):Ey ⟨t.Modes,t.Accept,l⟩=true:=by
 unfold Ey VU at h⊢;simp only[Jl0,Bool.not_eq_true',JlY,decide_eq_false_iff_not,JlJ,decide_eq_true_eq]at h⊢;have hle:=hl.length_le;exact⟨⟨⟨⟨h.1.1.1.1,by omega⟩,by omega⟩,λ r hr=>h.1.2 r (hl.subset hr)⟩,hl.nodup h.2⟩
theorem Nz {t:Ab} (h:Ey t=true):∀ r∈t.Rules,Cr r t.Modes=true:=by
 unfold Ey at h;simp only[Jl0,JlJ]at h;exact h.1.2
end Go.AI
end
section
namespace Go.AI
def Mi (r:Int):Ab:=(GH 0 r).getD default
theorem Ly (n:Nat) (k:Int) (h0:0<=k):GH n k=some (Mi (Bl k 8))/\0<=Bl k 8/\Bl k 8<8:=by
 have e:Bl k 8=k % 8:=by unfold Bl;rw[Int.tmod_eq_emod_of_nonneg h0]
 have hr:Bl k 8=0\/Bl k 8=1\/Bl k 8=2\/Bl k 8=3\/Bl k 8=4\/Bl k 8=5\/Bl k 8=6\/Bl k 8=7:=by rw[e];omega
 rcases hr with h|h|h|h|h|h|h|h
 all_goals
  refine⟨?_,by omega,by omega⟩;unfold GH;rw[h];rfl
def T8 (r:AE):Bool:=decide (0<=r.To)&&decide (r.To<2)&&decide (0<=r.Right)&&decide (r.Right<=63)&&decide (r.Print.length<=3)
theorem W7 {r:AE} (h:T8 r=true):MG r:=by
 simp only[T8,Jl0,decide_eq_true_eq]at h;obtain⟨⟨⟨⟨h1,h2⟩,h3⟩,h4⟩,h5⟩:=h;exact⟨h1,h2,h3,h4,h5⟩
def T9 (t:Ab):Bool:=decide (t.Rules.length<=8)&&t.Rules.all T8&&decide (1<=t.Modes)&&decide (t.Modes<=2)&&Ey t
theorem Jen {r:Int} (h:0<=r) (h':r<8):T9 (Mi r)=true:=by
 have:∀ k:Nat,k<8->T9 (Mi (k:Int))=true:=by decide +kernel
 have e:=this r.toNat (by omega);rwa[Int.toNat_of_nonneg h]at e
def U8 (n:Int):Prop:=0<=n/\n<256
def XX (x:C0):Prop:=(∀ a∈x.P,U8 a)/\(∀ a∈x.C,U8 a)/\U8 x.L/\U8 x.R/\U8 x.W.a0/\U8 x.W.a1
theorem Fd {a m:Int} (h:0<=a) (hm:0<m):0<=Bl a m/\Bl a m<m:=(SJ h hm).2
theorem Od {α:Type} {l:List α} {i:Int} (h:0<=i) (h':i<l.length):∃ x,x∈l/\idx l i=some x:=by
 have hl:i.toNat<l.length:=by omega
 refine⟨l[i.toNat],JlL hl,?_⟩;unfold idx;rw[if_pos h];exact JlZ hl
theorem Jeo {α:Type} {l:List α} {i:Int} (h:0<=i) (h':i<l.length):∃ z,z.length=1/\sub l i (i+1)=some z:=by
 refine⟨(l.take (i+1).toNat).drop i.toNat,?_,?_⟩
 ·simp;omega
 ·unfold sub;rw[if_pos (by omega)]
def XY (a b:AE):Prop:=a.Left=b.Left/\a.Right=b.Right/\a.From=b.From/\a.To=b.To
theorem Jcs (x:C0) (hx:∀ a∈x.P,U8 a) (r0:AE) (h0:r0.Print=[]):Tot (λ n=>whl (λ (y:(AE×Int))=>Fk n x y.1 y.2) n (r0,0)) (λ r=>r.Print.length<=3/\XY r r0):=by
 refine Tot.upto (body:=λ n y=>Fk n x y.1 y.2) (min x.P.length 3) (λ i y=>y.2=(i:Int)/\y.1.Print.length=i/\XY y.1 r0) ?_ ?_ (r0,0) ⟨rfl,by simp[h0],rfl,rfl,rfl,rfl⟩
 ·rintro i ⟨r,i'⟩ hi ⟨h1,h2,h3⟩;simp only at h1 h2 h3;subst h1;obtain⟨c,hcm,hci⟩:=Od (l:=x.P) (i:=(i:Int)) (by omega) (by omega);have hu:=hx c hcm;have hr:=Fd (m:=9) hu.1 (by omega);have hw:IntKind.i64.wrap (Bl c 9)=Bl c 9:=Rb (by omega) (by omega);obtain⟨z,hz1,hz⟩:=Jeo (l:=([97,98,99,65,66,49,50,45,46]:List UInt8)) (i:=Bl c 9) hr.1 (by simpa using hr.2);unfold Fk;refine Tot.iteT (by simp only[Jl0,decide_eq_true_eq];omega) (Tot.bindC hci ?_);simp only[hw];rw[Jch (by omega) (by omega)];refine Tot.bindC hz (Tot.bindC (Ri (by omega)) (Jlx ⟨Bg (by omega),by simp[h2,hz1],h3⟩))
 ·rintro⟨r,i'⟩ ⟨h1,h2,h3⟩;simp only at h1 h2 h3;subst h1;unfold Fk;exact Tot.iteF (by rw[← JlN];simp only[Jl0,decide_eq_true_eq];omega) (Jlx ⟨by show r.Print.length<=3;omega,h3⟩)
theorem Jct (x:C0) (hx:∀ a∈x.C,U8 a) (r0:AE) (h0:r0.Cells.length=1):Tot (λ n=>whl (λ (y:(AE×Int))=>Dl n x y.1 y.2) n (r0,0)) (λ r=>(r.Cells.length<=3/\1<=r.Cells.length)/\r.Print=r0.Print/\XY r r0):=by
 refine Tot.upto (body:=λ n y=>Dl n x y.1 y.2) (min x.C.length 2) (λ i y=>y.2=(i:Int)/\y.1.Cells.length=i+1/\y.1.Print=r0.Print/\XY y.1 r0) ?_ ?_ (r0,0) ⟨rfl,by simp[h0],rfl,rfl,rfl,rfl,rfl⟩
 ·rintro i ⟨r,i'⟩ hi ⟨h1,h2,h3,h4⟩;simp only at h1 h2 h3 h4;subst h1;obtain⟨c,hcm,hci⟩:=Od (l:=x.C) (i:=(i:Int)) (by omega) (by omega);have hu:=hx c hcm;have hr:=Fd (m:=8) hu.1 (by omega);obtain⟨z,_,hz⟩:=Od (l:=([1,3,9,5,7,32,44,60]:List Int)) (i:=Bl c 8) hr.1 (by simpa using hr.2);unfold Dl;refine Tot.iteT (by simp only[Jl0,decide_eq_true_eq];omega) (Tot.bindC hci (Tot.bindC hz (Tot.bindC (Rh (by simp;omega)) (Jlx ⟨Bg (by omega),by simp[h2],h3,h4⟩))))
 ·rintro⟨r,i'⟩ ⟨h1,h2,h3,h4⟩;simp only at h1 h2 h3 h4;subst h1;unfold Dl;exact Tot.iteF (by rw[← JlN];simp only[Jl0,decide_eq_true_eq];omega) (Jlx ⟨by show r.Cells.length<=3/\1<=r.Cells.length;omega,h3,h4⟩)
theorem Jep {x:C0} (hx:XX x) {m:Int} (hm:1<=m) (hm':m<=2):Tot (λ n=>IB n x m) (λ r=>MG r/\(r.Cells.length<=3/\1<=r.Cells.length)/\0<=r.From/\r.From<m/\0<=r.To/\r.To<m):=by
 obtain⟨hP,hC,hL,hR,hW0,hW1⟩:=hx;have l8:=Fd (m:=8) hL.1 (by omega);have r8:=Fd (m:=8) hR.1 (by omega);obtain⟨a,ham,ha⟩:=Od (l:=([63,63,2,8,17,62,4,1]:List Int)) (i:=Bl x.L 8) l8.1 (by simpa using l8.2);obtain⟨b,hbm,hb⟩:=Od (l:=([63,63,2,8,17,62,4,1]:List Int)) (i:=Bl x.R 8) r8.1 (by simpa using r8.2);have hq:0<=Jdp .u8 x.L 8:=by unfold Jdp;exact(VH _).1
 have q8:=Fd (m:=8) hq (by omega);obtain⟨c,_,hc⟩:=Od (l:=([1,3,9,5,7,32,44,60]:List Int)) (i:=Bl (Jdp .u8 x.L 8) 8) q8.1 (by simpa using q8.2);have hg:B7 (!(m==0))=some ():=Dh (by simp;omega);have w0:IntKind.i64.wrap x.W.a0=x.W.a0:=Rb (by have:=hW0.1;omega) (by have:=hW0.2;omega);have w1:IntKind.i64.wrap x.W.a1=x.W.a1:=Rb (by have:=hW1.1;omega) (by have:=hW1.2;omega);have hfr:=Fd (a:=x.W.a0) (m:=m) hW0.1 (by omega);have hto:=Fd (a:=x.W.a1) (m:=m) hW1.1 (by omega);have hbr:0<=b/\b<=63:=by
  simp at hbm;omega
 unfold IB;refine Tot.bindC ha (Tot.bindC hb (Tot.bindC hg (Tot.bindC hg (Tot.bind (Jcs x hP _ rfl) ?_))));rintro r1 ⟨p1,p2,p3,p4,p5⟩;refine Tot.bindC hc (Tot.bind (Jct x hC _ rfl) ?_);rintro r2 ⟨q1,q2,q3,q4,q5,q6⟩;simp only at q2 q3 q4 q5 q6;rw[p3]at q4;rw[p4]at q5;rw[p5]at q6;simp only[w0,w1]at q5 q6 q4;refine Jlx ⟨⟨?_,?_,?_,?_,?_⟩,q1,?_,?_,?_,?_⟩
 all_goals first|(rw[q6];omega)|(rw[q4];omega)|(rw[q5];omega)|(rw[q2];exact p1)
def NA (x:JZ):Prop:=0<=x.Base/\∀ r∈x.More,XX r
structure W8 (t:Ab):Prop where
 tab:Hj t
 lo:1<=t.Modes
 hi:t.Modes<=2
 valid:Ey t=true
theorem HQ {r:AE} {m:Int} (h:Cr r m=true):r.Print.length<=4/\1<=r.Cells.length/\r.Cells.length<=4:=by
 simp only[Cr,Jl0,decide_eq_true_eq]at h;omega
theorem Jcu (x:JZ) (b:Ab) (hb:b.Rules.length<=8):Tot (λ n=>whl (λ (y:(Ab×Int))=>Dm n x b y.1 y.2) n (({ Modes:=b.Modes,Accept:=b.Accept,Rules:=[] }:Ab),0)) (λ t=>t.Modes=b.Modes/\t.Accept=b.Accept/\t.Rules.Sublist b.Rules):=by
 refine Tot.upto (body:=λ n y=>Dm n x b y.1 y.2) b.Rules.length (λ i y=>y.2=(i:Int)/\y.1.Modes=b.Modes/\y.1.Accept=b.Accept/\y.1.Rules.Sublist (b.Rules.take i)) ?_ ?_ _ ⟨rfl,rfl,rfl,by simp⟩
 ·rintro i ⟨t,i'⟩ hi ⟨h1,h2,h3,h4⟩;simp only at h1 h2 h3 h4;subst h1;have ht:b.Rules.take (i+1)=b.Rules.take i++[b.Rules.getD i default]:=by rw[List.take_add_one,Cm hi,JlZ hi];rfl
  have hlen:=h4.length_le;rw[List.length_take]at hlen;unfold Dm;refine Tot.iteT (R5 hi) (Tot.bindC (Dh (by simp)) (Tot.ite (λ _=>Tot.bindC (HP hi) (Tot.bindC (Rh (by simp;omega)) ?_)) λ _=>?_))
  ·unfold Em;exact Jlx ⟨Bg (by omega),h2,h3,by rw[ht];exact h4.append (List.Sublist.refl _)⟩
  ·unfold Em;exact Jlx ⟨Bg (by omega),h2,h3,by rw[ht];exact h4.trans (List.sublist_append_left _ _)⟩
 ·rintro⟨t,i'⟩ ⟨h1,h2,h3,h4⟩;simp only at h1 h2 h3 h4;subst h1;rw[List.take_length]at h4;unfold Dm;exact Tot.iteF (by simp) (Jlx ⟨h2,h3,h4⟩)
structure JiT (b t:Ab):Prop where
 modes:t.Modes=b.Modes
 accept:t.Accept=b.Accept
 rules:∀ r∈t.Rules,MG r/\r.Cells.length<=4
 valid:t.Rules=[]\/Ey t=true
theorem Oe {t:Ab} (hl:t.Rules.length<=11) (h:∀ r∈t.Rules,MG r/\r.Cells.length<=4):G6 t:=⟨by omega,λ r hr=>⟨by have:=(h r hr).1.2.2.2.2;omega,by have:=(h r hr).2;omega⟩⟩
theorem Jcv (x:JZ) (hx:∀ r∈x.More,XX r) (b t0:Ab) (hlo:1<=b.Modes) (hhi:b.Modes<=2) (h0:JiT b t0) (hl0:t0.Rules.length<=8):Tot (λ n=>whl (λ (y:(Ab×Int))=>Dn n x b y.1 y.2) n (t0,0)) (λ t=>JiT b t/\t.Rules.length<=10):=by
 refine Tot.upto (body:=λ n y=>Dn n x b y.1 y.2) (min x.More.length 2) (λ i y=>y.2=(i:Int)/\JiT b y.1/\y.1.Rules.length<=8+i) ?_ ?_ _ ⟨rfl,h0,by simpa using hl0⟩
 ·rintro i ⟨t,i'⟩ hi ⟨h1,h2,h3⟩;simp only at h1 h2 h3;subst h1;unfold Dn;refine Tot.iteT (by simp only[Jl0,decide_eq_true_eq];omega) (Tot.bindC (A8 (by omega)) ?_);rw[h2.modes];refine Tot.bind (Jep (hx _ (JlL _)) hlo hhi) ?_;rintro r ⟨hr1,hr2,-⟩;refine Tot.bindC (Rh (by simp;omega)) ?_;have hall:∀ q∈t.Rules++[r],MG q/\q.Cells.length<=4:=by
   intro q hq;simp only[List.mem_append,List.mem_singleton]at hq;rcases hq with hq|rfl
   ·exact h2.rules q hq
   ·exact⟨hr1,by omega⟩
  refine Jly (Jcr (Oe (t:=⟨b.Modes,t.Accept,t.Rules++[r]⟩) (by simp;omega) hall)) ?_;refine Tot.ite (λ _=>?_) λ hv=>?_
  ·have e:C4 .i64 ((List.length (t.Rules++[r]):Nat):Int) 1=(t.Rules.length:Nat):=by
    rw[Rj (by simp<;>omega) (by simp<;>omega)];simp
   rw[e];refine Tot.bindC (XV (by simp)) ?_;unfold Eo;rw[List.take_left' rfl];exact Jlx ⟨Bg (by omega),⟨rfl,h2.accept,h2.rules,by have:=h2.valid;have hm:=h2.modes;cases t;simp only at hm this⊢;subst hm;exact this⟩,by simp only;omega⟩
  ·unfold Eo;exact Jlx ⟨Bg (by omega),⟨rfl,h2.accept,hall,.inr (by simpa using hv)⟩,by simp;omega⟩
 ·rintro⟨t,i'⟩ ⟨h1,h2,h3⟩;simp only at h1 h2 h3;subst h1;unfold Dn;exact Tot.iteF (by rw[← JlN];simp only[Jl0,decide_eq_true_eq];omega) (Jlx ⟨h2,by show t.Rules.length<=10;omega⟩)
theorem Zo {x:JZ} (hx:NA x):∃ t,(W8 t/\1<=t.Rules.length/\t.Rules.length<=10)/\Ev (λ n=>GI n x) t:=by
 have hb:∀ n,GH n x.Base=some (Mi (Bl x.Base 8)):=λ n=>(Ly n x.Base hx.1).1;have hok:=Jen (Ly 0 x.Base hx.1).2.1 (Ly 0 x.Base hx.1).2.2;generalize Mi (Bl x.Base 8)=b at *;unfold T9 at hok;simp only[Jl0,decide_eq_true_eq,JlJ]at hok;obtain⟨⟨⟨⟨o1,o2⟩,o3⟩,o4⟩,o5⟩:=hok;have gb:∀ r∈b.Rules,MG r/\r.Cells.length<=4:=λ r hr=>⟨W7 (o2 r hr),(HQ (Nz o5 r hr)).2.2⟩;have hne:∀ t:Ab,Ey t=true->1<=t.Rules.length:=λ t h=>by
  unfold Ey VU at h;simp only[Jl0,Bool.not_eq_true',JlY,decide_eq_false_iff_not]at h;omega
 have:Tot (λ n=>GI n x) (λ t=>W8 t/\1<=t.Rules.length/\t.Rules.length<=10):=by
  unfold GI;refine Jlz hb (Tot.bind (Jcu x b o1) ?_);rintro t1 ⟨a1,a2,a3⟩;refine Tot.bind (Jcv x hx.2 b t1 o3 o4 ⟨a1,a2,λ r hr=>gb r (a3.subset hr),?_⟩ (by have:=a3.length_le;omega)) ?_
  ·rcases Nat.eq_zero_or_pos t1.Rules.length with h|h
   ·exact .inl (List.length_eq_zero_iff.1 h)
   ·right;have:=W6 o5 a3 h;cases t1;simp only at a1 a2 this⊢;subst a1 a2;exact this
  rintro t2 ⟨b1,b2⟩;refine Tot.ite (λ h=>?_) λ h=>?_
  ·unfold Fl;have e:(⟨t2.Modes,t2.Accept,b.Rules⟩:Ab)=b:=by rw[b1.modes,b1.accept]
   rw[e];exact Jlx ⟨⟨⟨by omega,λ r hr=>(gb r hr).1⟩,o3,o4,o5⟩,hne b o5,by omega⟩
  ·unfold Fl;have hv:Ey t2=true:=b1.valid.resolve_left λ e=>by rw[e]at h;cases h
   exact Jlx ⟨⟨⟨by omega,λ r hr=>(b1.rules r hr).1⟩,by rw[b1.modes];exact o3,by rw[b1.modes];exact o4,hv⟩,hne t2 hv,b2⟩
 obtain⟨t,ht,hE⟩:=this;exact⟨t,ht,hE⟩
end Go.AI
end
section
namespace Go.AI
def Fe (t:Ab) (k:Int):AE:=t.Rules[k.toNat]?.getD default
theorem NB {t:Ab} {s:Ae} {k:Int} (h:(By t s k).2=true):0<=k/\k<t.Rules.length:=by
 unfold By at h;split at h
 ·cases h
 ·rename_i hk;simp only[Jmi,decide_eq_true_eq,not_or]at hk;omega
theorem NC {t:Ab} {k:Int} (h:0<=k) (h':k<t.Rules.length):idx t.Rules k=some (Fe t k):=Re h h'
theorem Rk {t:Ab} {k:Int} (h:0<=k) (h':k<t.Rules.length):Fe t k∈t.Rules:=by
 unfold Fe;rw[JlZ (by omega)];exact JlL _
end Go.AI
end
section
namespace Go.AI
theorem Ua {st:List Ae} (hn:st.Nodup) {i j:Nat} {s:Ae} (h:st[i]?=some s) (h':st[j]?=some s):i=j:=by
 have a:=DD hn h;rw[DD hn h']at a;cases a;rfl
theorem VV {i:Nat} (h:i<9223372036854775807):Be .i64 (i:Int) 1=((i+1:Nat):Int):=by
 rw[Rc (by omega) (by omega)];rfl
end Go.AI
end
section
namespace Go.AI
def Edge (t:Ab) (st:List Ae) (i:Nat) (k:Nat) (j:Nat):Prop:=∃ s s',st[i]?=some s/\k<t.Rules.length/\st[j]?=some s'/\By t s (k:Nat)=(s',true)
inductive Of (t:Ab) (st:List Ae):Nat->Prop
 | acc (i:Nat) (s:Ae) (h:st[i]?=some s) (ha:Bu t s=true):Of t st i
 | step (i k j:Nat) (h:Edge t st i k j) (hj:Of t st j):Of t st i
def Og (t:Ab) (st:List Ae) (l:List Bool):Prop:=l.length=st.length/\∀ i:Nat,l[i]?=some true↔Of t st i
theorem Og.of {t:Ab} {st:List Ae} {l:List Bool} (hl:l.length=st.length) (hs:∀ i,l[i]?=some true->Of t st i) (ha:∀ (i:Nat) s,st[i]?=some s->Bu t s=true->l[i]?=some true) (hc:∀ i k j,Edge t st i k j->l[j]?=some true->l[i]?=some true):Og t st l:=by
 refine⟨hl,λ i=>⟨hs i,λ h=>?_⟩⟩;induction h with
 | acc i s h h'=>exact ha i s h h'
 | step i k j h _ ih=>exact hc i k j h ih
def LR (l:List Bool):Nat:=l.count false
theorem Jcw {l:List Bool} {i:Nat} (h:l[i]?=some false):LR (l.set i true)+1=LR l:=by
 have hi:=Am h;rw[JlZ hi]at h;have h':l[i]=false:=by simpa using h
 have hp:0<List.count false l:=List.count_pos_iff.2 (h'▸JlL hi);unfold LR;rw[List.count_set hi,h'];simp;omega
theorem Jeq (l:List Bool):LR l<=l.length:=List.count_le_length
end Go.AI
end
section
namespace Go.AI
structure Mj (t:Ab) (st:List Ae) (al:List Bool) (op:List Int) (q:Option (Nat×List Int×Nat)):Prop where
 len:al.length=st.length
 snd:∀ j:Nat,al[j]?=some true->Of t st j
 acc:∀ (j:Nat) s,st[j]?=some s->Bu t s=true->al[j]?=some true
 opn:∀ x∈op,∃ j:Nat,x=(j:Int)/\al[j]?=some true
 cl:∀ i k j,Edge t st i k j->al[j]?=some true->al[i]?=some true\/(j:Int)∈op\/∃ l m p,q=some (j,l,m)/\m<=p/\l[p]?=some (i:Int)
 siz:2*LR al+op.length<=3000
theorem Jcx {t:Ab} {st:List Ae} (hF:FX t st) (fr:List (List Int)):Tot (λ n=>whl (λ (x:((List Bool)×(List Int)×Int))=>ED n t (st,fr) x.1 x.2.1 x.2.2) n (List.replicate st.length false,([]:List Int),0)) (λ r=>Mj t st r.1 r.2 none):=by
 have hlen:=hF.len;refine Tot.upto (body:=λ n x=>ED n t (st,fr) x.1 x.2.1 x.2.2) st.length (λ i x=>x.2.2=(i:Int)/\x.1.length=st.length/\(∀ j:Nat,x.1[j]?=some true↔j<i/\∃ s,st[j]?=some s/\Bu t s=true)/\(∀ y∈x.2.1,∃ j:Nat,y=(j:Int)/\x.1[j]?=some true)/\(∀ j:Nat,x.1[j]?=some true->(j:Int)∈x.2.1)/\x.2.1.length<=i) ?_ ?_ _ ⟨rfl,by simp,λ j=>?_,by simp,λ j hj=>?_,by simp⟩
 ·rintro i ⟨al,op,i'⟩ hi ⟨e,h1,h2,h3,h4,h5⟩;simp only at e h1 h2 h3 h4 h5;subst e;have hal:i<al.length:=by rw[h1];exact hi
  have hgi:st[i]?=some st[i]:=JlZ hi;unfold ED;have hJ:∀ al' op',(al'.length=st.length/\(∀ j:Nat,al'[j]?=some true↔j<i+1/\∃ s,st[j]?=some s/\Bu t s=true)/\(∀ y∈op',∃ j:Nat,y=(j:Int)/\al'[j]?=some true)/\(∀ j:Nat,al'[j]?=some true->(j:Int)∈op')/\op'.length<=i+1)->Tot (λ n=>FG n (i:Int) al' op') (Rd2 (λ x:List Bool×List Int×Int=>x.2.2=((i+1:Nat):Int)/\x.1.length=st.length/\(∀ j:Nat,x.1[j]?=some true↔j<i+1/\∃ s,st[j]?=some s/\Bu t s=true)/\(∀ y∈x.2.1,∃ j:Nat,y=(j:Int)/\x.1[j]?=some true)/\(∀ j:Nat,x.1[j]?=some true->(j:Int)∈x.2.1)/\x.2.1.length<=i+1) (λ r=>Mj t st r.1 r.2 none)):=by
   intro al' op' h;unfold FG;exact Jlx ⟨VV (by omega),h⟩
  refine Tot.iteT (by simpa using hi) (Tot.bindC (A8 hi) (Jlz (λ n=>Rf n t _) (Tot.ite (λ hc=>?_) (λ hc=>?_))))
  ·refine Tot.bindC (A8 hal) (Tot.bindC (Jw hal) (Tot.bindC (Rh (by simp;omega)) (hJ _ _ ⟨by rw[Jmg];exact h1,λ j=>?_,λ y hy=>?_,λ j hj=>?_,by simp only[List.length_append,List.length_singleton];omega⟩)))
   ·by_cases e:i=j
    ·subst e;rw[Jma hal];exact⟨λ _=>⟨by omega,_,hgi,hc⟩,λ _=>rfl⟩
    ·rw[Jmf e,h2 j];exact⟨λ h=>⟨by omega,h.2⟩,λ h=>⟨by omega,h.2⟩⟩
   ·rcases List.mem_append.1 hy with hy|hy
    ·obtain⟨j,rfl,hj⟩:=h3 y hy;refine⟨j,rfl,?_⟩;by_cases e:i=j
     ·subst e;rw[Jma hal]
     ·rw[Jmf e];exact hj
    ·simp at hy;exact⟨i,hy,Jma hal⟩
   ·by_cases e:i=j
    ·subst e;simp
    ·rw[Jmf e]at hj;exact List.mem_append_left _ (h4 j hj)
  ·refine hJ _ _ ⟨h1,λ j=>?_,h3,h4,Nat.le_succ_of_le h5⟩;rw[h2 j];refine⟨λ h=>⟨by omega,h.2⟩,λ h=>⟨?_,h.2⟩⟩;rcases JlP j i with hj|hj
   ·exact hj
   ·have:j=i:=by omega
    subst this;obtain⟨_,s,hs,ha⟩:=h;rw[hgi]at hs;cases hs;rw[ha]at hc;cases hc
 ·rintro⟨al,op,i'⟩ ⟨e,h1,h2,h3,h4,h5⟩;simp only at e h1 h2 h3 h4 h5;subst e;unfold ED;refine Tot.iteF (by simp) (Jlx ⟨h1,λ j hj=>?_,λ j s hs ha=>?_,h3,λ i k j he hj=>.inr (.inl (h4 j hj)),?_⟩)
  ·obtain⟨_,s,hs,ha⟩:=(h2 j).1 hj;exact .acc j s hs ha
  ·exact(h2 j).2 ⟨Am hs,s,hs,ha⟩
  ·have:=Jeq al;simp only;omega
 ·rw[List.getElem?_replicate];constructor
  ·intro h;split at h<;>cases h
  ·intro h;omega
 ·simp only at hj;rw[List.getElem?_replicate]at hj;split at hj<;>cases hj
theorem Jcy {t:Ab} {st:List Ae} {fr:List (List Int)} (hF:FX t st) (hR:Da t st fr st.length 0) {q:Nat} {l:List Int} (hl:fr[q]?=some l) (hq:Of t st q) {al:List Bool} {op:List Int} (h0:Mj t st al op (some (q,l,0))) :
  Tot (λ n=>whl (λ (x:((List Bool)×(List Int)×Int))=>EE n (st,fr) l x.1 x.2.1 x.2.2) n (al,op,0)) (λ r=>Mj t st r.1 r.2 none/\2*LR r.1+r.2.length<=2*LR al+op.length):=by
 have hlen:=hF.len;have hll:=hR.small q l hl;refine Tot.upto (body:=λ n x=>EE n (st,fr) l x.1 x.2.1 x.2.2) l.length (λ m x=>x.2.2=(m:Int)/\Mj t st x.1 x.2.1 (some (q,l,m))/\2*LR x.1+x.2.1.length<=2*LR al+op.length) ?_ ?_ _ ⟨rfl,h0,JlO _⟩
 ·rintro m ⟨al',op',m'⟩ hm ⟨e,hB,hc⟩;simp only at e hB hc;subst e;have hgm:l[m]?=some l[m]:=JlZ hm;obtain⟨b,sb,kb,sq,hb,hsb,hkb,hsq,hst⟩:=hR.sound q l hl _ (JlL hm);have hbl:b<al'.length:=by rw[hB.len];exact Am hsb
  have hE:Edge t st b kb q:=⟨sb,sq,hsb,hkb,hsq,hst⟩;have hJ:∀ al'' op'',Mj t st al'' op'' (some (q,l,m+1))->2*LR al''+op''.length<=2*LR al+op.length->Tot (λ n=>FH n (m:Int) al'' op'') (Rd2 (λ x:List Bool×List Int×Int=>x.2.2=((m+1:Nat):Int)/\Mj t st x.1 x.2.1 (some (q,l,m+1))/\2*LR x.1+x.2.1.length<=2*LR al+op.length) (λ r=>Mj t st r.1 r.2 none/\2*LR r.1+r.2.length<=2*LR al+op.length)):=by
   intro al'' op'' h h';unfold FH;exact Jlx ⟨VV (by omega),h,h'⟩
  unfold EE;refine Tot.iteT (by simpa using hm) (Tot.bindC (A8 hm) ?_);rw[hb];rw[hb]at hgm;refine Tot.bindC (A8 hbl) (Tot.ite (λ hf=>?_) (λ hf=>?_))
  ·have hbf:al'[b]?=some false:=by rw[JlZ hbl];simpa using hf
   have hcs:=Jcw hbf;have hsz:=hB.siz;refine Tot.bindC (A8 hbl) (Tot.bindC (Jw hbl) (Tot.bindC (Rh (by simp;omega)) (hJ _ _ ⟨by rw[Jmg];exact hB.len,λ j hj=>?_,λ j s h1 h2=>?_,λ x hx=>?_,λ i k j he hj=>?_,?_⟩ ?_)))
   ·by_cases e:b=j
    ·subst e;exact .step b kb q hE hq
    ·rw[Jmf e]at hj;exact hB.snd j hj
   ·by_cases e:b=j
    ·subst e;rw[Jma hbl]
    ·rw[Jmf e];exact hB.acc j s h1 h2
   ·rcases List.mem_append.1 hx with hx|hx
    ·obtain⟨j,rfl,hj⟩:=hB.opn x hx;refine⟨j,rfl,?_⟩;by_cases e:b=j
     ·subst e;rw[Jma hbl]
     ·rw[Jmf e];exact hj
    ·simp at hx;exact⟨b,hx,Jma hbl⟩
   ·by_cases ei:b=i
    ·subst ei;rw[Jma hbl];exact .inl rfl
    ·rw[Jmf ei];by_cases e:b=j
     ·subst e;exact .inr (.inl (by simp))
     ·rw[Jmf e]at hj;rcases hB.cl i k j he hj with h|h|⟨l',m',p,h1,h2,h3⟩
      ·exact .inl h
      ·exact .inr (.inl (List.mem_append_left _ h))
      ·cases h1;refine .inr (.inr ⟨l,m+1,p,rfl,?_,h3⟩);rcases JlP m p with h|h
       ·exact h
       ·have:p=m:=by omega
        subst this;rw[hgm]at h3;exact absurd (Int.ofNat_inj.1 (Option.some.inj h3)) ei
   ·simp only[List.length_append,List.length_singleton];omega
   ·simp only[List.length_append,List.length_singleton];omega
  ·have hbt:al'[b]?=some true:=by rw[JlZ hbl];simpa using hf
   refine hJ _ _ ⟨hB.len,hB.snd,hB.acc,hB.opn,λ i k j he hj=>?_,hB.siz⟩ hc;rcases hB.cl i k j he hj with h|h|⟨l',m',p,h1,h2,h3⟩
   ·exact .inl h
   ·exact .inr (.inl h)
   ·cases h1;rcases JlP m p with h|h
    ·exact .inr (.inr ⟨l,m+1,p,rfl,h,h3⟩)
    ·have:p=m:=by omega
     subst this;rw[hgm]at h3;have:=Int.ofNat_inj.1 (Option.some.inj h3);subst this;exact .inl hbt
 ·rintro⟨al',op',m'⟩ ⟨e,hB,hc⟩;simp only at e hB hc;subst e;unfold EE;refine Tot.iteF (by simp) (Jlx ⟨⟨hB.len,hB.snd,hB.acc,hB.opn,λ i k j he hj=>?_,hB.siz⟩,hc⟩);rcases hB.cl i k j he hj with h|h|⟨l',m',p,h1,h2,h3⟩
  ·exact .inl h
  ·exact .inr (.inl h)
  ·cases h1;have:=Am h3;omega
theorem Zp {t:Ab} (ht:Hj t):Tot (λ n=>Ls n t) (Og t (AN t)):=by
 obtain⟨hF,hD⟩:=CW ht;obtain⟨fr,hR,hE⟩:=Rg ht;unfold Ls;refine Jly hE ?_;generalize AN t=st at *;have hlen:=hF.len;have hmk:mkl 1 ((st.length:Nat):Int) false=some (List.replicate st.length false):=by
  unfold mkl;rw[if_pos (by simp;omega),Jl8]
 refine Tot.bindC hmk (Tot.bind (Jcx hF fr) ?_);rintro⟨al,op⟩ hB;simp only at hB;refine Tot.bind (R:=Og t st) ?_ λ y hy=>Jlx hy;refine Tot.whl (body:=λ n x=>Hq n (st,fr) x.1 x.2) (λ c x=>c=2*LR x.1+x.2.length/\Mj t st x.1 x.2 none) ?_ _ _ ⟨rfl,hB⟩;rintro c ⟨al,op⟩ ⟨rfl,hB⟩;simp only at hB;unfold Hq;refine Tot.ite (λ hc=>?_) (λ hc=>?_)
 ·have hpos:0<op.length:=by simpa using hc
  have hsz:=hB.siz;obtain⟨op',x,rfl⟩:∃ op' x,op=op'++[x]:=⟨op.dropLast,op.getLast (by intro h;subst h;simp at hpos),(List.dropLast_concat_getLast _).symm⟩;have hn:C4 .i64 ((List.length (op'++[x]):Nat):Int) 1=(op'.length:Int):=by
   simp only[List.length_append,List.length_singleton]at hsz⊢;rw[WZ (by omega) (by omega)];omega
  have hx:(op'++[x])[op'.length]?=some x:=by simp
  have hsub:sub (op'++[x]) 0 (op'.length:Int)=some op':=by
   unfold sub;rw[if_pos (by simp;omega)];simp
  obtain⟨q,rfl,hq⟩:=hB.opn x (by simp);have hqF:q<fr.length:=by rw[hR.len,← hB.len];exact Am hq
  simp only[hn];refine Tot.bindC (DE hx) (Tot.bindC hsub (Tot.bindC (A8 hqF) ?_));have hlq:fr[q]?=some fr[q]:=JlZ hqF;have hB':Mj t st al op' (some (q,fr[q],0)):=by
   refine⟨hB.len,hB.snd,hB.acc,λ y hy=>hB.opn y (List.mem_append_left _ hy),λ i k j he hj=>?_,by simp at hsz;omega⟩;rcases hB.cl i k j he hj with h|h|⟨_,_,_,h,_⟩
   ·exact .inl h
   ·rcases List.mem_append.1 h with h|h
    ·exact .inr (.inl h)
    ·simp at h;have hjq:j=q:=by omega
     subst hjq;obtain⟨s,s',a1,a2,a3,a4⟩:=he;have hm:=hR.compl j _ hlq i s k s' (.inl (Am a1)) a1 a2 a3 a4;obtain⟨p,hp,hp'⟩:=List.getElem_of_mem hm;exact .inr (.inr ⟨_,0,p,rfl,by omega,by rw[JlZ hp,hp']⟩)
   ·cases h
  refine Tot.bind (Jcy hF hR hlq (hB.snd q hq) hB') λ y hy=>Jlx ⟨_,?_,rfl,hy.1⟩;have:=hy.2;simp only[List.length_append,List.length_singleton];omega
 ·have h0:op=[]:=by
   have:¬ 0<op.length:=by simpa using hc
   exact List.eq_nil_of_length_eq_zero (by omega)
  subst h0;refine Jlx (Og.of hB.len hB.snd hB.acc λ i k j he hj=>?_);rcases hB.cl i k j he hj with h|h|⟨_,_,_,h,_⟩
  ·exact h
  ·simp at h
  ·cases h
end Go.AI
end
section
namespace Go.AI
def ldT:List UInt8->List UInt8->Int×List UInt8
 | [],[]=>(0,[])
 | a::x,[]=>(1,a::x)
 | [],b::y=>(2,b::y)
 | a::x,b::y=>if a=b then ldT x y else(3,[])
def HV (l:Int×List UInt8) (p q:List UInt8):Int×List UInt8:=
 if l.1=1 then ldT (l.2++p) q else if l.1=2 then ldT p (l.2++q)else if l.1=3 then l else ldT p q
def swT (l:Int×List UInt8):Int×List UInt8:=if l.1=1 then(2,l.2)else if l.1=2 then(1,l.2)else l
def Pk (l:Int×List UInt8):Prop:=(l.1=0/\l.2=[])\/(l.1=1/\l.2≠[])\/(l.1=2/\l.2≠[])\/(l.1=3/\l.2=[])
theorem Jcz:∀ x y,Pk (ldT x y)
 | [],[]=>.inl ⟨rfl,rfl⟩
 | a::x,[]=>.inr (.inl ⟨rfl,by simp[ldT]⟩)
 | [],b::y=>.inr (.inr (.inl ⟨rfl,by simp[ldT]⟩))
 | a::x,b::y=>by
  unfold ldT;split
  ·exact Jcz x y
  ·exact .inr (.inr (.inr ⟨rfl,rfl⟩))
theorem GY (a b:UInt8) (x y:List UInt8):ldT (a::x) (b::y)=if a=b then ldT x y else(3,[]):=rfl
theorem Jx:∀ (x y p q:List UInt8),ldT (x++p) (y++q)=HV (ldT x y) p q
 | [],[],p,q=>rfl
 | a::x,[],p,q=>rfl
 | [],b::y,p,q=>rfl
 | a::x,b::y,p,q=>by
  show ldT (a::(x++p)) (b::(y++q))=_;rw[GY,GY];split
  ·exact Jx x y p q
  ·rfl
theorem K7:∀ x y,ldT y x=swT (ldT x y)
 | [],[]=>rfl
 | a::x,[]=>rfl
 | [],b::y=>rfl
 | a::x,b::y=>by
  rw[GY,GY];by_cases h:a=b
  ·subst h;rw[if_pos rfl,if_pos rfl];exact K7 x y
  ·rw[if_neg h,if_neg (Ne.symm h)];rfl
theorem Jy:∀ {x y:List UInt8},(ldT x y).1=0↔x=y
 | [],[]=>by simp[ldT]
 | a::x,[]=>by simp[ldT]
 | [],b::y=>by simp[ldT]
 | a::x,b::y=>by
  rw[GY];split
  ·rename_i h;subst h;rw[Jy];simp
  ·rename_i h;simp[h]
theorem XZ:∀ x y,(ldT x y).2.length<=max x.length y.length
 | [],[]=>by simp[ldT]
 | a::x,[]=>by simp[ldT]
 | [],b::y=>by simp[ldT]
 | a::x,b::y=>by
  rw[GY];split
  ·have:=XZ x y;simp only[List.length_cons];omega
  ·simp
theorem Zq {l:Int×List UInt8} (h:Pk l) (p q:List UInt8):HV (swT l) q p=swT (HV l p q):=by
 obtain⟨s,t⟩:=l;rcases h with⟨h1,h2⟩|⟨h1,h2⟩|⟨h1,h2⟩|⟨h1,h2⟩<;>simp only at h1 h2<;>subst h1
 ·exact K7 p q
 ·exact K7 (t++p) q
 ·exact K7 p (t++q)
 ·rfl
theorem Zr {l m:Int×List UInt8} (hl:Pk l) (hm:Pk m) {p q:List UInt8} (h1:(HV l p q).1=0) (h2:(HV m p q).1=0):l=m:=by
 have key:∀ {l:Int×List UInt8},Pk l->(HV l p q).1=0->(l.1=0/\l.2=[]/\p=q)\/(l.1=1/\l.2≠[]/\l.2++p=q)\/(l.1=2/\l.2≠[]/\p=l.2++q):=by
  intro l hl h;obtain⟨s,t⟩:=l;rcases hl with⟨e1,e2⟩|⟨e1,e2⟩|⟨e1,e2⟩|⟨e1,e2⟩<;>simp only at e1 e2<;>subst e1
  ·exact .inl ⟨rfl,e2,Jy.1 h⟩
  ·exact .inr (.inl ⟨rfl,e2,Jy.1 h⟩)
  ·exact .inr (.inr ⟨rfl,e2,Jy.1 h⟩)
  ·exact absurd (show(3:Int)=0 from h) (by decide)
 have hlen:∀ {t:List UInt8},t≠[]->0<t.length:=λ h=>List.length_pos_iff.2 h;rcases key hl h1 with⟨a1,a2,a3⟩|⟨a1,a2,a3⟩|⟨a1,a2,a3⟩<;>rcases key hm h2 with⟨b1,b2,b3⟩|⟨b1,b2,b3⟩|⟨b1,b2,b3⟩
 ·exact Prod.ext (by rw[a1,b1]) (by rw[a2,b2])
 ·have:=hlen b2;have:=congrArg List.length b3;have:=congrArg List.length a3;simp only[List.length_append]at *;omega
 ·have:=hlen b2;have:=congrArg List.length b3;have:=congrArg List.length a3;simp only[List.length_append]at *;omega
 ·have:=hlen a2;have:=congrArg List.length b3;have:=congrArg List.length a3;simp only[List.length_append]at *;omega
 ·exact Prod.ext (by rw[a1,b1]) (List.append_cancel_right (a3.trans b3.symm))
 ·have:=hlen a2;have:=hlen b2;have:=congrArg List.length b3;have:=congrArg List.length a3;simp only[List.length_append]at *;omega
 ·have:=hlen a2;have:=congrArg List.length b3;have:=congrArg List.length a3;simp only[List.length_append]at *;omega
 ·have:=hlen a2;have:=hlen b2;have:=congrArg List.length b3;have:=congrArg List.length a3;simp only[List.length_append]at *;omega
 ·exact Prod.ext (by rw[a1,b1]) (List.append_cancel_right (a3.symm.trans b3))
structure Ac where
 p:List UInt8
 c:List Int
 to:Nat
abbrev Hf:=Nat×List Int
inductive Sp (A:Nat->Ac->Prop):Hf->Int->List UInt8->Hf->Prop
 | rest (k:Nat) (c:Int) (r:List Int):Sp A (k,c::r) c [] (k,r)
 | arc {k:Nat} {a:Ac} {c:Int} {r:List Int} (h:A k a) (hc:a.c=c::r):Sp A (k,[]) c a.p (a.to,r)
inductive Rn (A:Nat->Ac->Prop):Hf->List Int->List UInt8->Hf->Prop
 | nil (h:Hf):Rn A h [] [] h
 | cons {h h' h'':Hf} {c:Int} {w:List Int} {p x:List UInt8} (h1:Sp A h c p h') (h2:Rn A h' w x h''):Rn A h (c::w) (p++x) h''
theorem Rn.one {A:Nat->Ac->Prop} {h h':Hf} {c:Int} {p:List UInt8} (s:Sp A h c p h'):Rn A h [c] p h':=by
 have:=Rn.cons s (Rn.nil (A:=A) h');rwa[List.append_nil]at this
theorem Rn.app {A:Nat->Ac->Prop} {h h' h'':Hf} {w v:List Int} {x y:List UInt8} (h1:Rn A h w x h') (h2:Rn A h' v y h''):Rn A h (w++v) (x++y) h'':=by
 induction h1 with
 | nil h=>exact h2
 | cons s _ ih=>have:=Rn.cons s (ih h2);rwa[← List.append_assoc]at this
theorem Rn.inv {A:Nat->Ac->Prop} {h h':Hf} {x:List UInt8} {c:Int} {w:List Int} (H:Rn A h (c::w) x h'):∃ h1 p y,Sp A h c p h1/\Rn A h1 w y h'/\x=p++y:=by
 cases H with
 | cons s r=>exact⟨_,_,_,s,r,rfl⟩
theorem Rn.inv0 {A:Nat->Ac->Prop} {h h':Hf} {x:List UInt8} (H:Rn A h [] x h'):h'=h/\x=[]:=by
 cases H;exact⟨rfl,rfl⟩
def En (A:Nat->Ac->Prop) (acc:Nat->Prop) (h:Hf) (w:List Int) (x:List UInt8):Prop:=∃ k,Rn A h w x (k,[])/\acc k
def Amb (A:Nat->Ac->Prop) (acc:Nat->Prop) (w:List Int):Prop:=∃ x y,x≠y/\En A acc (0,[]) w x/\En A acc (0,[]) w y
def Rch (A:Nat->Ac->Prop) (w:List Int) (a b:Hf) (l:Int×List UInt8):Prop:=∃ x y,Rn A (0,[]) w x a/\Rn A (0,[]) w y b/\ldT x y=l
theorem Rch.ok {A:Nat->Ac->Prop} {w:List Int} {a b:Hf} {l:Int×List UInt8} (h:Rch A w a b l):Pk l:=by obtain⟨x,y,_,_,rfl⟩:=h;exact Jcz x y
theorem Rch.swap {A:Nat->Ac->Prop} {w:List Int} {a b:Hf} {l:Int×List UInt8} (h:Rch A w a b l):Rch A w b a (swT l):=by
 obtain⟨x,y,h1,h2,rfl⟩:=h;exact⟨y,x,h2,h1,K7 x y⟩
theorem JlA (A:Nat->Ac->Prop):Rch A [] (0,[]) (0,[]) (0,[]):=⟨[],[],.nil _,.nil _,rfl⟩
theorem Rch.step {A:Nat->Ac->Prop} {w:List Int} {a b a' b':Hf} {l:Int×List UInt8} {c:Int} {p q:List UInt8} (h:Rch A w a b l) (h1:Sp A a c p a') (h2:Sp A b c q b'):Rch A (w++[c]) a' b' (HV l p q):=by
 obtain⟨x,y,g1,g2,rfl⟩:=h;exact⟨x++p,y++q,g1.app (Rn.one h1),g2.app (Rn.one h2),Jx x y p q⟩
def Gd (A:Nat->Ac->Prop) (acc:Nat->Prop) (a b:Hf) (l:Int×List UInt8) (v:List Int):Prop:=∃ p q,En A acc a v p/\En A acc b v q/\(HV l p q).1≠0
theorem JlB {A:Nat->Ac->Prop} {acc:Nat->Prop} {w v:List Int} {a b:Hf} {l:Int×List UInt8} (h:Rch A w a b l) (g:Gd A acc a b l v):Amb A acc (w++v):=by
 obtain⟨x,y,h1,h2,rfl⟩:=h;obtain⟨p,q,⟨k,g1,g2⟩,⟨k',g3,g4⟩,g5⟩:=g;refine⟨x++p,y++q,λ e=>?_,⟨k,h1.app g1,g2⟩,⟨k',h2.app g3,g4⟩⟩;rw[← Jx,Jy.2 e]at g5;exact g5 rfl
theorem Gd.swap {A:Nat->Ac->Prop} {acc:Nat->Prop} {v:List Int} {a b:Hf} {l:Int×List UInt8} (hl:Pk l) (g:Gd A acc a b l v):Gd A acc b a (swT l) v:=by
 obtain⟨p,q,g1,g2,g3⟩:=g;refine⟨q,p,g2,g1,?_⟩;rw[Zq hl];unfold swT;split
 ·simp
 ·split
  ·simp
  ·exact g3
theorem Amb.gd {A:Nat->Ac->Prop} {acc:Nat->Prop} {w:List Int} (h:Amb A acc w):Gd A acc (0,[]) (0,[]) (0,[]) w:=by
 obtain⟨x,y,h1,h2,h3⟩:=h;exact⟨x,y,h2,h3,λ e=>h1 (Jy.1 e)⟩
theorem Gd.next {A:Nat->Ac->Prop} {acc:Nat->Prop} {a b:Hf} {w:List Int} {l:Int×List UInt8} {c:Int} {v:List Int} (h:Rch A w a b l) (g:Gd A acc a b l (c::v)):∃ p q a' b',Sp A a c p a'/\Sp A b c q b'/\Gd A acc a' b' (HV l p q) v:=by
 obtain⟨x,y,h1,h2,rfl⟩:=h;obtain⟨p,q,⟨k,g1,g2⟩,⟨k',g3,g4⟩,g5⟩:=g;obtain⟨a',p1,p2,s1,r1,rfl⟩:=g1.inv;obtain⟨b',q1,q2,s2,r2,rfl⟩:=g3.inv;refine⟨p1,q1,a',b',s1,s2,p2,q2,⟨k,r1,g2⟩,⟨k',r2,g4⟩,?_⟩;rw[← Jx,← List.append_assoc,← List.append_assoc,Jx,Jx]at g5;exact g5
theorem JlC {A:Nat->Ac->Prop} {acc:Nat->Prop} {a b:Hf} {l:Int×List UInt8} (hl:Pk l):Gd A acc a b l []↔l.1≠0/\a.2=[]/\b.2=[]/\acc a.1/\acc b.1:=by
 have h0:(HV l [] []).1=0↔l.1=0:=by
  obtain⟨s,t⟩:=l;rcases hl with⟨h1,h2⟩|⟨h1,h2⟩|⟨h1,h2⟩|⟨h1,h2⟩<;>simp only at h1 h2<;>subst h1
  ·simp[HV,ldT]
  ·simp only[HV,if_true,List.append_nil];rw[Jy];simp[h2]
  ·simp only[HV,if_true,List.append_nil];rw[if_neg (by decide),Jy];simp[eq_comm,h2]
  ·simp[HV]
 constructor
 ·rintro⟨p,q,⟨k,g1,g2⟩,⟨k',g3,g4⟩,g5⟩;obtain⟨e1,rfl⟩:=g1.inv0;obtain⟨e2,rfl⟩:=g3.inv0;subst e1;subst e2;exact⟨λ h=>g5 (h0.2 h),rfl,rfl,g2,g4⟩
 ·rintro⟨h1,h2,h3,h4,h5⟩;obtain⟨a,r⟩:=a;obtain⟨b,r'⟩:=b;simp only at h2 h3;subst h2;subst h3;exact⟨[],[],⟨a,.nil _,h4⟩,⟨b,.nil _,h5⟩,λ h=>h1 (h0.1 h)⟩
def Cov (R:(Int×List UInt8)->Prop) (l:Int×List UInt8):Prop:=R l\/R (3,[])\/∃ m m',R m/\R m'/\m≠m'
theorem Cov.gd {A:Nat->Ac->Prop} {acc:Nat->Prop} {R:(Int×List UInt8)->Prop} {l:Int×List UInt8} (h:Cov R l) (hR:∀ m,R m->Pk m) {a b:Hf} {v:List Int} (g:Gd A acc a b l v):∃ m,R m/\Gd A acc a b m v:=by
 rcases h with h|h|⟨m,m',h1,h2,h3⟩
 ·exact⟨l,h,g⟩
 ·obtain⟨p,q,g1,g2,_⟩:=g;exact⟨_,h,p,q,g1,g2,by simp[HV]⟩
 ·obtain⟨p,q,g1,g2,_⟩:=g;by_cases e:(HV m p q).1=0
  ·exact⟨m',h2,p,q,g1,g2,λ e'=>h3 (Zr (hR m h1) (hR m' h2) e e')⟩
  ·exact⟨m,h1,p,q,g1,g2,e⟩
def ltL:List Int->List Int->Bool
 | [],[]=>false
 | [],_::_=>true
 | _::_,[]=>false
 | a::x,b::y=>decide (a<b)||(a==b&&ltL x y)
def ltW (x y:List Int):Prop:=x.length<y.length\/(x.length=y.length/\ltL x y=true)
theorem X0:∀ x,ltL x x=false
 | []=>rfl
 | a::x=>by simp[ltL,X0 x]
theorem IR:∀ {x y z:List Int},ltL x y=true->ltL y z=true->ltL x z=true
 | [],[],_,h,_=>by cases h
 | [],_::_,[],_,h=>by cases h
 | [],_::_,_::_,_,_=>rfl
 | _::_,[],_,h,_=>by cases h
 | _::_,_::_,[],_,h=>by cases h
 | a::x,b::y,c::z,h,h'=>by
  simp only[ltL,Jmi,decide_eq_true_eq,Jl0,beq_iff_eq]at *;rcases h with h|⟨rfl,h⟩<;>rcases h' with h'|⟨rfl,h'⟩
  ·left;omega
  ·left;exact h
  ·left;exact h'
  ·right;exact⟨rfl,IR h h'⟩
theorem X1:∀ {x y:List Int},x.length=y.length->ltL x y=true\/x=y\/ltL y x=true
 | [],[],_=>.inr (.inl rfl)
 | [],_::_,h=>by simp at h
 | _::_,[],h=>by simp at h
 | a::x,b::y,h=>by
  simp only[ltL,Jmi,decide_eq_true_eq,Jl0,beq_iff_eq];rcases Int.lt_trichotomy a b with h1|rfl|h1
  ·exact .inl (.inl h1)
  ·rcases X1 (by simpa using h:x.length=y.length)with h2|rfl|h2
   ·exact .inl (.inr ⟨rfl,h2⟩)
   ·exact .inr (.inl rfl)
   ·exact .inr (.inr (.inr ⟨rfl,h2⟩))
  ·exact .inr (.inr (.inl h1))
theorem Jer {x y:List Int} (h:x.length=y.length) (hl:ltL x y=true) (u v:List Int):ltL (x++u) (y++v)=true:=by
 induction x generalizing y with
 | nil=>cases y with
  | nil=>cases hl
  | cons _ _=>simp at h
 | cons a x ih=>
  cases y with
  | nil=>simp at h
  | cons b y=>
   simp only[List.cons_append,ltL,Jmi,decide_eq_true_eq,Jl0,beq_iff_eq]at *;rcases hl with hl|⟨rfl,hl⟩
   ·exact .inl hl
   ·exact .inr ⟨rfl,ih (by simpa using h) hl⟩
theorem SN {x y z:List Int} (h:ltW x y) (h':ltW y z):ltW x z:=by
 rcases h with h|⟨h,h1⟩<;>rcases h' with h'|⟨h',h2⟩
 ·exact .inl (by omega)
 ·exact .inl (by omega)
 ·exact .inl (by omega)
 ·exact .inr ⟨by omega,IR h1 h2⟩
theorem Jes (x y:List Int):ltW x y\/x=y\/ltW y x:=by
 rcases Nat.lt_trichotomy x.length y.length with h|h|h
 ·exact .inl (.inl h)
 ·rcases X1 h with h1|h1|h1
  ·exact .inl (.inr ⟨h,h1⟩)
  ·exact .inr (.inl h1)
  ·exact .inr (.inr (.inr ⟨h.symm,h1⟩))
 ·exact .inr (.inr (.inl h))
theorem Jet {x y:List Int} (h:ltW x y) (v:List Int):ltW (x++v) (y++v):=by
 rcases h with h|⟨h,h1⟩
 ·exact .inl (by simp;omega)
 ·exact .inr ⟨by simp[h],Jer h h1 v v⟩
def Lst (A:Nat->Ac->Prop) (acc:Nat->Prop) (w:List Int):Prop:=Amb A acc w/\∀ u,Amb A acc u->¬ltW u w
end Go.AI
end
section
namespace Go.AI
def prt (t:Ab) (k:Nat):List UInt8:=(Fe t (k:Int)).Print
def cls (t:Ab) (k:Nat):List Int:=(Fe t (k:Int)).Cells
structure Rl (t:Ab) (st:List Ae) (i m:Nat) (l:List Fv):Prop where
 len:l.length<=m
 snd:∀ a∈l,∃ j k:Nat,a.To=(j:Int)/\Edge t st i k j/\Of t st j/\a.Print=prt t k/\a.Cells=cls t k
 cov:∀ k j:Nat,k<m->Edge t st i k j->Of t st j->(⟨prt t k,cls t k,(j:Int)⟩:Fv)∈l
structure W9 (t:Ab) (st:List Ae) (g:As):Prop where
 len:g.Arcs.length=st.length
 acc:∀ (i:Nat) s,st[i]?=some s->g.Accepts[i]?=some (Bu t s)
 alive:g.Alive=true↔Of t st 0
 arcs:∀ (i:Nat) l,g.Arcs[i]?=some l->Rl t st i t.Rules.length l
structure GJ (t:Ab) (st:List Ae) (al:Bool) (i m c:Nat) (g:As):Prop where
 len:g.Arcs.length=st.length
 aln:g.Accepts.length=st.length
 acc:∀ (j:Nat) s,j<c->st[j]?=some s->g.Accepts[j]?=some (Bu t s)
 alive:g.Alive=al
 arcs:∀ (j:Nat) l,g.Arcs[j]?=some l->(j<i->Rl t st j t.Rules.length l)/\(j=i->Rl t st i m l)/\(i<j->l=[])
theorem Rl.nil (t:Ab) (st:List Ae) (i:Nat):Rl t st i 0 []:=⟨JlO _,λ a h=>by simp at h,λ k j h=>by omega⟩
theorem Zs {t:Ab} (ht:Hj t) {st:List Ae} (hF:FX t st) (hD:∀ i,Jcf t i st) {nb:List (Ae×Int)} (hN:JV st nb) {al:List Bool} (hal:Og t st al) (r24:List Ae) {b:Bool} {i:Nat} {s:Ae} (hi:st[i]?=some s) {g:As} (hg:GJ t st b i 0 (i+1) g) :
  Tot (λ n=>whl (λ (x:(As×Int))=>CV n t r24 al nb (i:Int) s x.1 x.2) n (g,0)) (GJ t st b (i+1) 0 (i+1)):=by
 have hil:=Am hi;have h768:=hF.len;have hr:=ht.1;refine Tot.upto (body:=λ n (x:As×Int)=>CV n t r24 al nb (i:Int) s x.1 x.2) t.Rules.length (λ m x=>x.2=(m:Int)/\GJ t st b i m (i+1) x.1) ?_ ?_ _ ⟨rfl,hg⟩
 ·rintro m ⟨g,_⟩ hm ⟨rfl,hg⟩;unfold CV;refine Tot.iteT (by simp;omega) (Tot.bindC (NC (k:=(m:Int)) (by omega) (by omega)) (Jlz (λ n=>Py ht.short n s (m:Nat)) ?_));have same:∀ (no:¬∃ j,Edge t st i m j/\Of t st j),GJ t st b i (m+1) (i+1) g:=λ no=>by
   refine⟨hg.len,hg.aln,hg.acc,hg.alive,λ j l hl=>?_⟩;obtain⟨h1,h2,h3⟩:=hg.arcs j l hl;refine⟨h1,λ e=>?_,h3⟩;obtain⟨q1,q2,q3⟩:=h2 e;refine⟨by omega,q2,λ k j hk hE hL=>?_⟩;by_cases e:k=m
   ·subst e;exact absurd ⟨j,hE,hL⟩ no
   ·exact q3 k j (by omega) hE hL
  have nxt:∀ g',GJ t st b i (m+1) (i+1) g'->Tot (λ n=>E6 n (m:Int) g') (Rd2 (λ x=>x.2=((m+1:Nat):Int)/\GJ t st b i (m+1) (i+1) x.1) (GJ t st b (i+1) 0 (i+1))):=λ g' hg'=>Jlx ⟨VV (by omega),hg'⟩;by_cases hs:(By t s (m:Nat)).2=true
  ·have hmem:=hD (i+1) i s (by omega) hi m hm hs;obtain⟨j,hjl,hj⟩:=List.mem_iff_getElem.1 hmem;have hj':st[j]?=some (By t s (m:Nat)).1:=by rw[JlZ hjl,hj]
   have hE:Edge t st i m j:=⟨s,_,hi,hm,hj',by rw[← hs]⟩;have hnum:Option.getD (BR (By t s (m:Nat)).1 nb) 0=(j:Int):=by rw[hN,DD hF.nodup hj'];rfl
   have hjal:j<al.length:=by rw[hal.1];exact hjl
   refine Tot.bindC (y:=al[j]) (by rw[if_pos hs,hnum];exact A8 hjal) ?_;by_cases hL:al[j]=true
   ·have hLj:Of t st j:=(hal.2 j).1 (by rw[JlZ hjal,hL]);have hial:i<g.Arcs.length:=by rw[hg.len];exact hil
    have hai:=JlZ hial;obtain⟨_,hA,_⟩:=hg.arcs i _ hai;have hA:=hA rfl;refine Tot.iteT (by rw[hs,hL];rfl) (Tot.bindC (A8 hial) (Tot.bindC (CU (by have:=hA.len;simp;omega)) (nxt _ ?_)));refine⟨by simpa using hg.len,hg.aln,hg.acc,hg.alive,λ j' l hl=>?_⟩;rw[hnum,Jl8,List.getElem?_set]at hl;split at hl
    ·rename_i e;subst e
     try rw[if_pos hial]at hl
     cases hl;refine⟨λ h=>absurd h (Nat.lt_irrefl _),λ _=>⟨by have:=hA.len;simp;omega,λ a ha=>?_,λ k j2 hk hE2 hL2=>?_⟩,λ h=>absurd h (Nat.lt_irrefl _)⟩
     ·rcases List.mem_append.1 ha with h|h
      ·exact hA.snd a h
      ·simp only[List.mem_singleton]at h;subst h;exact⟨j,m,rfl,hE,hLj,rfl,rfl⟩
     ·by_cases e:k=m
      ·subst e;obtain⟨s1,s2,k1,_,k3,k4⟩:=hE2;rw[hi]at k1;cases k1;have:j2=j:=Ua hF.nodup (s:=s2) k3 (by rw[hj'];rw[k4]);subst this;exact List.mem_append_right _ (List.mem_singleton.2 rfl)
      ·exact List.mem_append_left _ (hA.cov k j2 (by omega) hE2 hL2)
    ·rename_i e;obtain⟨h1,h2,h3⟩:=hg.arcs j' l hl;exact⟨h1,λ h=>absurd h.symm e,h3⟩
   ·have hL':al[j]=false:=by simpa using hL
    refine Tot.iteF (by rw[hs,hL'];rfl) (nxt _ (same ?_));rintro⟨j2,⟨s1,s2,k1,_,k3,k4⟩,hL2⟩;rw[hi]at k1;cases k1;have:j2=j:=Ua hF.nodup (s:=s2) k3 (by rw[hj'];rw[k4]);subst this;have:=(hal.2 j2).2 hL2;rw[JlZ hjal,hL']at this;cases this
  ·have hs':(By t s (m:Nat)).2=false:=by simpa using hs
   refine Tot.bindC (y:=default) (by rw[if_neg hs]) (Tot.iteF (by rw[hs'];rfl) (nxt _ (same ?_)));rintro⟨j2,⟨s1,s2,k1,_,k3,k4⟩,hL2⟩;rw[hi]at k1;cases k1;rw[k4]at hs';cases hs'
 ·rintro⟨g,_⟩ ⟨rfl,hg⟩;unfold CV;refine Tot.iteF (by simp) (Jlx ⟨hg.len,hg.aln,hg.acc,hg.alive,λ j l hl=>?_⟩);obtain⟨h1,h2,h3⟩:=hg.arcs j l hl;refine⟨λ h=>?_,λ h=>?_,λ h=>h3 (by omega)⟩
  ·by_cases e:j=i
   ·subst e;exact h2 rfl
   ·exact h1 (by omega)
  ·have:=h3 (by omega);subst this;exact .nil _ _ _
theorem JcA {t:Ab} (ht:Hj t):Tot (λ n=>FJ n t) (W9 t (AN t)):=by
 obtain⟨hF,hD⟩:=CW ht;have h768:=hF.len;unfold FJ;refine Jly (W3 ht) (Tot.bind (Zp ht) λ al hal=>Tot.bind (R:=JV (AN t)) ?_ λ nb hN=>Tot.bindC (Jcj (by omega) (by omega)) (Tot.bindC (Jcj (by omega) (by omega)) ?_))
 ·refine Tot.upto (body:=λ n (x:(List (Ae×Int))×Int)=>DM n t (AN t) al x.1 x.2) (AN t).length (λ i x=>x.2=(i:Int)/\JV ((AN t).take i) x.1) ?_ ?_ _ ⟨rfl,λ s=>rfl⟩
  ·rintro i ⟨nb,_⟩ hi ⟨rfl,hN⟩;unfold DM;refine Tot.iteT (by simp;omega) (Tot.bindC (A8 hi) (Jlx ⟨VV (by omega),?_⟩));rw[List.take_add_one,JlZ hi,Option.toList_some];have:=hN.snoc (p:=(AN t)[i]) (hF.nodup.sublist (List.take_sublist _ _)) (λ h=>by
    obtain⟨j,hj,e⟩:=List.mem_iff_getElem.1 h;rw[List.getElem_take]at e;have hj':j<i:=by rw[List.length_take]at hj;omega
    have:=Ua hF.nodup (i:=i) (j:=j) (JlZ hi) (by rw[JlZ (show j<(AN t).length by omega),e]);omega)
   rw[List.length_take,Nat.min_eq_left (by omega)]at this;exact this
  ·rintro⟨nb,_⟩ ⟨rfl,hN⟩;unfold DM;refine Tot.iteF (by simp) (Jlx ?_);rw[List.take_length]at hN;exact hN
 ·have h0:0<al.length:=by rw[hal.1];exact Am hF.first
  refine Tot.bindC (A8 (i:=0) h0) (Tot.bind (R:=W9 t (AN t)) ?_ λ g hg=>Jlx hg);refine Tot.upto (body:=λ n (x:As×Int)=>DN n t (AN t) al nb x.1 x.2) (AN t).length (λ i x=>x.2=(i:Int)/\GJ t (AN t) al[0] i 0 i x.1) ?_ ?_ _ ⟨rfl,by simp,by simp,λ j s h=>by omega,rfl,λ j l hl=>?_⟩
  ·rintro i ⟨g,_⟩ hi ⟨rfl,hg⟩;have hia:i<g.Accepts.length:=by rw[hg.aln];exact hi
   have hsi:=JlZ hi;unfold DN;refine Tot.iteT (by simp;omega) (Tot.bindC (A8 hi) (Jlz (λ n=>Rf n t _) (Tot.bindC (A8 hia) (Tot.bindC (Jw hia) (Tot.bind (Zs ht hF hD hN hal _ hsi ?_) λ g' hg'=>Jlx ⟨VV (by omega),hg'⟩)))));refine⟨hg.len,by simpa using hg.aln,λ j s hj hs=>?_,hg.alive,hg.arcs⟩;rw[List.getElem?_set];split
   ·rename_i e;subst e;rw[hsi]at hs;cases hs
    first|rfl|rw[if_pos hia]
   ·exact hg.acc j s (by omega) hs
  ·rintro⟨g,_⟩ ⟨rfl,hg⟩;unfold DN;refine Tot.iteF (by simp) (Jlx ⟨hg.len,λ i s hs=>hg.acc i s (Am hs) hs,?_,λ i l hl=>?_⟩)
   ·rw[hg.alive,← hal.2 0,JlZ h0];simp
   ·exact(hg.arcs i l hl).1 (by have:=Am hl;rw[hg.len]at this;exact this)
  ·have:l=[]:=by
    rw[List.getElem?_replicate]at hl;split at hl
    ·exact(Option.some.inj hl).symm
    ·cases hl
   subst this;exact⟨λ h=>by omega,λ _=>.nil _ _ _,λ _=>rfl⟩
end Go.AI
end
section
namespace Go.AI
def Dj (l:BY):Int×List UInt8:=(l.Side,l.Text)
theorem Ub {a:UInt8} {x:List UInt8}:Iu (a::x) 0=some ((a.toNat:Nat):Int):=by
 unfold Iu;rw[if_pos (by simp)];rfl
theorem Uc {α:Type} {a:α} {x:List α}:sub (a::x) 1 ((List.length (a::x):Nat):Int)=some x:=by
 rw[Jci (by omega) (by simp;omega) (by omega)];simp
theorem X2 {a b:UInt8}:((((a.toNat:Nat):Int) != ((b.toNat:Nat):Int))=true)↔a≠b:=by
 rw[bne_iff_ne];constructor
 ·rintro h rfl;exact h rfl
 ·intro h e;exact h (UInt8.toNat_inj.1 (by omega))
theorem Oh (p q:List UInt8):Tot (λ n=>Cv n p q) (λ r=>Dj r=ldT p q):=by
 unfold Cv;refine Tot.bind (R:=λ y=>match y with
  | .inl y=>(y.1=[]\/y.2=[])/\ldT y.1 y.2=ldT p q
  | .inr l=>Dj l=ldT p q) ?_ λ y hy=>?_
 ·refine Tot.whl (body:=λ n (x:List UInt8×List UInt8)=>D5 n x.1 x.2) (λ k x=>k=x.1.length/\ldT x.1 x.2=ldT p q) ?_ p.length (p,q) ⟨rfl,rfl⟩;rintro k ⟨x,y⟩ ⟨rfl,he⟩;unfold D5;simp only at he⊢;cases x with
  | nil=>exact Tot.iteF (by simp) (Jlx ⟨.inl rfl,he⟩)
  | cons a x=>
   cases y with
   | nil=>exact Tot.iteF (by simp) (Jlx ⟨.inr rfl,he⟩)
   | cons b y=>
    refine Tot.iteT (by simp) (Tot.bindC Ub (Tot.bindC Ub (Tot.ite (λ h=>?_) λ h=>?_)))
    ·have hne:=X2.1 h;refine Jlx ?_;show Dj { Side:=3,Text:=[] }=ldT p q;rw[← he,GY,if_neg hne];rfl
    ·have heq:a=b:=Classical.byContradiction λ hn=>by rw[X2.2 hn]at h;cases h
     rw[GY,if_pos heq]at he;exact Tot.bindC Uc (Tot.bindC Uc (Jlx ⟨x.length,by simp,rfl,he⟩))
 ·cases y with
  | inl y=>
   obtain⟨x,y⟩:=y;obtain⟨h1,h2⟩:=hy;simp only at h1 h2⊢;cases x with
   | cons a x=>
    have:y=[]:=by rcases h1 with h|h;cases h;exact h
    subst this;exact Tot.iteT (by simp) (Jlx (by rw[← h2];rfl))
   | nil=>
    refine Tot.iteF (by simp) ?_;cases y with
    | cons b y=>exact Tot.iteT (by simp) (Jlx (by rw[← h2];rfl))
    | nil=>exact Tot.iteF (by simp) (Jlx (by rw[← h2];rfl))
  | inr l=>exact Jlx hy
theorem JcB (l:BY) (p q:List UInt8) (h:l.Text.length+p.length<=9223372036854775807) (h':l.Text.length+q.length<=9223372036854775807):Tot (λ n=>FI n l p q) (λ r=>Dj r=HV (Dj l) p q):=by
 unfold FI HV Dj;simp only;refine Tot.ite (λ e=>?_) λ e=>?_
 ·have e:l.Side=1:=by simpa using e
  rw[if_pos e];exact Tot.bindC (Ri h) (Oh _ _)
 ·have e:¬l.Side=1:=by simpa using e
  rw[if_neg e];refine Tot.ite (λ e2=>?_) λ e2=>?_
  ·have e2:l.Side=2:=by simpa using e2
   rw[if_pos e2];exact Tot.bindC (Ri h') (Oh _ _)
  ·have e2:¬l.Side=2:=by simpa using e2
   rw[if_neg e2];refine Tot.ite (λ e3=>?_) λ e3=>?_
   ·have e3:l.Side=3:=by simpa using e3
    rw[if_pos e3];exact Jlx rfl
   ·have e3:¬l.Side=3:=by simpa using e3
    rw[if_neg e3];exact Oh _ _
def swN (n:Aj):Aj:=⟨⟨n.Pair.B,n.Pair.A⟩,⟨if n.Lead.Side=1 then 2 else if n.Lead.Side=2 then 1 else n.Lead.Side,n.Lead.Text⟩⟩
theorem JcC (n:Aj):Dj (swN n).Lead=swT (Dj n.Lead):=by
 unfold swN swT Dj;simp only;split
 ·rfl
 ·split<;>rfl
theorem Xa (m:Aj):∃ r,(r=m\/r=swN m)/\∀ n,EF n m=some r:=by
 unfold EF Cz swN;cases h:(decide (m.Pair.A<m.Pair.B)||m.Pair.A==m.Pair.B&&m.Lead.Side != 2)with
 | true=>exact⟨m,.inl rfl,λ n=>by simp⟩
 | false=>
  refine⟨swN m,.inr rfl,λ n=>?_⟩;unfold swN;by_cases h1:m.Lead.Side=1
  ·simp[h1]
  ·by_cases h2:m.Lead.Side=2
   ·simp[h2]
   ·simp[h1,h2]
end Go.AI
end
section
namespace Go.AI
def Rm (t:Ab) (s:Ae):List Int->Ae->Prop
 | [],s'=>s=s'
 | k::p,s'=>(By t s k).2=true/\Rm t (By t s k).1 p s'
def Jz (t:Ab) (p:List Int):List UInt8:=p.flatMap λ k=>(Fe t k).Print
def cellsOf (t:Ab) (p:List Int):List Int:=p.flatMap λ k=>(Fe t k).Cells
end Go.AI
end
section
namespace Go.AI
theorem SO {r:AE} {m:Int} (h:Cr r m=true):(∀ b∈r.Print,Hk b=true)/\(∀ c∈r.Cells,c<63)/\r.Cells.countP (λ c=>c==0)=r.Print.countP Di:=by
 unfold Cr at h;simp only[Jl0,JlJ,decide_eq_true_eq]at h;obtain⟨⟨⟨⟨⟨⟨h1,_⟩,_⟩,_⟩,_⟩,h2⟩,h3⟩:=h;refine⟨h1,h2,?_⟩;cases hs:r.Print.any Di with
 | true=>
  rw[hs]at h3;simp only[cond_true,Jl0,decide_eq_true_eq]at h3;obtain⟨⟨a,b⟩,c⟩:=h3;obtain⟨x,hx⟩:=List.length_eq_one_iff.1 a;obtain⟨y,hy⟩:=List.length_eq_one_iff.1 b;rw[hx]at hs⊢;rw[hy]at c⊢;simp only[List.any_cons,List.any_nil,Bool.or_false]at hs c;simp[hs,c]
 | false=>
  rw[hs]at h3;simp only[cond_false,Bool.not_eq_true']at h3;rw[List.any_eq_false]at h3 hs;rw[List.countP_eq_zero.2 h3,List.countP_eq_zero.2 hs]
end Go.AI
end
section
namespace Go.AI
theorem Ev.demB {α:Type} {S:Bool->Prop} {k:Nat->Bool->Option α} {z:α} (h0:∃ b,S b) (h:∀ b,S b->Ev (λ n=>k n b) z):Ev (λ n=>dem S (k n)) z:=by
 have hb:∀ b,∃ N,∀ n,N<=n->S b->k n b=some z:=λ b=>by
  by_cases hs:S b
  ·obtain⟨N,hN⟩:=h b hs;exact⟨N,λ n hn _=>hN n hn⟩
  ·exact⟨0,λ n _ hs'=>absurd hs' hs⟩
 obtain⟨N1,h1⟩:=hb true;obtain⟨N2,h2⟩:=hb false;refine⟨max N1 N2,λ n hn=>JfW h0 λ b hs=>?_⟩;cases b with
 | true=>exact h1 n (by omega) hs
 | false=>exact h2 n (by omega) hs
theorem Tot.demB {α:Type} {S:Bool->Prop} {k:Nat->Bool->Option α} {P:α->Prop} {z:α} (h0:∃ b,S b) (h:∀ b,S b->Ev (λ n=>k n b) z) (hp:P z):Tot (λ n=>dem S (k n)) P:=(Ev.demB h0 h).tot hp
structure Ud {κ:Type} [DecidableEq κ] (st:List κ) (nb:List (κ×Int)):Prop where
 get:∀ (i:Nat) s,st[i]?=some s->BR s nb=some (i:Int)
 inv:∀ s v,BR s nb=some v->∃ i:Nat,v=(i:Int)/\st[i]?=some s
theorem Ud.nil {κ:Type} [DecidableEq κ]:Ud ([]:List κ) []:=⟨λ i s h=>by simp at h,λ s v h=>by cases h⟩
theorem Ud.snoc {κ:Type} [DecidableEq κ] {st:List κ} {nb:List (κ×Int)} (h:Ud st nb) {x:κ} (hx:BR x nb=none):Ud (st++[x]) (Eh x ((st.length:Nat):Int) nb):=by
 refine⟨λ i s hs=>?_,λ s v hv=>?_⟩
 ·rw[IP];by_cases hi:i<st.length
  ·rw[Jl7 hi]at hs;have:=h.get i s hs;rw[if_neg (by rintro rfl;rw[hx]at this;cases this)];exact this
  ·rw[Jmh (by omega)]at hs;have:i-st.length=0:=by have:=Am hs;simp at this;omega
   rw[this]at hs;simp at hs;subst hs;rw[if_pos rfl];congr 2;omega
 ·rw[IP]at hv;split at hv
  ·rename_i e;cases hv;subst e;exact⟨st.length,rfl,by simp⟩
  ·obtain⟨i,h1,h2⟩:=h.inv s v hv;exact⟨i,h1,by rw[Jl7 (Am h2)];exact h2⟩
theorem Ud.nodup {κ:Type} [DecidableEq κ] {st:List κ} {nb:List (κ×Int)} (h:Ud st nb):st.Nodup:=by
 rw[List.Nodup,List.pairwise_iff_getElem];intro i j hi hj hij e;have a:=h.get j _ (JlZ hj);have b:=h.get i _ (JlZ hi);rw[e,a]at b;have:(j:Int)=i:=Option.some.inj b;omega
theorem SP {α:Type} [DecidableEq α] {l m:List α} (h:l.Nodup) (hs:∀ x∈l,x∈m):l.length<=m.length:=by
 induction l generalizing m with
 | nil=>simp
 | cons a l ih=>
  rw[List.nodup_cons]at h;have ha:=hs a (by simp);have:=ih (m:=m.erase a) h.2 λ x hx=>by
   refine(List.mem_erase_of_ne (by rintro rfl;exact h.1 hx)).2 (hs x (by simp[hx]))
  have h2:=List.length_erase_of_mem ha;have h3:0<m.length:=List.length_pos_of_mem ha;simp only[List.length_cons];omega
structure GW (g:As) (S:Nat) (CL:List (List Int)):Prop where
 pos:0<S
 len:g.Arcs.length=S
 acc:∀ i:Nat,i<S->∃ b,g.Accepts[i]?=some b
 small:S<=768
 cl:CL.length<=11
 clc:∀ c∈CL,1<=c.length/\c.length<=4/\∀ x∈c,0<=x/\x<63
 al:∀ (i:Nat) l,g.Arcs[i]?=some l->l.length<=11
 arc:∀ (i:Nat) l,g.Arcs[i]?=some l->∀ a∈l,a.Cells∈CL/\a.Print.length<=4/\∃ j:Nat,a.To=(j:Int)/\j<S
def Ag (g:As) (k:Nat) (a:Ac):Prop:=∃ l x,g.Arcs[k]?=some l/\x∈l/\a=⟨x.Print,x.Cells,x.To.toNat⟩
def Acg (g:As) (k:Nat):Prop:=g.Accepts[k]?=some true
def Gk (h:Ad):Hf:=(h.State.toNat,Ds h.Rest)
def okH (S:Nat) (CL:List (List Int)) (h:Ad):Prop:=(∃ k:Nat,h.State=(k:Int)/\k<S)/\(h.Rest=[]\/∃ c∈CL,∃ j:Nat,1<=j/\j<=3/\Ds h.Rest=c.drop j)
def unb (l:List Int):List UInt8:=l.map λ n=>UInt8.ofNat n.toNat
theorem Zt (x:List UInt8):unb (Ds x)=x:=by
 unfold unb Ds;rw[List.map_map]
 conv=>rhs;rw[← List.map_id x]
 exact JlX λ b _=>by simp
theorem Oi {l:List Int} (h:∀ x∈l,0<=x/\x<63):Ds (unb l)=l:=by
 unfold unb Ds;rw[List.map_map]
 conv=>rhs;rw[← List.map_id l]
 refine JlX λ b hb=>?_;obtain⟨h1,h2⟩:=h b hb;simp only[Function.comp,UInt8.toNat_ofNat',id];omega
theorem JcD {l:List Int} (h:∀ x∈l,0<=x/\x<63):Vg l=some (unb l):=by
 unfold Vg;rw[if_pos]
 ·rfl
 ·rw[JlJ];intro x hx;obtain⟨h1,h2⟩:=h x hx;simp;omega
def JiU (S:Nat) (CL:List (List Int)):List Ad:=(List.range S).flatMap λ (k:Nat)=>⟨(k:Int),[]⟩::CL.flatMap λ c=>[⟨(k:Int),unb (c.drop 1)⟩,⟨(k:Int),unb (c.drop 2)⟩,⟨(k:Int),unb (c.drop 3)⟩]
theorem K8 {α β:Type} {f:α->List β} {m:Nat}:∀ {l:List α},(∀ x∈l,(f x).length<=m)->(l.flatMap f).length<=l.length*m
 | [],_=>by simp
 | a::l,h=>by
  have h1:=h a (by simp);have h2:=K8 (l:=l) (m:=m) λ x hx=>h x (by simp[hx]);rw[List.flatMap_cons,List.length_append,List.length_cons,Jmc];omega
theorem okH.mem {S:Nat} {CL:List (List Int)} {h:Ad} (H:okH S CL h):h∈JiU S CL:=by
 obtain⟨⟨k,hk,hS⟩,hr⟩:=H;obtain⟨s,r⟩:=h;simp only at hk hr;subst hk;refine List.mem_flatMap.2 ⟨k,List.mem_range.2 hS,?_⟩;rcases hr with rfl|⟨c,hc,j,h1,h2,e⟩
 ·exact List.mem_cons_self
 ·have e:r=unb (c.drop j):=by rw[← e,Zt]
  refine List.mem_cons_of_mem _ (List.mem_flatMap.2 ⟨c,hc,?_⟩);have:j=1\/j=2\/j=3:=by omega
  rcases this with rfl|rfl|rfl<;>simp[e]
theorem JcE {g:As} {S:Nat} {CL:List (List Int)} (hw:GW g S CL):(JiU S CL).length<=26112:=by
 have h1:(JiU S CL).length<=(List.range S).length*34:=K8 λ k _=>by
  have:(CL.flatMap λ c=>[(⟨(k:Int),unb (c.drop 1)⟩:Ad),⟨(k:Int),unb (c.drop 2)⟩,⟨(k:Int),unb (c.drop 3)⟩]).length<=CL.length*3:=K8 λ c _=>by simp
  have:=hw.cl;simp only[List.length_cons];omega
 have:=hw.small;rw[List.length_range]at h1;omega
structure Xb (g:As) (hs:List Ad) (h:Ad) (s:Ai):Prop where
 lo:0<=s.Cell
 hi:s.Cell<63
 pl:s.Print.length<=4
 to:∃ (j:Nat) (h':Ad),s.To=(j:Int)/\hs[j]?=some h'/\Sp (Ag g) (Gk h) s.Cell s.Print (Gk h')
theorem Xb.ext {g:As} {hs hs':List Ad} {h:Ad} {s:Ai} (H:Xb g hs h s) (hp:hs <+: hs'):Xb g hs' h s:=by
 obtain⟨a,b,c,j,h',d,e,f⟩:=H;exact⟨a,b,c,j,h',d,CT hp e,f⟩
structure Ue (g:As) (hs:List Ad) (h:Ad) (l:List Ai):Prop where
 len:l.length<=11
 snd:∀ s∈l,Xb g hs h s
 cov:∀ c p x',Sp (Ag g) (Gk h) c p x'->∃ s∈l,s.Cell=c/\s.Print=p/\∃ (j:Nat) (h':Ad),s.To=(j:Int)/\hs[j]?=some h'/\Gk h'=x'
theorem Ue.ext {g:As} {hs hs':List Ad} {h:Ad} {l:List Ai} (H:Ue g hs h l) (hp:hs <+: hs'):Ue g hs' h l:=by
 refine⟨H.len,λ s hs=>(H.snd s hs).ext hp,λ c p x' hx=>?_⟩;obtain⟨s,h1,h2,h3,j,h',h4,h5,h6⟩:=H.cov c p x' hx;exact⟨s,h1,h2,h3,j,h',h4,CT hp h5,h6⟩
structure HSt (g:As) (S:Nat) (CL:List (List Int)) (hs:List Ad) (nb:List (Ad×Int)) (sp:List (Option (List Ai))):Prop where
 num:Ud hs nb
 ok:∀ h∈hs,okH S CL h
 len:sp.length=hs.length
 stp:∀ (i:Nat) h l,hs[i]?=some h->sp[i]?=some (some l)->Ue g hs h l
theorem HSt.le {g:As} {S:Nat} {CL:List (List Int)} (hw:GW g S CL) {hs:List Ad} {nb:List (Ad×Int)} {sp:List (Option (List Ai))} (H:HSt g S CL hs nb sp):hs.length<=26112:=
 Nat.le_trans (SP H.num.nodup λ h hh=>(H.ok h hh).mem) (JcE hw)
def Jlo (sp sp':List (Option (List Ai))):Prop:=∀ (i:Nat) x,sp[i]?=some x->sp'[i]?=some x
variable {g:As} {S:Nat} {CL:List (List Int)} {hs:List Ad} {nb:List (Ad×Int)} {sp:List (Option (List Ai))}
theorem Uf (hw:GW g S CL) (H:HSt g S CL hs nb sp) {h:Ad} (hh:okH S CL h) (fd:List (Ao×Ap)) :
  Tot (λ n=>Cn n h g hs nb sp fd) (λ r=>HSt g S CL r.2.1 r.1 r.2.2.1/\hs <+: r.2.1/\Jlo sp r.2.2.1/\∃ j:Nat,r.2.2.2=(j:Int)/\r.2.1[j]?=some h):=by
 have hle:=H.le hw;unfold Cn D6;cases hm:BR h nb with
 | none=>
  refine Tot.iteT (by simp) (Tot.bindC (CU (by simp;omega)) (Tot.bindC (CU (by have:=H.len;simp;omega)) (Jlx ?_)));refine⟨⟨H.num.snoc hm,λ x hx=>?_,by simp[H.len],λ i x l hx hl=>?_⟩,List.prefix_append _ _,λ i x hx=>?_,hs.length,rfl,by simp⟩
  ·rcases List.mem_append.1 hx with hx|hx
   ·exact H.ok x hx
   ·simp only[List.mem_singleton]at hx;subst hx;exact hh
  ·by_cases hi:i<sp.length
   ·rw[Jl7 hi]at hl;rw[Jl7 (by rw[← H.len];exact hi)]at hx;exact(H.stp i x l hx hl).ext (List.prefix_append _ _)
   ·rw[Jmh (by omega)]at hl;have:i-sp.length=0:=by have:=Am hl;simp at this;omega
    rw[this]at hl;cases hl
  ·rw[Jl7 (Am hx)];exact hx
 | some v=>
  obtain⟨i,rfl,hi⟩:=H.num.inv h v hm;exact Tot.iteF (by simp) (Jlx ⟨H,List.prefix_refl _,λ _ _ h=>h,i,rfl,hi⟩)
theorem VW (l:List Ai) (s:Ai) (hl:l.length<9223372036854775807):Tot (λ n=>Lt n l s) (λ r=>r=decide (s∈l)):=by
 unfold Lt Qz;refine Tot.bind (R:=λ r=>(r=-1/\s ∉ l)\/(0<=r/\s∈l)) (Tot.bind (R:=λ y=>match y with
  | .inl _=>s ∉ l
  | .inr i=>0<=i/\s∈l) ?_ λ y hy=>?_) λ r hr=>Jlx ?_
 ·refine Tot.upto (body:=λ n (x:Int)=>GE n l s x) l.length (λ i x=>x=(i:Int)/\s ∉ l.take i) ?_ ?_ _ ⟨rfl,by simp⟩
  ·rintro i _ hi ⟨rfl,hn⟩;unfold GE;refine Tot.iteT (by simp;omega) (Tot.bindC (A8 hi) (Tot.ite (λ h=>?_) λ h=>?_))
   ·simp only[Bool.and_true,Jl0,beq_iff_eq]at h;have:l[i]=s:=by
     generalize l[i]=x at h;obtain⟨a,b,c⟩:=x;obtain⟨a',b',c'⟩:=s;simp only at h;obtain⟨rfl,rfl,rfl⟩:=h;rfl
    exact Jlx ⟨by omega,by rw[← this];exact JlL hi⟩
   ·refine Jlx ⟨Bg (by omega),?_⟩;rw[List.take_add_one,JlZ hi];intro hm;rcases List.mem_append.1 hm with hm|hm
    ·exact hn hm
    ·simp only[Option.toList_some,List.mem_singleton]at hm;rw[← hm]at h;simp at h
  ·rintro _ ⟨rfl,hn⟩;unfold GE;rw[List.take_length]at hn;exact Tot.iteF (by simp) (Jlx hn)
 ·cases y with
  | inl _=>exact Jlx (.inl ⟨rfl,hy⟩)
  | inr i=>exact Jlx (.inr hy)
 ·rcases hr with⟨rfl,h⟩|⟨h1,h2⟩
  ·simp[h]
  ·simp[h1,h2]
end Go.AI
end
section
namespace Go.AI
theorem Sp.inv {A:Nat->Ac->Prop} {h x:Hf} {c:Int} {p:List UInt8} (H:Sp A h c p x):(∃ r,h.2=c::r/\p=[]/\x=(h.1,r))\/(h.2=[]/\∃ a r,A h.1 a/\a.c=c::r/\p=a.p/\x=(a.to,r)):=by
 cases H with
 | rest k c r=>exact .inl ⟨r,rfl,rfl,rfl⟩
 | arc h hc=>exact .inr ⟨rfl,_,_,h,hc,rfl,rfl⟩
theorem Xc (a:UInt8) (r:List UInt8):Ds (a::r)=((a.toNat:Nat):Int)::Ds r:=rfl
variable {g:As} {S:Nat} {CL:List (List Int)} {hs:List Ad} {nb:List (Ad×Int)} {sp:List (Option (List Ai))}
theorem okH.tail (hw:GW g S CL) {st:Int} {a:UInt8} {r:List UInt8} (h:okH S CL ⟨st,a::r⟩):okH S CL ⟨st,r⟩/\a.toNat<63:=by
 obtain⟨hk,hr⟩:=h;rcases hr with hr|⟨c,hc,j,h1,h2,e⟩
 ·cases hr
 ·simp only[Xc]at e;obtain⟨c1,c2,c3⟩:=hw.clc c hc;have hm:((a.toNat:Nat):Int)∈c:=List.mem_of_mem_drop (i:=j) (by rw[← e];simp);have hd:Ds r=c.drop (j+1):=by rw[← List.drop_drop,← e];rfl
  refine⟨⟨hk,?_⟩,by have:=c3 _ hm;omega⟩;by_cases hj:j+1<=3
  ·exact .inr ⟨c,hc,j+1,by omega,hj,hd⟩
  ·left;rw[List.drop_of_length_le (by omega)]at hd;cases r with
   | nil=>rfl
   | cons b r=>cases hd
theorem HSt.put (H:HSt g S CL hs nb sp) {i:Nat} {h:Ad} {l:List Ai} (hi:hs[i]?=some h) (hl:Ue g hs h l):HSt g S CL hs nb (sp.set i (some l)):=by
 refine⟨H.num,H.ok,by rw[Jmg];exact H.len,λ j h' l' hj hl'=>?_⟩;rw[List.getElem?_set]at hl';split at hl'
 ·rename_i e;subst e;rw[hi]at hj;cases hj;split at hl'
  ·cases hl';exact hl
  ·cases hl'
 ·exact H.stp j h' l' hj hl'
theorem VX (H:HSt g S CL hs nb sp) {i:Nat} {h:Ad} {l:List Ai} (hi:hs[i]?=some h) (hl:Ue g hs h l):Tot (λ n=>Bx n (i:Int) nb l hs sp) (λ r=>HSt g S CL r.2.1 r.1 r.2.2.1/\hs <+: r.2.1/\Ue g r.2.1 h r.2.2.2):=by
 have hil:i<sp.length:=by rw[H.len];exact Am hi
 unfold Bx;exact Tot.bindC (A8 hil) (Tot.bindC (Jw hil) (Jlx ⟨H.put hi hl,List.prefix_refl _,hl⟩))
def Jeu (hs:List Ad) (steps:List Ai) (a:Fv):Prop:=∃ s∈steps,∃ cfg0 r,a.Cells=cfg0::r/\s.Cell=cfg0/\s.Print=a.Print/\∃ (j:Nat) (h':Ad),s.To=(j:Int)/\hs[j]?=some h'/\Gk h'=(a.To.toNat,r)
theorem Jeu.ext {hs hs':List Ad} {steps steps':List Ai} {a:Fv} (h:Jeu hs steps a) (hp:hs <+: hs') (hs:∀ s∈steps,s∈steps'):Jeu hs' steps' a:=by
 obtain⟨s,h1,cfg0,r,h2,h3,h4,j,h',h5,h6,h7⟩:=h;exact⟨s,hs s h1,cfg0,r,h2,h3,h4,j,h',h5,CT hp h6,h7⟩
structure FrI (g:As) (S:Nat) (CL:List (List Int)) (hs0:List Ad) (h:Ad) (l:List Fv) (m:Nat) (nb:List (Ad×Int)) (steps:List Ai) (hs:List Ad) (sp:List (Option (List Ai))):Prop where
 st:HSt g S CL hs nb sp
 pre:hs0 <+: hs
 len:steps.length<=m
 snd:∀ s∈steps,Xb g hs h s
 cov:∀ (m':Nat) a,m'<m->l[m']?=some a->Jeu hs steps a
theorem Jev (p1:Int) (fd:List (Ao×Ap)) (x56:List Fv) (steps:List Ai) (m:Int) (a:Fv) (hl:a.Cells.length<=4):Tot (λ n=>whl (λ (x:((List Int)×Int))=>Ce n p1 g fd x56 nb steps hs sp m a x.1 x.2) n (([]:List Int),0)) (λ r=>r=a.Cells):=by
 refine Tot.upto (body:=λ n (x:List Int×Int)=>Ce n p1 g fd x56 nb steps hs sp m a x.1 x.2) a.Cells.length (λ i x=>x.2=(i:Int)/\x.1=a.Cells.take i) ?_ ?_ _ ⟨rfl,rfl⟩
 ·rintro i ⟨y,_⟩ hi ⟨rfl,h⟩;simp only at h;subst h;unfold Ce;refine Tot.iteT (by simp;omega) (Tot.bindC (A8 hi) (Tot.bindC (CU (by simp;omega)) (Jlx ⟨Bg (by omega),?_⟩)));show a.Cells.take i++[a.Cells[i]]=_;rw[List.take_add_one,JlZ hi];rfl
 ·rintro⟨y,_⟩ ⟨rfl,h⟩;simp only at h;subst h;unfold Ce;exact Tot.iteF (by simp) (Jlx (List.take_length))
theorem JcF (hw:GW g S CL) (H:HSt g S CL hs nb sp) {i:Nat} {h:Ad} (hr:h.Rest=[]) {l:List Fv} (hl:g.Arcs[h.State.toNat]?=some l) (fd:List (Ao×Ap)) :
  Tot (λ n=>whl (λ (x:((List (Ad×Int))×(List Ai)×(List Ad)×(List (Option (List Ai)))×Int))=>Bt n (i:Int) g fd l x.1 x.2.1 x.2.2.1 x.2.2.2.1 x.2.2.2.2) n (nb,([]:List Ai),hs,sp,0)) (λ r=>FrI g S CL hs h l l.length r.1 r.2.1 r.2.2.1 r.2.2.2):=by
 have hll:=hw.al _ l hl;refine Tot.upto (body:=λ n (x:((List (Ad×Int))×(List Ai)×(List Ad)×(List (Option (List Ai)))×Int))=>Bt n (i:Int) g fd l x.1 x.2.1 x.2.2.1 x.2.2.2.1 x.2.2.2.2) l.length (λ m x=>x.2.2.2.2=(m:Int)/\FrI g S CL hs h l m x.1 x.2.1 x.2.2.1 x.2.2.2.1) ?_ ?_ _ ⟨rfl,H,List.prefix_refl _,by simp,λ s hs=>by simp at hs,λ m' a hm=>by omega⟩
 ·rintro m ⟨nb1,steps,hs1,sp1,_⟩ hm ⟨rfl,hI⟩;simp only at hI⊢;have ham:=JlL hm;obtain⟨a1,a2,k,a3,a4⟩:=hw.arc _ l hl _ ham;obtain⟨c1,c2,c3⟩:=hw.clc _ a1;unfold Bt;refine Tot.iteT (by simp;omega) (Tot.bindC (A8 hm) ?_);generalize hae:l[m]=a at *;obtain⟨cfg0,r,hcr⟩:∃ cfg0 r,a.Cells=cfg0::r:=by
   cases hc:a.Cells with
   | nil=>rw[hc]at c1;simp at c1
   | cons cfg0 r=>exact⟨cfg0,r,rfl⟩
  have hrs:∀ x∈r,0<=x/\x<63:=λ x hx=>c3 x (by rw[hcr];simp[hx]);have hc0:=c3 cfg0 (by rw[hcr];simp);have hok:okH S CL ⟨a.To,unb r⟩:=by
   refine⟨⟨k,a3,a4⟩,.inr ⟨a.Cells,a1,1,by omega,by omega,?_⟩⟩;rw[hcr];exact Oi hrs
  refine Tot.bind (Jev _ _ _ _ _ a c2) ?_;rintro _ rfl;refine Tot.bindC (y:=cfg0) (by rw[hcr];exact A8 (i:=0) (by simp)) (Tot.bindC (y:=r) (by rw[hcr];exact Uc) (Tot.bindC (JcD hrs) (Tot.bind (Uf hw hI.st hok fd) ?_)));rintro⟨nb2,hs2,sp2,j⟩ ⟨g1,g2,_,jn,rfl,g4⟩;simp only at g1 g2 g4⊢;have hspA:Sp (Ag g) (Gk h) cfg0 a.Print (Gk ⟨a.To,unb r⟩):=by
   have:Gk h=(h.State.toNat,[]):=by unfold Gk;rw[hr];rfl
   rw[this];have e:Gk ⟨a.To,unb r⟩=(a.To.toNat,r):=by unfold Gk;rw[Oi hrs]
   rw[e];exact Sp.arc (a:=⟨a.Print,a.Cells,a.To.toNat⟩) ⟨l,a,hl,ham,rfl⟩ hcr
  have nxt:∀ st',steps.length<=st'.length->st'.length<=m+1->(∀ s∈steps,s∈st')->(∀ s∈st',s∈steps\/s=⟨cfg0,a.Print,(jn:Int)⟩)->(⟨cfg0,a.Print,(jn:Int)⟩:Ai)∈st'->Tot (λ n=>Dw n (m:Int) nb2 st' hs2 sp2) (Rd2 (λ x=>x.2.2.2.2=((m+1:Nat):Int)/\FrI g S CL hs h l (m+1) x.1 x.2.1 x.2.2.1 x.2.2.2.1) (λ r=>FrI g S CL hs h l l.length r.1 r.2.1 r.2.2.1 r.2.2.2)):=λ st' q0 q1 q2 q3 q4=>by
   refine Jlx ⟨Bg (by omega),g1,hI.pre.trans g2,q1,λ s hs'=>?_,λ m' a' hm' ha'=>?_⟩
   ·rcases q3 s hs' with h|rfl
    ·exact(hI.snd s h).ext g2
    ·exact⟨hc0.1,hc0.2,a2,jn,_,rfl,g4,hspA⟩
   ·by_cases e:m'=m
    ·subst e;rw[JlZ hm,hae]at ha';cases ha';exact⟨_,q4,cfg0,r,hcr,rfl,rfl,jn,_,rfl,g4,by unfold Gk;rw[Oi hrs]⟩
    ·exact(hI.cov m' a' (by omega) ha').ext g2 q2
  have h3:=hI.len;refine Tot.bind (VW steps ⟨cfg0,a.Print,(jn:Int)⟩ (by omega)) ?_;rintro _ rfl;refine Tot.ite (λ hc=>?_) λ hc=>?_
  ·refine Tot.bindC (CU (by simp;omega)) (nxt _ (by simp) (by simp;omega) (λ s hs=>by simp[hs]) (λ s hs=>by simpa using hs) (by simp))
  ·have:(⟨cfg0,a.Print,(jn:Int)⟩:Ai)∈steps:=by simpa using hc
   exact nxt _ (JlO _) (by omega) (λ _ h=>h) (λ s hs=>.inl hs) this
 ·rintro⟨nb1,steps,hs1,sp1,_⟩ ⟨rfl,hI⟩;unfold Bt;exact Tot.iteF (by simp) (Jlx hI)
theorem X3 (hw:GW g S CL) (H:HSt g S CL hs nb sp) {i:Nat} {h:Ad} (hi:hs[i]?=some h) (fd:List (Ao×Ap)) :
  Tot (λ n=>DO n (i:Int) g hs nb sp fd) (λ r=>HSt g S CL r.2.1 r.1 r.2.2.1/\hs <+: r.2.1/\Ue g r.2.1 h r.2.2.2):=by
 have hil:=Am hi;have hsl:i<sp.length:=by rw[H.len];exact hil
 have hok:=H.ok h (Jl1 hi);obtain⟨k,hk,hkS⟩:=hok.1;have hka:k<g.Arcs.length:=by rw[hw.len];exact hkS
 unfold DO
 generalize hx:sp[i]=x;have hx:=(JlZ hsl).trans (congrArg some hx);refine Tot.bindC (DE hx) ?_;cases x with
 | some l=>
  have hst:=H.stp i h l hi hx;refine Tot.demB (z:=(nb,hs,sp,l)) ⟨false,λ _=>rfl⟩ (λ b hb=>?_) ⟨H,List.prefix_refl _,hst⟩;cases b with
  | false=>exact Ev.iteT rfl (Ev.bindC (DE hx) Ev.const)
  | true=>
   have hl:l=[]:=Classical.byContradiction λ hne=>by have:=hb hne;cases this
   subst hl;have hno:∀ c p x',¬Sp (Ag g) (Gk h) c p x':=λ c p x' hs=>by
    obtain⟨s,h1,_⟩:=hst.cov c p x' hs;simp at h1
   have hr:h.Rest=[]:=by
    cases hr:h.Rest with
    | nil=>rfl
    | cons a r=>
     refine absurd ?_ (hno ((a.toNat:Nat):Int) [] (h.State.toNat,Ds r));have:Gk h=(h.State.toNat,((a.toNat:Nat):Int)::Ds r):=by unfold Gk;rw[hr];rfl
     rw[this];exact .rest _ _ _
   have ha:g.Arcs[k]?=some []:=by
    rw[JlZ hka];cases hl:g.Arcs[k]with
    | nil=>rfl
    | cons a l=>
     exfalso;have hlk:g.Arcs[k]?=some (a::l):=by rw[JlZ hka,hl]
     obtain⟨a1,_⟩:=hw.arc _ _ hlk a (by simp);obtain⟨c1,_⟩:=hw.clc _ a1;cases hc:a.Cells with
     | nil=>rw[hc]at c1;simp at c1
     | cons cfg0 r=>
      refine hno cfg0 a.Print (a.To.toNat,r) ?_;have:Gk h=(k,[]):=by unfold Gk;rw[hr,hk];rfl
      rw[this];exact Sp.arc (a:=⟨a.Print,a.Cells,a.To.toNat⟩) ⟨_,a,hlk,by simp,rfl⟩ hc
   have hset:sp.set i (some [])=sp:=by
    apply List.ext_getElem?;intro j;rw[List.getElem?_set];split
    ·rename_i e;subst e;first|exact hx.symm|(rw[if_pos hsl];exact hx.symm)
    ·rfl
   refine Ev.iteF rfl (Ev.bindC (DE hi) (Ev.iteF (by rw[hr];rfl) (Ev.bindC (y:=[]) (by rw[hk];exact DE ha) (Ev.bind (x:=(nb,[],hs,sp)) ?_ ?_))))
   ·refine Ev.whl (body:=λ n (x:((List (Ad×Int))×(List Ai)×(List Ad)×(List (Option (List Ai)))×Int))=>Bt n (i:Int) g fd [] x.1 x.2.1 x.2.2.1 x.2.2.2.1 x.2.2.2.2) (λ k x=>x=(nb,[],hs,sp,0)) (λ k x hx=>.inr ?_) 0 _ rfl;subst hx;unfold Bt;exact Ev.iteF (by simp) Ev.const
   ·unfold Bx;exact Ev.bindC (A8 hsl) (Ev.bindC (Jw hsl) (Ev.all λ n=>by simp only[hset]))
 | none=>
  have main:Tot (λ n=>(idx hs (i:Int)).bind λ x54=>
    if(!(x54.Rest==[]))=true then
     (Iu x54.Rest 0).bind λ b8=>
     (sub x54.Rest 1 ((x54.Rest.length:Nat):Int)).bind λ s6=>
     (Cn n ({ State:=x54.State,Rest:=s6 }:Ad) g hs nb sp fd).bind λ (r29:((List (Ad×Int))×(List Ad)×(List (Option (List Ai)))×Int))=>
     (app 32 ([]:List Ai) ([({ Cell:=b8,Print:=[],To:=r29.2.2.2 }:Ai)])).bind λ l26=>
     Bx n (i:Int) r29.1 l26 r29.2.1 r29.2.2.1
    else
     (idx g.Arcs x54.State).bind λ x56=>
     (whl (λ (x:((List (Ad×Int))×(List Ai)×(List Ad)×(List (Option (List Ai)))×Int))=>Bt n (i:Int) g fd x56 x.1 x.2.1 x.2.2.1 x.2.2.2.1 x.2.2.2.2) n (nb,([]:List Ai),hs,sp,0)).bind λ (y48:((List (Ad×Int))×(List Ai)×(List Ad)×(List (Option (List Ai)))))=>
     Bx n (i:Int) y48.1 y48.2.1 y48.2.2.1 y48.2.2.2) (λ r=>HSt g S CL r.2.1 r.1 r.2.2.1/\hs <+: r.2.1/\Ue g r.2.1 h r.2.2.2):=by
   refine Tot.bindC (DE hi) ?_;obtain⟨st,rr⟩:=h;simp only at hk⊢;subst hk;cases rr with
   | cons a r=>
    obtain⟨t1,t2⟩:=hok.tail hw;refine Tot.iteT rfl (Tot.bindC Ub (Tot.bindC Uc (Tot.bind (Uf hw H t1 fd) ?_)));rintro⟨nb2,hs2,sp2,j⟩ ⟨g1,g2,_,jn,rfl,g4⟩;simp only at g1 g2 g4⊢;refine Tot.bindC (CU (by simp)) ((VX g1 (CT g2 hi) ⟨by simp,λ s hs=>?_,λ c p x' hx=>?_⟩).mono λ r hr=>⟨hr.1,g2.trans hr.2.1,hr.2.2⟩)
    ·simp only[List.nil_append,List.mem_singleton]at hs;subst hs;exact⟨by simp only;omega,by simp only;omega,by simp,jn,_,rfl,g4,Sp.rest _ _ _⟩
    ·rcases hx.inv with⟨r',h1,h2,h3⟩|⟨h1,_⟩
     ·have h1:((a.toNat:Nat):Int)::Ds r=c::r':=h1;cases h1;exact⟨_,List.mem_singleton.2 rfl,rfl,h2.symm,jn,_,rfl,g4,h3.symm⟩
     ·cases h1
   | nil=>
    have ha:=JlZ hka;refine Tot.iteF rfl (Tot.bindC (DE ha) (Tot.bind (JcF (h:=⟨(k:Int),[]⟩) hw H rfl ha fd) ?_));rintro⟨nb2,steps,hs2,sp2⟩ hI;simp only at hI⊢;refine(VX hI.st (CT hI.pre hi) ⟨Nat.le_trans hI.len (hw.al _ _ ha),hI.snd,λ c p x' hx=>?_⟩).mono λ r hr=>⟨hr.1,hI.pre.trans hr.2.1,hr.2.2⟩;rcases hx.inv with⟨r',h1,_⟩|⟨_,b,r',⟨l',x,h1,h2,rfl⟩,h3,h4,h5⟩
    ·cases h1
    ·have h1:g.Arcs[k]?=some l':=h1;rw[ha]at h1;cases h1;obtain⟨m',hm',hm2⟩:=List.mem_iff_getElem.1 h2;obtain⟨s,q1,cfg0,r0,q2,q3,q4,j,h',q5,q6,q7⟩:=hI.cov m' x hm' (by rw[JlZ hm',hm2]);simp only at h3 h4 h5;rw[q2]at h3;cases h3;exact⟨s,q1,q3,q4.trans h4.symm,j,h',q5,q6,q7.trans h5.symm⟩
  obtain⟨z,hz,he⟩:=main
  refine⟨z,hz,Ev.demB ⟨true,rfl⟩ λ b hb=>?_⟩;cases hb;exact Ev.iteF rfl he
end Go.AI
end
section
namespace Go.AI
variable {g:As} {S:Nat} {CL:List (List Int)} {hs hs':List Ad} {nb:List (Ad×Int)} {sp:List (Option (List Ai))}
def hfA (hs:List Ad) (i:Int):Hf:=Gk (hs.getD i.toNat default)
def InN (hs:List Ad) (n:Aj):Prop:=∃ a b:Nat,n.Pair.A=(a:Int)/\a<hs.length/\n.Pair.B=(b:Int)/\b<hs.length
def GdN (g:As) (hs:List Ad) (v:List Int) (n:Aj):Prop:=Gd (Ag g) (Acg g) (hfA hs n.Pair.A) (hfA hs n.Pair.B) (Dj n.Lead) v
def RcN (g:As) (hs:List Ad) (w:List Int) (n:Aj):Prop:=Rch (Ag g) w (hfA hs n.Pair.A) (hfA hs n.Pair.B) (Dj n.Lead)
theorem D9 {i:Nat} {h:Ad} (hi:hs[i]?=some h):hfA hs (i:Int)=Gk h:=by
 unfold hfA;rw[Jl8,List.getD_eq_getElem?_getD,hi];rfl
theorem Lz (hp:hs <+: hs') {i:Nat} (hi:i<hs.length):hfA hs' (i:Int)=hfA hs (i:Int):=by
 have h:=JlZ hi;rw[D9 h,D9 (CT hp h)]
theorem InN.ext {n:Aj} (h:InN hs n) (hp:hs <+: hs'):InN hs' n:=by
 obtain⟨a,b,h1,h2,h3,h4⟩:=h;have:=hp.length_le;exact⟨a,b,h1,by omega,h3,by omega⟩
theorem GdN.ext {n:Aj} (h:InN hs n) (hp:hs <+: hs') {v:List Int}:GdN g hs' v n↔GdN g hs v n:=by
 obtain⟨a,b,h1,h2,h3,h4⟩:=h;unfold GdN;rw[h1,h3,Lz hp h2,Lz hp h4]
theorem RcN.ext {n:Aj} (h:InN hs n) (hp:hs <+: hs') {w:List Int}:RcN g hs' w n↔RcN g hs w n:=by
 obtain⟨a,b,h1,h2,h3,h4⟩:=h;unfold RcN;rw[h1,h3,Lz hp h2,Lz hp h4]
theorem RcN.ld {n:Aj} {w:List Int} (h:RcN g hs w n):Pk (Dj n.Lead):=Rch.ok h
theorem InN.sw {n:Aj} (h:InN hs n):InN hs (swN n):=by
 obtain⟨a,b,h1,h2,h3,h4⟩:=h;exact⟨b,a,h3,h4,h1,h2⟩
theorem RcN.sw {n:Aj} {w:List Int} (h:RcN g hs w n):RcN g hs w (swN n):=by
 unfold RcN;rw[JcC];exact Rch.swap h
theorem GdN.sw {n:Aj} {w v:List Int} (h:RcN g hs w n) (hg:GdN g hs v n):GdN g hs v (swN n):=by
 unfold GdN;rw[JcC];exact Gd.swap h.ld hg
theorem Xd (hw:GW g S CL) {h h':Hf} {w:List Int} {x:List UInt8} (H:Rn (Ag g) h w x h'):x.length<=4*w.length:=by
 induction H with
 | nil h=>simp
 | cons s _ ih=>
  have hp:∀ {h h1:Hf} {c:Int} {p:List UInt8},Sp (Ag g) h c p h1->p.length<=4:=λ s=>by
   rcases s.inv with⟨r,_,h2,_⟩|⟨_,a,r,⟨l,x,q1,q2,rfl⟩,_,h3,_⟩
   ·rw[h2];simp
   ·rw[h3];exact(hw.arc _ l q1 x q2).2.1
  have:=hp s;simp only[List.length_append,List.length_cons];omega
theorem RcN.len (hw:GW g S CL) {n:Aj} {w:List Int} (h:RcN g hs w n):n.Lead.Text.length<=4*w.length:=by
 obtain⟨x,y,h1,h2,h3⟩:=h;have a:=Xd hw h1;have b:=Xd hw h2;have:=XZ x y;have e:(ldT x y).2=n.Lead.Text:=by rw[h3];rfl
 rw[e]at this;omega
theorem SQ {κ β:Type} [DecidableEq κ] (k k':κ) (v:List β) (m:List (κ×List β)):Cl k' (Eh k v m)=if k'=k then v else Cl k' m:=by
 unfold Cl;rw[IP];split<;>rfl
structure Fo2 (g:As) (hs:List Ad) (w:List Int) (n:Aj) (x:Ai) (lb:List Ai) (j:Nat) (bh1 bh:List (Int×List Aj)):Prop where
 all:∀ c,∃ new,Cl c bh=Cl c bh1++new/\new.length<=j/\(∀ m∈new,InN hs m/\RcN g hs (w++[c]) m) /\
  ∀ (j':Nat) y,j'<j->lb[j']?=some y->x.Cell=c->y.Cell=c->∀ v,Gd (Ag g) (Acg g) (hfA hs x.To) (hfA hs y.To) (HV (Dj n.Lead) x.Print y.Print) v->∃ m∈new,GdN g hs v m
theorem Xe (hw:GW g S CL) {w:List Int} (hwl:w.length<=2000000000) {n:Aj} (hr:RcN g hs w n) {ha hb:Ad} {x:Ai} (hha:hfA hs n.Pair.A=Gk ha) (hhb:hfA hs n.Pair.B=Gk hb) (hx:Xb g hs ha x) {lb:List Ai} (hlb:lb.length<=11) (hy:∀ y∈lb,Xb g hs hb y) (fd:List (Ao×Ap)) (r32 r33:(List (Ad×Int))×(List Ad)×(List (Option (List Ai)))×(List Ai)) (h33:r33.2.2.2=lb) (xi:Int) {bh1:List (Int×List Aj)} (hbl:∀ c,(Cl c bh1).length<=1000000000000) :
  Tot (λ k=>whl (λ (z:((List (Int×(List Aj)))×Int))=>BS k n g fd r32 xi x r33 z.1 z.2) k (bh1,0)) (Fo2 g hs w n x lb lb.length bh1):=by
 have htl:=hr.len hw;refine Tot.upto (body:=λ k (z:(List (Int×(List Aj)))×Int)=>BS k n g fd r32 xi x r33 z.1 z.2) lb.length (λ j z=>z.2=(j:Int)/\Fo2 g hs w n x lb j bh1 z.1) ?_ ?_ _ ⟨rfl,⟨λ c=>⟨[],by simp,by simp,by simp,λ j' y h=>by omega⟩⟩⟩
 ·rintro j ⟨bh,_⟩ hj ⟨rfl,hI⟩;simp only at hI;unfold BS;rw[h33];have hyj:=hy _ (JlL hj);refine Tot.iteT (by simp;omega) (Tot.bindC (A8 hj) ?_);generalize hye:lb[j]=y at *;have hyg:lb[j]?=some y:=by rw[JlZ hj,hye]
  refine Tot.ite (λ hne=>?_) λ heq=>?_
  ·have hne:x.Cell≠y.Cell:=by simpa using hne
   unfold Cp;refine Jlx ⟨Bg (by omega),⟨λ c=>?_⟩⟩;obtain⟨new,q1,q2,q3,q4⟩:=hI.all c;refine⟨new,q1,by omega,q3,λ j' y' hj' hy' e1 e2=>?_⟩;by_cases e:j'=j
   ·subst e;rw[hyg]at hy';cases hy';exact absurd (e1.trans e2.symm) hne
   ·exact q4 j' y' (by omega) hy' e1 e2
  ·have heq:x.Cell=y.Cell:=by simpa using heq
   refine Tot.bind (JcB n.Lead x.Print y.Print (by have:=hx.pl;omega) (by have:=hyj.pl;omega)) λ ld hld=>?_;obtain⟨r,hrm,hre⟩:=Xa ⟨⟨x.To,y.To⟩,ld⟩;refine Jlz hre ?_;obtain⟨jx,hx',hx1,hx2,hx3⟩:=hx.to;obtain⟨jy,hy',hy1,hy2,hy3⟩:=hyj.to;have hIn0:InN hs ⟨⟨x.To,y.To⟩,ld⟩:=⟨jx,jy,hx1,Am hx2,hy1,Am hy2⟩;have hfx:hfA hs x.To=Gk hx':=by rw[hx1];exact D9 hx2
   have hfy:hfA hs y.To=Gk hy':=by rw[hy1];exact D9 hy2
   have hRc0:RcN g hs (w++[x.Cell]) ⟨⟨x.To,y.To⟩,ld⟩:=by
    unfold RcN;simp only[hld,hfx,hfy];refine Rch.step hr (by rw[hha];exact hx3) (by rw[hhb,heq];exact hy3)
   have hIn:InN hs r:=hrm.elim (λ e=>e▸hIn0) λ e=>e▸hIn0.sw;have hRc:RcN g hs (w++[x.Cell]) r:=hrm.elim (λ e=>e▸hRc0) λ e=>e▸hRc0.sw;have hGd:∀ v,Gd (Ag g) (Acg g) (hfA hs x.To) (hfA hs y.To) (HV (Dj n.Lead) x.Print y.Print) v->GdN g hs v r:=λ v hv=>by
    have h0:GdN g hs v ⟨⟨x.To,y.To⟩,ld⟩:=by unfold GdN;simp only[hld];exact hv
    exact hrm.elim (λ e=>e▸h0) λ e=>e▸GdN.sw hRc0 h0
   obtain⟨new0,p1,p2,_,_⟩:=hI.all x.Cell;have hb0:=hbl x.Cell;refine Tot.bindC (CU (by rw[p1];simp;omega)) ?_;unfold Cp;refine Jlx ⟨Bg (by omega),⟨λ c=>?_⟩⟩;obtain⟨new,q1,q2,q3,q4⟩:=hI.all c;by_cases hc:c=x.Cell
   ·subst hc;refine⟨new++[r],by simp only[SQ,if_true,q1,List.append_assoc],by simp;omega,λ m hm=>?_,λ j' y' hj' hy' e1 e2 v hv=>?_⟩
    ·rcases List.mem_append.1 hm with hm|hm
     ·exact q3 m hm
     ·simp only[List.mem_singleton]at hm;subst hm;exact⟨hIn,hRc⟩
    ·by_cases e:j'=j
     ·subst e;rw[hyg]at hy';cases hy';exact⟨r,by simp,hGd v hv⟩
     ·obtain⟨m,h1,h2⟩:=q4 j' y' (by omega) hy' e1 e2 v hv;exact⟨m,by simp[h1],h2⟩
   ·refine⟨new,by simp only[SQ,if_neg hc];exact q1,by omega,q3,λ j' y' hj' hy' e1 e2=>absurd e1.symm hc⟩
 ·rintro⟨bh,_⟩ ⟨rfl,hI⟩;unfold BS;rw[h33];exact Tot.iteF (by simp) (Jlx hI)
structure Fo1 (g:As) (hs:List Ad) (w:List Int) (n:Aj) (la:List Ai) (i:Nat) (bh0 bh:List (Int×List Aj)):Prop where
 all:∀ c,∃ new,Cl c bh=Cl c bh0++new/\new.length<=11*i/\(∀ m∈new,InN hs m/\RcN g hs (w++[c]) m) /\
  ∀ (i':Nat) x,i'<i->la[i']?=some x->x.Cell=c->∀ q b' v,Sp (Ag g) (hfA hs n.Pair.B) c q b'->Gd (Ag g) (Acg g) (hfA hs x.To) b' (HV (Dj n.Lead) x.Print q) v->∃ m∈new,GdN g hs v m
theorem Zu (hw:GW g S CL) (H:HSt g S CL hs nb sp) {w:List Int} (hwl:w.length<=2000000000) {n:Aj} (hn:InN hs n) (hr:RcN g hs w n) (fd:List (Ao×Ap)) {bh0:List (Int×List Aj)} (hbl:∀ c,(Cl c bh0).length<=900000000000) :
  Tot (λ k=>D7 k n g bh0 hs nb sp fd) (λ r=>HSt g S CL r.2.2.1 r.2.1 r.2.2.2/\hs <+: r.2.2.1/\∀ c,∃ new,Cl c r.1=Cl c bh0++new/\new.length<=121/\(∀ m∈new,InN r.2.2.1 m/\RcN g r.2.2.1 (w++[c]) m)/\∀ v,GdN g r.2.2.1 (c::v) n->∃ m∈new,GdN g r.2.2.1 v m):=by
 obtain⟨a,b,ha1,ha2,hb1,hb2⟩:=hn;obtain⟨ha,hae⟩:∃ h,hs[a]?=some h:=⟨_,JlZ ha2⟩;obtain⟨hb,hbe⟩:∃ h,hs[b]?=some h:=⟨_,JlZ hb2⟩;have hn:InN hs n:=⟨a,b,ha1,ha2,hb1,hb2⟩;unfold D7;rw[ha1];refine Tot.bind (X3 hw H hae fd) ?_;rintro⟨nb1,hs1,sp1,la⟩ ⟨g1,g2,g3⟩;simp only at g1 g2 g3⊢;refine Tot.bind (R:=λ r=>HSt g S CL r.2.2.1 r.2.1 r.2.2.2/\hs1 <+: r.2.2.1/\Fo1 g r.2.2.1 w n la la.length bh0 r.1) ?_ ?_
 ·refine Tot.upto (body:=λ k (z:(List (Int×(List Aj)))×(List (Ad×Int))×(List Ad)×(List (Option (List Ai)))×Int)=>Cq k n g fd (nb1,hs1,sp1,la) z.1 z.2.1 z.2.2.1 z.2.2.2.1 z.2.2.2.2) la.length (λ i z=>z.2.2.2.2=(i:Int)/\HSt g S CL z.2.2.1 z.2.1 z.2.2.2.1/\hs1 <+: z.2.2.1/\Fo1 g z.2.2.1 w n la i bh0 z.1) ?_ ?_ _ ⟨rfl,g1,List.prefix_refl _,⟨λ c=>⟨[],by simp,by simp,by simp,λ i' x h=>by omega⟩⟩⟩
  ·rintro i ⟨bh,nb2,hs2,sp2,_⟩ hi ⟨rfl,k1,k2,k3⟩;simp only at k1 k2 k3;unfold Cq;have hxi:=g3.snd _ (JlL hi);refine Tot.iteT (by simp;omega) (Tot.bindC (A8 hi) ?_);generalize hxe:la[i]=x at *;have hxg:la[i]?=some x:=by rw[JlZ hi,hxe]
   rw[hb1];refine Tot.bind (X3 hw k1 (CT (g2.trans k2) hbe) fd) ?_;rintro⟨nb3,hs3,sp3,lb⟩ ⟨m1,m2,m3⟩;simp only at m1 m2 m3⊢;have hp03:hs <+: hs3:=(g2.trans k2).trans m2;have hp23:hs1 <+: hs3:=k2.trans m2;have hfa:hfA hs3 n.Pair.A=Gk ha:=by rw[ha1];exact D9 (CT hp03 hae)
   have hfb:hfA hs3 n.Pair.B=Gk hb:=by rw[hb1];exact D9 (CT hp03 hbe)
   have hll:=g3.len;have hnl:∀ c,(Cl c bh).length<=900000000000+11*i:=λ c=>by
    obtain⟨new,q1,q2,_⟩:=k3.all c;have:=hbl c;rw[q1];simp;omega
   refine Tot.bind (Xe hw hwl ((RcN.ext hn hp03).2 hr) hfa hfb (hxi.ext hp23) m3.len m3.snd fd _ _ rfl _ (λ c=>by have:=hnl c;omega)) λ bh2 h2=>Jlx ⟨Bg (by omega),m1,hp23,⟨λ c=>?_⟩⟩;obtain⟨new1,q1,q2,q3,q4⟩:=k3.all c;obtain⟨new2,p1,p2,p3,p4⟩:=h2.all c;have hlb:=m3.len;refine⟨new1++new2,by simp only[p1,q1,List.append_assoc],by simp;omega,λ m hm=>?_,λ i' x' hi' hx' e1 q b' v hs hv=>?_⟩
   ·rcases List.mem_append.1 hm with hm|hm
    ·obtain⟨r1,r2⟩:=q3 m hm;exact⟨r1.ext m2,(RcN.ext r1 m2).2 r2⟩
    ·exact p3 m hm
   ·by_cases e:i'=i
    ·subst e;rw[hxg]at hx';cases hx';rw[hfb]at hs;obtain⟨y,hy1,hy2,hy3,jy,hy',hy4,hy5,hy6⟩:=m3.cov _ _ _ hs;obtain⟨j',hj',hj2⟩:=List.mem_iff_getElem.1 hy1;have hfy:hfA hs3 y.To=b':=by rw[hy4,D9 hy5,hy6]
     obtain⟨m,r1,r2⟩:=p4 j' y hj' (by rw[JlZ hj',hj2]) e1 hy2 v (by rw[hfy,hy3];exact hv);exact⟨m,by simp[r1],r2⟩
    ·obtain⟨jx,hx0,hx1,hx2,_⟩:=(g3.snd x' (Jl1 hx')).to;have hfx:hfA hs3 x'.To=hfA hs2 x'.To:=by rw[hx1];exact Lz m2 (Am (CT k2 hx2))
     have hfb2:hfA hs3 n.Pair.B=hfA hs2 n.Pair.B:=by rw[hb1];exact Lz m2 (Am (CT (g2.trans k2) hbe))
     obtain⟨m,r1,r2⟩:=q4 i' x' (by omega) hx' e1 q b' v (by rw[← hfb2];exact hs) (by rw[← hfx];exact hv);exact⟨m,by simp[r1],(GdN.ext (q3 m r1).1 m2).2 r2⟩
  ·rintro⟨bh,nb2,hs2,sp2,_⟩ ⟨rfl,k1,k2,k3⟩;unfold Cq;exact Tot.iteF (by simp) (Jlx ⟨k1,k2,k3⟩)
 ·rintro⟨bh,nb2,hs2,sp2⟩ ⟨k1,k2,k3⟩;simp only at k1 k2 k3⊢;have hp:hs <+: hs2:=g2.trans k2;refine Jlx ⟨k1,hp,λ c=>?_⟩;obtain⟨new,q1,q2,q3,q4⟩:=k3.all c;have hll:=g3.len;refine⟨new,q1,by omega,q3,λ v hv=>?_⟩;obtain⟨p,q,a',b',s1,s2,s3⟩:=Gd.next ((RcN.ext hn hp).2 hr) hv;have hfa:hfA hs2 n.Pair.A=Gk ha:=by rw[ha1];exact D9 (CT hp hae)
  rw[hfa]at s1;obtain⟨x,x1,x2,x3,jx,hx',x4,x5,x6⟩:=g3.cov _ _ _ s1;obtain⟨i',hi',hi2⟩:=List.mem_iff_getElem.1 x1;have hfx:hfA hs2 x.To=a':=by rw[x4,D9 (CT k2 x5),x6]
  exact q4 i' x hi' (by rw[JlZ hi',hi2]) x2 q b' v s2 (by rw[hfx,x3];exact s3)
end Go.AI
end
section
namespace Go.AI
variable {g:As} {S:Nat} {CL:List (List Int)} {hs hs':List Ad} {nb:List (Ad×Int)} {sp:List (Option (List Ai))}
abbrev Rec:=List Int×Aj×Nat
def Jks:Ap:=⟨0,⟨⟨0,[]⟩,⟨0,[]⟩⟩⟩
def DZ (fd:List (Ao×Ap)) (p:Ao):Ap:=(BR p fd).getD Jks
def LdS (RL:List Rec) (p:Ao) (l:Int×List UInt8):Prop:=∃ e∈RL,e.2.1.Pair=p/\Dj e.2.1.Lead=l
def JiV (e:Rec):Nat:=(e.2.1.Pair.A.toNat*26112+e.2.1.Pair.B.toNat)*2+e.2.2
structure Ro (RL:List Rec) (fd:List (Ao×Ap)):Prop where
 num:∀ p,(DZ fd p).N=0\/(DZ fd p).N=1\/(DZ fd p).N=2
 one:∀ p,1<=(DZ fd p).N->LdS RL p (Dj (DZ fd p).Leads.a0)
 two:∀ p,(DZ fd p).N=2->LdS RL p (Dj (DZ fd p).Leads.a1)/\Dj (DZ fd p).Leads.a0≠Dj (DZ fd p).Leads.a1
 idx:∀ e∈RL,(e.2.2:Int)<(DZ fd e.2.1.Pair).N
 key:(RL.map JiV).Nodup
theorem Ro.nil:Ro [] []:=⟨λ p=>.inl rfl,λ p h=>by have h:(1:Int)<=0:=h;omega,λ p h=>by have h:(0:Int)=2:=h;omega,λ e h=>by simp at h,by simp⟩
theorem LdS.app {RL RL':List Rec} {p:Ao} {l:Int×List UInt8} (h:LdS RL p l):LdS (RL++RL') p l:=by
 obtain⟨e,h1,h2⟩:=h;exact⟨e,List.mem_append_left _ h1,h2⟩
theorem JcG {l:List Nat} {M:Nat} (h:l.Nodup) (hM:∀ x∈l,x<M):l.length<=M:=by
 have:=SP h (m:=List.range M) λ x hx=>List.mem_range.2 (hM x hx);rwa[List.length_range]at this
theorem Ro.le {RL:List Rec} {fd:List (Ao×Ap)} (H:Ro RL fd) (hl:hs.length<=26112) (hi:∀ e∈RL,InN hs e.2.1):RL.length<=1363673088:=by
 have:=JcG (M:=1363673088) H.key λ x hx=>by
  obtain⟨e,he,rfl⟩:=JlR.1 hx;obtain⟨a,b,h1,h2,h3,h4⟩:=hi e he;have h5:=H.idx e he;have h6:=H.num e.2.1.Pair;unfold JiV;rw[h1,h3];simp only[Jl8];omega
 rwa[JlU]at this
theorem JA (fd:List (Ao×Ap)) (p q:Ao) (s:Ap):DZ (Eh p s fd) q=if q=p then s else DZ fd q:=by
 unfold DZ;rw[IP];split<;>rfl
theorem JcH {a b:BY} (h:Dj a=Dj b):a=b:=by
 obtain⟨s,t⟩:=a;obtain⟨s',t'⟩:=b;unfold Dj at h;simp only[Prod.mk.injEq]at h;obtain⟨rfl,rfl⟩:=h;rfl
theorem Ro.add {RL:List Rec} {fd:List (Ao×Ap)} (H:Ro RL fd) (hl:hs.length<=26112) (hi:∀ e∈RL,InN hs e.2.1) {n:Aj} (hn:InN hs n) (w:List Int) (i:Nat) {s:Ap} (h0:(DZ fd n.Pair).N=(i:Int)) (h1:s.N=(i:Int)+1) (h2:i<2)
  (ha:i=0->s.Leads.a0=n.Lead) (hb:i=1->s.Leads.a0=(DZ fd n.Pair).Leads.a0/\s.Leads.a1=n.Lead/\Dj (DZ fd n.Pair).Leads.a0≠Dj n.Lead):Ro (RL++[(w,n,i)]) (Eh n.Pair s fd):=by
 have hnew:∀ RL',LdS (RL'++[(w,n,i)]) n.Pair (Dj n.Lead):=λ RL'=>⟨(w,n,i),by simp,rfl,rfl⟩;refine⟨λ p=>?_,λ p hp=>?_,λ p hp=>?_,λ e he=>?_,?_⟩
 ·rw[JA];split
  ·omega
  ·exact H.num p
 ·rw[JA]at hp⊢;split at hp
  ·rename_i e;subst e;rw[if_pos rfl];have:i=0\/i=1:=by omega
   rcases this with rfl|rfl
   ·rw[ha rfl];exact hnew _
   ·rw[(hb rfl).1];exact(H.one _ (by omega)).app
  ·rename_i e;rw[if_neg e];exact(H.one p hp).app
 ·rw[JA]at hp⊢;split at hp
  ·rename_i e;subst e;rw[if_pos rfl];have:i=1:=by omega
   subst this;obtain⟨b1,b2,b3⟩:=hb rfl;rw[b1,b2];exact⟨hnew _,b3⟩
  ·rename_i e;rw[if_neg e];exact⟨(H.two p hp).1.app,(H.two p hp).2⟩
 ·rw[JA];rcases List.mem_append.1 he with he|he
  ·have:=H.idx e he;split
   ·rename_i h;rw[h,h0]at this;omega
   ·exact this
  ·simp only[List.mem_singleton]at he;subst he;simp only[if_true];omega
 ·rw[List.map_append,List.nodup_append];refine⟨H.key,by simp,λ x hx y hy=>?_⟩;simp only[JlV,List.map_nil,List.mem_singleton]at hy;subst hy;obtain⟨e,he,rfl⟩:=JlR.1 hx;intro hk;obtain⟨a,b,q1,q2,q3,q4⟩:=hi e he;obtain⟨a',b',p1,p2,p3,p4⟩:=hn;have h5:=H.idx e he;have h6:=H.num e.2.1.Pair;unfold JiV at hk;simp only[q1,q3,p1,p3,Jl8]at hk;have hi2:e.2.2=i:=by omega
  have hb2:b=b':=by omega
  have ha2:a=a':=by omega
  have hp:e.2.1.Pair=n.Pair:=by
   have x1:e.2.1.Pair.A=n.Pair.A:=by rw[q1,p1,ha2]
   have x2:e.2.1.Pair.B=n.Pair.B:=by rw[q3,p3,hb2]
   generalize e.2.1.Pair=P1 at *;generalize n.Pair=P2 at *;obtain⟨c,d⟩:=P1;obtain⟨c',d'⟩:=P2;simp only at x1 x2;rw[x1,x2]
  rw[hp,h0,hi2]at h5;omega
theorem Jew {n:Nat} {i:Int} (h:0<=i) (h':i<(n:Nat)):inB n i=some ():=by
 unfold inB;exact Dh (by simp;omega)
theorem Xf {β:Type} {c:Bool} {x:Option β} {y d:β} (h:x=some y):(if c=true then x else some d)=some (if c=true then y else d):=by
 cases c with
 | true=>exact h
 | false=>rfl
theorem SR {RL:List Rec} {fd:List (Ao×Ap)} (H:Ro RL fd) (hl:hs.length<=26112) (hi:∀ e∈RL,InN hs e.2.1) {n:Aj} (hn:InN hs n) (hRL:∀ e∈RL,Pk (Dj e.2.1.Lead)) (w:List Int) :
  Tot (λ k=>C1 k n g hs nb sp fd) (λ r=>(r.2=true/\∃ i,Ro (RL++[(w,n,i)]) r.1)\/(r.2=false/\r.1=fd/\Cov (LdS RL n.Pair) (Dj n.Lead))):=by
 have hz:(BR n.Pair fd).getD (⟨0,⟨⟨0,[]⟩,⟨0,[]⟩⟩⟩:Ap)=DZ fd n.Pair:=rfl;unfold C1;refine Tot.bindC rfl ?_;rw[hz];have hN:=H.num n.Pair;have h1:=H.one n.Pair;have h2:=H.two n.Pair;generalize hs0:DZ fd n.Pair=s at *;refine Tot.bindC (Jew (by omega) (by omega)) ?_;obtain⟨K,hK,hK2⟩:∃ K:Nat,s.N=(K:Int)/\K<=2:=⟨s.N.toNat,by omega,by omega⟩;have hLl:(List.take K [s.Leads.a0,s.Leads.a1]).length=K:=by rw[List.length_take];simp;omega
 refine Tot.bind (R:=λ y=>match y with
  | .inl _=>∀ l∈List.take K [s.Leads.a0,s.Leads.a1],Dj l≠Dj n.Lead/\l.Side≠3
  | .inr z=>z=(fd,false)/\∃ l∈List.take K [s.Leads.a0,s.Leads.a1],Dj l=Dj n.Lead\/l.Side=3) ?_ λ y hy=>?_
 ·refine Tot.upto (body:=λ k (x:Int)=>Co k n g hs nb sp fd s x) K (λ i x=>x=(i:Int)/\∀ l∈(List.take K [s.Leads.a0,s.Leads.a1]).take i,Dj l≠Dj n.Lead/\l.Side≠3) ?_ ?_ _ ⟨rfl,by simp⟩
  ·rintro i _ hik ⟨rfl,hI⟩;unfold Co;rw[hK,Jl8];have hil:i<(List.take K [s.Leads.a0,s.Leads.a1]).length:=by omega
   refine Tot.iteT (by simp;omega) (Tot.bindC (A8 hil) ?_);generalize hle:(List.take K [s.Leads.a0,s.Leads.a1])[i]=l;have hlm:l∈List.take K [s.Leads.a0,s.Leads.a1]:=by rw[← hle];exact JlL hil
   refine Tot.ite (λ hc=>Jlx ⟨rfl,l,hlm,?_⟩) λ hc=>Jlx ⟨Bg (by omega),λ l' hl'=>?_⟩
   ·simp only[Bool.and_true,Jmi,Jl0,beq_iff_eq]at hc;rcases hc with⟨a,b⟩|h
    ·exact .inl (by unfold Dj;rw[a,b])
    ·exact .inr h
   ·rw[List.take_add_one,JlZ hil,hle]at hl';rcases List.mem_append.1 hl' with h|h
    ·exact hI l' h
    ·simp only[Option.toList_some,List.mem_singleton]at h;subst h;constructor
     ·intro e;rw[JcH e]at hc;simp at hc
     ·intro e;rw[e]at hc;simp at hc
  ·rintro _ ⟨rfl,hI⟩;unfold Co;rw[hK,Jl8];rw[List.take_of_length_le (by omega)]at hI;exact Tot.iteF (by simp) (Jlx hI)
 ·cases y with
  | inr z=>
   obtain⟨rfl,l,hl1,hl2⟩:=hy;refine Jlx (.inr ⟨rfl,rfl,?_⟩);have hlS:LdS RL n.Pair (Dj l):=by
    have:K=0\/K=1\/K=2:=by omega
    rcases this with rfl|rfl|rfl
    ·simp at hl1
    ·simp at hl1;subst hl1;exact h1 (by omega)
    ·simp at hl1;rcases hl1 with rfl|rfl
     ·exact h1 (by omega)
     ·exact(h2 hK).1
   rcases hl2 with e|e
   ·left;rw[← e];exact hlS
   ·right;left;obtain⟨e0,he0,he1,he2⟩:=hlS;have hk:=hRL e0 he0;rw[he2]at hk;have:Dj l=(3,[]):=by
     unfold Dj at hk⊢;rcases hk with⟨a,b⟩|⟨a,b⟩|⟨a,b⟩|⟨a,b⟩<;>simp only at a b
     ·omega
     ·omega
     ·omega
     ·rw[a,b]
    rw[← this];exact⟨e0,he0,he1,he2⟩
  | inl _=>
   simp only at hy⊢;refine Tot.ite (λ hc=>?_) λ hc=>?_
   ·have hc:s.N=2:=by simpa using hc
    have h3:=h2 hc;exact Jlx (.inr ⟨rfl,rfl,.inr (.inr ⟨_,_,h1 (by omega),h3.1,h3.2⟩)⟩)
   ·have hc:s.N≠2:=by simpa using hc
    have hK3:K<2:=by omega
    rw[hK];refine Tot.bindC (A8 (show K<[s.Leads.a0,s.Leads.a1].length by simp;omega)) (Tot.bindC (Jw (show K<[s.Leads.a0,s.Leads.a1].length by simp;omega)) (Jlx (.inl ⟨rfl,K,?_⟩)));refine H.add hl hi hn w K (by rw[hs0];exact hK) ?_ hK3 (λ h=>?_) λ h=>?_
    ·show Be .i64 (K:Int) 1=_;rw[Bg (by omega)];omega
    ·subst h;rfl
    ·subst h;rw[hs0];exact⟨rfl,rfl,(hy s.Leads.a0 (by simp)).1⟩
theorem Xg (hw:GW g S CL) (H:HSt g S CL hs nb sp) {n:Aj} (hn:InN hs n) (hok:Pk (Dj n.Lead)) (fd:List (Ao×Ap)):Tot (λ k=>Dx k n g hs nb sp fd) (λ r=>r=true↔GdN g hs [] n):=by
 obtain⟨a,b,h1,h2,h3,h4⟩:=hn;obtain⟨ha,hae⟩:∃ h,hs[a]?=some h:=⟨_,JlZ h2⟩;obtain⟨hb,hbe⟩:∃ h,hs[b]?=some h:=⟨_,JlZ h4⟩;obtain⟨ka,ka1,ka2⟩:=(H.ok ha (Jl1 hae)).1;obtain⟨kb,kb1,kb2⟩:=(H.ok hb (Jl1 hbe)).1;obtain⟨ba,hba⟩:=hw.acc ka ka2;obtain⟨bb,hbb⟩:=hw.acc kb kb2;have key:GdN g hs [] n↔n.Lead.Side≠0/\ha.Rest=[]/\hb.Rest=[]/\ba=true/\bb=true:=by
  unfold GdN;rw[JlC hok,h1,h3,D9 hae,D9 hbe];unfold Gk Acg Dj;rw[ka1,kb1];simp only[Jl8,hba,hbb,Jl9];have:∀ x:List UInt8,Ds x=[]↔x=[]:=λ x=>by unfold Ds;simp
  rw[this,this]
 unfold Dx;rw[h1,h3];refine Tot.bindC (DE hae) (Tot.bindC (DE hbe) ?_);rw[ka1,kb1];refine Tot.bindC (Xf (DE hba)) (Tot.bindC (Xf (DE hbb)) (Jlx ?_));rw[key];have hr:∀ x:List UInt8,(x==[])=decide (x=[]):=λ x=>by cases x<;>simp
 by_cases e1:n.Lead.Side=0
 ·simp[e1]
 ·by_cases e2:ha.Rest=[]
  ·by_cases e3:hb.Rest=[]
   ·cases ba<;>cases bb<;>simp[e1,e2,e3]
   ·simp[e1,e2,e3,hr]
  ·simp[e1,e2,hr]
end Go.AI
end
section
namespace Go.AI
theorem Xh (l:List Int) (hl:l.length<9000000000000):Tot (λ n=>Jg n l) (λ r=>r=l.reverse):=by
 have hj0:C4 .i64 ((l.length:Nat):Int) 1=(l.length:Int)-1:=Rj (by omega) (by omega);unfold Jg;rw[hj0];refine Tot.bind (R:=λ r=>r=l.reverse) ?_ λ r hr=>Jlx hr;refine Tot.upto (body:=λ n (x:List Int×Int×Int)=>ET n x.1 x.2.1 x.2.2) (l.length / 2) (λ k x=>x.2.1=(k:Int)/\x.2.2=(l.length:Int)-1-k/\x.1.length=l.length/\∀ p:Nat,x.1[p]?=if p<k\/l.length-k<=p then l.reverse[p]? else l[p]?) ?_ ?_ _ ⟨rfl,by simp,rfl,λ p=>?_⟩
 ·rintro k ⟨s,_,_⟩ hk ⟨rfl,rfl,hsl,hs⟩;simp only at hsl hs;unfold ET;have e:(l.length:Int)-1-(k:Int)=((l.length-1-k:Nat):Int):=by omega
  have hk1:k<s.length:=by omega
  have hk2:l.length-1-k<s.length:=by omega
  simp only[e];refine Tot.iteT (by simp;omega) (Tot.bindC (A8 hk2) (Tot.bindC (A8 hk1) (Tot.bindC (A8 hk1) (Tot.bindC (Jw hk1) (Tot.bindC (A8 (by simpa using hk2)) (Tot.bindC (Jw (by simpa using hk2)) (Jlx ⟨Bg (by omega),?_,by simpa using hsl,λ p=>?_⟩)))))))
  ·show C4 .i64 ((l.length-1-k:Nat):Int) 1=_;rw[Rj (by omega) (by omega)];omega
  ·have h1:=hs k;have h2:=hs (l.length-1-k);rw[if_neg (by omega),JlZ hk1]at h1;rw[if_neg (by omega),JlZ hk2]at h2;simp only[List.getElem?_set,Jmg];by_cases e1:l.length-1-k=p
   ·rw[if_pos e1,if_pos hk2,if_pos (by omega),h1,← e1,List.getElem?_reverse (by omega)];congr 1;omega
   ·rw[if_neg e1];by_cases e2:k=p
    ·rw[if_pos e2,if_pos hk1,if_pos (by omega),h2,← e2,List.getElem?_reverse (by omega)]
    ·rw[if_neg e2,hs p];by_cases e3:p<k\/l.length-k<=p
     ·rw[if_pos e3,if_pos (by omega)]
     ·rw[if_neg e3,if_neg (by omega)]
 ·rintro⟨s,_,_⟩ ⟨rfl,rfl,hsl,hs⟩;simp only at hsl hs;unfold ET;refine Tot.iteF (by simp;omega) (Jlx ?_);apply List.ext_getElem?;intro p;rw[hs p];split
  ·rfl
  ·by_cases hp:p<l.length
   ·rw[List.getElem?_reverse hp];congr 1;omega
   ·rw[Jmk (by omega),Jmk (by simp;omega)]
 ·simp only[Nat.not_lt_zero,false_or,Nat.sub_zero];split
  ·rw[Jmk (by omega),Jmk (by simp;omega)]
  ·rfl
abbrev Ch:=List (List Aj×Int)
def wdC:Ch->List Int
 | []=>[]
 | [_]=>[]
 | p::q::r=>wdC (q::r)++[p.2]
theorem X4:∀ ch:Ch,(wdC ch).length=ch.length-1
 | []=>rfl
 | [_]=>rfl
 | p::q::r=>by simp[wdC,X4 (q::r)]
theorem JcI (ns:List Aj) (c:Int) (fr:Ch) (hl:fr.length<8000000000000):Tot (λ n=>E4 n ({ Nodes:=ns,From:=fr,Cell:=c }:Bq)) (λ r=>r=wdC ((ns,c)::fr)):=by
 unfold E4;refine Tot.bind (R:=λ r=>r.reverse=wdC ((ns,c)::fr)/\r.length=fr.length) ?_ ?_
 ·refine Tot.whl (body:=λ n (x:List Int×Ch)=>Dt n x.1 x.2) (λ k x=>k=x.2.length/\x.2≠[]/\x.1.length+x.2.length=fr.length+1/\wdC ((ns,c)::fr)=wdC x.2++x.1.reverse) ?_ _ _ ⟨rfl,by simp,by simp,by simp⟩;rintro k ⟨l,ch⟩ ⟨rfl,h1,h2,h3⟩;simp only at h1 h2 h3;unfold Dt;cases ch with
  | nil=>exact absurd rfl h1
  | cons p r=>
   refine Tot.bindC (y:={ Nodes:=p.1,From:=r,Cell:=p.2 }) rfl ?_;cases r with
   | nil=>
    refine Tot.iteF rfl (Jlx ⟨?_,by simp at h2;omega⟩);rw[h3];rfl
   | cons q r=>
    refine Tot.iteT rfl (Tot.bindC (CU (by simp at h2⊢;omega)) (Jlx ⟨(q::r).length,by simp,rfl,by simp,by simp at h2⊢;omega,?_⟩));rw[h3];simp[wdC]
 ·rintro l ⟨h1,h2⟩;refine Tot.bind (Xh l (by omega)) ?_;rintro _ rfl;exact Tot.bindC (Dh (by simp)) (Jlx h1)
def leS (x y:List Int):Prop:=ltW x y\/x=y
theorem leS.trans {x y z:List Int} (h:leS x y) (h':leS y z):leS x z:=by
 rcases h with h|rfl
 ·rcases h' with h'|rfl
  ·exact .inl (SN h h')
  ·exact .inl h
 ·exact h'
theorem leS.lt {x y z:List Int} (h:leS x y) (h':ltW y z):ltW x z:=by
 rcases h with h|rfl
 ·exact SN h h'
 ·exact h'
theorem leS.app {x y:List Int} (h:leS x y) (v:List Int):leS (x++v) (y++v):=by
 rcases h with h|rfl
 ·exact .inl (Jet h v)
 ·exact .inr rfl
theorem Jex (x v:List Int):leS x (x++v):=by
 cases v with
 | nil=>rw[List.append_nil];exact .inr rfl
 | cons c v=>exact .inl (.inl (by simp))
theorem Rp {x y:List Int} (h:x.length=y.length) (a b:Int):ltL (x++[a]) (y++[b])=true↔ltL x y=true\/(x=y/\a<b):=by
 induction x generalizing y with
 | nil=>
  cases y with
  | nil=>simp[ltL]
  | cons _ _=>simp at h
 | cons c x ih=>
  cases y with
  | nil=>simp at h
  | cons d y=>
   simp only[List.cons_append,ltL,Jmi,decide_eq_true_eq,Jl0,beq_iff_eq,ih (by simpa using h:x.length=y.length)];constructor
   ·rintro (h1|⟨rfl,h1|⟨rfl,h1⟩⟩)
    ·exact .inl (.inl h1)
    ·exact .inl (.inr ⟨rfl,h1⟩)
    ·exact .inr ⟨rfl,h1⟩
   ·rintro ((h1|⟨rfl,h1⟩)|⟨h1,h2⟩)
    ·exact .inl h1
    ·exact .inr ⟨rfl,.inl h1⟩
    ·cases h1;exact .inr ⟨rfl,.inr ⟨rfl,h2⟩⟩
variable {g:As} {S:Nat} {CL:List (List Int)} {hs hs':List Ad} {nb:List (Ad×Int)} {sp:List (Option (List Ai))} {fd:List (Ao×Ap)} {RL RL':List Rec}
def Clo (g:As) (hs:List Ad) (RL:List Rec) (e:Rec) (c:Int):Prop:=∀ v,GdN g hs (c::v) e.2.1->∃ e'∈RL,leS e'.1 (e.1++[c])/\GdN g hs v e'.2.1
theorem Clo.mono {e:Rec} {c:Int} (h:Clo g hs RL e c) (hm:∀ x∈RL,x∈RL'):Clo g hs RL' e c:=λ v hv=>by
 obtain⟨e',h1,h2⟩:=h v hv;exact⟨e',hm e' h1,h2⟩
theorem JcJ (u:List Int) (h0:∃ e∈RL,e.1=[]/\GdN g hs u e.2.1) (hcl:∀ p c v,u=p++c::v->∀ e∈RL,leS e.1 p->Clo g hs RL e c):∃ e∈RL,GdN g hs [] e.2.1:=by
 have key:∀ v p,u=p++v->(∃ e∈RL,leS e.1 p/\GdN g hs v e.2.1)->∃ e∈RL,GdN g hs [] e.2.1:=by
  intro v;induction v with
  | nil=>rintro p _ ⟨e,h1,_,h2⟩;exact⟨e,h1,h2⟩
  | cons c v ih=>
   rintro p hu ⟨e,h1,h2,h3⟩;obtain⟨e',q1,q2,q3⟩:=hcl p c v hu e h1 h2 v h3;exact ih (p++[c]) (by rw[hu];simp) ⟨e',q1,q2.trans (h2.app [c]),q3⟩
 obtain⟨e,h1,h2,h3⟩:=h0;exact key u [] rfl ⟨e,h1,.inr h2,h3⟩
structure BI (g:As) (S:Nat) (CL:List (List Int)) (RL:List Rec) (hs:List Ad) (nb:List (Ad×Int)) (sp:List (Option (List Ai))) (fd:List (Ao×Ap)):Prop where
 st:HSt g S CL hs nb sp
 fd:Ro RL fd
 inn:∀ e∈RL,InN hs e.2.1
 rc:∀ e∈RL,RcN g hs e.1 e.2.1
 no:∀ e∈RL,¬GdN g hs [] e.2.1
 zero:∃ e∈RL,e.1=[]/\∀ u,Amb (Ag g) (Acg g) u->GdN g hs u e.2.1
theorem BI.ext {nb':List (Ad×Int)} {sp':List (Option (List Ai))} (H:BI g S CL RL hs nb sp fd) (hp:hs <+: hs') (h:HSt g S CL hs' nb' sp'):BI g S CL RL hs' nb' sp' fd:=by
 obtain⟨e,h1,h2,h3⟩:=H.zero;exact⟨h,H.fd,λ e he=>(H.inn e he).ext hp,λ e he=>(RcN.ext (H.inn e he) hp).2 (H.rc e he),λ e he hg=>H.no e he ((GdN.ext (H.inn e he) hp).1 hg),e,h1,h2,λ u hu=>(GdN.ext (H.inn e h1) hp).2 (h3 u hu)⟩
theorem Clo.ext (H:BI g S CL RL hs nb sp fd) (hp:hs <+: hs') {e:Rec} (he:e∈RL) {c:Int} (h:Clo g hs RL e c):Clo g hs' RL e c:=λ v hv=>by
 obtain⟨e',h1,h2,h3⟩:=h v ((GdN.ext (H.inn e he) hp).1 hv);exact⟨e',h1,h2,(GdN.ext (H.inn e' h1) hp).2 h3⟩
theorem BI.le (hw:GW g S CL) (H:BI g S CL RL hs nb sp fd):RL.length<=1363673088:=H.fd.le (H.st.le hw) H.inn
theorem Xi (hw:GW g S CL) (H:HSt g S CL hs nb sp) {n:Aj} (hn:InN hs n) {c:Int} {v:List Int} (h:GdN g hs (c::v) n):0<=c/\c<63:=by
 obtain⟨a,b,h1,h2,_⟩:=hn;have hae:=JlZ h2;obtain⟨p,q,⟨k,r1,_⟩,_⟩:=h;obtain⟨x,p1,y,s1,_,_⟩:=r1.inv;rw[h1,D9 hae]at s1;have hok:=H.ok _ (Jl1 hae);rcases s1.inv with⟨r,e1,_⟩|⟨_,a1,r,⟨l,x1,q1,q2,rfl⟩,e2,_⟩
 ·have hb:Ds hs[a].Rest=c::r:=e1;rcases hok.2 with h0|⟨cc,hc1,j,j1,j2,h0⟩
  ·rw[h0]at hb;cases hb
  ·have:c∈cc:=List.mem_of_mem_drop (i:=j) (by rw[← h0,hb];simp);exact(hw.clc cc hc1).2.2 c this
 ·have:c∈x1.Cells:=by rw[show x1.Cells=c::r from e2];simp
  exact(hw.clc _ (hw.arc _ l q1 x1 q2).1).2.2 c this
end Go.AI
end
section
namespace Go.AI
variable {g:As} {S:Nat} {CL:List (List Int)} {hs hs':List Ad} {nb:List (Ad×Int)} {sp:List (Option (List Ai))} {fd:List (Ao×Ap)} {RL RL':List Rec}
structure L5I (g:As) (S:Nat) (CL:List (List Int)) (hs:List Ad) (nb:List (Ad×Int)) (sp:List (Option (List Ai))) (RL:List Rec) (W:List Int) (fr:Ch) (c:Int) (Bc:List Aj) (i:Nat) (grp:Bq) (fd:List (Ao×Ap)) (RL':List Rec):Prop where
 bi:BI g S CL RL' hs nb sp fd
 sub:∀ e∈RL,e∈RL'
 new:∀ e∈RL',e∈RL\/(e.1=W/\e.2.1∈grp.Nodes)
 own:∀ m∈grp.Nodes,∃ i,(W,m,i)∈RL'
 len:RL'.length=RL.length+grp.Nodes.length
 cov:∀ (j:Nat) m,j<i->Bc[j]?=some m->∀ v,GdN g hs v m->∃ e∈RL',GdN g hs v e.2.1
 from_:grp.From=fr
 cell:grp.Cell=c
theorem Jkt (hw:GW g S CL) {w:List Int} {c:Int} {q:List Aj×Int} {fr:Ch} (hwf:wdC (q::fr)=w) (hwl:w.length<=2000000000) (H:BI g S CL RL hs nb sp fd) {bh:List (Int×List Aj)} (hB:∀ m∈Cl c bh,InN hs m/\RcN g hs (w++[c]) m) (hBl:(Cl c bh).length<=900000000000) (layer next:List Ch) (xi:Int) (g2:Bq) :
  Tot (λ k=>whl (λ (x:(Bq×(List (Ao×Ap))×Int))=>BB k g layer xi g2 (nb,bh,hs,sp) next c x.1 x.2.1 x.2.2) k (({ Nodes:=([]:List Aj),From:=q::fr,Cell:=c }:Bq),fd,0)) (λ r=>match r with
   | .inl y=>∃ RL',L5I g S CL hs nb sp RL (w++[c]) (q::fr) c (Cl c bh) (Cl c bh).length y.1 y.2 RL'
   | .inr z=>Amb (Ag g) (Acg g) (w++[c])/\z.2.2.1=w++[c]/\z.2.2.2.2.2=true):=by
 refine Tot.upto (body:=λ k (x:(Bq×(List (Ao×Ap))×Int))=>BB k g layer xi g2 (nb,bh,hs,sp) next c x.1 x.2.1 x.2.2) (Cl c bh).length (λ i x=>x.2.2=(i:Int)/\∃ RL',L5I g S CL hs nb sp RL (w++[c]) (q::fr) c (Cl c bh) i x.1 x.2.1 RL') ?_ ?_ _ ⟨rfl,RL,H,λ _ h=>h,λ _ h=>.inl h,λ m h=>by simp at h,by simp,λ j m h=>by omega,rfl,rfl⟩
 ·rintro i ⟨grp,fd1,_⟩ hi ⟨rfl,RL1,hI⟩;simp only at hI;unfold BB;refine Tot.iteT (by simp;omega) (Tot.bindC (A8 hi) ?_);have hm:=hB _ (JlL hi);generalize hme:(Cl c bh)[i]=m at *;have hmg:(Cl c bh)[i]?=some m:=by rw[JlZ hi,hme]
  have hRl:=hI.bi.le hw;have hlen:=hI.len;refine Tot.bind (SR (sp:=sp) (nb:=nb) hI.bi.fd (hI.bi.st.le hw) hI.bi.inn hm.1 (λ e he=>(hI.bi.rc e he).ld) (w++[c])) ?_;rintro⟨fd2,b⟩ hr;simp only at hr⊢;have nxt:∀ grp' fd',(∃ RL',L5I g S CL hs nb sp RL (w++[c]) (q::fr) c (Cl c bh) (i+1) grp' fd' RL')->Tot (λ k=>CD k (i:Int) grp' fd') (Rd2 (λ x=>x.2.2=((i+1:Nat):Int)/\∃ RL',L5I g S CL hs nb sp RL (w++[c]) (q::fr) c (Cl c bh) (i+1) x.1 x.2.1 RL') (λ r=>match r with
   | .inl y=>∃ RL',L5I g S CL hs nb sp RL (w++[c]) (q::fr) c (Cl c bh) (Cl c bh).length y.1 y.2 RL'
   | .inr z=>Amb (Ag g) (Acg g) (w++[c])/\z.2.2.1=w++[c]/\z.2.2.2.2.2=true)):=λ grp' fd' h=>Jlx ⟨Bg (by omega),h⟩
  rcases hr with⟨rfl,i0,hfd⟩|⟨rfl,rfl,hcov⟩
  ·refine Tot.iteF rfl (Tot.bind (Xg hw hI.bi.st hm.1 hm.2.ld fd2) λ r39 h39=>Tot.ite (λ ht=>?_) λ hf=>?_)
   ·have hcl:=h39.1 ht;have hfl:(q::fr).length<=2000000001:=by have:=X4 (q::fr);rw[hwf]at this;simp at this⊢;omega
    obtain⟨ns,fr1,c1⟩:=grp;have e1:=hI.from_;have e2:=hI.cell;simp only at e1 e2;subst e1;subst e2;refine Tot.bind (JcI ns c1 (q::fr) (by omega)) ?_;rintro _ rfl;have hwd:wdC ((ns,c1)::q::fr)=w++[c1]:=by rw[← hwf];rfl
    refine Jlx ⟨?_,hwd,rfl⟩;have:=JlB hm.2 hcl;rwa[List.append_nil]at this
   ·have hncl:¬GdN g hs [] m:=λ h=>by rw[h39.2 h]at hf;cases hf
    refine Tot.bindC (CU (by simp;omega)) (nxt _ _ ⟨RL1++[(w++[c],m,i0)],?_,λ e he=>List.mem_append_left _ (hI.sub e he),λ e he=>?_,λ m' hm'=>?_,by simp;omega,λ j m' hj hm' v hv=>?_,hI.from_,hI.cell⟩)
    ·obtain⟨e0,z1,z2,z3⟩:=hI.bi.zero;refine⟨hI.bi.st,hfd,λ e he=>?_,λ e he=>?_,λ e he=>?_,e0,List.mem_append_left _ z1,z2,z3⟩
     all_goals
      rcases List.mem_append.1 he with he|he
      first|exact hI.bi.inn e he|exact hI.bi.rc e he|exact hI.bi.no e he
      simp only[List.mem_singleton]at he;subst he
      first|exact hm.1|exact hm.2|exact hncl
    ·rcases List.mem_append.1 he with he|he
     ·rcases hI.new e he with h|⟨h1,h2⟩
      ·exact .inl h
      ·exact .inr ⟨h1,List.mem_append_left _ h2⟩
     ·simp only[List.mem_singleton]at he;subst he;exact .inr ⟨rfl,by simp⟩
    ·rcases List.mem_append.1 hm' with h|h
     ·obtain⟨i1,h1⟩:=hI.own m' h;exact⟨i1,List.mem_append_left _ h1⟩
     ·simp only[List.mem_singleton]at h;subst h;exact⟨i0,by simp⟩
    ·by_cases e:j=i
     ·subst e;rw[hmg]at hm';cases hm';exact⟨(w++[c],m,i0),by simp,hv⟩
     ·obtain⟨e',h1,h2⟩:=hI.cov j m' (by omega) hm' v hv;exact⟨e',List.mem_append_left _ h1,h2⟩
  ·refine Tot.iteT rfl (nxt _ _ ⟨RL1,hI.bi,hI.sub,hI.new,hI.own,hI.len,λ j m' hj hm' v hv=>?_,hI.from_,hI.cell⟩);by_cases e:j=i
   ·subst e;rw[hmg]at hm';cases hm';obtain⟨l,⟨e0,he0,h1,h2⟩,h3⟩:=hcov.gd (λ l hl=>by
     obtain⟨e0,he0,_,h2⟩:=hl;rw[← h2];exact(hI.bi.rc e0 he0).ld) hv
    refine⟨e0,he0,?_⟩;unfold GdN;rw[h1,h2];exact h3
   ·exact hI.cov j m' (by omega) hm' v hv
 ·rintro⟨grp,fd1,_⟩ ⟨rfl,RL1,hI⟩;unfold BB;exact Tot.iteF (by simp) (Jlx ⟨RL1,hI⟩)
def NE:Ch->List Aj
 | []=>[]
 | p::_=>p.1
structure LI (RL:List Rec) (d:Nat) (layer next:List Ch):Prop where
 lay:∀ G∈layer,G≠[]/\(wdC G).length=d
 inc:layer.Pairwise λ a b=>ltL (wdC a) (wdC b)=true
 has:∀ e∈RL,e.1.length=d->∃ (y:Nat) (G:Ch),layer[y]?=some G/\wdC G=e.1/\e.2.1∈NE G
 own:∀ G∈layer,∀ m∈NE G,∃ i,(wdC G,m,i)∈RL
 sz:∀ G∈layer,(NE G).length<=1363673088
 nlay:∀ G∈next,G≠[]/\(wdC G).length=d+1
 ninc:next.Pairwise λ a b=>ltL (wdC a) (wdC b)=true
 nhas:∀ e∈RL,e.1.length=d+1->∃ (y:Nat) (G:Ch),next[y]?=some G/\wdC G=e.1/\e.2.1∈NE G
 nown:∀ G∈next,∀ m∈NE G,∃ i,(wdC G,m,i)∈RL
 nsz:∀ G∈next,(NE G).length<=1363673088
 len:∀ e∈RL,e.1.length<=d+1
theorem Rq {α:Type} {R:α->α->Prop} {l:List α} (h:l.Pairwise R) {i j:Nat} {a b:α} (hi:l[i]?=some a) (hj:l[j]?=some b) (hij:i<j):R a b:=by
 have h1:=Am hi;have h2:=Am hj;have:=List.pairwise_iff_getElem.1 h i j h1 h2 hij;rw[JlZ h1]at hi;rw[JlZ h2]at hj;cases hi;cases hj;exact this
theorem Ug {x:List Int} (h:ltL x x=true):False:=by rw[X0]at h;cases h
structure L4I (g:As) (S:Nat) (CL:List (List Int)) (hs:List Ad) (nb:List (Ad×Int)) (sp:List (Option (List Ai))) (R0 d:Nat) (layer:List Ch) (w:List Int) (c:Int) (fd:List (Ao×Ap)) (next:List Ch) (RL:List Rec):Prop where
 bi:BI g S CL RL hs nb sp fd
 li:LI RL d layer next
 nlt:∀ G∈next,ltL (wdC G) (w++[c])=true
 dn:∀ e∈RL,∀ c1,(e.1.length<d\/(e.1.length=d/\(ltL e.1 w=true\/(e.1=w/\c1<c))))->Clo g hs RL e c1
 cnt:next.length+R0<=RL.length
theorem L4I.least {R0 d:Nat} {layer next:List Ch} {w:List Int} {c:Int} (h:L4I g S CL hs nb sp R0 d layer w c fd next RL) (hd:w.length=d) (ha:Amb (Ag g) (Acg g) (w++[c])):Lst (Ag g) (Acg g) (w++[c]):=by
 refine⟨ha,λ u hu hlt=>?_⟩;obtain⟨e0,z1,z2,z3⟩:=h.bi.zero;have hcl:∀ p c v,u=p++c::v->∀ e∈RL,leS e.1 p->Clo g hs RL e c:=λ p c1 v hp e he hle=>by
  refine h.dn e he c1 ?_;have h3:ltW (e.1++[c1]) (w++[c]):=by
   refine(hle.app [c1]).lt ?_;have:leS (p++[c1]) u:=by rw[hp];have:=Jex (p++[c1]) v;simpa using this
   exact this.lt hlt
  rcases h3 with h3|⟨h3,h4⟩
  ·simp only[List.length_append,List.length_singleton]at h3;left;omega
  ·simp only[List.length_append,List.length_singleton]at h3;exact .inr ⟨by omega,(Rp (by omega) c1 c).1 h4⟩
 obtain⟨e,h1,h2⟩:=JcJ u ⟨e0,z1,z2,z3 u hu⟩ hcl;exact h.bi.no e h1 h2
theorem X5 {c:Nat} (h:c<255):Be .u8 (c:Int) 1=((c+1:Nat):Int):=by
 unfold Be;rw[w8 (by omega) (by omega)];omega
theorem Jku (hw:GW g S CL) {R0 d:Nat} {layer:List Ch} {x:Nat} {q:List Aj×Int} {fr:Ch} (hx:layer[x]?=some (q::fr)) {w:List Int} (hwf:wdC (q::fr)=w) (hd:w.length=d) (hdl:d<=1399999999) {next:List Ch} (H:L4I g S CL hs nb sp R0 d layer w 0 fd next RL) {bh:List (Int×List Aj)}
  (hB:∀ c,(∀ m∈Cl c bh,InN hs m/\RcN g hs (w++[c]) m)/\(Cl c bh).length<=900000000000/\∀ n∈q.1,∀ v,GdN g hs (c::v) n->∃ m∈Cl c bh,GdN g hs v m) (xi:Int) (g2:Bq) (hg2:g2={ Nodes:=q.1,From:=fr,Cell:=q.2 }) :
  Tot (λ k=>whl (λ (z:((List (Ao×Ap))×(List Ch)×Int))=>BC k g layer xi g2 (nb,bh,hs,sp) z.1 z.2.1 z.2.2) k (fd,next,0)) (λ r=>match r with
   | .inl y=>∃ RL',L4I g S CL hs nb sp R0 d layer w 63 y.1 y.2 RL'/\RL.length<=RL'.length
   | .inr z=>(Lst (Ag g) (Acg g) z.2.2.1/\z.2.2.1.length<=1400000000)/\z.2.2.2.2.2=true):=by
 subst hg2;refine Tot.upto (body:=λ k (z:((List (Ao×Ap))×(List Ch)×Int))=>BC k g layer xi _ (nb,bh,hs,sp) z.1 z.2.1 z.2.2) 63 (λ c z=>z.2.2=(c:Int)/\∃ RL',L4I g S CL hs nb sp R0 d layer w (c:Int) z.1 z.2.1 RL'/\RL.length<=RL'.length) ?_ ?_ _ ⟨rfl,RL,H,JlO _⟩
 ·rintro c ⟨fd1,next1,_⟩ hc ⟨rfl,RL1,hI,hRR⟩;simp only at hI;unfold BC;obtain⟨b1,b2,b3⟩:=hB (c:Int);refine Tot.iteT (by simp;omega) (Tot.bind (Jkt hw hwf (by omega) hI.bi b1 b2 layer next1 xi _) λ y hy=>?_);cases y with
  | inr z=>exact Jlx ⟨⟨by rw[hy.2.1];exact hI.least hd hy.1,by rw[hy.2.1];simp;omega⟩,hy.2.2⟩
  | inl y=>
   obtain⟨grp,fd2⟩:=y;obtain⟨RL2,h5⟩:=hy;simp only at h5⊢;have hle:=h5.bi.le hw;have hlen:=h5.len;have hcnt:=hI.cnt;have hnewl:∀ e∈RL2,e∈RL1\/(e.1=w++[(c:Int)]/\e.2.1∈grp.Nodes/\e.1.length=d+1):=λ e he=>by
    rcases h5.new e he with h|⟨h1,h2⟩
    ·exact .inl h
    ·exact .inr ⟨h1,h2,by rw[h1];simp;omega⟩
   have hstep:ltL (w++[(c:Int)]) (w++[((c+1:Nat):Int)])=true:=(Rp rfl _ _).2 (.inr ⟨rfl,by omega⟩);have hdn:∀ e∈RL2,∀ c1,(e.1.length<d\/(e.1.length=d/\(ltL e.1 w=true\/(e.1=w/\c1<((c+1:Nat):Int)))))->Clo g hs RL2 e c1:=λ e he c1 hp=>by
    have he1:e∈RL1:=by
     rcases hnewl e he with h|⟨_,_,h⟩
     ·exact h
     ·rcases hp with hp|hp<;>omega
    by_cases hpc:e.1.length<d\/(e.1.length=d/\(ltL e.1 w=true\/(e.1=w/\c1<(c:Int))))
    ·exact(hI.dn e he1 c1 hpc).mono h5.sub
    ·have hew:e.1=w/\c1=(c:Int):=by
      rcases hp with hp|⟨hp1,hp|⟨hp2,hp3⟩⟩
      ·exact absurd (.inl hp) hpc
      ·exact absurd (.inr ⟨hp1,.inl hp⟩) hpc
      ·by_cases h:c1<(c:Int)
       ·exact absurd (.inr ⟨hp1,.inr ⟨hp2,h⟩⟩) hpc
       ·exact⟨hp2,by omega⟩
     obtain⟨hew,rfl⟩:=hew;intro v hv;obtain⟨y,G,hy1,hy2,hy3⟩:=hI.li.has e he1 (by rw[hew];exact hd);have hyx:y=x:=by
      rcases Nat.lt_trichotomy y x with h|h|h
      ·exact(Ug (x:=w) (by have:=Rq hI.li.inc hy1 hx h;rwa[hy2,hwf,hew]at this)).elim
      ·exact h
      ·exact(Ug (x:=w) (by have:=Rq hI.li.inc hx hy1 h;rwa[hy2,hwf,hew]at this)).elim
     subst hyx;rw[hx]at hy1;cases hy1;obtain⟨m,hm1,hm2⟩:=b3 e.2.1 hy3 v hv;obtain⟨j,hj,hje⟩:=List.mem_iff_getElem.1 hm1;obtain⟨e',he',hg'⟩:=h5.cov j m hj (by rw[JlZ hj,hje]) v hm2;refine⟨e',he',?_,hg'⟩;rw[hew];rcases hnewl e' he' with h|⟨h,_⟩
     ·have hl:=hI.li.len e' h;by_cases hl2:e'.1.length=d+1
      ·obtain⟨y',G',k1,k2,k3⟩:=hI.li.nhas e' h hl2;have:=hI.nlt G' (Jl1 k1);rw[k2]at this;exact .inl (.inr ⟨by simp;omega,this⟩)
      ·exact .inl (.inl (by simp;omega))
     ·exact .inr h
   have base:∀ next',(∀ G∈next1,G∈next')->(∀ G∈next',G∈next1\/G=(grp.Nodes,(c:Int))::q::fr)->(next'.Pairwise λ a b=>ltL (wdC a) (wdC b)=true)->(∀ (y:Nat) G,next1[y]?=some G->next'[y]?=some G)->(grp.Nodes≠[]->∃ y:Nat,next'[y]?=some ((grp.Nodes,(c:Int))::q::fr))->next'.length+R0<=RL2.length ->
     L4I g S CL hs nb sp R0 d layer w ((c+1:Nat):Int) fd2 next' RL2:=λ next' n1 n2 n3 n4 n5 n6=>by
    have hwd:wdC ((grp.Nodes,(c:Int))::q::fr)=w++[(c:Int)]:=by rw[← hwf];rfl
    have hwn:w++[(c:Int)]≠w:=λ h=>by have:=congrArg List.length h;simp at this
    refine⟨h5.bi,⟨hI.li.lay,hI.li.inc,λ e he hel=>?_,λ G hG m hm=>?_,hI.li.sz,λ G hG=>?_,n3,λ e he hel=>?_,λ G hG m hm=>?_,λ G hG=>?_,λ e he=>?_⟩,λ G hG=>?_,hdn,n6⟩
    ·rcases hnewl e he with h|⟨_,_,h⟩
     ·exact hI.li.has e h hel
     ·omega
    ·obtain⟨i,h⟩:=hI.li.own G hG m hm;exact⟨i,h5.sub _ h⟩
    ·rcases n2 G hG with h|rfl
     ·exact hI.li.nlay G h
     ·exact⟨by simp,by rw[hwd];simp;omega⟩
    ·rcases hnewl e he with h|⟨h1,h2,_⟩
     ·obtain⟨y,G,k1,k2⟩:=hI.li.nhas e h hel;exact⟨y,G,n4 y G k1,k2⟩
     ·obtain⟨y,hy⟩:=n5 (λ h=>by rw[h]at h2;simp at h2);exact⟨y,_,hy,by rw[hwd,h1],h2⟩
    ·rcases n2 G hG with h|rfl
     ·obtain⟨i,h⟩:=hI.li.nown G h m hm;exact⟨i,h5.sub _ h⟩
     ·rw[hwd];exact h5.own m hm
    ·rcases n2 G hG with h|rfl
     ·exact hI.li.nsz G h
     ·show grp.Nodes.length<=_;omega
    ·rcases hnewl e he with h|⟨_,_,h⟩
     ·exact hI.li.len e h
     ·omega
    ·rcases n2 G hG with h|rfl
     ·exact IR (hI.nlt G h) hstep
     ·rw[hwd];exact hstep
   refine Tot.ite (λ hpos=>?_) λ hz=>?_
   ·have hpos:0<grp.Nodes.length:=by simpa using hpos
    have hfe:(grp.Nodes,grp.Cell)::grp.From=(grp.Nodes,(c:Int))::q::fr:=by rw[h5.from_,h5.cell]
    rw[hfe];refine Tot.bindC (CU (by simp;omega)) (Jlx ⟨X5 (by omega),RL2,base _ (λ G h=>by simp[h]) (λ G h=>by simpa using h) ?_ (λ y G h=>by rw[Jl7 (Am h)];exact h) (λ _=>⟨next1.length,by simp⟩) (by simp;omega),by omega⟩);rw[List.pairwise_append];refine⟨hI.li.ninc,by simp,λ a ha b hb=>?_⟩;simp only[List.mem_singleton]at hb;subst hb;have hwd:wdC ((grp.Nodes,(c:Int))::q::fr)=w++[(c:Int)]:=by rw[← hwf];rfl
    rw[hwd];exact hI.nlt a ha
   ·have hz:grp.Nodes=[]:=by
     cases h:grp.Nodes with
     | nil=>rfl
     | cons a l=>rw[h]at hz;simp at hz
    exact Jlx ⟨X5 (by omega),RL2,base next1 (λ _ h=>h) (λ _ h=>.inl h) hI.li.ninc (λ _ _ h=>h) (λ h=>absurd hz h) (by omega),by omega⟩
 ·rintro⟨fd1,next1,_⟩ ⟨rfl,RL1,hI,hRR⟩;unfold BC;exact Tot.iteF (by simp) (Jlx ⟨RL1,hI,hRR⟩)
end Go.AI
end
section
namespace Go.AI
variable {g:As} {S:Nat} {CL:List (List Int)} {hs hs':List Ad} {nb:List (Ad×Int)} {sp:List (Option (List Ai))} {fd:List (Ao×Ap)} {RL RL':List Rec}
structure BhI (g:As) (hs:List Ad) (w:List Int) (ns:List Aj) (j:Nat) (bh:List (Int×List Aj)):Prop where
 snd:∀ c,∀ m∈Cl c bh,InN hs m/\RcN g hs (w++[c]) m
 len:∀ c,(Cl c bh).length<=121*j
 cov:∀ c,∀ n∈ns,∀ v,GdN g hs (c::v) n->∃ m∈Cl c bh,GdN g hs v m
theorem Jkv (hw:GW g S CL) (H:HSt g S CL hs nb sp) {w:List Int} (hwl:w.length<=2000000000) (g2:Bq) (hn:∀ n∈g2.Nodes,InN hs n/\RcN g hs w n) (hnl:g2.Nodes.length<=1363673088) (layer next:List Ch) (fd:List (Ao×Ap)) (xi:Int) :
  Tot (λ k=>whl (λ (x:((List (Ad×Int))×(List (Int×(List Aj)))×(List Ad)×(List (Option (List Ai)))×Int))=>BA k g layer fd next xi g2 x.1 x.2.1 x.2.2.1 x.2.2.2.1 x.2.2.2.2) k (nb,([]:(List (Int×(List Aj)))),hs,sp,0)) (λ r=>HSt g S CL r.2.2.1 r.1 r.2.2.2/\hs <+: r.2.2.1/\BhI g r.2.2.1 w g2.Nodes g2.Nodes.length r.2.1):=by
 refine Tot.upto (body:=λ k (x:((List (Ad×Int))×(List (Int×(List Aj)))×(List Ad)×(List (Option (List Ai)))×Int))=>BA k g layer fd next xi g2 x.1 x.2.1 x.2.2.1 x.2.2.2.1 x.2.2.2.2) g2.Nodes.length (λ j x=>x.2.2.2.2=(j:Int)/\HSt g S CL x.2.2.1 x.1 x.2.2.2.1/\hs <+: x.2.2.1/\BhI g x.2.2.1 w (g2.Nodes.take j) j x.2.1) ?_ ?_ _ ⟨rfl,H,List.prefix_refl _,λ c m h=>by simp[Cl,BR]at h,λ c=>by simp[Cl,BR],λ c n h=>by simp at h⟩
 ·rintro j ⟨nb1,bh,hs1,sp1,_⟩ hj ⟨rfl,k1,k2,k3⟩;simp only at k1 k2 k3;unfold BA;refine Tot.iteT (by simp;omega) (Tot.bindC (A8 hj) ?_);have hm:=hn _ (JlL hj);generalize hme:g2.Nodes[j]=n at *;refine Tot.bind (Zu hw k1 hwl (hm.1.ext k2) ((RcN.ext hm.1 k2).2 hm.2) fd (λ c=>by have:=k3.len c;show(Cl c bh).length<=_;omega)) ?_;rintro⟨bh2,nb2,hs2,sp2⟩ ⟨m1,m2,m3⟩;simp only at m1 m2 m3⊢;refine Jlx ⟨Bg (by omega),m1,k2.trans m2,λ c m hmm=>?_,λ c=>?_,λ c n' hn' v hv=>?_⟩
  ·obtain⟨new,q1,q2,q3,q4⟩:=m3 c;simp only[q1]at hmm;rcases List.mem_append.1 hmm with h|h
   ·obtain⟨r1,r2⟩:=k3.snd c m h;exact⟨r1.ext m2,(RcN.ext r1 m2).2 r2⟩
   ·exact q3 m h
  ·obtain⟨new,q1,q2,q3,q4⟩:=m3 c;have:=k3.len c;simp only[q1,List.length_append];omega
  ·obtain⟨new,q1,q2,q3,q4⟩:=m3 c;rw[List.take_add_one,JlZ hj,hme]at hn';rcases List.mem_append.1 hn' with h|h
   ·have hin:=hn n' (List.mem_of_mem_take h);obtain⟨m,r1,r2⟩:=k3.cov c n' h v ((GdN.ext (hin.1.ext k2) m2).1 hv);exact⟨m,by simp only[q1];simp[r1],(GdN.ext (k3.snd c m r1).1 m2).2 r2⟩
   ·simp only[Option.toList_some,List.mem_singleton]at h;subst h;obtain⟨m,r1,r2⟩:=q4 v hv;exact⟨m,by simp only[q1];simp[r1],r2⟩
 ·rintro⟨nb1,bh,hs1,sp1,_⟩ ⟨rfl,k1,k2,k3⟩;unfold BA;rw[List.take_length]at k3;exact Tot.iteF (by simp) (Jlx ⟨k1,k2,k3⟩)
structure L2I (g:As) (S:Nat) (CL:List (List Int)) (R0 d:Nat) (layer:List Ch) (x:Nat) (nb:List (Ad×Int)) (fd:List (Ao×Ap)) (next:List Ch) (hs:List Ad) (sp:List (Option (List Ai))) (RL:List Rec):Prop where
 bi:BI g S CL RL hs nb sp fd
 li:LI RL d layer next
 nlt:∀ G,layer[x]?=some G->∀ G'∈next,ltL (wdC G') (wdC G++[0])=true
 dn:∀ e∈RL,(e.1.length<d\/∃ (y:Nat) (G:Ch),y<x/\layer[y]?=some G/\e.1=wdC G)->∀ c1,Clo g hs RL e c1
 cnt:next.length+R0<=RL.length
theorem Clo.out (hw:GW g S CL) (H:BI g S CL RL hs nb sp fd) {e:Rec} (he:e∈RL) {c:Int} (hc:¬(0<=c/\c<63)):Clo g hs RL e c:=λ _ hv=>absurd (Xi hw H.st (H.inn e he) hv) hc
theorem Jkw (hw:GW g S CL) {R0 d:Nat} {layer:List Ch} (hll:layer.length<9000000000000) (hdl:d<=1399999999) (H:L2I g S CL R0 d layer 0 nb fd [] hs sp RL) (bh:List (Int×List Aj)) :
  Tot (λ k=>whl (λ (x:((List (Ad×Int))×(List (Ao×Ap))×(List (Int×(List Aj)))×(List Ch)×(List Ad)×(List (Option (List Ai)))×Int))=>BD k g layer x.1 x.2.1 x.2.2.1 x.2.2.2.1 x.2.2.2.2.1 x.2.2.2.2.2.1 x.2.2.2.2.2.2) k (nb,fd,bh,([]:List Ch),hs,sp,0)) (λ r=>match r with
   | .inl y=>∃ RL',L2I g S CL R0 d layer layer.length y.1 y.2.1 y.2.2.2.1 y.2.2.2.2.1 y.2.2.2.2.2 RL'/\RL.length<=RL'.length
   | .inr z=>(Lst (Ag g) (Acg g) z.2.2.1/\z.2.2.1.length<=1400000000)/\z.2.2.2.2.2=true):=by
 refine Tot.upto (body:=λ k (x:((List (Ad×Int))×(List (Ao×Ap))×(List (Int×(List Aj)))×(List Ch)×(List Ad)×(List (Option (List Ai)))×Int))=>BD k g layer x.1 x.2.1 x.2.2.1 x.2.2.2.1 x.2.2.2.2.1 x.2.2.2.2.2.1 x.2.2.2.2.2.2) layer.length (λ i x=>x.2.2.2.2.2.2=(i:Int)/\∃ RL',L2I g S CL R0 d layer i x.1 x.2.1 x.2.2.2.1 x.2.2.2.2.1 x.2.2.2.2.2.1 RL'/\RL.length<=RL'.length) ?_ ?_ _ ⟨rfl,RL,H,JlO _⟩
 ·rintro i ⟨nb1,fd1,bh1,next1,hs1,sp1,_⟩ hi ⟨rfl,RL1,hI,hRR⟩;simp only at hI;unfold BD;refine Tot.iteT (by simp;omega) (Tot.bindC (A8 hi) ?_);have hGm:=JlL hi;generalize hGe:layer[i]=G at *;have hGg:layer[i]?=some G:=by rw[JlZ hi,hGe]
  obtain⟨hGn,hGl⟩:=hI.li.lay G hGm;cases G with
  | nil=>exact absurd rfl hGn
  | cons q fr=>
   refine Tot.bindC (y:={ Nodes:=q.1,From:=fr,Cell:=q.2 }) rfl ?_;have hnodes:∀ n∈q.1,InN hs1 n/\RcN g hs1 (wdC (q::fr)) n:=λ n hn=>by
    obtain⟨i0,h⟩:=hI.li.own _ hGm n hn;exact⟨hI.bi.inn _ h,hI.bi.rc _ h⟩
   refine Tot.bind (Jkv hw hI.bi.st (by omega) _ hnodes (hI.li.sz _ hGm) layer next1 fd1 _) ?_;rintro⟨nb2,bh2,hs2,sp2⟩ ⟨k1,k2,k3⟩;simp only at k1 k2 k3⊢;have B2:=hI.bi.ext k2 k1;have hsz:=hI.li.sz _ hGm;have hq1:q.1.length<=1363673088:=hsz;have hL4:L4I g S CL hs2 nb2 sp2 R0 d layer (wdC (q::fr)) 0 fd1 next1 RL1:=by
    refine⟨B2,hI.li,hI.nlt _ hGg,λ e he c1 hp=>?_,hI.cnt⟩;rcases hp with hp|⟨hp1,hp|⟨hp2,hp3⟩⟩
    ·exact Clo.ext hI.bi k2 he (hI.dn e he (.inl hp) c1)
    ·obtain⟨y,G',hy1,hy2,_⟩:=hI.li.has e he hp1;have hyi:y<i:=by
      rcases Nat.lt_trichotomy y i with h|h|h
      ·exact h
      ·subst h;rw[hGg]at hy1;cases hy1;rw[← hy2]at hp;exact(Ug hp).elim
      ·have h1:=Rq hI.li.inc hGg hy1 h;rw[hy2]at h1;exact(Ug (IR h1 hp)).elim
     exact Clo.ext hI.bi k2 he (hI.dn e he (.inr ⟨y,G',hyi,hy1,hy2.symm⟩) c1)
    ·exact Clo.out hw B2 he (by omega)
   refine Tot.bind (Jku hw hGg rfl hGl hdl hL4 (λ c=>⟨k3.snd c,by have:=k3.len c;omega,k3.cov c⟩) _ _ rfl) λ y hy=>?_;cases y with
   | inr z=>exact Jlx hy
   | inl y=>
    obtain⟨fd3,next3⟩:=y;obtain⟨RL3,h4,hR3⟩:=hy;simp only at h4⊢;refine Jlx ⟨Bg (by omega),RL3,⟨h4.bi,h4.li,λ G2 hG2 G' hG'=>?_,λ e he hp c1=>?_,h4.cnt⟩,by omega⟩
    ·refine IR (h4.nlt G' hG') ((Rp ?_ _ _).2 (.inl (Rq hI.li.inc hGg hG2 (by omega))));rw[hGl,(hI.li.lay G2 (Jl1 hG2)).2]
    ·rcases hp with hp|⟨y,G',hy1,hy2,hy3⟩
     ·exact h4.dn e he c1 (.inl hp)
     ·have hel:e.1.length=d:=by rw[hy3];exact(hI.li.lay G' (Jl1 hy2)).2
      by_cases hyi:y=i
      ·subst hyi;rw[hGg]at hy2;cases hy2;by_cases hc:c1<63
       ·exact h4.dn e he c1 (.inr ⟨hel,.inr ⟨hy3,hc⟩⟩)
       ·exact Clo.out hw h4.bi he (by omega)
      ·refine h4.dn e he c1 (.inr ⟨hel,.inl ?_⟩);rw[hy3];exact Rq hI.li.inc hy2 hGg (by omega)
 ·rintro⟨nb1,fd1,bh1,next1,hs1,sp1,_⟩ ⟨rfl,RL1,hI,hRR⟩;unfold BD;exact Tot.iteF (by simp) (Jlx ⟨RL1,hI,hRR⟩)
structure L1I (g:As) (S:Nat) (CL:List (List Int)) (d:Nat) (nb:List (Ad×Int)) (fd:List (Ao×Ap)) (layer:List Ch) (hs:List Ad) (sp:List (Option (List Ai))) (RL:List Rec):Prop where
 bi:BI g S CL RL hs nb sp fd
 li:LI RL d layer []
 len:∀ e∈RL,e.1.length<=d
 dn:∀ e∈RL,e.1.length<d->∀ c1,Clo g hs RL e c1
 dep:layer≠[]->d<RL.length
 cnt:layer.length<=RL.length
theorem Jkx (hw:GW g S CL) {layer:List Ch} {d:Nat} (H:L1I g S CL d nb fd layer hs sp RL) (bh:List (Int×List Aj)) :
  Tot (λ k=>whl (λ (x:((List (Ad×Int))×(List (Ao×Ap))×(List Ch)×(List (Int×(List Aj)))×(List Ad)×(List (Option (List Ai)))))=>B5 k g x.1 x.2.1 x.2.2.1 x.2.2.2.1 x.2.2.2.2.1 x.2.2.2.2.2) k (nb,fd,layer,bh,hs,sp)) (λ r=>match r with
   | .inl _=>∀ u,¬Amb (Ag g) (Acg g) u
   | .inr z=>(Lst (Ag g) (Acg g) z.2.2.1/\z.2.2.1.length<=1400000000)/\z.2.2.2.2.2=true):=by
 refine Tot.whl (body:=λ k (x:((List (Ad×Int))×(List (Ao×Ap))×(List Ch)×(List (Int×(List Aj)))×(List Ad)×(List (Option (List Ai)))))=>B5 k g x.1 x.2.1 x.2.2.1 x.2.2.2.1 x.2.2.2.2.1 x.2.2.2.2.2) (λ m x=>∃ RL d,L1I g S CL d x.1 x.2.1 x.2.2.1 x.2.2.2.2.1 x.2.2.2.2.2 RL/\m=2*(1363673088-RL.length)+(if x.2.2.1=[]then 0 else 1)) ?_ _ _ ⟨RL,d,H,rfl⟩
 rintro m ⟨nb1,fd1,layer1,bh1,hs1,sp1⟩ ⟨RL1,d1,hI,rfl⟩;simp only at hI⊢;unfold B5;have hle:=hI.bi.le hw;cases hl:layer1 with
 | nil=>
  subst hl;refine Tot.iteF (by simp) (Jlx λ u hu=>?_);obtain⟨e0,z1,z2,z3⟩:=hI.bi.zero;have hcl:∀ p c v,u=p++c::v->∀ e∈RL1,leS e.1 p->Clo g hs1 RL1 e c:=λ p c1 v hp e he hle=>by
   refine hI.dn e he ?_ c1;have h1:=hI.len e he;by_cases h2:e.1.length=d1
   ·obtain⟨y,G,hy,_⟩:=hI.li.has e he h2;simp at hy
   ·omega
  obtain⟨e,h1,h2⟩:=JcJ u ⟨e0,z1,z2,z3 u hu⟩ hcl;exact hI.bi.no e h1 h2
 | cons G0 ls=>
  rw[← hl];have hne:layer1≠[]:=by rw[hl];simp
  have hpos:0<layer1.length:=List.length_pos_iff.2 hne;have hdep:=hI.dep hne;have hcnt:=hI.cnt;have h2:L2I g S CL RL1.length d1 layer1 0 nb1 fd1 [] hs1 sp1 RL1:=by
   refine⟨hI.bi,hI.li,λ G _ G' h=>by simp at h,λ e he hp=>?_,by simp⟩;rcases hp with hp|⟨y,G,h,_⟩
   ·exact hI.dn e he hp
   ·omega
  refine Tot.iteT (by simpa using hpos) (Tot.bind (Jkw hw (by omega) (by omega) h2 bh1) λ y hy=>?_);cases y with
  | inr z=>exact Jlx hy
  | inl y=>
   obtain⟨nb2,fd2,bh2,next2,hs2,sp2⟩:=y;obtain⟨RL2,hJ,hRR⟩:=hy;simp only at hJ⊢;have hle2:=hJ.bi.le hw;have hcnt2:=hJ.cnt;refine Jlx ⟨_,?_,RL2,d1+1,⟨hJ.bi,⟨hJ.li.nlay,hJ.li.ninc,hJ.li.nhas,hJ.li.nown,hJ.li.nsz,λ G h=>by simp at h,by simp,λ e he h=>?_,λ G h=>by simp at h,λ G h=>by simp at h,λ e he=>?_⟩,hJ.li.len,λ e he hel c1=>?_,λ hn=>?_,?_⟩,rfl⟩
   ·simp only;rw[if_neg hne];by_cases hn:next2=[]
    ·rw[if_pos hn];omega
    ·rw[if_neg hn];have:0<next2.length:=List.length_pos_iff.2 hn;omega
   ·have:=hJ.li.len e he;omega
   ·have:=hJ.li.len e he;omega
   ·by_cases hd:e.1.length=d1
    ·obtain⟨y,G,hy1,hy2,_⟩:=hJ.li.has e he hd;exact hJ.dn e he (.inr ⟨y,G,Am hy1,hy1,hy2.symm⟩) c1
    ·exact hJ.dn e he (.inl (by omega)) c1
   ·have hn:next2≠[]:=hn;have:0<next2.length:=List.length_pos_iff.2 hn;omega
   ·show next2.length<=_;omega
theorem VY (hw:GW g S CL) (hal:g.Alive=false->∀ w x,¬En (Ag g) (Acg g) (0,[]) w x) :
  Tot (λ k=>Db k g ([]:List Ad) [] ([]:List (Option (List Ai))) []) (λ r=>(r.2.2.2.2.2=true/\Lst (Ag g) (Acg g) r.2.2.1/\r.2.2.1.length<=1400000000)\/(r.2.2.2.2.2=false/\∀ u,¬Amb (Ag g) (Acg g) u)):=by
 unfold Db;refine Tot.ite (λ h=>?_) λ h=>?_
 ·have h:g.Alive=false:=by simpa using h
  refine Jlx (.inr ⟨rfl,λ u hu=>?_⟩);obtain⟨x,y,_,h1,_⟩:=hu;exact hal h u x h1
 ·have h0:HSt g S CL [] [] []:=⟨Ud.nil,λ h hh=>by simp at hh,rfl,λ i h l hi=>by simp at hi⟩;have hok:okH S CL ⟨0,[]⟩:=⟨⟨0,rfl,hw.pos⟩,.inl rfl⟩;refine Tot.bind (Uf hw h0 hok []) ?_;rintro⟨nb1,hs1,sp1,j1⟩ ⟨k1,_,_,a,rfl,k4⟩;simp only at k1 k4⊢;refine Tot.bind (Uf hw k1 hok []) ?_;rintro⟨nb2,hs2,sp2,j2⟩ ⟨m1,m2,_,b,rfl,m4⟩;simp only at m1 m2 m4⊢;have k4':=CT m2 k4;have hin:InN hs2 (⟨⟨(a:Int),(b:Int)⟩,⟨0,[]⟩⟩:Aj):=⟨a,b,rfl,Am k4',rfl,Am m4⟩;have ea:hfA hs2 (a:Int)=(0,[]):=by rw[D9 k4'];rfl
  have eb:hfA hs2 (b:Int)=(0,[]):=by rw[D9 m4];rfl
  have hrc:RcN g hs2 [] (⟨⟨(a:Int),(b:Int)⟩,⟨0,[]⟩⟩:Aj):=by
   unfold RcN;simp only[ea,eb];exact JlA _
  have hno:¬GdN g hs2 [] (⟨⟨(a:Int),(b:Int)⟩,⟨0,[]⟩⟩:Aj):=λ h=>by
   have:=(JlC hrc.ld).1 h;exact this.1 rfl
  refine Tot.bind (SR (RL:=[]) (hs:=hs2) Ro.nil (m1.le hw) (λ e h=>by simp at h) hin (λ e h=>by simp at h) []) ?_;rintro⟨fd2,bb⟩ hr;simp only at hr⊢;rcases hr with⟨rfl,i0,hfd⟩|⟨rfl,rfl,hcov⟩
  ·have hBI:BI g S CL [([],⟨⟨(a:Int),(b:Int)⟩,⟨0,[]⟩⟩,i0)] hs2 nb2 sp2 fd2:=by
    refine⟨m1,hfd,λ e he=>?_,λ e he=>?_,λ e he=>?_,_,List.mem_singleton.2 rfl,rfl,λ u hu=>?_⟩
    ·simp only[List.mem_singleton]at he;subst he;exact hin
    ·simp only[List.mem_singleton]at he;subst he;exact hrc
    ·simp only[List.mem_singleton]at he;subst he;exact hno
    ·unfold GdN;simp only[ea,eb];exact Amb.gd hu
   have hLI:L1I g S CL 0 nb2 fd2 [[([⟨⟨(a:Int),(b:Int)⟩,⟨0,[]⟩⟩],0)]] hs2 sp2 [([],⟨⟨(a:Int),(b:Int)⟩,⟨0,[]⟩⟩,i0)]:=by
    refine⟨hBI,⟨λ G hG=>?_,by simp,λ e he _=>?_,λ G hG m hm=>?_,λ G hG=>?_,λ G h=>by simp at h,by simp,λ e he h=>?_,λ G h=>by simp at h,λ G h=>by simp at h,λ e he=>?_⟩,λ e he=>?_,λ e he h=>by omega,λ _=>by simp,by simp⟩
    ·simp only[List.mem_singleton]at hG;subst hG;exact⟨by simp,rfl⟩
    ·simp only[List.mem_singleton]at he;subst he;exact⟨0,_,rfl,rfl,by simp[NE]⟩
    ·simp only[List.mem_singleton]at hG;subst hG;simp only[NE,List.mem_singleton]at hm;subst hm;exact⟨i0,by simp[wdC]⟩
    ·simp only[List.mem_singleton]at hG;subst hG;simp[NE]
    ·simp only[List.mem_singleton]at he;subst he;simp at h
    ·simp only[List.mem_singleton]at he;subst he;simp
    ·simp only[List.mem_singleton]at he;subst he;simp
   refine Tot.bind (Jkx hw hLI []) λ y hy=>?_;cases y with
   | inl y=>exact Jlx (.inr ⟨rfl,hy⟩)
   | inr z=>exact Jlx (.inl ⟨hy.2,hy.1⟩)
  ·exfalso;rcases hcov with⟨e,h,_⟩|⟨e,h,_⟩|⟨_,_,⟨e,h,_⟩,_⟩<;>simp at h
end Go.AI
end
section
namespace Go.AI
def ltB (a b:List UInt8):Prop:=Op.bytesLess a b=true
theorem Uh (a:List UInt8):¬ltB a []:=by cases a<;>simp[ltB,Op.bytesLess]
theorem K9 {a b:UInt8} {x y:List UInt8}:ltB (a::x) (b::y)↔a<b\/(a=b/\ltB x y):=by
 simp[ltB,Op.bytesLess]
theorem DF:∀ a:List UInt8,¬ltB a a
 | []=>Uh _
 | a::x=>by
  rw[K9];rintro (h|⟨_,h⟩)
  ·exact UInt8.lt_irrefl a h
  ·exact DF x h
theorem CF:∀ {a b c:List UInt8},ltB a b->ltB b c->ltB a c
 | a,[],c,h,_=>absurd h (Uh a)
 | _,_::_,[],_,h=>absurd h (Uh _)
 | [],_::_,_::_,_,_=>rfl
 | a::x,b::y,c::z,h,h'=>by
  rw[K9]at *;rcases h with h|⟨rfl,h⟩
  ·rcases h' with h'|⟨rfl,_⟩
   ·exact .inl (UInt8.lt_trans h h')
   ·exact .inl h
  ·rcases h' with h'|⟨rfl,h'⟩
   ·exact .inl h'
   ·exact .inr ⟨rfl,CF h h'⟩
theorem Gl:∀ (a b:List UInt8),a=b\/ltB a b\/ltB b a
 | [],[]=>.inl rfl
 | [],_::_=>.inr (.inl rfl)
 | _::_,[]=>.inr (.inr rfl)
 | a::x,b::y=>by
  rw[K9,K9];by_cases h:a=b
  ·subst h;rcases Gl x y with rfl|h|h
   ·exact .inl rfl
   ·exact .inr (.inl (.inr ⟨rfl,h⟩))
   ·exact .inr (.inr (.inr ⟨rfl,h⟩))
  ·rcases Nat.lt_or_gt_of_ne (λ e=>h (UInt8.toNat_inj.1 e))with h1|h1
   ·exact .inr (.inl (.inl (UInt8.lt_iff_toNat_lt.2 h1)))
   ·exact .inr (.inr (.inl (UInt8.lt_iff_toNat_lt.2 h1)))
theorem Oj {a b:List UInt8} (h:ltB a b):¬ltB b a:=λ h'=>DF a (CF h h')
theorem Ui (c:List UInt8) {a b:List UInt8}:ltB (c++a) (c++b)↔ltB a b:=by
 induction c with
 | nil=>rfl
 | cons x c ih=>
  rw[List.cons_append,List.cons_append,K9,ih];exact⟨λ h=>h.elim (λ h=>absurd h (UInt8.lt_irrefl x)) λ h=>h.2,λ h=>.inr ⟨rfl,h⟩⟩
def FS (l:List (List UInt8)):Prop:=l.Pairwise ltB
end Go.AI
end
section
namespace Go.AI
structure Ff (two:List (List UInt8)) (T:List UInt8->Prop):Prop where
 len:two.length<=2
 sort:FS two
 snd:∀ x∈two,T x
 cov:∀ x,T x->x∈two\/(two.length=2/\∀ y∈two,ltB y x)
theorem Ff.congr {two:List (List UInt8)} {T T':List UInt8->Prop} (h:Ff two T) (e:∀ x,T x↔T' x):Ff two T':=⟨h.len,h.sort,λ x hx=>(e x).1 (h.snd x hx),λ x hx=>h.cov x ((e x).2 hx)⟩
theorem JcK (a:List UInt8):FS [a]:=by unfold FS;simp
theorem SS {a b:List UInt8} (h:ltB a b):FS [a,b]:=by unfold FS;simp[h]
theorem Ik {a b:List UInt8} (h:FS [a,b]):ltB a b:=by unfold FS at h;simpa using h
theorem Zv {two:List (List UInt8)} {T:List UInt8->Prop} (H:Ff two T) (x:List UInt8):∃ r,(∀ n,C6 n two x=some r)/\Ff r (λ y=>T y\/y=x):=by
 have hl:=H.len
 match two,H,hl with
 | [],H,_=>
  refine⟨[x],λ n=>rfl,by simp,JcK x,λ y hy=>.inr (by simpa using hy),λ y hy=>?_⟩;rcases hy with hy|rfl
  ·rcases H.cov y hy with h|h
   ·simp at h
   ·simp at h
  ·simp
 | [a],H,_=>
  have hTa:=H.snd a (by simp);have hcov:∀ y,T y->y=a:=λ y hy=>by
   rcases H.cov y hy with h|h
   ·simpa using h
   ·simp at h
  by_cases h1:ltB x a
  ·refine⟨[x,a],λ n=>?_,by simp,SS h1,λ y hy=>?_,λ y hy=>?_⟩
   ·unfold C6;have e1:Op.bytesLess x a=true:=h1;simp[idx,e1]
   ·simp only[List.mem_cons,List.not_mem_nil,or_false]at hy;rcases hy with rfl|rfl
    ·exact .inr rfl
    ·exact .inl hTa
   ·rcases hy with hy|rfl
    ·rw[hcov y hy];simp
    ·simp
  ·have e1:Op.bytesLess x a=false:=by simpa [ltB]using h1
   by_cases h2:x=a
   ·subst h2;refine⟨[x],λ n=>?_,by simp,JcK x,λ y hy=>.inr (by simpa using hy),λ y hy=>?_⟩
    ·unfold C6;simp[idx,e1]
    ·rcases hy with hy|rfl
     ·rw[hcov y hy];simp
     ·simp
   ·have h3:ltB a x:=by
     rcases Gl a x with h|h|h
     ·exact absurd h.symm h2
     ·exact h
     ·exact absurd h h1
    refine⟨[a,x],λ n=>?_,by simp,SS h3,λ y hy=>?_,λ y hy=>?_⟩
    ·unfold C6;simp[idx,e1,h2]
    ·simp only[List.mem_cons,List.not_mem_nil,or_false]at hy;rcases hy with rfl|rfl
     ·exact .inl hTa
     ·exact .inr rfl
    ·rcases hy with hy|rfl
     ·rw[hcov y hy];simp
     ·simp
 | [a,b],H,_=>
  have hTa:=H.snd a (by simp);have hTb:=H.snd b (by simp);have hab:=Ik H.sort;have hcov:∀ y,T y->y=a\/y=b\/ltB b y:=λ y hy=>by
   rcases H.cov y hy with h|⟨_,h⟩
   ·simp at h;rcases h with h|h<;>simp[h]
   ·exact .inr (.inr (h b (by simp)))
  by_cases h1:ltB x a
  ·refine⟨[x,a],λ n=>?_,by simp,SS h1,λ y hy=>?_,λ y hy=>?_⟩
   ·unfold C6;have e1:Op.bytesLess x a=true:=h1;simp[idx,e1]
   ·simp only[List.mem_cons,List.not_mem_nil,or_false]at hy;rcases hy with rfl|rfl
    ·exact .inr rfl
    ·exact .inl hTa
   ·rcases hy with hy|rfl
    ·rcases hcov y hy with rfl|rfl|h
     ·simp
     ·refine .inr ⟨rfl,λ z hz=>?_⟩;simp only[List.mem_cons,List.not_mem_nil,or_false]at hz;rcases hz with rfl|rfl
      ·exact CF h1 hab
      ·exact hab
     ·refine .inr ⟨rfl,λ z hz=>?_⟩;simp only[List.mem_cons,List.not_mem_nil,or_false]at hz;rcases hz with rfl|rfl
      ·exact CF h1 (CF hab h)
      ·exact CF hab h
    ·simp
  ·have e1:Op.bytesLess x a=false:=by simpa [ltB]using h1
   by_cases h2:x=a
   ·subst h2;refine⟨[x,b],λ n=>?_,by simp,H.sort,λ y hy=>.inl (H.snd y hy),λ y hy=>?_⟩
    ·unfold C6;simp[idx,e1]
    ·rcases hy with hy|rfl
     ·exact H.cov y hy
     ·simp
   ·have h3:ltB a x:=by
     rcases Gl a x with h|h|h
     ·exact absurd h.symm h2
     ·exact h
     ·exact absurd h h1
    by_cases h4:ltB x b
    ·refine⟨[a,x],λ n=>?_,by simp,SS h3,λ y hy=>?_,λ y hy=>?_⟩
     ·unfold C6;have e2:Op.bytesLess x b=true:=h4;simp[idx,e1,h2,e2]
     ·simp only[List.mem_cons,List.not_mem_nil,or_false]at hy;rcases hy with rfl|rfl
      ·exact .inl hTa
      ·exact .inr rfl
     ·rcases hy with hy|rfl
      ·rcases hcov y hy with rfl|rfl|h
       ·simp
       ·refine .inr ⟨rfl,λ z hz=>?_⟩;simp only[List.mem_cons,List.not_mem_nil,or_false]at hz;rcases hz with rfl|rfl
        ·exact hab
        ·exact h4
       ·refine .inr ⟨rfl,λ z hz=>?_⟩;simp only[List.mem_cons,List.not_mem_nil,or_false]at hz;rcases hz with rfl|rfl
        ·exact CF hab h
        ·exact CF h4 h
      ·simp
    ·have e2:Op.bytesLess x b=false:=by simpa [ltB]using h4
     refine⟨[a,b],λ n=>?_,by simp,H.sort,λ y hy=>.inl (H.snd y hy),λ y hy=>?_⟩
     ·unfold C6;simp[idx,e1,e2]
     ·rcases hy with hy|rfl
      ·exact H.cov y hy
      ·rcases Gl y b with h|h|h
       ·left;simp[h]
       ·exact absurd h h4
       ·refine .inr ⟨rfl,λ z hz=>?_⟩;simp only[List.mem_cons,List.not_mem_nil,or_false]at hz;rcases hz with rfl|rfl
        ·exact CF hab h
        ·exact h
theorem Rn.rest {A:Nat->Ac->Prop} (k:Nat) (r:List Int):Rn A (k,r) r [] (k,[]):=by
 induction r with
 | nil=>exact .nil _
 | cons c r ih=>have:=Rn.cons (Sp.rest (A:=A) k c r) ih;simpa using this
theorem Rn.arc {A:Nat->Ac->Prop} {k:Nat} {a:Ac} (h:A k a) (hc:a.c≠[]):Rn A (k,[]) a.c a.p (a.to,[]):=by
 cases hcc:a.c with
 | nil=>exact absurd hcc hc
 | cons c r=>have:=Rn.cons (Sp.arc h hcc) (Rn.rest (A:=A) a.to r);simpa using this
theorem Rn.skip {A:Nat->Ac->Prop} {k k':Nat}:∀ {r w:List Int} {x:List UInt8},Rn A (k,r) w x (k',[])->∃ w',w=r++w'/\Rn A (k,[]) w' x (k',[])
 | [],w,x,h=>⟨w,rfl,h⟩
 | c::r,[],x,h=>by have:=h.inv0.1;cases this
 | c::r,c'::w,x,h=>by
  obtain⟨h1,p,y,s,h2,rfl⟩:=h.inv;rcases s.inv with⟨r',e1,rfl,rfl⟩|⟨e1,_⟩
  ·have e1:c::r=c'::r':=e1;cases e1;obtain⟨w',rfl,h3⟩:=Rn.skip h2;exact⟨w',rfl,h3⟩
  ·cases e1
theorem En.arcs {A:Nat->Ac->Prop} {acc:Nat->Prop} (hA:∀ k a,A k a->a.c≠[]) {k:Nat} {v:List Int} {x:List UInt8}:En A acc (k,[]) v x↔(v=[]/\x=[]/\acc k)\/∃ a v' x',A k a/\v=a.c++v'/\x=a.p++x'/\En A acc (a.to,[]) v' x':=by
 constructor
 ·rintro⟨k',h1,h2⟩;cases v with
  | nil=>
   obtain⟨e1,e2⟩:=h1.inv0;cases e1;exact .inl ⟨rfl,e2,h2⟩
  | cons c v=>
   obtain⟨h,p,y,s,r,rfl⟩:=h1.inv;rcases s.inv with⟨r',e1,_⟩|⟨_,a,r',ha,hc,rfl,rfl⟩
   ·cases e1
   ·obtain⟨w',rfl,h3⟩:=Rn.skip r;exact .inr ⟨a,w',y,ha,by rw[hc];rfl,rfl,k',h3,h2⟩
 ·rintro (⟨rfl,rfl,h⟩|⟨a,v',x',ha,rfl,rfl,k',h1,h2⟩)
  ·exact⟨k,.nil _,h⟩
  ·exact⟨k',(Rn.arc ha (hA k a ha)).app h1,h2⟩
variable {g:As} {S:Nat} {CL:List (List Int)}
theorem GW.ne (hw:GW g S CL):∀ k a,Ag g k a->a.c≠[]:=by
 rintro k a ⟨l,x,h1,h2,rfl⟩ h;have:=(hw.clc _ (hw.arc _ l h1 x h2).1).1;simp only at h;rw[h]at this;simp at this
theorem JiW (hw:GW g S CL) {h:Hf} {w:List Int} {x:List UInt8} (H:En (Ag g) (Acg g) h w x):x.length<=4*w.length:=by
 obtain⟨k,h1,_⟩:=H;exact Xd hw h1
theorem Zw (l h:List Int) (hl:h.length<9000000000):Tot (λ n=>HG n l h) (λ r=>r=true↔h <+: l):=by
 unfold HG;refine Tot.ite (λ hc=>Jlx ?_) λ hc=>?_
 ·have hc:l.length<h.length:=by simpa using hc
  exact⟨λ h=>(by cases h),λ hp=>by have:=hp.length_le;omega⟩
 ·have hc:h.length<=l.length:=by simpa using hc
  refine Tot.bind (R:=λ y=>match y with
   | .inl _=>h <+: l
   | .inr z=>z=false/\¬h <+: l) ?_ λ y hy=>?_
  ·refine Tot.upto (body:=λ n (x:Int)=>EU n l h x) h.length (λ i x=>x=(i:Int)/\h.take i=l.take i) ?_ ?_ _ ⟨rfl,rfl⟩
   ·rintro i _ hi ⟨rfl,hI⟩;unfold EU;have hil:i<l.length:=by omega
    refine Tot.iteT (by simp;omega) (Tot.bindC (A8 hi) (Tot.bindC (A8 hil) (Tot.ite (λ hne=>Jlx ⟨rfl,λ hp=>?_⟩) λ heq=>Jlx ⟨Bg (by omega),?_⟩)))
    ·have hne:l[i]≠h[i]:=by simpa using hne
     obtain⟨t,rfl⟩:=hp;exact hne (List.getElem_append_left hi)
    ·have heq:l[i]=h[i]:=by simpa using heq
     rw[List.take_add_one,List.take_add_one,hI,JlZ hi,JlZ hil,heq]
   ·rintro _ ⟨rfl,hI⟩;unfold EU;rw[List.take_length]at hI;refine Tot.iteF (by simp) (Jlx ?_);show h <+: l;rw[hI];exact List.take_prefix _ _
  ·cases y with
   | inl _=>exact Jlx ⟨λ _=>hy,λ _=>rfl⟩
   | inr z=>
    obtain⟨rfl,h1⟩:=hy;exact Jlx ⟨λ h=>(by cases h),λ h=>absurd h h1⟩
end Go.AI
end
section
namespace Go.AI
theorem VZ (n:Nat):Bl (n:Int) 5=((n % 5:Nat):Int):=by
 rw[(SJ (a:=(n:Int)) (m:=5) (by omega) (by omega)).1];omega
theorem Ff.rest {two rest:List (List UInt8)} {T0 T1:List UInt8->Prop} (p:List UInt8) (h:Ff two (λ x=>T0 x\/∃ y∈rest,x=p++y)) (hr:Ff rest T1):Ff two (λ x=>T0 x\/∃ y,T1 y/\x=p++y):=by
 refine⟨h.len,h.sort,λ x hx=>?_,λ x hx=>?_⟩
 ·rcases h.snd x hx with h1|⟨y,h1,h2⟩
  ·exact .inl h1
  ·exact .inr ⟨y,hr.snd y h1,h2⟩
 ·rcases hx with hx|⟨y,hy,rfl⟩
  ·exact h.cov x (.inl hx)
  ·rcases hr.cov y hy with h1|⟨h1,h2⟩
   ·exact h.cov _ (.inr ⟨y,h1,rfl⟩)
   ·match rest,h1,h2,h,hr with
    | [a,b],_,h2,h,hr=>
     have hab:=Ik hr.sort;have ha:=(Ui p).2 (h2 a (by simp));have hb:=(Ui p).2 (h2 b (by simp));have hpp:=(Ui p).2 hab;rcases h.cov (p++a) (.inr ⟨a,by simp,rfl⟩)with c1|⟨c1,c2⟩
     ·rcases h.cov (p++b) (.inr ⟨b,by simp,rfl⟩)with d1|⟨d1,d2⟩
      ·right;have hne:p++a≠p++b:=λ e=>by rw[e]at hpp;exact DF _ hpp
       match two,h.len,c1,d1 with
       | [],_,c1,_=>simp at c1
       | [x],_,c1,d1=>
        simp only[List.mem_cons,List.not_mem_nil,or_false]at c1 d1;exact absurd (c1.trans d1.symm) hne
       | [x,z],_,c1,d1=>
        refine⟨rfl,λ q hq=>?_⟩;simp only[List.mem_cons,List.not_mem_nil,or_false]at c1 d1 hq;have:q=p++a\/q=p++b:=by
         rcases c1 with c1|c1<;>rcases d1 with d1|d1
         ·exact absurd (c1.trans d1.symm) hne
         ·rcases hq with rfl|rfl
          ·exact .inl c1.symm
          ·exact .inr d1.symm
         ·rcases hq with rfl|rfl
          ·exact .inr d1.symm
          ·exact .inl c1.symm
         ·exact absurd (c1.trans d1.symm) hne
        rcases this with rfl|rfl
        ·exact ha
        ·exact hb
      ·exact .inr ⟨d1,λ q hq=>CF (d2 q hq) hb⟩
     ·exact .inr ⟨c1,λ q hq=>CF (c2 q hq) ha⟩
variable {g:As} {S:Nat} {CL:List (List Int)}
def ST (g:As) (S:Nat) (cells:List Int) (j:Nat) (col:List (List (List UInt8))):Prop:=col.length=S/\∀ (k:Nat) two,col[k]?=some two->Ff two (En (Ag g) (Acg g) (k,[]) (cells.drop j))
theorem Zx {cells:List Int} {cols:List (List (List (List UInt8)))} {i3:Int} {x32 col:List (List (List UInt8))} {x15:Int} {x33:List Fv} {x16:Int} {a:Fv} {rest two:List (List UInt8)} {T0:List UInt8->Prop} (hrl:rest.length<=2) (hl:∀ y∈rest,a.Print.length+y.length<=9223372036854775807) (h:Ff two T0) :
  Tot (λ n=>whl (λ (x:((List (List UInt8))×Int))=>Cb n g cells cols i3 x32 col x15 x33 x16 a rest x.1 x.2) n (two,0)) (λ r=>Ff r (λ x=>T0 x\/∃ y∈rest,x=a.Print++y)):=by
 refine Tot.upto (body:=λ n (x:((List (List UInt8))×Int))=>Cb n g cells cols i3 x32 col x15 x33 x16 a rest x.1 x.2) rest.length (λ p x=>x.2=(p:Int)/\Ff x.1 (λ x=>T0 x\/∃ y∈rest.take p,x=a.Print++y)) ?_ ?_ _ ⟨rfl,h.congr λ x=>by simp⟩
 ·rintro p ⟨tw,_⟩ hp ⟨rfl,hI⟩;unfold Cb;obtain⟨r,hr1,hr2⟩:=Zv hI (a.Print++rest[p]);refine Tot.iteT (by simp;omega) (Tot.bindC (A8 hp) (Tot.bindC (Ri (hl _ (JlL hp))) (Jlz hr1 (Jlx ⟨Bg (by omega),hr2.congr λ x=>?_⟩))));rw[List.take_add_one,JlZ hp];simp only[Option.toList_some,List.mem_append,List.mem_singleton];constructor
  ·rintro ((h|⟨y,h1,h2⟩)|h)
   ·exact .inl h
   ·exact .inr ⟨y,.inl h1,h2⟩
   ·exact .inr ⟨_,.inr rfl,h⟩
  ·rintro (h|⟨y,h1|h1,h2⟩)
   ·exact .inl (.inl h)
   ·exact .inl (.inr ⟨y,h1,h2⟩)
   ·subst h1;exact .inr h2
 ·rintro⟨tw,_⟩ ⟨rfl,hI⟩;unfold Cb;rw[List.take_length]at hI;exact Tot.iteF (by simp) (Jlx hI)
def ByA (g:As) (cells:List Int) (i:Nat) (l:List Fv) (x:List UInt8):Prop:=∃ a∈l,∃ x',a.Cells <+: cells.drop i/\En (Ag g) (Acg g) (a.To.toNat,[]) (cells.drop (i+a.Cells.length)) x'/\x=a.Print++x'
theorem Zy (hw:GW g S CL) {cells:List Int} (hcl:cells.length<=2000000000) {cols:List (List (List (List UInt8)))} {i:Nat} (hi:i<=cells.length) (hc:∀ j,i<j->j<=i+4->j<=cells.length->∃ col,cols[j % 5]?=some col/\ST g S cells j col) {x32 col:List (List (List UInt8))} {x15:Int} {k:Nat} {l:List Fv} (hl:g.Arcs[k]?=some l) {two:List (List UInt8)} {T0:List UInt8->Prop} (h:Ff two T0) :
  Tot (λ n=>whl (λ (x:((List (List UInt8))×Int))=>Cc n g cells cols (i:Int) x32 col x15 l x.1 x.2) n (two,0)) (λ r=>Ff r (λ x=>T0 x\/ByA g cells i l x)):=by
 have hll:=hw.al _ l hl;refine Tot.upto (body:=λ n (x:((List (List UInt8))×Int))=>Cc n g cells cols (i:Int) x32 col x15 l x.1 x.2) l.length (λ m x=>x.2=(m:Int)/\Ff x.1 (λ x=>T0 x\/ByA g cells i (l.take m) x)) ?_ ?_ _ ⟨rfl,h.congr λ x=>by simp[ByA]⟩
 ·rintro m ⟨tw,_⟩ hm ⟨rfl,hI⟩;unfold Cc Du;have ham:=JlL hm;obtain⟨a1,a2,ja,a3,a4⟩:=hw.arc _ l hl _ ham;obtain⟨c1,c2,_⟩:=hw.clc _ a1;refine Tot.iteT (by simp;omega) (Tot.bindC (A8 hm) ?_);have htake:l.take (m+1)=l.take m++[l[m]]:=by rw[List.take_add_one,JlZ hm];rfl
  generalize hae:l[m]=a at *;have hsub:sub cells (i:Int) ((cells.length:Nat):Int)=some (cells.drop i):=by
   rw[Jci (by omega) (by omega) (by omega)];simp
  refine Tot.bindC hsub (Tot.bind (Zw (cells.drop i) a.Cells (by omega)) λ b hb=>?_);have hsplit:∀ x,ByA g cells i (l.take (m+1)) x↔ByA g cells i (l.take m) x\/∃ x',a.Cells <+: cells.drop i/\En (Ag g) (Acg g) (a.To.toNat,[]) (cells.drop (i+a.Cells.length)) x'/\x=a.Print++x':=λ x=>by
   unfold ByA;rw[htake];simp only[List.mem_append,List.mem_singleton];constructor
   ·rintro⟨b,h1|rfl,h2⟩
    ·exact .inl ⟨b,h1,h2⟩
    ·exact .inr h2
   ·rintro (⟨b,h1,h2⟩|h2)
    ·exact⟨b,.inl h1,h2⟩
    ·exact⟨a,.inr rfl,h2⟩
  refine Tot.ite (λ hf=>?_) λ ht=>?_
  ·have hnp:¬a.Cells <+: cells.drop i:=λ h=>by rw[hb.2 h]at hf;cases hf
   refine Jlx ⟨Bg (by omega),hI.congr λ x=>?_⟩;rw[hsplit];constructor
   ·rintro (h|h)
    ·exact .inl h
    ·exact .inr (.inl h)
   ·rintro (h|h|⟨_,h,_⟩)
    ·exact .inl h
    ·exact .inr h
    ·exact absurd h hnp
  ·have hp:a.Cells <+: cells.drop i:=hb.1 (by simpa using ht);have hpl:=hp.length_le;rw[List.length_drop]at hpl;obtain⟨col2,q1,q2,q3⟩:=hc (i+a.Cells.length) (by omega) (by omega) (by omega);have e1:Be .i64 (i:Int) ((a.Cells.length:Nat):Int)=((i+a.Cells.length:Nat):Int):=by rw[Jch (by omega) (by omega)];omega
   rw[e1,VZ,VZ];have hja:ja<col2.length:=by rw[q2];exact a4
   obtain⟨rest,hrest⟩:∃ rest,col2[ja]?=some rest:=⟨_,JlZ hja⟩;have hT:=q3 ja rest hrest;refine Tot.bindC (Dh (by simp;omega)) (Tot.bindC (DE q1) (Tot.bindC (Dh (by simp;omega)) (Tot.bindC (y:=rest) (by rw[a3];exact DE hrest) ?_)));refine Tot.bind (Zx hT.len (λ y hy=>?_) hI) λ r hr=>Jlx ⟨Bg (by omega),(hr.rest a.Print hT).congr λ x=>?_⟩
   ·have:=JiW hw (hT.snd y hy);rw[List.length_drop]at this;omega
   ·rw[hsplit,a3,Jl8];constructor
    ·rintro ((h|h)|⟨y,h1,h2⟩)
     ·exact .inl h
     ·exact .inr (.inl h)
     ·exact .inr (.inr ⟨y,hp,h1,h2⟩)
    ·rintro (h|h|⟨y,_,h1,h2⟩)
     ·exact .inl (.inl h)
     ·exact .inl (.inr h)
     ·exact .inr ⟨y,h1,h2⟩
 ·rintro⟨tw,_⟩ ⟨rfl,hI⟩;unfold Cc;rw[List.take_length]at hI;exact Tot.iteF (by simp) (Jlx hI)
theorem JiX (hw:GW g S CL) {cells:List Int} {i:Nat} (hi:i<=cells.length) {k:Nat} {l:List Fv} (hl:g.Arcs[k]?=some l) (x:List UInt8):En (Ag g) (Acg g) (k,[]) (cells.drop i) x↔(i=cells.length/\x=[]/\Acg g k)\/ByA g cells i l x:=by
 rw[En.arcs hw.ne];constructor
 ·rintro (⟨h1,h2,h3⟩|⟨a,v',x',⟨l',y,h1,h2,rfl⟩,h3,h4,h5⟩)
  ·have:=congrArg List.length h1;simp only[List.length_drop,List.length_nil]at this;exact .inl ⟨by omega,h2,h3⟩
  ·rw[hl]at h1;cases h1;refine .inr ⟨y,h2,x',⟨v',h3.symm⟩,?_,h4⟩;rw[← List.drop_drop,h3];simpa using h5
 ·rintro (⟨h1,h2,h3⟩|⟨a,h1,x',⟨v',h2⟩,h3,h4⟩)
  ·exact .inl ⟨by rw[h1];simp,h2,h3⟩
  ·refine .inr ⟨⟨a.Print,a.Cells,a.To.toNat⟩,v',x',⟨l,a,hl,h1,rfl⟩,h2.symm,h4,?_⟩;rw[← List.drop_drop,← h2]at h3;simpa using h3
theorem Zz (hw:GW g S CL) {cells:List Int} (hcl:cells.length<=2000000000) {cols:List (List (List (List UInt8)))} {i:Nat} (hi:i<=cells.length) (hc:∀ j,i<j->j<=i+4->j<=cells.length->∃ col,cols[j % 5]?=some col/\ST g S cells j col) {x32:List (List (List UInt8))} (hx:x32.length=S) :
  Tot (λ n=>whl (λ (x:((List (List (List UInt8)))×Int))=>Cd n g cells cols (i:Int) x32 x.1 x.2) n (x32,0)) (λ r=>∃ col,r=List.set cols (i % 5) col/\ST g S cells i col):=by
 have hsm:=hw.small;refine Tot.upto (body:=λ n (x:((List (List (List UInt8)))×Int))=>Cd n g cells cols (i:Int) x32 x.1 x.2) S (λ k x=>x.2=(k:Int)/\x.1.length=S/\∀ (k':Nat) two,k'<k->x.1[k']?=some two->Ff two (En (Ag g) (Acg g) (k',[]) (cells.drop i))) ?_ ?_ _ ⟨rfl,hx,λ k' two h=>by omega⟩
 ·rintro k ⟨col,_⟩ hk ⟨rfl,hcl2,hI⟩;simp only at hcl2 hI;unfold Cd;obtain⟨b,hb⟩:=hw.acc k hk;have hka:k<g.Arcs.length:=by rw[hw.len];exact hk
  have ha:=JlZ hka;have hkc:k<col.length:=by omega
  have main:∀ two,Ff two (λ x=>i=cells.length/\x=[]/\Acg g k)->Tot (λ n=>CP n g cells cols (i:Int) x32 col (k:Int) two) (Rd2 (λ x=>x.2=((k+1:Nat):Int)/\x.1.length=S/\∀ (k':Nat) two,k'<k+1->x.1[k']?=some two->Ff two (En (Ag g) (Acg g) (k',[]) (cells.drop i))) (λ r=>∃ col,r=List.set cols (i % 5) col/\ST g S cells i col)):=λ two h2=>by
   unfold CP;refine Tot.bindC (DE ha) (Tot.bind (Zy hw hcl hi hc ha h2) λ r hr=>Tot.bindC (A8 hkc) (Tot.bindC (Jw hkc) (Jlx ⟨Bg (by omega),by simpa using hcl2,λ k' two' hk' h'=>?_⟩)));simp only[List.getElem?_set]at h';by_cases e:k=k'
   ·subst e;rw[if_pos rfl,if_pos hkc]at h';cases h';exact hr.congr λ x=>(JiX hw hi ha x).symm
   ·rw[if_neg e]at h';exact hI k' two' (by omega) h'
  refine Tot.iteT (by simp;omega) (Tot.bindC (Xf (DE hb)) (Tot.ite (λ ht=>main _ ?_) λ hf=>main _ ?_))
  ·simp only[Jl0,beq_iff_eq]at ht;obtain⟨h1,h2⟩:=ht;have h1':i=cells.length:=by omega
   rw[if_pos h1]at h2;subst h2;refine⟨by simp,JcK [],λ x hx=>?_,λ x hx=>.inl (by simp[hx.2.1])⟩;simp only[List.mem_singleton]at hx;exact⟨h1',hx,hb⟩
  ·refine⟨by simp,by unfold FS;simp,λ x hx=>by simp at hx,λ x hx=>?_⟩;exfalso;obtain⟨h1,_,h3⟩:=hx;have h1':((i:Int)==((cells.length:Nat):Int))=true:=by rw[h1];simp
   unfold Acg at h3;rw[hb]at h3;rw[h1',if_pos rfl,Option.some.inj h3]at hf;cases hf
 ·rintro⟨col,_⟩ ⟨rfl,hcl2,hI⟩;simp only at hcl2 hI;unfold Cd;refine Tot.iteF (by simp;omega) (Jlx ⟨col,by rw[VZ,Jl8],hcl2,λ k two h=>hI k two (by have:=Am h;omega) h⟩)
theorem JcL (hw:GW g S CL) {cells:List Int} (hcl:cells.length<=2000000000):Tot (λ n=>E5 n g cells) (λ r=>Ff r (En (Ag g) (Acg g) (0,[]) cells)):=by
 have hsm:=hw.small;have hlen:=hw.len;unfold E5;refine Tot.bind (R:=λ cols=>cols.length=5/\∀ (q:Nat) col,cols[q]?=some col->col.length=S) ?_ λ cols hcols=>?_
 ·refine Tot.upto (body:=λ n (x:((List (List (List (List UInt8))))×Int))=>CO n g cells x.1 x.2) 5 (λ i x=>x.2=(i:Int)/\x.1.length=5/\∀ (q:Nat) col,q<i->x.1[q]?=some col->col.length=S) ?_ ?_ _ ⟨rfl,rfl,λ q col h=>by omega⟩
  ·rintro i ⟨cols,_⟩ hi ⟨rfl,h5,hI⟩;simp only at h5 hI;unfold CO;refine Tot.iteT (by simp;omega) (Tot.bindC (A8 (show i<cols.length by omega)) (Tot.bindC (Jcj (by omega) (by omega)) (Tot.bindC (Dh (by simp;omega)) (Jlx ⟨Bg (by omega),by simpa using h5,λ q col hq hc=>?_⟩))));simp only[Jl8,List.getElem?_set]at hc;by_cases e:i=q
   ·subst e;rw[if_pos rfl,if_pos (by omega)]at hc;cases hc;simp[hlen]
   ·rw[if_neg e]at hc;exact hI q col (by omega) hc
  ·rintro⟨cols,_⟩ ⟨rfl,h5,hI⟩;unfold CO;exact Tot.iteF (by simp) (Jlx ⟨h5,λ q col hc=>hI q col (by have:=Am hc;have:cols.length=5:=h5;have:q<cols.length:=Am hc;omega) hc⟩)
 ·obtain⟨h5,hS⟩:=hcols;refine Tot.bind (R:=λ cols=>∃ col,cols[0]?=some col/\ST g S cells 0 col) ?_ ?_
  ·refine Tot.whl (body:=λ n (x:((List (List (List (List UInt8))))×Int))=>Dv n g cells x.1 x.2) (λ k x=>x.2=(k:Int)-1/\k<=cells.length+1/\x.1.length=5/\(∀ (q:Nat) col,x.1[q]?=some col->col.length=S)/\∀ j,k<=j->j<=k+4->j<=cells.length->∃ col,x.1[j % 5]?=some col/\ST g S cells j col) ?_ (cells.length+1) _ ⟨by simp,JlO _,h5,hS,λ j h1 _ h2=>by omega⟩;rintro k ⟨cols,_⟩ ⟨rfl,hk,h5,hS,hI⟩;simp only at h5 hS hI⊢;unfold Dv;cases k with
   | zero=>
    obtain⟨col,h1,h2⟩:=hI 0 (by omega) (by omega) (by omega);exact Tot.iteF (by simp) (Jlx ⟨col,h1,h2⟩)
   | succ i=>
    have e:((i+1:Nat):Int)-1=(i:Int):=by omega
    rw[e];have hi5:i % 5<cols.length:=by omega
    have hx:=JlZ hi5;refine Tot.iteT (by simp) (Tot.bindC (y:=cols[i % 5]) (by rw[VZ];exact DE hx) (Tot.bindC (Dh (by rw[VZ];simp;omega)) (Tot.bind (Zz hw hcl (by omega) (λ j h1 h2 h3=>hI j (by omega) (by omega) h3) (hS _ _ hx)) ?_)));rintro _ ⟨col,rfl,hcol⟩;refine Jlx ⟨i,by omega,?_,by omega,by simpa using h5,λ q col' hq=>?_,λ j h1 h2 h3=>?_⟩
    ·show C4 .i64 (i:Int) 1=_;rw[Rj (by omega) (by omega)]
    ·simp only[List.getElem?_set]at hq;split at hq
     ·first|(cases hq;exact hcol.1)|(split at hq<;>first|(cases hq;exact hcol.1)|cases hq)
     ·exact hS q col' hq
    ·simp only[List.getElem?_set];by_cases ej:j=i
     ·subst ej;exact⟨col,by rw[if_pos rfl,if_pos hi5],hcol⟩
     ·rw[if_neg (by omega)];exact hI j (by omega) (by omega) h3
  ·rintro cols ⟨col,h1,h2,h3⟩;have h0:0<col.length:=by rw[h2];exact hw.pos
   have hc0:=JlZ h0;exact Tot.bindC (DE (i:=0) h1) (Tot.bindC (Dh (by simp)) (Tot.bindC (DE (i:=0) hc0) (Jlx (by have:=h3 0 _ hc0;simpa using this))))
end Go.AI
end
section
namespace Go.AI
def WrT (t:Ab) (w:List Int) (x:List UInt8):Prop:=∃ p s,Rm t G5 p s/\Bu t s=true/\cellsOf t p=w/\Jz t p=x
def Ht (t:Ab) (w:List Int):Prop:=∃ x y,x≠y/\WrT t w x/\WrT t w y
def V0 (t:Ab) (w:List Int):Prop:=Ht t w/\∀ u,Ht t u->¬ltW u w
structure TbK (t:Ab):Prop where
 tab:Hj t
 valid:Ey t=true
 pos:∀ r∈t.Rules,∀ c∈r.Cells,0<=c
theorem TbK.sound {t:Ab} (h:TbK t):∀ r∈t.Rules,Cr r t.Modes=true:=Nz h.valid
theorem TbK.small {t:Ab} (h:TbK t):G6 t:=Oe h.tab.1 λ r hr=>⟨h.tab.2 r hr,(HQ (h.sound r hr)).2.2⟩
theorem JB (t:Ab) (k:Int) (p:List Int):cellsOf t (k::p)=(Fe t k).Cells++cellsOf t p:=rfl
theorem O4 (t:Ab) (k:Int) (p:List Int):Jz t (k::p)=(Fe t k).Print++Jz t p:=rfl
theorem JcM {t:Ab} (ht:TbK t) {g:As} (hg:W9 t (AN t) g):GW g (AN t).length (t.Rules.map AE.Cells):=by
 obtain⟨hF,hD⟩:=CW ht.tab;refine⟨Am hF.first,hg.len,λ i hi=>⟨_,hg.acc i _ (JlZ hi)⟩,hF.len,by rw[JlU];exact ht.tab.1,λ c hc=>?_,λ i l hl=>Nat.le_trans (hg.arcs i l hl).len ht.tab.1,λ i l hl a ha=>?_⟩
 ·obtain⟨r,hr,rfl⟩:=JlR.1 hc;have h1:=HQ (ht.sound r hr);exact⟨h1.2.1,h1.2.2,λ x hx=>⟨ht.pos r hr x hx,(SO (ht.sound r hr)).2.1 x hx⟩⟩
 ·obtain⟨j,k,h1,h2,_,h4,h5⟩:=(hg.arcs i l hl).snd a ha;obtain⟨s,s',_,hk,hj,_⟩:=h2;have hm:Fe t (k:Int)∈t.Rules:=Rk (by omega) (by omega);exact⟨by rw[h5];exact JlR.2 ⟨_,hm,rfl⟩,by rw[h4];exact(HQ (ht.sound _ hm)).1,j,h1,Am hj⟩
theorem Ol {t:Ab} {st:List Ae} (hD:∀ i,Jcf t i st):∀ {p:List Int} {s s':Ae} {i:Nat},st[i]?=some s->Rm t s p s'->Bu t s'=true->Of t st i
 | [],s,s',i,hi,hg,ha=>by
  unfold Rm at hg;subst hg;exact .acc i s hi ha
 | k::p,s,s',i,hi,hg,ha=>by
  obtain⟨h1,h2⟩:=hg;obtain⟨k0,k1⟩:=NB h1;obtain⟨kn,rfl⟩:∃ kn:Nat,k=(kn:Int):=⟨k.toNat,by omega⟩;have hm:=hD (i+1) i s (by omega) hi kn (by omega) h1;obtain⟨j,hj,hje⟩:=List.mem_iff_getElem.1 hm;have hjg:st[j]?=some (By t s (kn:Int)).1:=by rw[JlZ hj,hje]
  exact .step i kn j ⟨s,_,hi,by omega,hjg,by rw[← h1]⟩ (Ol hD hjg h2 ha)
theorem X6 {t:Ab} (ht:TbK t) {g:As} (hg:W9 t (AN t) g):∀ {p:List Int} {s s':Ae} {i:Nat},(AN t)[i]?=some s->Rm t s p s'->Bu t s'=true->En (Ag g) (Acg g) (i,[]) (cellsOf t p) (Jz t p)
 | [],s,s',i,hi,hgo,ha=>by
  unfold Rm at hgo;subst hgo;exact⟨i,.nil _,by unfold Acg;rw[hg.acc i s hi,ha]⟩
 | k::p,s,s',i,hi,hgo,ha=>by
  obtain⟨hF,hD⟩:=CW ht.tab;obtain⟨h1,h2⟩:=hgo;obtain⟨k0,k1⟩:=NB h1;obtain⟨kn,rfl⟩:∃ kn:Nat,k=(kn:Int):=⟨k.toNat,by omega⟩;have hm:=hD (i+1) i s (by omega) hi kn (by omega) h1;obtain⟨j,hj,hje⟩:=List.mem_iff_getElem.1 hm;have hjg:(AN t)[j]?=some (By t s (kn:Int)).1:=by rw[JlZ hj,hje]
  have hE:Edge t (AN t) i kn j:=⟨s,_,hi,by omega,hjg,by rw[← h1]⟩;have hial:i<g.Arcs.length:=by rw[hg.len];exact Am hi
  have hl:=JlZ hial;have hc:=(hg.arcs i _ hl).cov kn j (by omega) hE (Ol hD hjg h2 ha);have hA:Ag g i ⟨prt t kn,cls t kn,j⟩:=⟨_,_,hl,hc,by simp⟩;have hw:=JcM ht hg;rw[En.arcs hw.ne];exact .inr ⟨_,cellsOf t p,Jz t p,hA,rfl,rfl,X6 ht hg hjg h2 ha⟩
theorem Jey {t:Ab} (ht:TbK t) {g:As} (hg:W9 t (AN t) g):∀ (m:Nat) {w:List Int} {x:List UInt8} {s:Ae} {i:Nat},w.length<=m->(AN t)[i]?=some s->En (Ag g) (Acg g) (i,[]) w x->∃ p s',Rm t s p s'/\Bu t s'=true/\cellsOf t p=w/\Jz t p=x:=by
 have hw:=JcM ht hg;intro m;induction m with
 | zero=>
  intro w x s i hm hi h;rw[En.arcs hw.ne]at h;rcases h with⟨rfl,rfl,h⟩|⟨a,v',x',ha,rfl,_⟩
  ·unfold Acg at h;rw[hg.acc i s hi]at h;exact⟨[],s,rfl,Option.some.inj h,rfl,rfl⟩
  ·have h1:=hw.ne _ _ ha;have h2:0<a.c.length:=List.length_pos_iff.2 h1;rw[List.length_append]at hm;omega
 | succ m ih=>
  intro w x s i hm hi h;rw[En.arcs hw.ne]at h;rcases h with⟨rfl,rfl,h⟩|⟨a,v',x',ha,rfl,rfl,h3⟩
  ·unfold Acg at h;rw[hg.acc i s hi]at h;exact⟨[],s,rfl,Option.some.inj h,rfl,rfl⟩
  ·have hne:=hw.ne _ _ ha;have hpos:0<a.c.length:=List.length_pos_iff.2 hne;obtain⟨l,y,h1,h2,rfl⟩:=ha;obtain⟨j,k,q1,q2,_,q4,q5⟩:=(hg.arcs i l h1).snd y h2;obtain⟨s0,s1,e1,e2,e3,e4⟩:=q2;rw[hi]at e1;cases e1;have hto:y.To.toNat=j:=by rw[q1];simp
   simp only[hto]at h3;simp only[List.length_append]at hm hpos;obtain⟨p,s',p1,p2,p3,p4⟩:=ih (by omega) e3 h3;refine⟨(k:Int)::p,s',⟨by rw[e4],by rw[e4];exact p1⟩,p2,?_,?_⟩
   ·rw[JB,p3,q5];rfl
   ·rw[O4,p4,q4];rfl
theorem Xj {t:Ab} (ht:TbK t) {g:As} (hg:W9 t (AN t) g) (w:List Int) (x:List UInt8):En (Ag g) (Acg g) (0,[]) w x↔WrT t w x:=by
 have h0:=(CW ht.tab).1.first;constructor
 ·intro h;obtain⟨p,s',h1,h2,h3,h4⟩:=Jey ht hg _ (JlO _) h0 h;exact⟨p,s',h1,h2,h3,h4⟩
 ·rintro⟨p,s',h1,h2,rfl,rfl⟩;exact X6 ht hg h0 h1 h2
theorem Uj {t:Ab} (ht:TbK t) {g:As} (hg:W9 t (AN t) g) (w:List Int):Amb (Ag g) (Acg g) w↔Ht t w:=by
 unfold Amb Ht;simp only[Xj ht hg]
def MH (t:Ab) (r:Bk×Int):Prop:=(r=(⟨[],[],[]⟩,0)/\∀ w,¬Ht t w)\/(r.2=50/\V0 t r.1.Cells/\Ff [r.1.A,r.1.B] (WrT t r.1.Cells)/\r.1.Cells.length<=1400000000)
theorem SU {t:Ab} (ht:TbK t):Tot (λ n=>Br n t) (MH t):=by
 unfold Br;refine Jly (SM ht.small) (Tot.iteF (by rw[ht.valid];rfl) (Tot.bind (JcA ht.tab) λ g hg=>Jlz (y:=()) (λ n=>rfl) ?_));have hw:=JcM ht hg;have h0:=(CW ht.tab).1.first;refine Tot.bind (VY hw λ hf w x hx=>?_) λ r hr=>?_
 ·rw[Xj ht hg]at hx;obtain⟨p,s',h1,h2,_⟩:=hx;rw[hg.alive.2 (Ol (CW ht.tab).2 h0 h1 h2)]at hf;cases hf
 ·rcases hr with⟨h1,h2,h3⟩|⟨h1,h2⟩
  ·refine Tot.iteF (by rw[h1];rfl) (Tot.bind (JcL hw (by omega)) λ two htwo=>?_);have htwo:=htwo.congr (Xj ht hg _);have hamb:V0 t r.2.2.1:=⟨(Uj ht hg _).1 h2.1,λ u hu=>h2.2 u ((Uj ht hg u).2 hu)⟩;obtain⟨x,y,hxy,hx,hy⟩:=hamb.1
   match two,htwo with
   | [],htwo=>rcases htwo.cov x hx with h|⟨h,_⟩<;>simp at h
   | [a],htwo=>
    have e:∀ z,WrT t r.2.2.1 z->z=a:=λ z hz=>by
     rcases htwo.cov z hz with h|⟨h,_⟩
     ·simpa using h
     ·simp at h
    exact absurd ((e x hx).trans (e y hy).symm) hxy
   | [a,b],htwo=>
    exact Tot.iteF (by simp) (Tot.bindC (y:=a) rfl (Tot.bindC (y:=b) rfl (Jlx (.inr ⟨rfl,hamb,htwo,h3⟩))))
   | a::b::c::l,htwo=>have:=htwo.len;simp at this
  ·exact Tot.iteT (by rw[h1];rfl) (Jlx (.inl ⟨rfl,λ w hw'=>h2 w ((Uj ht hg w).2 hw')⟩))
end Go.AI
end
section
namespace Go.AI
theorem NF {σ ρ:Type} {body:σ->Option (σ⊕ρ)} (I:σ->Prop) (P:ρ->Prop) (h1:∀ x y,I x->body x=some (.inl y)->I y) (h2:∀ x r,I x->body x=some (.inr r)->P r):∀ (n:Nat) (x:σ) (r:ρ),I x->whl body n x=some r->P r
 | 0,_,_,_,h=>by cases h
 | n+1,x,r,hI,h=>by
  unfold whl at h;cases hb:body x with
  | none=>rw[hb]at h;cases h
  | some y=>
   rw[hb]at h;cases y with
   | inl y=>exact NF I P h1 h2 n y r (h1 x y hI hb) h
   | inr z=>cases h;exact h2 x _ hI hb
def Pm (r:AE):Prop:=∀ c∈r.Cells,0<=c
theorem X7 {α:Type} {l:List α} {i:Int} {x:α} (h:idx l i=some x):x∈l:=Jl1 (CM h).2.2
theorem X8 {i x:Int} (h:idx ([1,3,9,5,7,32,44,60]:List Int) i=some x):0<=x:=by
 have:=X7 h;simp only[List.mem_cons,List.not_mem_nil,or_false]at this;omega
theorem JcN {n:Nat} {x:C0} {m:Int} {r:AE} (h:IB n x m=some r):Pm r:=by
 unfold IB at h;obtain⟨a,_,h⟩:=bind_some h;obtain⟨b,_,h⟩:=bind_some h;obtain⟨_,_,h⟩:=bind_some h;obtain⟨_,_,h⟩:=bind_some h;obtain⟨y,_,h⟩:=bind_some h;obtain⟨c,hc,h⟩:=bind_some h;obtain⟨z,hz,h⟩:=bind_some h;cases h;refine NF (λ y=>Pm y.1) Pm (λ x' y hI hb=>?_) (λ x' r hI hb=>?_) n _ _ ?_ hz
 ·unfold Dl at hb;rcases Ei hb with⟨_,hb⟩|⟨_,hb⟩
  ·obtain⟨a,_,hb⟩:=bind_some hb;obtain⟨c,hc,hb⟩:=bind_some hb;obtain⟨l,hl,hb⟩:=bind_some hb;cases hb;obtain⟨_,rfl⟩:=Iv hl;intro d hd;rcases List.mem_append.1 hd with hd|hd
   ·exact hI d hd
   ·simp only[List.mem_singleton]at hd;rw[hd];exact X8 hc
  ·cases hb
 ·unfold Dl at hb;rcases Ei hb with⟨_,hb⟩|⟨_,hb⟩
  ·obtain⟨a,_,hb⟩:=bind_some hb;obtain⟨c,hc,hb⟩:=bind_some hb;obtain⟨l,hl,hb⟩:=bind_some hb;cases hb
  ·cases hb;exact hI
 ·intro d hd;simp only[List.mem_singleton]at hd;rw[hd];exact X8 hc
theorem JcO {r:Int} (h:0<=r) (h':r<8):∀ x∈(Mi r).Rules,Pm x:=by
 have:∀ k:Nat,k<8->((Mi (k:Int)).Rules.all λ x=>x.Cells.all λ c=>decide (0<=c))=true:=by decide +kernel
 have e:=this r.toNat (by omega);rw[Int.toNat_of_nonneg h]at e;intro x hx c hc;have h1:=JlJ.1 (JlJ.1 e x hx) c hc;simpa using h1
theorem JcP {n:Nat} {x:JZ} (hx:0<=x.Base) {t:Ab} (h:GI n x=some t):∀ r∈t.Rules,Pm r:=by
 unfold GI at h;obtain⟨b,hb,h⟩:=bind_some h;obtain⟨t1,h1,h⟩:=bind_some h;obtain⟨t2,h2,h⟩:=bind_some h;obtain⟨e1,e2,e3⟩:=Ly n x.Base hx;rw[e1]at hb;cases hb;have hbp:=JcO e2 e3;have ht1:∀ r∈t1.Rules,Pm r:=by
  refine NF (λ y=>∀ r∈y.1.Rules,Pm r) (λ y=>∀ r∈y.Rules,Pm r) (λ x' y hI hb=>?_) (λ x' r hI hb=>?_) n _ _ (by simp) h1
  ·unfold Dm Em at hb;rcases Ei hb with⟨_,hb⟩|⟨_,hb⟩
   ·obtain⟨_,_,hb⟩:=bind_some hb;rcases Ei hb with⟨_,hb⟩|⟨_,hb⟩
    ·obtain⟨a,ha,hb⟩:=bind_some hb;obtain⟨l,hl,hb⟩:=bind_some hb;cases hb;obtain⟨_,rfl⟩:=Iv hl;intro r hr;rcases List.mem_append.1 hr with hr|hr
     ·exact hI r hr
     ·simp only[List.mem_singleton]at hr;rw[hr];exact hbp a (X7 ha)
    ·cases hb;exact hI
   ·cases hb
  ·unfold Dm Em at hb;rcases Ei hb with⟨_,hb⟩|⟨_,hb⟩
   ·obtain⟨_,_,hb⟩:=bind_some hb;rcases Ei hb with⟨_,hb⟩|⟨_,hb⟩
    ·obtain⟨a,ha,hb⟩:=bind_some hb;obtain⟨l,hl,hb⟩:=bind_some hb;cases hb
    ·cases hb
   ·cases hb;exact hI
 have ht2:∀ r∈t2.Rules,Pm r:=by
  refine NF (λ y=>∀ r∈y.1.Rules,Pm r) (λ y=>∀ r∈y.Rules,Pm r) (λ x' y hI hb=>?_) (λ x' r hI hb=>?_) n _ _ ht1 h2
  ·unfold Dn Eo at hb;rcases Ei hb with⟨_,hb⟩|⟨_,hb⟩
   ·obtain⟨a,_,hb⟩:=bind_some hb;obtain⟨r1,hr1,hb⟩:=bind_some hb;obtain⟨l,hl,hb⟩:=bind_some hb;obtain⟨v,_,hb⟩:=bind_some hb;obtain⟨_,rfl⟩:=Iv hl;have hall:∀ r∈x'.1.Rules++[r1],Pm r:=λ r hr=>by
     rcases List.mem_append.1 hr with hr|hr
     ·exact hI r hr
     ·simp only[List.mem_singleton]at hr;rw[hr];exact JcN hr1
    rcases Ei hb with⟨_,hb⟩|⟨_,hb⟩
    ·obtain⟨l2,hl2,hb⟩:=bind_some hb;cases hb;intro r hr;unfold sub at hl2;split at hl2
     ·cases hl2;exact hall r (List.mem_of_mem_take (List.mem_of_mem_drop hr))
     ·cases hl2
    ·cases hb;exact hall
   ·cases hb
  ·unfold Dn Eo at hb;rcases Ei hb with⟨_,hb⟩|⟨_,hb⟩
   ·obtain⟨a,_,hb⟩:=bind_some hb;obtain⟨r1,hr1,hb⟩:=bind_some hb;obtain⟨l,hl,hb⟩:=bind_some hb;obtain⟨v,_,hb⟩:=bind_some hb;rcases Ei hb with⟨_,hb⟩|⟨_,hb⟩
    ·obtain⟨l2,hl2,hb⟩:=bind_some hb;cases hb
    ·cases hb
   ·cases hb;exact hI
 unfold Fl at h;rcases Ei h with⟨_,h⟩|⟨_,h⟩
 ·cases h;exact hbp
 ·cases h;exact ht2
theorem Ev.any {α:Type} {f:Nat->Option α} {z:α} (h:Ev f z):∃ n,f n=some z:=by
 obtain⟨N,h⟩:=h;exact⟨N,h N (JlO _)⟩
structure MK (t:Ab):Prop where
 made:W8 t
 tk:TbK t
 lo:1<=t.Rules.length
 hi:t.Rules.length<=10
theorem JcQ {x:JZ} (hx:NA x):∃ t,MK t/\Ev (λ n=>GI n x) t:=by
 obtain⟨t,⟨h1,h2,h3⟩,h4⟩:=Zo hx;obtain⟨n,hn⟩:=h4.any;exact⟨t,⟨h1,⟨h1.tab,h1.valid,JcP hx.1 hn⟩,h2,h3⟩,h4⟩
theorem V0.uniq {t u:Ab} (h:∀ w x,WrT t w x↔WrT u w x) {w v:List Int} (hw:V0 t w) (hv:V0 u v):w=v:=by
 have ha:∀ z,Ht t z↔Ht u z:=λ z=>by unfold Ht;simp only[h]
 rcases Jes w v with h1|h1|h1
 ·exact absurd h1 (hv.2 w ((ha w).1 hw.1))
 ·exact h1
 ·exact absurd h1 (hw.2 v ((ha v).2 hv.1))
theorem Ff.uniq {a b c d:List UInt8} {T:List UInt8->Prop} (h:Ff [a,b] T) (h':Ff [c,d] T):a=c/\b=d:=by
 have hab:=Ik h.sort;have hcd:=Ik h'.sort;have f:∀ {a b:List UInt8},Ff [a,b] T->∀ x,T x->x=a\/x=b\/ltB b x:=λ h x hx=>by
  rcases h.cov x hx with h1|⟨_,h1⟩
  ·simp at h1;rcases h1 with h1|h1<;>simp[h1]
  ·exact .inr (.inr (h1 _ (by simp)))
 have key:∀ {a b c d:List UInt8},Ff [a,b] T->Ff [c,d] T->¬ltB c a:=λ {a b c d} h h' hlt=>by
  rcases f h c (h'.snd c (by simp))with e|e|e
  ·rw[e]at hlt;exact DF _ hlt
  ·rw[e]at hlt;exact Oj hlt (Ik h.sort)
  ·exact Oj (CF (Ik h.sort) e) hlt
 have e1:a=c:=by
  rcases Gl a c with e|e|e
  ·exact e
  ·exact absurd e (key h' h)
  ·exact absurd e (key h h')
 subst e1;refine⟨rfl,?_⟩;have key2:∀ {a b d:List UInt8},Ff [a,b] T->Ff [a,d] T->¬ltB d b:=λ {a b d} h h' hlt=>by
  rcases f h d (h'.snd d (by simp))with e|e|e
  ·have:=Ik h'.sort;rw[e]at this;exact DF _ this
  ·rw[e]at hlt;exact DF _ hlt
  ·exact Oj e hlt
 rcases Gl b d with e|e|e
 ·exact e
 ·exact absurd e (key2 h' h)
 ·exact absurd e (key2 h h')
theorem MH.uniq {t u:Ab} (h:∀ w x,WrT t w x↔WrT u w x) {r r':Bk×Int} (hr:MH t r) (hr':MH u r'):r=r':=by
 have ha:∀ z,Ht t z↔Ht u z:=λ z=>by unfold Ht;simp only[h]
 rcases hr with⟨rfl,h1⟩|⟨h1,h2,h3,_⟩<;>rcases hr' with⟨rfl,k1⟩|⟨k1,k2,k3,_⟩
 ·rfl
 ·exact absurd ((ha _).2 k2.1) (h1 _)
 ·exact absurd ((ha _).1 h2.1) (k1 _)
 ·obtain⟨⟨c,a,b⟩,e⟩:=r;obtain⟨⟨c',a',b'⟩,e'⟩:=r';simp only at h1 h2 h3 k1 k2 k3;have hc:=V0.uniq h h2 k2;subst hc;have:=h3.uniq (k3.congr λ x=>(h c x).symm);obtain⟨rfl,rfl⟩:=this;rw[h1,k1]
theorem La (a b:Bk) (ha:a.Cells.length<9223372036854775807):Ev (λ n=>GG n a b) (decide (a=b)):=by
 unfold GG;refine Ev.guard (x:=decide (a.Cells=b.Cells)) (λ _=>Nx _ _ ha) (Ev.all λ n=>?_);obtain⟨c,x,y⟩:=a;obtain⟨c',x',y'⟩:=b;by_cases h1:x=x'<;>by_cases h2:y=y'<;>by_cases h3:c=c'<;>simp[h1,h2,h3]
end Go.AI
end
section
namespace Go.AI
def G7 (s:List UInt8):List (List UInt8)->List (List UInt8)
 | []=>[s]
 | x::r=>if Op.bytesLess x s=true then x::G7 s r else if x=s then x::r else s::x::r
theorem Rr (s y:List UInt8):∀ l,y∈G7 s l↔y=s\/y∈l
 | []=>by simp[G7]
 | x::r=>by
  unfold G7;split
  ·simp only[List.mem_cons,Rr s y r];constructor
   ·rintro (h|h|h)<;>simp[h]
   ·rintro (h|h|h)<;>simp[h]
  ·split
   ·rename_i e;subst e;simp
   ·simp
theorem SV (s:List UInt8):∀ l,FS l->FS (G7 s l)
 | [],_=>by simp[G7,FS]
 | x::r,h=>by
  unfold FS at h⊢;rw[List.pairwise_cons]at h;unfold G7;split
  ·rename_i hx;rw[List.pairwise_cons];refine⟨λ y hy=>?_,SV s r h.2⟩;rcases (Rr s y r).1 hy with rfl|hy
   ·exact hx
   ·exact h.1 y hy
  ·rename_i hx;split
   ·rename_i e;subst e;rw[List.pairwise_cons];exact h
   ·rename_i hne;have hsx:ltB s x:=by
     rcases Gl s x with e|e|e
     ·exact absurd e.symm hne
     ·exact e
     ·exact absurd e hx
    rw[List.pairwise_cons,List.pairwise_cons];refine⟨λ y hy=>?_,h⟩;rcases List.mem_cons.1 hy with rfl|hy
    ·exact hsx
    ·exact CF hsx (h.1 y hy)
theorem Xk (l:List (List UInt8)) (s:List UInt8) (hl:l.length<=1000000000):Tot (λ n=>Ge n l s) (λ r=>r=G7 s l):=by
 unfold Ge;refine Tot.bind (R:=λ y=>(y.2=false/\y.1.length=l.length/\y.1++[s]=G7 s l)\/(y.2=true/\y.1=G7 s l)) ?_ λ y hy=>?_
 ·refine Tot.upto (body:=λ n (x:((List (List UInt8))×Bool×Int))=>C9 n l s x.1 x.2.1 x.2.2) l.length (λ i x=>x.2.2=(i:Int)/\((x.2.1=false/\x.1.length=i/\x.1++G7 s (l.drop i)=G7 s l)\/(x.2.1=true/\x.1.length<=i+1/\x.1++l.drop i=G7 s l))) ?_ ?_ _ ⟨rfl,.inl ⟨rfl,rfl,rfl⟩⟩
  ·rintro i ⟨out,d,_⟩ hi ⟨rfl,hI⟩;simp only at hI;unfold C9;have hdrop:=List.drop_eq_getElem_cons hi;have j1:∀ out' d',out'.length<=i+1->((d'=false/\out'.length=i/\(out'++[l[i]])++G7 s (l.drop (i+1))=G7 s l)\/(d'=true/\(out'++[l[i]])++l.drop (i+1)=G7 s l))->Tot (λ n=>C7 n l (i:Int) out' d') (Rd2 (λ x=>x.2.2=((i+1:Nat):Int)/\((x.2.1=false/\x.1.length=i+1/\x.1++G7 s (l.drop (i+1))=G7 s l)\/(x.2.1=true/\x.1.length<=i+1+1/\x.1++l.drop (i+1)=G7 s l))) (λ y=>(y.2=false/\y.1.length=l.length/\y.1++[s]=G7 s l)\/(y.2=true/\y.1=G7 s l))):=λ out' d' ho h=>by
    unfold C7;refine Tot.bindC (A8 hi) (Tot.bindC (CU (by simp;omega)) (Jlx ⟨Bg (by omega),?_⟩));rcases h with⟨h1,h2,h3⟩|⟨h1,h2⟩
    ·exact .inl ⟨h1,by simp[h2],h3⟩
    ·exact .inr ⟨h1,by simp;omega,h2⟩
   refine Tot.iteT (by simp;omega) ?_;rcases hI with⟨rfl,h1,h2⟩|⟨rfl,h1,h2⟩
   ·refine Tot.bindC (y:=l[i]) (A8 hi) ?_;rw[hdrop,G7]at h2;by_cases hlt:ltB l[i] s
    ·have e:Op.bytesLess l[i] s=true:=hlt;rw[if_pos e]at h2;refine Tot.iteF (by rw[e];rfl) (j1 out _ (by omega) (.inl ⟨rfl,h1,by rw[List.append_assoc];exact h2⟩))
    ·have e:Op.bytesLess l[i] s=false:=by simpa [ltB]using hlt
     rw[if_neg (by rw[e];simp)]at h2;refine Tot.iteT (by rw[e];rfl) (Tot.bindC (A8 hi) ?_);by_cases heq:l[i]=s
     ·rw[if_pos heq]at h2;unfold C8;exact Tot.iteF (by simp[heq]) (j1 out _ (by omega) (.inr ⟨rfl,by rw[List.append_assoc];exact h2⟩))
     ·rw[if_neg heq]at h2;unfold C8;refine Tot.iteT (by rw[e];simp[heq]) (Tot.bindC (CU (by simp;omega)) (j1 _ _ (by simp;omega) (.inr ⟨rfl,by simpa using h2⟩)))
   ·refine Tot.bindC (y:=default) rfl (Tot.iteF rfl ?_);refine j1 _ _ h1 (.inr ⟨rfl,?_⟩);rw[hdrop]at h2;rw[List.append_assoc];exact h2
  ·rintro⟨out,d,_⟩ ⟨rfl,hI⟩;simp only at hI;unfold C9;refine Tot.iteF (by simp) (Jlx ?_);rw[List.drop_length]at hI;rcases hI with⟨h1,h2,h3⟩|⟨h1,_,h2⟩
   ·exact .inl ⟨h1,h2,h3⟩
   ·exact .inr ⟨h1,by rw[List.append_nil]at h2;exact h2⟩
 ·obtain⟨out,d⟩:=y;unfold DU;rcases hy with⟨h1,h2,h3⟩|⟨h1,h2⟩
  ·simp only at h1 h2 h3;exact Tot.iteT (by rw[h1];rfl) (Tot.bindC (CU (by simp;omega)) (Jlx h3))
  ·simp only at h1 h2;exact Tot.iteF (by rw[h1];rfl) (Jlx h2)
def At5 (t:Ab) (i:Nat) (a:Ac):Prop:=∃ k j,Edge t (AN t) i k j/\a=⟨prt t k,cls t k,j⟩
def AcT (t:Ab) (i:Nat):Prop:=∃ s,(AN t)[i]?=some s/\Bu t s=true
theorem MI {t:Ab} (ht:TbK t) {k:Nat} (hk:k<t.Rules.length):1<=(cls t k).length/\(cls t k).length<=4/\(prt t k).length<=4/\∀ c∈cls t k,0<=c/\c<63:=by
 have hm:Fe t (k:Int)∈t.Rules:=Rk (by omega) (by omega);have h1:=HQ (ht.sound _ hm);exact⟨h1.2.1,h1.2.2,h1.1,λ c hc=>⟨ht.pos _ hm c hc,(SO (ht.sound _ hm)).2.1 c hc⟩⟩
theorem At5.ne {t:Ab} (ht:TbK t):∀ k a,At5 t k a->a.c≠[]:=by
 rintro i a ⟨k,j,⟨_,_,_,hk,_⟩,rfl⟩ h;have:=(MI ht hk).1;simp only at h;rw[h]at this;simp at this
theorem X9 {t:Ab} (ht:TbK t):∀ {p:List Int} {s s':Ae} {i:Nat},(AN t)[i]?=some s->Rm t s p s'->Bu t s'=true->En (At5 t) (AcT t) (i,[]) (cellsOf t p) (Jz t p)
 | [],s,s',i,hi,hgo,ha=>by
  unfold Rm at hgo;subst hgo;exact⟨i,.nil _,s,hi,ha⟩
 | k::p,s,s',i,hi,hgo,ha=>by
  obtain⟨hF,hD⟩:=CW ht.tab;obtain⟨h1,h2⟩:=hgo;obtain⟨k0,k1⟩:=NB h1;obtain⟨kn,rfl⟩:∃ kn:Nat,k=(kn:Int):=⟨k.toNat,by omega⟩;have hm:=hD (i+1) i s (by omega) hi kn (by omega) h1;obtain⟨j,hj,hje⟩:=List.mem_iff_getElem.1 hm;have hjg:(AN t)[j]?=some (By t s (kn:Int)).1:=by rw[JlZ hj,hje]
  have hE:Edge t (AN t) i kn j:=⟨s,_,hi,by omega,hjg,by rw[← h1]⟩;rw[En.arcs (At5.ne ht)];exact .inr ⟨⟨prt t kn,cls t kn,j⟩,cellsOf t p,Jz t p,⟨kn,j,hE,rfl⟩,rfl,rfl,X9 ht hjg h2 ha⟩
theorem Jez {t:Ab} (ht:TbK t):∀ (m:Nat) {w:List Int} {x:List UInt8} {s:Ae} {i:Nat},w.length<=m->(AN t)[i]?=some s->En (At5 t) (AcT t) (i,[]) w x->∃ p s',Rm t s p s'/\Bu t s'=true/\cellsOf t p=w/\Jz t p=x:=by
 intro m;induction m with
 | zero=>
  intro w x s i hm hi h;rw[En.arcs (At5.ne ht)]at h;rcases h with⟨rfl,rfl,s',h1,h2⟩|⟨a,v',x',ha,rfl,_⟩
  ·rw[hi]at h1;cases h1;exact⟨[],s,rfl,h2,rfl,rfl⟩
  ·have h1:=At5.ne ht _ _ ha;have h2:0<a.c.length:=List.length_pos_iff.2 h1;rw[List.length_append]at hm;omega
 | succ m ih=>
  intro w x s i hm hi h;rw[En.arcs (At5.ne ht)]at h;rcases h with⟨rfl,rfl,s',h1,h2⟩|⟨a,v',x',ha,rfl,rfl,h3⟩
  ·rw[hi]at h1;cases h1;exact⟨[],s,rfl,h2,rfl,rfl⟩
  ·have hne:=At5.ne ht _ _ ha;have hpos:0<a.c.length:=List.length_pos_iff.2 hne;obtain⟨k,j,⟨s0,s1,e1,e2,e3,e4⟩,rfl⟩:=ha;rw[hi]at e1;cases e1;simp only[List.length_append]at hm hpos;obtain⟨p,s',p1,p2,p3,p4⟩:=ih (by omega) e3 h3;refine⟨(k:Int)::p,s',⟨by rw[e4],by rw[e4];exact p1⟩,p2,?_,?_⟩
   ·rw[JB,p3];rfl
   ·rw[O4,p4];rfl
theorem Uk {t:Ab} (ht:TbK t) (w:List Int) (x:List UInt8):En (At5 t) (AcT t) (0,[]) w x↔WrT t w x:=by
 have h0:=(CW ht.tab).1.first;constructor
 ·intro h;obtain⟨p,s',h1,h2,h3,h4⟩:=Jez ht _ (JlO _) h0 h;exact⟨p,s',h1,h2,h3,h4⟩
 ·rintro⟨p,s',h1,h2,rfl,rfl⟩;exact X9 ht h0 h1 h2
theorem Rn.snoc {A:Nat->Ac->Prop} {h h1 h':Hf} {w:List Int} {c:Int} {x p:List UInt8} (H:Rn A h w x h1) (s:Sp A h1 c p h'):Rn A h (w++[c]) (x++p) h':=H.app (Rn.one s)
theorem Rn.unsnoc {A:Nat->Ac->Prop} {h':Hf} {c:Int}:∀ {w:List Int} {h:Hf} {x:List UInt8},Rn A h (w++[c]) x h'->∃ h1 x1 p,Rn A h w x1 h1/\Sp A h1 c p h'/\x=x1++p
 | [],h,x,H=>by
  obtain⟨h1,p,y,s,r,rfl⟩:=H.inv;obtain⟨rfl,rfl⟩:=r.inv0;exact⟨h,[],p,.nil _,s,by simp⟩
 | d::w,h,x,H=>by
  obtain⟨h1,p,y,s,r,rfl⟩:=Rn.inv (w:=w++[c]) H;obtain⟨h2,x1,p2,q1,q2,rfl⟩:=Rn.unsnoc r;exact⟨h2,p++x1,p2,.cons s q1,q2,by simp⟩
theorem JeA {t:Ab} (ht:TbK t) {h h':Hf} {w:List Int} {x:List UInt8} (H:Rn (At5 t) h w x h'):x.length<=4*w.length:=by
 induction H with
 | nil h=>simp
 | cons s _ ih=>
  have hp:∀ {h h1:Hf} {c:Int} {p:List UInt8},Sp (At5 t) h c p h1->p.length<=4:=λ s=>by
   rcases s.inv with⟨r,_,h2,_⟩|⟨_,a,r,⟨k,j,⟨_,_,_,hk,_⟩,rfl⟩,_,h3,_⟩
   ·rw[h2];simp
   ·rw[h3];exact(MI ht hk).2.2.1
  have:=hp s;simp only[List.length_append,List.length_cons];omega
def WfP (t:Ab) (p:Ah):Prop:=p.Rule=-1\/∃ k a:Nat,p.Rule=(k:Int)/\k<t.Rules.length/\p.At=(a:Int)/\1<=a/\a<(cls t k).length
def Hl (t:Ab) (p:Ah):List Int:=if p.Rule<0 then []else(cls t p.Rule.toNat).drop p.At.toNat
structure LOK (t:Ab) (w:List Int) (l:List Ah):Prop where
 snd:∀ p∈l,WfP t p/\∃ i,(AN t)[i]?=some p.S/\Rn (At5 t) (0,[]) w p.Text (i,Hl t p)
 cov:∀ i x r,Rn (At5 t) (0,[]) w x (i,r)->∃ p∈l,(AN t)[i]?=some p.S/\p.Text=x/\Hl t p=r
theorem WfP.rest {t:Ab} {p:Ah} (h:WfP t p):Hl t p=[]↔p.Rule<0:=by
 unfold Hl;rcases h with h|⟨k,a,h1,h2,h3,h4,h5⟩
 ·rw[if_pos (by omega)];simp;omega
 ·rw[if_neg (by omega),h1,h3];simp only[Jl8];constructor
  ·intro h;have:=congrArg List.length h;simp at this;omega
  ·intro h;omega
theorem JcR {t:Ab} (ht:TbK t):LOK t [] [⟨G5,-1,0,[]⟩]:=by
 have h0:=(CW ht.tab).1.first;refine⟨λ p hp=>?_,λ i x r h=>?_⟩
 ·simp only[List.mem_singleton]at hp;subst hp;exact⟨.inl rfl,0,h0,.nil _⟩
 ·obtain⟨e1,e2⟩:=h.inv0;cases e1;subst e2;exact⟨_,List.mem_singleton.2 rfl,h0,rfl,rfl⟩
theorem ZA {t:Ab} (ht:TbK t) {w:List Int} {l:List Ah} (hl:LOK t w l) (hll:l.length<=1000000):Tot (λ n=>Gf n t l) (λ r=>FS r/\∀ x,x∈r↔WrT t w x):=by
 unfold Gf;refine Tot.bind (R:=λ r=>FS r/\∀ x,x∈r↔WrT t w x) ?_ λ r hr=>Jlx hr;refine Tot.upto (body:=λ n (x:(List (List UInt8))×Int)=>DB n t l x.1 x.2) l.length (λ i x=>x.2=(i:Int)/\FS x.1/\x.1.length<=i/\∀ y,y∈x.1↔∃ p∈l.take i,p.Rule<0/\Bu t p.S=true/\p.Text=y) ?_ ?_ _ ⟨rfl,by simp[FS],by simp,by simp⟩
 ·rintro i ⟨out,_⟩ hi ⟨rfl,h1,h2,h3⟩;simp only at h1 h2 h3;unfold DB EI;refine Tot.iteT (by simp;omega) (Tot.bindC (A8 hi) (Tot.bindC (Xf (A8 hi)) ?_));refine Tot.guard (R:=λ r=>r=Bu t l[i].S) (λ h=>by rw[if_pos h];exact(Ev.all λ n=>VK n t _).tot rfl) λ r hr=>?_;have htake:∀ y,(∃ p∈l.take (i+1),p.Rule<0/\Bu t p.S=true/\p.Text=y)↔(∃ p∈l.take i,p.Rule<0/\Bu t p.S=true/\p.Text=y)\/(l[i].Rule<0/\Bu t l[i].S=true/\l[i].Text=y):=λ y=>by
   rw[List.take_add_one,JlZ hi];simp only[Option.toList_some,List.mem_append,List.mem_singleton];constructor
   ·rintro⟨p,hp|rfl,h⟩
    ·exact .inl ⟨p,hp,h⟩
    ·exact .inr h
   ·rintro (⟨p,hp,h⟩|h)
    ·exact⟨p,.inl hp,h⟩
    ·exact⟨_,.inr rfl,h⟩
  refine Tot.ite (λ h=>?_) λ h=>?_
  ·simp only[Jl0]at h;have hr:=hr h.1;rw[hr]at h;refine Tot.bindC (A8 hi) (Tot.bind (Xk out _ (by omega)) ?_);rintro _ rfl;refine Jlx ⟨Bg (by omega),SV _ _ h1,?_,λ y=>?_⟩
   ·have:∀ (s:List UInt8) (l:List (List UInt8)),(G7 s l).length<=l.length+1:=by
     intro s l;induction l with
     | nil=>simp[G7]
     | cons x r ih=>
      unfold G7;split
      ·simp;omega
      ·split<;>simp
    have:=this l[i].Text out;simp only;omega
   ·rw[htake,Rr,h3];constructor
    ·rintro (rfl|h')
     ·exact .inr ⟨by simpa using h.1,h.2,rfl⟩
     ·exact .inl h'
    ·rintro (h'|⟨_,_,h'⟩)
     ·exact .inr h'
     ·exact .inl h'.symm
  ·refine Jlx ⟨Bg (by omega),h1,by simp only;omega,λ y=>?_⟩;rw[htake,h3];constructor
   ·exact .inl
   ·rintro (h'|⟨c1,c2,_⟩)
    ·exact h'
    ·have hd:decide (l[i].Rule<0)=true:=by simpa using c1
     rw[hr hd,hd,c2]at h;cases h
 ·rintro⟨out,_⟩ ⟨rfl,h1,h2,h3⟩;simp only at h1 h2 h3;unfold DB;refine Tot.iteF (by simp) (Jlx ⟨h1,λ x=>?_⟩);rw[h3,List.take_length,← Uk ht];constructor
  ·rintro⟨p,hp,c1,c2,rfl⟩;obtain⟨hw,i,hi,hr⟩:=hl.snd p hp;rw[hw.rest.2 c1]at hr;exact⟨i,hr,p.S,hi,c2⟩
  ·rintro⟨i,hr,s,hi,ha⟩;obtain⟨p,hp,q1,q2,q3⟩:=hl.cov i x [] hr;rw[hi]at q1;cases q1;exact⟨p,hp,((hl.snd p hp).1.rest).1 q3,ha,q2⟩
end Go.AI
end
section
namespace Go.AI
theorem JeB {t:Ab} (ht:TbK t) (c:Int):Tot (λ n=>HH n t c) (λ r=>r=true↔∃ k,k<t.Rules.length/\c∈cls t k):=by
 have h11:=ht.tab.1;have hrule:∀ i (hi:i<t.Rules.length),t.Rules[i].Cells=cls t i:=λ i hi=>by
  unfold cls Fe;rw[Jl8,JlZ hi];rfl
 unfold HH;refine Tot.bind (R:=λ y=>match y with
  | .inl _=>¬∃ k,k<t.Rules.length/\c∈cls t k
  | .inr z=>z=true/\∃ k,k<t.Rules.length/\c∈cls t k) ?_ λ y hy=>?_
 ·refine Tot.upto (body:=λ n (x:Int)=>Er n t c x) t.Rules.length (λ i x=>x=(i:Int)/\¬∃ k,k<i/\c∈cls t k) ?_ ?_ _ ⟨rfl,λ⟨k,h,_⟩=>by omega⟩
  ·rintro i _ hi ⟨rfl,hI⟩;unfold Er;have hc4:=(MI ht hi).2.1;refine Tot.iteT (by simp;omega) (Tot.bind (R:=λ y=>match y with
    | .inl _=>c ∉ cls t i
    | .inr z=>z=true/\c∈cls t i) ?_ λ y hy=>?_)
   ·refine Tot.upto (body:=λ n (x:Int)=>Ep n t c (i:Int) x) (cls t i).length (λ k x=>x=(k:Int)/\c ∉ (cls t i).take k) ?_ ?_ _ ⟨rfl,by simp⟩
    ·rintro k _ hk ⟨rfl,hK⟩;unfold Ep;refine Tot.bindC (A8 hi) ?_;rw[hrule i hi];refine Tot.iteT (by simp;omega) (Tot.bindC (A8 hi) ?_);rw[hrule i hi];refine Tot.bindC (A8 hk) (Tot.ite (λ h=>?_) λ h=>Jlx ⟨Bg (by omega),?_⟩)
     ·have h:(cls t i)[k]=c:=by simpa using h
      exact Jlx ⟨rfl,by rw[← h];exact JlL hk⟩
     ·have h:(cls t i)[k]≠c:=by simpa using h
      rw[List.take_add_one,JlZ hk];intro hm;rcases List.mem_append.1 hm with hm|hm
      ·exact hK hm
      ·simp only[Option.toList_some,List.mem_singleton]at hm;exact h hm.symm
    ·rintro _ ⟨rfl,hK⟩;unfold Ep;refine Tot.bindC (A8 hi) ?_;rw[hrule i hi];rw[List.take_length]at hK;exact Tot.iteF (by simp) (Jlx hK)
   ·cases y with
    | inl _=>
     refine Jlx ⟨Bg (by omega),?_⟩;rintro⟨k,hk,hc⟩;by_cases e:k=i
     ·subst e;exact hy hc
     ·exact hI ⟨k,by omega,hc⟩
    | inr z=>exact Jlx ⟨hy.1,i,hi,hy.2⟩
  ·rintro _ ⟨rfl,hI⟩;unfold Er;exact Tot.iteF (by simp) (Jlx hI)
 ·cases y with
  | inl _=>exact Jlx ⟨λ h=>(by cases h),λ h=>absurd h hy⟩
  | inr z=>exact Jlx ⟨λ _=>hy.2,λ _=>hy.1⟩
theorem Ya {t:Ab} {s:Ae} {k a:Nat} {x:List UInt8} (hk:k<t.Rules.length) (h1:1<=a) (h2:a<=(cls t k).length):∃ y:Ah,(∀ n,HI n t ({ S:=s,Rule:=(k:Int),At:=(a:Int),Text:=x }:Ah)=some y)/\y.S=s/\y.Text=x/\WfP t y/\Hl t y=(cls t k).drop a:=by
 have hrule:t.Rules[k].Cells=cls t k:=by unfold cls Fe;rw[Jl8,JlZ hk];rfl
 unfold HI Fn;by_cases e:a=(cls t k).length
 ·refine⟨{ S:=s,Rule:=-1,At:=0,Text:=x },λ n=>?_,rfl,rfl,.inl rfl,?_⟩
  ·simp only;rw[A8 hk];simp only[JlF,hrule];rw[if_pos (by rw[e];simp)]
  ·unfold Hl;rw[if_pos (by simp),e];simp
 ·refine⟨{ S:=s,Rule:=(k:Int),At:=(a:Int),Text:=x },λ n=>?_,rfl,rfl,.inr ⟨k,a,rfl,hk,rfl,h1,by omega⟩,?_⟩
  ·simp only;rw[A8 hk];simp only[JlF,hrule];rw[if_neg (by simp;omega)]
  ·unfold Hl;rw[if_neg (by simp)];simp
theorem eqP (a b:Ah):((a.S.Mode==b.S.Mode)&&((a.S.Last==b.S.Last)&&((a.S.Need==b.S.Need)&&((a.Rule==b.Rule)&&((a.At==b.At)&&((a.Text==b.Text)&&true))))))=decide (a=b):=by
 obtain⟨⟨m,l,n⟩,r,at_,tx⟩:=a;obtain⟨⟨m',l',n'⟩,r',at',tx'⟩:=b;by_cases h1:m=m'<;>by_cases h2:l=l'<;>by_cases h3:n=n'<;>by_cases h4:r=r'<;>by_cases h5:at_=at'<;>by_cases h6:tx=tx'<;>simp[h1,h2,h3,h4,h5,h6]
theorem JeC (l:List Ah) (hl:l.length<=100000000):Tot (λ n=>ID n l) (λ r=>r.length<=l.length/\∀ p,p∈r↔p∈l):=by
 unfold ID;refine Tot.bind (R:=λ r=>r.length<=l.length/\∀ p,p∈r↔p∈l) ?_ λ r hr=>Jlx hr;refine Tot.upto (body:=λ n (x:(List Ah)×Int)=>Et n l x.1 x.2) l.length (λ i x=>x.2=(i:Int)/\x.1.length<=i/\∀ p,p∈x.1↔p∈l.take i) ?_ ?_ _ ⟨rfl,by simp,by simp⟩
 ·rintro i ⟨out,_⟩ hi ⟨rfl,h1,h2⟩;simp only at h1 h2;unfold Et Fp;have htake:l.take (i+1)=l.take i++[l[i]]:=by rw[List.take_add_one,JlZ hi];rfl
  refine Tot.iteT (by simp;omega) (Tot.bind (R:=λ b=>b=decide (l[i]∈out)) ?_ ?_)
  ·refine Tot.upto (body:=λ n (x:Bool×Int)=>Es n l out (i:Int) x.1 x.2) out.length (λ k x=>x.2=(k:Int)/\x.1=decide (l[i]∈out.take k)) ?_ ?_ _ ⟨rfl,by simp⟩
   ·rintro k ⟨b,_⟩ hk ⟨rfl,hb⟩;simp only at hb;unfold Es;refine Tot.iteT (by simp;omega) (Tot.bindC (Xf (A8 hk)) (Tot.bindC (Xf (A8 hi)) (Jlx ⟨Bg (by omega),?_⟩)));simp only;rw[eqP,List.take_add_one,JlZ hk,hb];by_cases hm:l[i]∈out.take k
    ·simp[hm,-List.take_append_getElem]
    ·simp[hm,eq_comm,-List.take_append_getElem]
   ·rintro⟨b,_⟩ ⟨rfl,hb⟩;simp only at hb;unfold Es;rw[List.take_length]at hb;exact Tot.iteF (by simp) (Jlx hb)
  ·rintro _ rfl;refine Tot.ite (λ h=>?_) λ h=>?_
   ·refine Tot.bindC (A8 hi) (Tot.bindC (CU (by simp;omega)) (Jlx ⟨Bg (by omega),by simp;omega,λ p=>?_⟩));rw[htake];simp only[List.mem_append,h2]
   ·have hm:l[i]∈out:=by simpa using h
    refine Jlx ⟨Bg (by omega),by show out.length<=_;omega,λ p=>?_⟩;rw[htake];simp only[List.mem_append,List.mem_singleton,← h2];constructor
    ·exact .inl
    ·rintro (h|rfl)
     ·exact h
     ·exact hm
 ·rintro⟨out,_⟩ ⟨rfl,h1,h2⟩;simp only at h1 h2;unfold Et;rw[List.take_length]at h2;exact Tot.iteF (by simp) (Jlx ⟨h1,h2⟩)
def JW (t:Ab) (w:List Int) (p:Ah):Prop:=WfP t p/\∃ i,(AN t)[i]?=some p.S/\Rn (At5 t) (0,[]) w p.Text (i,Hl t p)
def R6 (t:Ab) (c:Int) (p:Ah) (out:List Ah):Prop:=∀ i,(AN t)[i]?=some p.S->∀ q h',Sp (At5 t) (i,Hl t p) c q h'->∃ y∈out,(AN t)[h'.1]?=some y.S/\y.Text=p.Text++q/\Hl t y=h'.2
theorem R6.mono {t:Ab} {c:Int} {p:Ah} {out out':List Ah} (h:R6 t c p out) (hs:∀ y∈out,y∈out'):R6 t c p out':=λ i hi q h' hs'=>by
 obtain⟨y,h1,h2⟩:=h i hi q h' hs';exact⟨y,hs y h1,h2⟩
theorem ZB {t:Ab} (ht:TbK t) {w:List Int} (hw:w.length<=100) {p:Ah} (hp:JW t w p) (hr:p.Rule<0) (c:Int) (l:List Ah) (pi:Int) {out:List Ah} (ho:out.length<=1000000000) (hg:∀ y∈out,JW t (w++[c]) y) :
  Tot (λ n=>whl (λ (x:((List Ah)×Int))=>Do n t l c pi p x.1 x.2) n (out,0)) (λ r=>r.length<=out.length+11/\(∀ y∈out,y∈r)/\(∀ y∈r,JW t (w++[c]) y)/\R6 t c p r):=by
 obtain⟨hF,hD⟩:=CW ht.tab;have h11:=ht.tab.1;obtain⟨hwf,i,hi,hrn⟩:=hp;have hrest:Hl t p=[]:=hwf.rest.2 hr;rw[hrest]at hrn;have hlen:=JeA ht hrn;refine Tot.upto (body:=λ n (x:(List Ah)×Int)=>Do n t l c pi p x.1 x.2) t.Rules.length (λ k x=>x.2=(k:Int)/\x.1.length<=out.length+k/\(∀ y∈out,y∈x.1)/\(∀ y∈x.1,JW t (w++[c]) y)/\∀ (k':Nat) s' r,k'<k->By t p.S (k':Nat)=(s',true)->cls t k'=c::r->∃ y∈x.1,y.S=s'/\y.Text=p.Text++prt t k'/\Hl t y=r) ?_ ?_ _ ⟨rfl,by simp,λ _ h=>h,hg,λ k' s' r h=>by omega⟩
 ·rintro k ⟨o1,_⟩ hk ⟨rfl,h1,h2,h3,h4⟩;simp only at h1 h2 h3 h4;unfold Do Fq;have hcl:=MI ht hk;have hrule:(if(By t p.S (k:Nat)).2=true then idx t.Rules (k:Int)else some default)=some (if(By t p.S (k:Nat)).2=true then Fe t (k:Int)else default):=Xf (NC (by omega) (by omega))
  refine Tot.iteT (by simp;omega) (Jlz (λ n=>Jb9 ht.tab.short n p.S (k:Nat)) (Tot.bindC hrule ?_));have skip:(∀ s' r,By t p.S (k:Nat)=(s',true)->cls t k≠c::r)->Tot (λ _:Nat=>(some (.inl (o1,Be .i64 (k:Int) 1)):Option (((List Ah)×Int)⊕(List Ah)))) (Rd2 (λ x=>x.2=((k+1:Nat):Int)/\x.1.length<=out.length+(k+1)/\(∀ y∈out,y∈x.1)/\(∀ y∈x.1,JW t (w++[c]) y)/\∀ (k':Nat) s' r,k'<k+1->By t p.S (k':Nat)=(s',true)->cls t k'=c::r->∃ y∈x.1,y.S=s'/\y.Text=p.Text++prt t k'/\Hl t y=r) (λ r=>r.length<=out.length+11/\(∀ y∈out,y∈r)/\(∀ y∈r,JW t (w++[c]) y)/\R6 t c p r)):=λ hno=>by
   refine Jlx ⟨Bg (by omega),by show o1.length<=_;omega,h2,h3,λ k' s' r hk' hs' hc'=>?_⟩;by_cases e:k'=k
   ·subst e;exact absurd hc' (hno s' r hs')
   ·exact h4 k' s' r (by omega) hs' hc'
  cases hst:By t p.S (k:Nat)with
  | mk s' b=>
   cases b with
   | false=>
    refine Tot.bindC (y:=default) rfl (Tot.iteF rfl (skip λ s2 r h=>?_));rw[hst]at h;cases h
   | true=>
    have h0:0<(cls t k).length:=by omega
    refine Tot.bindC (y:=(cls t k)[0]) (by rw[if_pos rfl,if_pos rfl];exact A8 (i:=0) h0) (Tot.ite (λ h=>?_) λ h=>skip λ s2 r _ hc=>?_)
    ·have h:(cls t k)[0]=c:=by simpa using h
     obtain⟨y,y1,y2,y3,y4,y5⟩:=Ya (s:=s') (k:=k) (a:=1) (x:=p.Text++prt t k) hk (by omega) (by omega);have hm:=hD (i+1) i p.S (by omega) hi k hk (by rw[hst]);obtain⟨j,hj,hje⟩:=List.mem_iff_getElem.1 hm;have hjg:(AN t)[j]?=some s':=by rw[JlZ hj,hje,hst]
     obtain⟨r,hcr⟩:∃ r,cls t k=c::r:=by
      cases hcc:cls t k with
      | nil=>rw[hcc]at h0;simp at h0
      | cons d r=>simp only[hcc,List.getElem_cons_zero]at h;exact⟨r,by rw[h]⟩
     have hyr:Hl t y=r:=by rw[y5,hcr];rfl
     have hgood:JW t (w++[c]) y:=by
      refine⟨y4,j,by rw[y2];exact hjg,?_⟩;rw[y3,hyr];exact hrn.snoc (Sp.arc (a:=⟨prt t k,cls t k,j⟩) ⟨k,j,⟨p.S,s',hi,hk,hjg,hst⟩,rfl⟩ hcr)
     refine Tot.bindC (NC (k:=(k:Int)) (by omega) (by omega)) (Tot.bindC (Ri (by have:=hcl.2.2.1;unfold prt at this;omega)) (Jlz y1 (Tot.bindC (CU (by simp;omega)) (Jlx ⟨Bg (by omega),by simp;omega,λ z hz=>by simp[h2 z hz],λ z hz=>?_,λ k' s2 r2 hk' hs2 hc2=>?_⟩))))
     ·rcases List.mem_append.1 hz with hz|hz
      ·exact h3 z hz
      ·simp only[List.mem_singleton]at hz;rw[hz];exact hgood
     ·by_cases e:k'=k
      ·subst e;rw[hst]at hs2;cases hs2;rw[hcr]at hc2;cases hc2;exact⟨y,by simp,y2,y3,hyr⟩
      ·obtain⟨z,q1,q2⟩:=h4 k' s2 r2 (by omega) hs2 hc2;exact⟨z,by simp[q1],q2⟩
    ·have h:(cls t k)[0]≠c:=by simpa using h
     apply h;simp only[hc,List.getElem_cons_zero]
 ·rintro⟨o1,_⟩ ⟨rfl,h1,h2,h3,h4⟩;simp only at h1 h2 h3 h4;unfold Do;refine Tot.iteF (by simp) (Jlx ⟨by show o1.length<=_;omega,h2,h3,λ i' hi' q h' hs=>?_⟩);rw[hrest]at hs;rcases hs.inv with⟨r,e,_⟩|⟨_,a,r,⟨k,j,⟨s0,s1,e1,e2,e3,e4⟩,rfl⟩,g1,g2,g3⟩
  ·cases e
  ·have e1:(AN t)[i']?=some s0:=e1;rw[hi']at e1;cases e1;simp only at g1 g2 g3;obtain⟨y,q1,q2,q3,q4⟩:=h4 k s1 r e2 e4 g1;refine⟨y,q1,?_,by rw[q3,g2],by rw[q4,g3]⟩;rw[g3,q2];exact e3
theorem JcS {t:Ab} (ht:TbK t) {w:List Int} (hw:w.length<=100) {l:List Ah} (hl:LOK t w l) (hll:l.length<=200000) (c:Int):Tot (λ n=>HJ n t l c) (λ r=>LOK t (w++[c]) r/\r.length<=11*l.length):=by
 obtain⟨hF,hD⟩:=CW ht.tab;unfold HJ;refine Tot.bind (R:=λ r=>r.length<=11*l.length/\(∀ y∈r,JW t (w++[c]) y)/\∀ p∈l,R6 t c p r) ?_ ?_
 ·refine Tot.upto (body:=λ n (x:(List Ah)×Int)=>Ew n t l c x.1 x.2) l.length (λ i x=>x.2=(i:Int)/\x.1.length<=11*i/\(∀ y∈x.1,JW t (w++[c]) y)/\∀ p∈l.take i,R6 t c p x.1) ?_ ?_ _ ⟨rfl,by simp,by simp,by simp⟩
  ·rintro m ⟨out,_⟩ hm ⟨rfl,h1,h2,h3⟩;simp only at h1 h2 h3;unfold Ew Eu;have htake:l.take (m+1)=l.take m++[l[m]]:=by rw[List.take_add_one,JlZ hm];rfl
   have hp:=hl.snd _ (JlL hm);refine Tot.iteT (by simp;omega) (Tot.bindC (A8 hm) ?_);generalize l[m]=p at *;have fin:∀ out':List Ah,out'.length<=11*(m+1)->(∀ y∈out,y∈out')->(∀ y∈out',JW t (w++[c]) y)->R6 t c p out'->Tot (λ _:Nat=>(some (.inl (out',Be .i64 (m:Int) 1)):Option (((List Ah)×Int)⊕(List Ah)))) (Rd2 (λ x=>x.2=((m+1:Nat):Int)/\x.1.length<=11*(m+1)/\(∀ y∈x.1,JW t (w++[c]) y)/\∀ p∈l.take (m+1),R6 t c p x.1) (λ r=>r.length<=11*l.length/\(∀ y∈r,JW t (w++[c]) y)/\∀ p∈l,R6 t c p r)):=λ out' q1 q2 q3 q4=>by
    refine Jlx ⟨Bg (by omega),q1,q3,λ p' hp'=>?_⟩;rw[htake]at hp';rcases List.mem_append.1 hp' with hp'|hp'
    ·exact(h3 p' hp').mono q2
    ·simp only[List.mem_singleton]at hp';rw[hp'];exact q4
   refine Tot.ite (λ hr=>?_) λ hr=>?_
   ·have hr:0<=p.Rule:=by simpa using hr
    obtain⟨hwf,i,hi,hrn⟩:=hp;rcases hwf with h|⟨k,a,k1,k2,k3,k4,k5⟩
    ·omega
    ·have hrule:(Fe t p.Rule).Cells=cls t k:=by rw[k1];rfl
     have hrest:Hl t p=(cls t k)[a]::(cls t k).drop (a+1):=by
      unfold Hl;rw[if_neg (by omega),k1,k3];simp only[Jl8];exact List.drop_eq_getElem_cons k5
     refine Tot.bindC (NC (k:=p.Rule) hr (by omega)) ?_;rw[hrule,k3];refine Tot.bindC (A8 k5) (Tot.ite (λ hc=>?_) λ hc=>fin out (by omega) (λ _ h=>h) h2 λ i' hi' q h' hs=>?_)
     ·have hc:(cls t k)[a]=c:=by simpa using hc
      have e1:Be .i64 (a:Int) 1=((a+1:Nat):Int):=Bg (by have:=(MI ht k2).2.1;omega);rw[e1,k1];obtain⟨y,y1,y2,y3,y4,y5⟩:=Ya (s:=p.S) (k:=k) (a:=a+1) (x:=p.Text) k2 (by omega) (by omega);refine Jlz y1 (Tot.bindC (CU (by simp;omega)) (fin _ (by simp;omega) (λ z hz=>by simp[hz]) (λ z hz=>?_) λ i' hi' q h' hs=>?_))
      ·rcases List.mem_append.1 hz with hz|hz
       ·exact h2 z hz
       ·simp only[List.mem_singleton]at hz;subst hz;refine⟨y4,i,by rw[y2];exact hi,?_⟩;rw[y3,y5];have hrn':=hrn;rw[hrest,hc]at hrn';have:=hrn'.snoc (Sp.rest (A:=At5 t) i c ((cls t k).drop (a+1)));rwa[List.append_nil]at this
      ·rw[hrest]at hs;rcases hs.inv with⟨r,g1,g2,g3⟩|⟨g1,_⟩
       ·simp only[List.cons.injEq]at g1;refine⟨y,by simp,?_,by rw[y3,g2];simp,by rw[y5,g3];exact g1.2⟩;rw[g3,y2];exact hi'
       ·cases g1
     ·have hc:(cls t k)[a]≠c:=by simpa using hc
      rw[hrest]at hs;rcases hs.inv with⟨r,g1,_⟩|⟨g1,_⟩
      ·simp only[List.cons.injEq]at g1;exact absurd g1.1 hc
      ·cases g1
   ·have hr:p.Rule<0:=by simpa using hr
    refine Tot.bind (ZB (out:=out) ht hw hp hr c l _ (by omega) h2) ?_;rintro o2 ⟨q1,q2,q3,q4⟩;exact fin o2 (by omega) q2 q3 q4
  ·rintro⟨out,_⟩ ⟨rfl,h1,h2,h3⟩;simp only at h1 h2 h3;unfold Ew;rw[List.take_length]at h3;exact Tot.iteF (by simp) (Jlx ⟨h1,h2,h3⟩)
 ·rintro o1 ⟨h1,h2,h3⟩;refine Tot.bind (JeC o1 (by omega)) ?_;rintro o2 ⟨q1,q2⟩;refine Jlx ⟨⟨λ p hp=>h2 p ((q2 p).1 hp),λ i x r hrn=>?_⟩,by omega⟩;obtain⟨⟨i1,r1⟩,x1,q,g1,g2,rfl⟩:=hrn.unsnoc;obtain⟨p,hp,e1,rfl,e3⟩:=hl.cov i1 x1 r1 g1;obtain⟨y,c1,c2,c3,c4⟩:=h3 p hp i1 e1 q (i,r) (by rw[e3];exact g2);exact⟨y,(q2 y).2 c1,c2,c3,c4⟩
end Go.AI
end
section
namespace Go.AI
theorem Rn.split {A:Nat->Ac->Prop} {h'':Hf}:∀ {w v:List Int} {h:Hf} {x:List UInt8},Rn A h (w++v) x h''->∃ h' x1,Rn A h w x1 h'
 | [],_,h,_,_=>⟨h,[],.nil _⟩
 | c::w,_,_,_,H=>by
  obtain⟨h1,p,y,s,r,rfl⟩:=H.inv;obtain⟨h',x1,r1⟩:=Rn.split r;exact⟨h',p++x1,.cons s r1⟩
theorem Rs {t:Ab} {c:Int}:∀ {p:List Int} {s s':Ae},Rm t s p s'->c∈cellsOf t p->∃ k,k<t.Rules.length/\c∈cls t k
 | [],_,_,_,h=>by simp[cellsOf]at h
 | k::p,s,s',hg,h=>by
  obtain⟨h1,h2⟩:=hg;rw[JB,List.mem_append]at h;obtain⟨k0,k1⟩:=NB h1;rcases h with h|h
  ·refine⟨k.toNat,by omega,?_⟩;unfold cls;rw[show((k.toNat:Nat):Int)=k by omega];exact h
  ·exact Rs h2 h
theorem Rt {t:Ab} {w u:List Int} {c:Int} (h:Ht t (w++c::u)):∃ k,k<t.Rules.length/\c∈cls t k:=by
 obtain⟨x,_,_,⟨p,s,h1,_,h2,_⟩,_⟩:=h;exact Rs h1 (by rw[h2];simp)
theorem JcT {t:Ab} (ht:TbK t) {w u:List Int} {c:Int} (h:Ht t (w++c::u)) {r:List Ah} (hr:LOK t (w++[c]) r):r≠[]:=by
 obtain⟨x,_,_,h,_⟩:=h;rw[← Uk ht]at h;obtain⟨k,h,_⟩:=h;rw[show w++c::u=(w++[c])++u by simp]at h;obtain⟨⟨i,q⟩,x1,h⟩:=h.split;obtain⟨p,hp,_⟩:=hr.cov i x1 q h;intro e;rw[e]at hp;simp at hp
def Pn (t:Ab) (w:List Int) (D:List Int->Prop) (r:Aa):Prop:=
 (r.Ok=false/\∀ u,D u->¬Ht t (w++u))\/(r.Ok=true/\∃ v,D v/\r.C.Cells=w++v/\Ht t (w++v)/\Ff [r.C.A,r.C.B] (WrT t (w++v))/\∀ u,D u->Ht t (w++u)->ltL u v=false)
theorem Pn.congr {t:Ab} {w:List Int} {D D':List Int->Prop} {r:Aa} (h:Pn t w D r) (e:∀ u,Ht t (w++u)->(D u↔D' u)):Pn t w D' r:=by
 rcases h with⟨h1,h2⟩|⟨h1,v,h2,h3,h4,h5,h6⟩
 ·exact .inl ⟨h1,λ u hu ha=>h2 u ((e u ha).2 hu) ha⟩
 ·exact .inr ⟨h1,v,(e v h4).1 h2,h3,h4,h5,λ u hu ha=>h6 u ((e u ha).2 hu) ha⟩
def bud:Nat->Nat
 | 0=>161051
 | m+1=>161051+63*bud m
theorem Xl {m:Nat} (h:m<=5):161051<=bud m/\bud m<=200000000000000:=by
 match m,h with
 | 0,_|1,_|2,_|3,_|4,_|5,_=>decide +kernel
structure LP (t:Ab) (w:List Int) (m:Nat) (s r:Aa):Prop where
 T:r.T=t
 lo:s.Left<=r.Left+bud m
 hi:r.Left<=s.Left
 old:0<=r.Left->s.Ok=true->r.Ok=true/\r.C=s.C
 new:0<=r.Left->s.Ok=false->Pn t w (λ u=>u.length=m) r
def Hd (m i:Nat) (u:List Int):Prop:=∃ c u',u=c::u'/\u'.length=m/\c<(i:Int)
theorem Hd.succ {m i:Nat} {u:List Int} (h:Hd m (i+1) u):Hd m i u\/∃ u',u=(i:Int)::u'/\u'.length=m:=by
 obtain⟨c,u',rfl,h1,h2⟩:=h;by_cases e:c=(i:Int)
 ·exact .inr ⟨u',by rw[e],h1⟩
 ·exact .inl ⟨c,u',rfl,h1,by omega⟩
theorem Hd.up {m i:Nat} {u:List Int} (h:Hd m i u):Hd m (i+1) u:=by
 obtain⟨c,u',rfl,h1,h2⟩:=h;exact⟨c,u',rfl,h1,by omega⟩
theorem Hd.not {m i:Nat} {u v:List Int} (h:Hd m i v):ltL ((i:Int)::u) v=false:=by
 obtain⟨c,u',rfl,h1,h2⟩:=h;simp[ltL];omega
theorem Pn.skip {t:Ab} {w:List Int} {m i:Nat} {r:Aa} (h:Pn t w (Hd m i) r) (hn:∀ u,¬Ht t (w++(i:Int)::u)):Pn t w (Hd m (i+1)) r:=by
 refine h.congr λ u ha=>⟨Hd.up,λ hu=>?_⟩;rcases hu.succ with h|⟨u',rfl,_⟩
 ·exact h
 ·exact absurd ha (hn u')
theorem Pn.step {t:Ab} {w:List Int} {m i:Nat} {s r:Aa} (h:Pn t w (Hd m i) s) (h':LP t (w++[(i:Int)]) m s r) (h0:0<=r.Left):Pn t w (Hd m (i+1)) r:=by
 have hw:∀ u,(w++[(i:Int)])++u=w++(i:Int)::u:=λ u=>by simp
 rcases h with⟨h1,h2⟩|⟨h1,v,h2,h3,h4,h5,h6⟩
 ·rcases h'.new h0 h1 with⟨k1,k2⟩|⟨k1,v,k2,k3,k4,k5,k6⟩
  ·refine .inl ⟨k1,λ u hu=>?_⟩;rcases hu.succ with h|⟨u',rfl,hl⟩
   ·exact h2 u h
   ·rw[← hw];exact k2 u' hl
  ·simp only[hw]at k3 k4 k5 k6;refine .inr ⟨k1,(i:Int)::v,⟨_,v,rfl,k2,by omega⟩,k3,k4,k5,λ u hu ha=>?_⟩;rcases hu.succ with h|⟨u',rfl,hl⟩
   ·exact absurd ha (h2 u h)
   ·have:=k6 u' hl ha;simp[ltL,this]
 ·obtain⟨k1,k2⟩:=h'.old h0 h1;refine .inr ⟨k1,v,h2.up,by rw[k2];exact h3,h4,by rw[k2];exact h5,λ u hu ha=>?_⟩;rcases hu.succ with h|⟨u',rfl,hl⟩
  ·exact h6 u h ha
  ·exact h2.not
abbrev Jfd:=Int->Aa->(List Int)->(List Ah)->Option Aa
def JeD (t:Ab) (m:Nat) (f:Nat->Jfd):Prop:=∀ (w:List Int) (l:List Ah) (s:Aa),LOK t w l->l.length*11 ^ m<=161051->w.length+m<=50->s.T=t->-1000000000000000+(bud m:Int)<=s.Left->s.Left<=1000000000000000->Tot (λ n=>f n (m:Int) s w l) (LP t w m s)
theorem Om {t:Ab} (ht:TbK t) {m:Nat} (hm:m<=5) (rec:Nat->Jfd) (hrec:∀ m',m=m'+1->JeD t m' rec):JeD t m (λ n=>Bb n (rec n)):=by
 intro w l s hl hll hwl hT hlo hhi;obtain⟨hb1,hb2⟩:=Xl hm;have hlen:l.length<=161051:=Nat.le_trans (Nat.le_mul_of_pos_right _ (Nat.pow_pos (by omega))) hll;have hsub:C4 .i64 s.Left ((l.length:Nat):Int)=s.Left-l.length:=Rj (by omega) (by omega);obtain⟨T,L,C,Ok⟩:=s;simp only at hT hsub hlo hhi;subst hT;unfold Bb;simp only[hsub];refine Tot.ite (λ h=>Jlx ⟨rfl,by simp only;omega,by simp only;omega,λ h0 ho=>⟨ho,rfl⟩,λ h0 ho=>?_⟩) λ h=>?_
 ·simp only at h0 ho;rw[ho]at h;simp only[Bool.or_false,decide_eq_true_eq]at h;omega
 ·simp only[JlY,decide_eq_false_iff_not]at h;obtain⟨h1,rfl⟩:=h;cases m with
  | zero=>
   refine Tot.iteT rfl (Tot.bind (ZA ht hl (by omega)) λ r hr=>?_);obtain⟨hs,hr⟩:=hr;refine Tot.ite (λ h2=>?_) λ h2=>Jlx ⟨rfl,by simp only;omega,by simp only;omega,λ h0 ho=>by simp at ho,λ h0 ho=>.inl ⟨rfl,λ u hu=>?_⟩⟩
   ·match r,h2 with
    | [],h2=>simp at h2
    | [_],h2=>simp at h2
    | a::b::rest,h2=>
     refine Tot.bindC (y:=a) rfl (Tot.bindC (y:=b) rfl (Jlx ⟨rfl,by simp only;omega,by simp only;omega,λ h0 ho=>by simp at ho,λ h0 ho=>.inr ⟨rfl,[],rfl,by simp,?_,?_,λ u hu ha=>?_⟩⟩))
     ·have hab:ltB a b:=Ik (by unfold FS at hs⊢;exact hs.sublist (by simp));rw[List.append_nil];exact⟨a,b,λ e=>by subst e;exact DF _ hab,(hr a).1 (by simp),(hr b).1 (by simp)⟩
     ·rw[List.append_nil];have hab:ltB a b:=Ik (by unfold FS at hs⊢;exact hs.sublist (by simp));refine⟨by simp,SS hab,λ x hx=>(hr x).1 ?_,λ x hx=>?_⟩
      ·rcases List.mem_cons.1 hx with rfl|hx
       ·simp
       ·rw[List.mem_singleton.1 hx];simp
      ·have:=(hr x).2 hx;rcases List.mem_cons.1 this with rfl|this
       ·exact .inl (by simp)
       ·rcases List.mem_cons.1 this with rfl|h9
        ·exact .inl (by simp)
        ·refine .inr ⟨rfl,λ y hy=>?_⟩;unfold FS at hs;rw[List.pairwise_cons,List.pairwise_cons]at hs;rcases List.mem_cons.1 hy with rfl|hy
         ·exact hs.1 x (List.mem_cons_of_mem _ h9)
         ·rw[List.mem_singleton.1 hy];exact hs.2.1 x h9
     ·rw[List.length_eq_zero_iff.1 hu];rfl
   ·rw[List.length_eq_zero_iff.1 hu,List.append_nil];rintro⟨x,y,hxy,hx,hy⟩;rw[← hr]at hx hy
    match r,h2 with
    | [],h2=>simp at hx
    | [z],h2=>exact hxy ((List.mem_singleton.1 hx).trans (List.mem_singleton.1 hy).symm)
    | a::b::rest,h2=>simp at h2;omega
  | succ m=>
   obtain⟨hc1,hc2⟩:=Xl (m:=m) (by omega);have hbs:bud (m+1)=161051+63*bud m:=rfl;have hp:C4 .i64 ((m+1:Nat):Int) 1=(m:Int):=by rw[Rj]<;>omega
   refine Tot.iteF (by simp;omega) (Tot.bind (R:=LP T w (m+1) ⟨T,L,C,false⟩) ?_ λ r hr=>Jlx hr);refine Tot.upto (body:=λ n (x:Aa×Int)=>BO n (rec n) ((m+1:Nat):Int) w l x.1 x.2) 63 (λ i x=>x.2=(i:Int)/\x.1.T=T/\L-l.length<=x.1.Left+((i*bud m:Nat):Int)/\x.1.Left<=L-l.length/\(0<=x.1.Left->Pn T w (Hd m i) x.1)) ?_ ?_ _ ⟨rfl,rfl,by simp only;omega,by simp only;omega,λ _=>.inl ⟨rfl,λ u hu ha=>?_⟩⟩
   ·rintro i ⟨s,_⟩ hi ⟨rfl,e1,e2,e3,e4⟩;simp only at e1 e2 e3 e4;have hmul:(i+1)*bud m=i*bud m+bud m:=Nat.succ_mul _ _;have hmul2:(i+1)*bud m<=63*bud m:=JlI _ (by omega);subst e1;unfold BO BN;have skip:(∀ u,¬Ht s.T (w++(i:Int)::u))->Tot (λ _:Nat=>(some (.inl (s,Be .u8 (i:Int) 1)):Option ((Aa×Int)⊕Aa))) (Rd2 (λ x=>x.2=((i+1:Nat):Int)/\x.1.T=s.T/\L-l.length<=x.1.Left+(((i+1)*bud m:Nat):Int)/\x.1.Left<=L-l.length/\(0<=x.1.Left->Pn s.T w (Hd m (i+1)) x.1)) (LP s.T w (m+1) ⟨s.T,L,C,false⟩)):=λ hn=>by
     exact Jlx ⟨X5 (by omega),rfl,by simp only;omega,e3,λ h0=>(e4 h0).skip hn⟩
    refine Tot.iteT (by simp;omega) (Tot.bind (JeB ht (i:Int)) λ b hb=>Tot.ite (λ h=>skip λ u ha=>?_) λ h=>?_)
    ·have:=hb.2 (Rt ha);rw[this]at h;simp at h
    ·refine Tot.bind (JcS ht (by omega) hl (by omega) (i:Int)) ?_;rintro r ⟨hr,hrl⟩;refine Tot.ite (λ h2=>?_) λ h2=>skip λ u ha=>?_
     ·refine Tot.bindC (CU (by simp;omega)) (Tot.bindC (CU (by simp;omega)) ?_);rw[hp,List.nil_append];refine Tot.bind (hrec m rfl (w++[(i:Int)]) r s hr ?_ (by simp;omega) rfl (by omega) (by omega)) λ s' hs'=>?_
      ·refine Nat.le_trans (JlI _ hrl) ?_;rw[Nat.mul_comm 11,Nat.mul_assoc,← Nat.pow_succ'];exact hll
      ·exact Jlx ⟨X5 (by omega),hs'.T,by have:=hs'.lo;simp only;omega,by have:=hs'.hi;simp only;omega,λ h0=>(e4 (by have:=hs'.hi;simp only at h0;omega)).step hs' h0⟩
     ·have:=JcT ht ha hr;have h3:=List.length_pos_iff.2 this;simp only[decide_eq_false_iff_not]at h2;omega
   ·rintro⟨s,_⟩ ⟨rfl,e1,e2,e3,e4⟩;simp only at e1 e2 e3 e4;unfold BO;refine Tot.iteF (by simp) (Jlx ⟨e1,by simp only;omega,by simp only;omega,λ h0 ho=>by simp at ho,λ h0 ho=>(e4 h0).congr λ u ha=>⟨?_,λ hu=>?_⟩⟩)
    ·rintro⟨c,u',rfl,h1,h2⟩;simp[h1]
    ·cases u with
     | nil=>simp at hu
     | cons c u=>
      obtain⟨k,hk,hc⟩:=Rt ha;have:=(MI ht hk).2.2.2 c hc;exact⟨c,u,rfl,by simpa using hu,by omega⟩
   ·obtain⟨c,u',rfl,_,h2⟩:=hu;obtain⟨k,hk,hc⟩:=Rt ha;have:=(MI ht hk).2.2.2 c hc;omega
theorem JcU {t:Ab} (ht:TbK t):∀ (m:Nat),m<=5->JeD t m (λ n=>Qh (λ _ _ _ _=>none) (Bb n) (m+1)):=by
 intro m;induction m with
 | zero=>intro hm;exact Om ht hm (λ n=>Qh (λ _ _ _ _=>none) (Bb n) 0) (λ m' e=>by omega)
 | succ m ih=>intro hm;exact Om ht hm (λ n=>Qh (λ _ _ _ _=>none) (Bb n) (m+1)) (λ m' e=>by obtain rfl:m'=m:=(by omega);exact ih (by omega))
theorem JeE (n:Nat):∀ (x y:Nat),x<=y->∀ a b c d,Le (Qh (λ _ _ _ _=>none) (Bb n) x a b c d) (Qh (λ _ _ _ _=>none) (Bb n) y a b c d):=by
 intro x;induction x with
 | zero=>intro y _ _ _ _ _ z hz;cases hz
 | succ x ih=>
  intro y hy _ _ _ _;cases y with
  | zero=>omega
  | succ y=>exact K6 (JlO n) (ih y (by omega)) _ _ _ _
theorem JeF {t:Ab} (ht:TbK t) {m:Nat} (hm:m<=5):JeD t m (λ n=>DP n):=by
 intro w l s h1 h2 h3 h4 h5 h6;obtain⟨z,hz,N,hN⟩:=JcU ht m hm w l s h1 h2 h3 h4 h5 h6;exact⟨z,hz,max N (m+1),λ k hk=>JeE k (m+1) k (by omega) _ _ _ _ _ (hN k (by omega))⟩
theorem JcV (n:Nat) (r:Int->Int->Int->(List AE)->Int->(List UInt8)->(List UInt8)->Bool->(List Ah)->Option Aa) (p:Int) (t:Ab) (L:Int) (A B:List UInt8) (ok:Bool) (l:List Ah):CQ n r p t.Modes t.Accept t.Rules L A B ok l=Bb n (DP n) p ⟨t,L,⟨[],A,B⟩,ok⟩ [] l:=rfl
theorem JcW {t:Ab} (ht:TbK t) {m:Nat} (hm:m<=5) (l:List Ah) (h1:LOK t [] l) (h2:l.length*11 ^ m<=161051):Tot (λ n=>Gh n (m:Int) t.Modes t.Accept t.Rules 4000 [] [] false l) (LP t [] m ⟨t,4000,⟨[],[],[]⟩,false⟩):=by
 have hb:=Xl hm;obtain⟨z,hz,N,hN⟩:=Om ht hm (λ n=>DP n) (λ m' e=>JeF ht (by omega)) [] l ⟨t,4000,⟨[],[],[]⟩,false⟩ h1 h2 (by simp;omega) rfl (by simp only;omega) (by simp only;omega);refine⟨z,hz,max N 1,λ k hk=>?_⟩;obtain⟨j,rfl⟩:∃ j,k=j+1:=⟨k-1,by omega⟩;exact(JcV (j+1) (Qh (λ _ _ _ _ _ _ _ _ _=>none) (CQ (j+1)) j) m t 4000 [] [] false l).trans (hN (j+1) (by omega))
def JcX (t:Ab) (r:Bk×Int):Prop:=(r.1=⟨[],[],[]⟩/\∀ u:List Int,(u.length:Int)<=r.2->¬Ht t u)\/(V0 t r.1.Cells/\Ff [r.1.A,r.1.B] (WrT t r.1.Cells))
theorem Xm {t:Ab} (ht:TbK t):Tot (λ n=>Lw n t 5 4000) (JcX t):=by
 unfold Lw;refine Tot.bind (R:=λ y:Unit⊕(Bk×Int)=>(y=.inl ()/\∀ u:List Int,(u.length:Int)<=5->¬Ht t u)\/∃ r,y=.inr r/\JcX t r) ?_ ?_
 ·refine Tot.upto (body:=λ n x=>FM n t 5 4000 x) 6 (λ i x=>x=(i:Int)/\∀ u:List Int,u.length<i->¬Ht t u) ?_ ?_ _ ⟨rfl,λ u hu=>by omega⟩
  ·rintro i _ hi ⟨rfl,h1⟩;unfold FM;refine Tot.iteT (by simp;omega) (Jlz (y:=[⟨G5,-1,0,[]⟩]) (λ n=>rfl) (Tot.bind (JcW ht (m:=i) (by omega) _ (JcR ht) ?_) λ r hr=>Tot.ite (λ hL=>?_) λ hL=>?_))
   ·have:11 ^ i<=11 ^ 5:=Nat.pow_le_pow_right (by omega) (by omega);have e:(11:Nat) ^ 5=161051:=by decide
    simp only[List.length_singleton];omega
   ·refine Jlx (.inr ⟨_,rfl,.inl ⟨rfl,λ u hu=>h1 u ?_⟩⟩);simp only at hu;rw[Rj (by omega) (by omega)]at hu;omega
   ·have hL:0<=r.Left:=by simpa using hL
    rcases hr.new hL rfl with⟨k1,k2⟩|⟨k1,v,k2,k3,k4,k5,k6⟩
    ·refine Tot.iteF k1 (Jlx ⟨Bg (by omega),λ u hu=>?_⟩);by_cases e:u.length=i
     ·exact k2 u e
     ·exact h1 u (by omega)
    ·simp only[List.nil_append]at k3 k4 k5 k6;refine Tot.iteT k1 (Jlx (.inr ⟨_,rfl,.inr ?_⟩));simp only;rw[k3];refine⟨⟨k4,?_⟩,k5⟩;rintro u hu (hl|⟨hl,hl'⟩)
     ·exact h1 u (by omega) hu
     ·have:=k6 u (by omega) hu;rw[hl']at this;cases this
  ·rintro _ ⟨rfl,h1⟩;unfold FM;exact Tot.iteF (by simp) (Jlx (.inl ⟨rfl,λ u hu=>h1 u (by omega)⟩))
 ·rintro y (⟨rfl,h⟩|⟨r,rfl,h⟩)
  ·exact Jlx (.inl ⟨rfl,h⟩)
  ·exact Jlx h
end Go.AI
end
section
namespace Go.AI
def On (t:Ab) (st:List Ae) (h:Hf):List (Int×List UInt8×Hf):=
 match h.2 with
 | c::r=>[(c,[],(h.1,r))]
 | []=>(List.range t.Rules.length).flatMap λ (k:Nat)=>match st[h.1]? with
  | none=>[]
  | some s=>if(By t s (k:Nat)).2=true then match cls t k with
    | []=>[]
    | c::r=>(List.range st.length).filterMap λ (j:Nat)=>if st[j]?=some (By t s (k:Nat)).1 then some (c,prt t k,(j,r))else none
   else []
def Yb (t:Ab) (st:List Ae):Nat->Hf->List (List Int×List UInt8×Hf)
 | 0,h=>[([],[],h)]
 | n+1,h=>(On t st h).flatMap λ a=>(Yb t st n a.2.2).map λ b=>(a.1::b.1,a.2.1++b.2.1,b.2.2)
def JcY (t:Ab) (st:List Ae) (h:Hf):Bool:=h.2==[]&&match st[h.1]? with|some s=>Bu t s|none=>false
def Ru (t:Ab) (st:List Ae) (n:Nat):List (List Int×List UInt8):=((Yb t st n (0,[])).filter λ b=>JcY t st b.2.2).map λ b=>(b.1,b.2.1)
abbrev Cfg:=Hf×Hf×(Int×List UInt8)
def JcZ (t:Ab) (st:List Ae) (x:Cfg):List Cfg:=(On t st x.1).flatMap λ a=>(On t st x.2.1).filterMap λ b=>if a.1=b.1 then some (a.2.2,b.2.2,HV x.2.2 a.2.1 b.2.1)else none
def Jc0 (t:Ab) (st:List Ae) (C:List Cfg):Bool:=C.contains ((0,[]),(0,[]),(0,[]))&&C.all λ x=>(JcZ t st x).all (λ y=>C.contains y)&&(x.2.2.1==0||!(JcY t st x.1&&JcY t st x.2.1))
def Jky (t:Ab) (st:List Ae):Nat->List Cfg->List Cfg->List Cfg
 | 0,seen,_=>seen
 | _,seen,[]=>seen
 | f+1,seen,x::todo=>let ns:=((JcZ t st x).eraseDups).filter λ y=>!seen.contains y
  Jky t st f (seen++ns) (todo++ns)
def cfg0:Cfg:=((0,[]),(0,[]),(0,[]))
def ZC (l:List (List UInt8×List Int)):Ab:=⟨1,1,l.map λ x=>⟨x.1,x.2,63,63,0,0⟩⟩
def tb1:=ZC [([97],[1]),([98],[3])]
def tb2:=ZC [([97],[1]),([98],[3]),([99],[1,3])]
def tb3:=ZC [([98],[1]),([97],[1])]
def tb4:=ZC [([97],[1]),([98],[3]),([97,98],[1,3])]
def tb5:=ZC [([97],[1,3]),([98],[1]),([99],[3,3]),([100],[3])]
theorem LA (t:Ab) (h h':Hf) (c:Int) (p:List UInt8):Sp (At5 t) h c p h'↔(c,p,h')∈On t (AN t) h:=by
 obtain⟨i,l⟩:=h;cases l with
 | cons d r=>
  show _↔(c,p,h')∈[(d,([]:List UInt8),(i,r))];rw[List.mem_singleton,Prod.mk.injEq,Prod.mk.injEq];constructor
  ·intro H;cases H with
   | rest=>exact⟨rfl,rfl,rfl⟩
  ·rintro⟨rfl,rfl,rfl⟩;exact .rest _ _ _
 | nil=>
  unfold On;simp only[List.mem_flatMap,List.mem_range];constructor
  ·intro H;cases H with
   | @arc _ a _ r h hc=>
    obtain⟨k,j,⟨s,s',e1,e2,e3,e4⟩,rfl⟩:=h;refine⟨k,e2,?_⟩;simp only at hc;simp only[e1,e4,if_true,hc,List.mem_filterMap,List.mem_range];exact⟨j,Am e3,by rw[if_pos e3]⟩
  ·rintro⟨k,hk,H⟩;cases e1:(AN t)[i]? with
   | none=>rw[e1]at H;simp at H
   | some s=>
    rw[e1]at H;simp only at H;split at H
    ·rename_i h2;cases hc:cls t k with
     | nil=>rw[hc]at H;simp at H
     | cons d r=>
      rw[hc]at H;simp only[List.mem_filterMap,List.mem_range]at H;obtain⟨j,_,hj⟩:=H;split at hj
      ·rename_i h3;cases hj;exact .arc (a:=⟨prt t k,cls t k,j⟩) ⟨k,j,⟨s,_,e1,hk,h3,by rw[← h2]⟩,rfl⟩ hc
      ·cases hj
    ·simp at H
theorem NG (t:Ab):∀ (w:List Int) (h h':Hf) (x:List UInt8),Rn (At5 t) h w x h'↔(w,x,h')∈Yb t (AN t) w.length h
 | [],h,h',x=>by
  show _↔(([]:List Int),x,h')∈[(([]:List Int),([]:List UInt8),h)];simp only[List.mem_singleton,Prod.mk.injEq,true_and];constructor
  ·intro H;obtain⟨rfl,rfl⟩:=H.inv0;exact⟨rfl,rfl⟩
  ·rintro⟨rfl,rfl⟩;exact .nil _
 | c::w,h,h',x=>by
  show _↔_∈(On t (AN t) h).flatMap λ a=>(Yb t (AN t) w.length a.2.2).map λ b=>(a.1::b.1,a.2.1++b.2.1,b.2.2);simp only[List.mem_flatMap,JlR];constructor
  ·intro H;obtain⟨h1,p,y,s,r,rfl⟩:=H.inv;exact⟨(c,p,h1),(LA t h h1 c p).1 s,(w,y,h'),(NG t w h1 h' y).1 r,rfl⟩
  ·rintro⟨⟨c',p,h1⟩,s,⟨w',y,h2⟩,r,e⟩;simp only[Prod.mk.injEq,List.cons.injEq]at e;obtain⟨⟨rfl,rfl⟩,rfl,rfl⟩:=e;exact .cons ((LA t h h1 c' p).2 s) ((NG t w' h1 h2 y).2 r)
theorem Ul (t:Ab) (h:Hf):JcY t (AN t) h=true↔h.2=[]/\AcT t h.1:=by
 unfold JcY AcT;rw[Jl0,beq_iff_eq];refine and_congr_right λ _=>?_;cases (AN t)[h.1]? with
 | none=>simp
 | some s=>simp
theorem Lc {t:Ab} (ht:TbK t) (w:List Int) (x:List UInt8):WrT t w x↔(w,x)∈Ru t (AN t) w.length:=by
 rw[← Uk ht];unfold Ru En;simp only[JlR,List.mem_filter,Ul];constructor
 ·rintro⟨k,h1,h2⟩;exact⟨(w,x,(k,[])),⟨(NG t w _ _ x).1 h1,rfl,h2⟩,rfl⟩
 ·rintro⟨⟨w',x',⟨k,l⟩⟩,⟨h1,h2,h3⟩,e⟩;cases e;simp only at h2 h3;subst h2;exact⟨k,(NG t _ _ _ _).2 h1,h3⟩
theorem JeG {t:Ab} (ht:TbK t) {C:List Cfg} (hC:Jc0 t (AN t) C=true):∀ w,¬Ht t w:=by
 unfold Jc0 at hC;simp only[Jl0,List.contains_iff_mem,JlJ,Jmi,beq_iff_eq,Bool.not_eq_true',Bool.and_eq_false_iff]at hC;obtain⟨h0,hC⟩:=hC;have key:∀ (m:Nat) (w:List Int),w.length=m->∀ x y a b,Rn (At5 t) (0,[]) w x a->Rn (At5 t) (0,[]) w y b->(a,b,ldT x y)∈C:=by
  intro m;induction m with
  | zero=>
   intro w hw x y a b h1 h2;have:w=[]:=List.length_eq_zero_iff.1 hw;subst this;obtain⟨rfl,rfl⟩:=h1.inv0;obtain⟨rfl,rfl⟩:=h2.inv0;exact h0
  | succ m ih=>
   intro w hw x y a b h1 h2;have hne:w≠[]:=λ e=>by rw[e]at hw;simp at hw
   obtain⟨u,c,rfl⟩:∃ u c,w=u++[c]:=⟨w.dropLast,w.getLast hne,(List.dropLast_concat_getLast hne).symm⟩;obtain⟨a1,x1,p,q1,q2,rfl⟩:=h1.unsnoc;obtain⟨b1,y1,q,r1,r2,rfl⟩:=h2.unsnoc;have:=ih u (by simpa using hw) x1 y1 a1 b1 q1 r1;refine(hC _ this).1 _ ?_;unfold JcZ;simp only[List.mem_flatMap,List.mem_filterMap];exact⟨(c,p,a),(LA t _ _ _ _).1 q2,(c,q,b),(LA t _ _ _ _).1 r2,by rw[if_pos rfl,Jx]⟩
 rintro w ⟨x,y,hxy,hx,hy⟩;rw[← Uk ht]at hx hy;obtain⟨i,h1,h2⟩:=hx;obtain⟨j,h3,h4⟩:=hy;rcases (hC _ (key _ w rfl x y _ _ h1 h3)).2 with h|h|h
 ·exact hxy (Jy.1 h)
 ·rw[(Ul t _).2 ⟨rfl,h2⟩]at h;cases h
 ·rw[(Ul t _).2 ⟨rfl,h4⟩]at h;cases h
def JeH (t:Ab) (st:List Ae) (m:Nat) (ok:List Int->Bool):Bool:=(Ru t st m).all λ a=>(Ru t st m).all λ b=>!(a.1==b.1)||a.2==b.2||ok a.1
def Jc1 (t:Ab) (st:List Ae) (w:List Int) (A B:List UInt8):Bool:=(List.range w.length).all (λ m=>JeH t st m λ _=>false)&&JeH t st w.length (λ u=>!ltL u w)&&Op.bytesLess A B&&(Ru t st w.length).contains (w,A)&&(Ru t st w.length).contains (w,B)&&(Ru t st w.length).all λ e=>!(e.1==w)||e.2==A||e.2==B
theorem Jc2 {t:Ab} (ht:TbK t) {m:Nat} {ok:List Int->Bool} (h:JeH t (AN t) m ok=true):∀ u,u.length=m->Ht t u->ok u=true:=by
 rintro u rfl ⟨x,y,hxy,hx,hy⟩;unfold JeH at h;simp only[JlJ,Jmi,Bool.not_eq_true',beq_eq_false_iff_ne,beq_iff_eq]at h;rcases h _ ((Lc ht u x).1 hx) _ ((Lc ht u y).1 hy)with (h|h)|h
 ·exact absurd rfl h
 ·exact absurd h hxy
 ·exact h
theorem NH {t:Ab} (ht:TbK t) {w:List Int} {A B:List UInt8} (h:Jc1 t (AN t) w A B=true) (hw:w.length<=1000):MH t (⟨w,A,B⟩,50):=by
 unfold Jc1 at h;simp only[Jl0,JlJ,List.mem_range,Jmi,Bool.not_eq_true',beq_eq_false_iff_ne,beq_iff_eq,List.contains_iff_mem]at h;obtain⟨⟨⟨⟨⟨h1,h2⟩,h3⟩,h4⟩,h5⟩,h6⟩:=h;have hA:=(Lc ht w A).2 h4;have hB:=(Lc ht w B).2 h5;have hne:A≠B:=λ e=>by subst e;exact DF _ h3
 refine .inr ⟨rfl,⟨⟨A,B,hne,hA,hB⟩,?_⟩,⟨by simp,SS h3,?_,?_⟩,by simp only;omega⟩
 ·rintro u hu (hl|⟨hl,hl'⟩)
  ·have:=Jc2 ht (h1 _ hl) u rfl hu;cases this
  ·have:=Jc2 ht h2 u hl hu;rw[hl']at this;cases this
 ·intro x hx;rcases List.mem_cons.1 hx with rfl|hx
  ·exact hA
  ·rw[List.mem_singleton.1 hx];exact hB
 ·intro x hx;rcases h6 _ ((Lc ht w x).1 hx)with (h|h)|h
  ·exact absurd rfl h
  ·exact .inl (by simp only at h;simp[h])
  ·exact .inl (by simp only at h;simp[h])
theorem Rv {t:Ab} (ht:TbK t) {r:Bk×Int} (h:MH t r):Ev (λ n=>Br n t) r:=by
 obtain⟨z,hz,he⟩:=SU ht;rw[MH.uniq (λ _ _=>Iff.rfl) h hz];exact he
def tkB (t:Ab):Bool:=decide (t.Rules.length<=11)&&t.Rules.all (λ r=>decide (0<=r.To)&&decide (r.To<2)&&decide (0<=r.Right)&&decide (r.Right<=63)&&decide (r.Print.length<=3)&&r.Cells.all λ c=>decide (0<=c))&&Ey t
theorem Ld {t:Ab} (h:tkB t=true):TbK t:=by
 unfold tkB at h;simp only[Jl0,JlJ,decide_eq_true_eq]at h;obtain⟨⟨h1,h2⟩,h3⟩:=h;exact⟨⟨h1,λ r hr=>⟨(h2 r hr).1.1.1.1.1,(h2 r hr).1.1.1.1.2,(h2 r hr).1.1.1.2,(h2 r hr).1.1.2,(h2 r hr).1.2⟩⟩,h3,λ r hr=>(h2 r hr).2⟩
theorem JlD {α:Type} {f:Nat->Option α} {z:α} (d:Nat) (h:∀ k,f (k+d)=some z):Ev f z:=⟨d,λ m hm=>by obtain⟨k,rfl⟩:∃ k,m=k+d:=⟨m-d,by omega⟩;exact h k⟩
theorem LB {a:List (List UInt8)} {b:List (List Int)} {t:Ab} (h:∀ k,FD (k+9) a b=some t):Ev (λ n=>FD n a b) t:=JlD 9 h
theorem Xn {t:Ab} (ht:TbK t) {C:List Cfg} (hC:Jc0 t (AN t) C=true):Ev (λ n=>Br n t) (⟨[],[],[]⟩,0):=Rv ht (.inl ⟨rfl,JeG ht hC⟩)
theorem Jc3:Ev (λ n=>Br n ⟨0,0,[]⟩) (⟨[],[],[]⟩,20):=by
 unfold Br;exact Ev.bind (SM (t:=⟨0,0,[]⟩) (Oe (by simp) (λ r hr=>by simp at hr))) (Ev.iteT (by decide +kernel) Ev.const)
def clo (t:Ab):List Cfg:=Jky t (AN t) 100 [cfg0] [cfg0]
theorem Jkz:Ev (λ n=>Br n tb1) (⟨[],[],[]⟩,0):=Xn (Ld (by decide +kernel)) (C:=clo tb1) (by decide +kernel)
theorem JkA:Ev (λ n=>Br n tb2) (⟨[1,3],[97,98],[99]⟩,50):=Rv (Ld (by decide +kernel)) (NH (Ld (by decide +kernel)) (by decide +kernel) (by simp))
theorem JkB:Ev (λ n=>Br n tb3) (⟨[1],[97],[98]⟩,50):=Rv (Ld (by decide +kernel)) (NH (Ld (by decide +kernel)) (by decide +kernel) (by simp))
theorem JkC:Ev (λ n=>Br n tb4) (⟨[],[],[]⟩,0):=Xn (Ld (by decide +kernel)) (C:=clo tb4) (by decide +kernel)
theorem JkD:Ev (λ n=>Br n tb5) (⟨[1,3],[97],[98,100]⟩,50):=Rv (Ld (by decide +kernel)) (NH (Ld (by decide +kernel)) (by decide +kernel) (by simp))
theorem JkE:Ev (λ n=>Br n (Mi 2)) (⟨[],[],[]⟩,0):=Xn (Ld (by decide +kernel)) (C:=clo (Mi 2)) (by decide +kernel)
theorem JkF:Ev (λ n=>Br n (Mi 4)) (⟨[1,3],[45],[97,98]⟩,50):=Rv (Ld (by decide +kernel)) (NH (Ld (by decide +kernel)) (by decide +kernel) (by simp))
def tb6:=ZC [([97],[1]),([98],[1])]
theorem Jc4 {c:Bk} {b:Bool} (h:∀ k,Gc (k+40) tb6 c=some b):Ev (λ n=>Gc n tb6 c) b:=JlD 40 h
theorem Xo:Ev (λ n=>Jh n) true:=by
 unfold Jh;refine Ev.bind (LB (t:=tb1) (λ _=>by kernel_rfl)) (Ev.bind Jkz ?_);refine Ev.bind (LB (t:=tb2) (λ _=>by kernel_rfl)) (Ev.bind JkA ?_);refine Ev.bind (LB (t:=tb3) (λ _=>by kernel_rfl)) (Ev.bind JkB ?_);refine Ev.bind (LB (t:=tb4) (λ _=>by kernel_rfl)) (Ev.bind JkC ?_);refine Ev.bind (LB (t:=tb5) (λ _=>by kernel_rfl)) (Ev.bind JkD (Ev.bind Jc3 ?_));refine Ev.bind (Ev.iteT rfl (La _ _ (by simp))) (Ev.bind (Ev.iteT rfl (La _ _ (by simp))) (Ev.bind (Ev.iteT rfl (La _ _ (by simp))) ?_));refine Ev.bind (LB (t:=tb6) (λ _=>by kernel_rfl)) ?_;refine Ev.bind (Ev.iteT rfl (Jc4 (b:=true) (λ _=>by kernel_rfl))) (Ev.bind (Ev.iteT rfl (Jc4 (b:=false) (λ _=>by kernel_rfl))) (Ev.bind (Ev.iteT rfl (Jc4 (b:=false) (λ _=>by kernel_rfl))) ?_));refine Ev.bind (Ev.iteT rfl (Ev.all λ n=>(Ly n 2 (by decide)).1)) (Ev.bind (Ev.iteT rfl (Ev.bind JkE Ev.const)) ?_);refine Ev.bind (Ev.iteT rfl (Ev.all λ n=>(Ly n 4 (by decide)).1)) (Ev.bind (Ev.iteT rfl (Ev.bind JkF Ev.const)) ?_);exact Ev.const
end Go.AI
end
section
namespace Go.AI
theorem Jc5 {x:JZ} (hx:NA x):Ev (λ n=>B8 n x) true:=by
 obtain⟨t,ht,hM⟩:=JcQ hx;have htk:=ht.tk;refine Tot.ev ?_;unfold B8;refine Jly Xo (Jly hM ?_);obtain⟨c,hc,hcE⟩:=SU htk;have hA:Ev (λ n=>Dz n t) (c.2==0):=Ev.bind hcE Ev.const;refine Jly hcE (Tot.bind (Xm htk) λ r hr=>?_);rcases hr with⟨h1,h2⟩|⟨h1,h2⟩
 ·refine Tot.iteF (by rw[h1];rfl) ?_;rcases hc with⟨rfl,_⟩|⟨k1,k2,_,_⟩
  ·exact Tot.iteT rfl (Jly (La _ _ (by simp)) (Jly (Ev.iteT rfl hA) (Jlx rfl)))
  ·have hlt:decide (((c.1.Cells.length:Nat):Int)>r.2)=true:=decide_eq_true (by have:=mt (h2 c.1.Cells) (λ h=>h k2.1);omega);have e:(c.2==0)=false:=by rw[k1];rfl
   rw[e]at hA;refine Tot.iteF e (Jly (Ev.iteT (by rw[hlt,k1];rfl) hA) (Jlx ?_));rw[hlt,k1];rfl
 ·have hne:r.1.A≠r.1.B:=λ e=>by
   have:=Ik h2.sort;rw[e]at this;exact DF _ this
  refine Tot.iteT (by simpa using hne) ?_;rcases hc with⟨_,k⟩|⟨k1,k2,k3,k4⟩
  ·exact absurd h1.1 (k _)
  ·have hcl:=V0.uniq (λ _ _=>Iff.rfl) k2 h1;have he:c.1=r.1:=by
    obtain⟨⟨a,b,d⟩,_⟩:=c;obtain⟨⟨a',b',d'⟩,_⟩:=r;simp only at hcl k3 h2;subst hcl;obtain⟨rfl,rfl⟩:=k3.uniq h2;rfl
   have e:(c.2==0)=false:=by rw[k1];rfl
   have e5:(c.2==50)=true:=by rw[k1];rfl
   rw[e]at hA;refine Jly (Ev.iteT e5 (La _ _ (by omega))) (Jly (Ev.iteT (by rw[e5,he];simp) hA) (Jlx ?_));rw[e5,he];simp
end Go.AI
end
section
namespace Go.AI
theorem MJ {n:Int} (h:okI .u8 n):U8 n:=by
 unfold okI Lit.wf at h;have:IntKind.u8.min=0/\IntKind.u8.max=255:=by decide
 unfold U8;simp only[Jl0,decide_eq_true_eq]at h;omega
theorem R7 {r:C0} (h:Js r):XX r:=by
 obtain⟨a,b,c,d,e,f⟩:=h;exact⟨λ y hy=>MJ (a y hy),λ y hy=>MJ (b y hy),MJ c,MJ d,MJ e,MJ f⟩
theorem ZD {x:JZ} (h:WX x):NA x:=⟨(MJ h.1).1,λ r hr=>R7 (h.2.2 r hr)⟩
theorem ZE:∀ x:JZ,WX x->∃ n,B8 n x=some true:=λ _ h=>(Jc5 (ZD h)).out
end Go.AI
end
