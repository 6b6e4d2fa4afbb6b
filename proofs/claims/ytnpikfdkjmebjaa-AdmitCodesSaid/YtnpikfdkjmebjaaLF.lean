/- The theorem: the last one of this text; part 6 of 6 of its proof. It holds with no condition beyond the given statement. -/
import Derived.Test.YtnpikfdkjmebjaaLE
import Derived.KernelRfl
import Derived.Test.YtnpikfdkjmebjaaRows
section
namespace Go.AI
def Vl (r:Int):Ab:=(HK 0 r).getD default
theorem Vm (n:Nat) (k:Int) (h0:0<=k):HK n k=some (Vl (Bh k 8))/\0<=Bh k 8/\Bh k 8<8:=by
 have e:Bh k 8=k % 8:=by unfold Bh;rw[Int.tmod_eq_emod_of_nonneg h0]
 have hr:Bh k 8=0\/Bh k 8=1\/Bh k 8=2\/Bh k 8=3\/Bh k 8=4\/Bh k 8=5\/Bh k 8=6\/Bh k 8=7:=by rw[e];omega
 rcases hr with h|h|h|h|h|h|h|h
 all_goals
  refine⟨?_,by omega,by omega⟩;unfold HK;rw[h];rfl
def U8 (n:Int):Prop:=0<=n/\n<256
structure Ru (t:Ab):Prop where
 tab:Gl t
 lo:1<=t.Modes
 hi:t.Modes<=2
 valid:Hw t=true
theorem Ru.sound {t:Ab} (h:Ru t):∀ r∈t.Rules,B4 r t.Modes=true:=L7 h.valid
theorem GT {r:AF} {m:Int} (h:B4 r m=true):r.Print.length<=4/\1<=r.Cells.length/\r.Cells.length<=4:=by
 simp only[B4,Jiv,decide_eq_true_eq]at h;omega
theorem Ru.small {t:Ab} (h:Ru t):Fw t:=⟨by have:=h.tab.1;omega,λ r hr=>by have:=GT (h.sound r hr);exact⟨by omega,by omega⟩⟩
theorem MD {t:Ab} (hl:t.Rules.length<=11) (h:∀ r∈t.Rules,Up r/\r.Cells.length<=4):Fw t:=⟨by omega,λ r hr=>⟨by have:=(h r hr).1.2.2.2.2;omega,by have:=(h r hr).2;omega⟩⟩
end Go.AI
end
section
namespace Go.AI
def DB (t:Ab) (k:Int):AF:=t.Rules[k.toNat]?.getD default
theorem JZ {t:Ab} {s:Ad} {k:Int} (h:(BA t s k).2=true):0<=k/\k<t.Rules.length:=by
 unfold BA at h;split at h
 ·cases h
 ·rename_i hk;simp only[JiN,decide_eq_true_eq,not_or]at hk;omega
theorem ZZ {t:Ab} {k:Int} (h:0<=k) (h':k<t.Rules.length):idx t.Rules k=some (DB t k):=S3 h h'
theorem Lj {t:Ab} {k:Int} (h:0<=k) (h':k<t.Rules.length):DB t k∈t.Rules:=by
 unfold DB;rw[Jiu (by omega)];exact Jih _
end Go.AI
end
section
namespace Go.AI
theorem Rv {st:List Ad} (hn:st.Nodup) {i j:Nat} {s:Ad} (h:st[i]?=some s) (h':st[j]?=some s):i=j:=by
 have a:=Dj hn h;rw[Dj hn h']at a;cases a;rfl
theorem Td {i:Nat} (h:i<9223372036854775807):Ba .i64 (i:Int) 1=((i+1:Nat):Int):=by
 rw[O7 (by omega) (by omega)];rfl
end Go.AI
end
section
namespace Go.AI
def Edge (t:Ab) (st:List Ad) (i:Nat) (k:Nat) (j:Nat):Prop:=∃ s s',st[i]?=some s/\k<t.Rules.length/\st[j]?=some s'/\BA t s (k:Nat)=(s',true)
inductive KG (t:Ab) (st:List Ad):Nat->Prop
 | acc (i:Nat) (s:Ad) (h:st[i]?=some s) (ha:Bv t s=true):KG t st i
 | step (i k j:Nat) (h:Edge t st i k j) (hj:KG t st j):KG t st i
def IA (t:Ab) (st:List Ad) (l:List Bool):Prop:=l.length=st.length/\∀ i:Nat,l[i]?=some true↔KG t st i
theorem KG.lt {t:Ab} {st:List Ad} {i:Nat} (h:KG t st i):i<st.length:=by
 cases h with
 | acc _ s h ha=>exact Ak h
 | step _ k j h hj=>obtain⟨s,s',h,_⟩:=h;exact Ak h
theorem IA.uniq {t:Ab} {st:List Ad} {l m:List Bool} (h:IA t st l) (h':IA t st m):l=m:=by
 refine List.ext_getElem? λ i=>?_;rcases Jil i st.length with hi|hi
 ·have h1:i<l.length:=by rw[h.1];exact hi
  have h2:i<m.length:=by rw[h'.1];exact hi
  have e:=(h.2 i).trans (h'.2 i).symm;rw[Jiu h1,Jiu h2]at e⊢;cases ha:l[i]<;>cases hb:m[i]<;>simp_all
 ·rw[List.getElem?_eq_none_iff.2 (by rw[h.1];exact hi),List.getElem?_eq_none_iff.2 (by rw[h'.1];exact hi)]
theorem IA.of {t:Ab} {st:List Ad} {l:List Bool} (hl:l.length=st.length) (hs:∀ i,l[i]?=some true->KG t st i) (ha:∀ (i:Nat) s,st[i]?=some s->Bv t s=true->l[i]?=some true) (hc:∀ i k j,Edge t st i k j->l[j]?=some true->l[i]?=some true):IA t st l:=by
 refine⟨hl,λ i=>⟨hs i,λ h=>?_⟩⟩;induction h with
 | acc i s h h'=>exact ha i s h h'
 | step i k j h _ ih=>exact hc i k j h ih
def Jb (l:List Bool):Nat:=l.count false
theorem Z0 {l:List Bool} {i:Nat} (h:l[i]?=some false):Jb (l.set i true)+1=Jb l:=by
 have hi:=Ak h;rw[Jiu hi]at h;have h':l[i]=false:=by simpa using h
 have hp:0<List.count false l:=List.count_pos_iff.2 (h'▸Jih hi);unfold Jb;rw[List.count_set hi,h'];simp;omega
theorem JbH (l:List Bool):Jb l<=l.length:=List.count_le_length
structure Z1 (t:Ab) (st:List Ad) (out0 out:List Bool) (g:Bool) (i m:Nat):Prop where
 len:out.length=st.length
 snd:∀ j:Nat,out[j]?=some true->KG t st j
 acc:∀ (j:Nat) s,st[j]?=some s->Bv t s=true->out[j]?=some true
 same:g=false->out=out0
 less:g=true->Jb out<Jb out0
 cl:g=false->∀ i' k j,(i'<i\/(i'=i/\k<m))->Edge t st i' k j->out[j]?=some true->out[i']?=some true
theorem Z1.stop {t:Ab} {st:List Ad} {out0 out:List Bool} {g:Bool} {i m:Nat} (h:Z1 t st out0 out g i m) (hm:t.Rules.length<=m\/out[i]?=some true):Z1 t st out0 out g (i+1) 0:=by
 refine⟨h.len,h.snd,h.acc,h.same,h.less,λ hg i' k j hi he hj=>?_⟩;rcases Jil i' i with hlt|hge
 ·exact h.cl hg i' k j (.inl hlt) he hj
 ·have:i'=i:=by omega
  subst this;rcases hm with hm|hm
  ·obtain⟨s,s',_,hk,_⟩:=id he;exact h.cl hg i' k j (.inr ⟨rfl,by omega⟩) he hj
  ·exact hm
end Go.AI
end
section
namespace Go.AI
structure KU (t:Ab) (st:List Ad) (al:List Bool) (op:List Int) (q:Option (Nat×List Int×Nat)):Prop where
 len:al.length=st.length
 snd:∀ j:Nat,al[j]?=some true->KG t st j
 acc:∀ (j:Nat) s,st[j]?=some s->Bv t s=true->al[j]?=some true
 opn:∀ x∈op,∃ j:Nat,x=(j:Int)/\al[j]?=some true
 cl:∀ i k j,Edge t st i k j->al[j]?=some true->al[i]?=some true\/(j:Int)∈op\/∃ l m p,q=some (j,l,m)/\m<=p/\l[p]?=some (i:Int)
 siz:2*Jb al+op.length<=3000
theorem Z2 {t:Ab} {st:List Ad} (hF:Fg t st) (fr:List (List Int)):Tot (λ n=>whl (λ (x:((List Bool)×(List Int)×Int))=>D2 n t (st,fr) x.1 x.2.1 x.2.2) n (List.replicate st.length false,([]:List Int),0)) (λ r=>KU t st r.1 r.2 none):=by
 have hlen:=hF.len;refine Tot.upto (body:=λ n x=>D2 n t (st,fr) x.1 x.2.1 x.2.2) st.length (λ i x=>x.2.2=(i:Int)/\x.1.length=st.length/\(∀ j:Nat,x.1[j]?=some true↔j<i/\∃ s,st[j]?=some s/\Bv t s=true)/\(∀ y∈x.2.1,∃ j:Nat,y=(j:Int)/\x.1[j]?=some true)/\(∀ j:Nat,x.1[j]?=some true->(j:Int)∈x.2.1)/\x.2.1.length<=i) ?_ ?_ _ ⟨rfl,by simp,λ j=>?_,by simp,λ j hj=>?_,by simp⟩
 ·rintro i ⟨al,op,i'⟩ hi ⟨e,h1,h2,h3,h4,h5⟩;simp only at e h1 h2 h3 h4 h5;subst e;have hal:i<al.length:=by rw[h1];exact hi
  have hgi:st[i]?=some st[i]:=Jiu hi;unfold D2;have hJ:∀ al' op',(al'.length=st.length/\(∀ j:Nat,al'[j]?=some true↔j<i+1/\∃ s,st[j]?=some s/\Bv t s=true)/\(∀ y∈op',∃ j:Nat,y=(j:Int)/\al'[j]?=some true)/\(∀ j:Nat,al'[j]?=some true->(j:Int)∈op')/\op'.length<=i+1)->Tot (λ n=>E1 n (i:Int) al' op') (Rd2 (λ x:List Bool×List Int×Int=>x.2.2=((i+1:Nat):Int)/\x.1.length=st.length/\(∀ j:Nat,x.1[j]?=some true↔j<i+1/\∃ s,st[j]?=some s/\Bv t s=true)/\(∀ y∈x.2.1,∃ j:Nat,y=(j:Int)/\x.1[j]?=some true)/\(∀ j:Nat,x.1[j]?=some true->(j:Int)∈x.2.1)/\x.2.1.length<=i+1) (λ r=>KU t st r.1 r.2 none)):=by
   intro al' op' h;unfold E1;exact Jh1 ⟨Td (by omega),h⟩
  refine Tot.iteT (by simpa using hi) (Tot.bindC (Bj hi) (Jh3 (λ n=>O8 n t _) (Tot.ite (λ hc=>?_) (λ hc=>?_))))
  ·refine Tot.bindC (Bj hal) (Tot.bindC (Iz hal) (Tot.bindC (ZM (by simp;omega)) (hJ _ _ ⟨by rw[JiL];exact h1,λ j=>?_,λ y hy=>?_,λ j hj=>?_,by simp only[List.length_append,List.length_singleton];omega⟩)))
   ·by_cases e:i=j
    ·subst e;rw[JiF hal];exact⟨λ _=>⟨by omega,_,hgi,hc⟩,λ _=>rfl⟩
    ·rw[JiK e,h2 j];exact⟨λ h=>⟨by omega,h.2⟩,λ h=>⟨by omega,h.2⟩⟩
   ·rcases List.mem_append.1 hy with hy|hy
    ·obtain⟨j,rfl,hj⟩:=h3 y hy;refine⟨j,rfl,?_⟩;by_cases e:i=j
     ·subst e;rw[JiF hal]
     ·rw[JiK e];exact hj
    ·simp at hy;exact⟨i,hy,JiF hal⟩
   ·by_cases e:i=j
    ·subst e;simp
    ·rw[JiK e]at hj;exact List.mem_append_left _ (h4 j hj)
  ·refine hJ _ _ ⟨h1,λ j=>?_,h3,h4,Nat.le_succ_of_le h5⟩;rw[h2 j];refine⟨λ h=>⟨by omega,h.2⟩,λ h=>⟨?_,h.2⟩⟩;rcases Jil j i with hj|hj
   ·exact hj
   ·have:j=i:=by omega
    subst this;obtain⟨_,s,hs,ha⟩:=h;rw[hgi]at hs;cases hs;rw[ha]at hc;cases hc
 ·rintro⟨al,op,i'⟩ ⟨e,h1,h2,h3,h4,h5⟩;simp only at e h1 h2 h3 h4 h5;subst e;unfold D2;refine Tot.iteF (by simp) (Jh1 ⟨h1,λ j hj=>?_,λ j s hs ha=>?_,h3,λ i k j he hj=>.inr (.inl (h4 j hj)),?_⟩)
  ·obtain⟨_,s,hs,ha⟩:=(h2 j).1 hj;exact .acc j s hs ha
  ·exact(h2 j).2 ⟨Ak hs,s,hs,ha⟩
  ·have:=JbH al;simp only;omega
 ·rw[List.getElem?_replicate];constructor
  ·intro h;split at h<;>cases h
  ·intro h;omega
 ·simp only at hj;rw[List.getElem?_replicate]at hj;split at hj<;>cases hj
theorem Z3 {t:Ab} {st:List Ad} {fr:List (List Int)} (hF:Fg t st) (hR:CX t st fr st.length 0) {q:Nat} {l:List Int} (hl:fr[q]?=some l) (hq:KG t st q) {al:List Bool} {op:List Int} (h0:KU t st al op (some (q,l,0))) :
  Tot (λ n=>whl (λ (x:((List Bool)×(List Int)×Int))=>D3 n (st,fr) l x.1 x.2.1 x.2.2) n (al,op,0)) (λ r=>KU t st r.1 r.2 none/\2*Jb r.1+r.2.length<=2*Jb al+op.length):=by
 have hlen:=hF.len;have hll:=hR.small q l hl;refine Tot.upto (body:=λ n x=>D3 n (st,fr) l x.1 x.2.1 x.2.2) l.length (λ m x=>x.2.2=(m:Int)/\KU t st x.1 x.2.1 (some (q,l,m))/\2*Jb x.1+x.2.1.length<=2*Jb al+op.length) ?_ ?_ _ ⟨rfl,h0,Jik _⟩
 ·rintro m ⟨al',op',m'⟩ hm ⟨e,hB,hc⟩;simp only at e hB hc;subst e;have hgm:l[m]?=some l[m]:=Jiu hm;obtain⟨b,sb,kb,sq,hb,hsb,hkb,hsq,hst⟩:=hR.sound q l hl _ (Jih hm);have hbl:b<al'.length:=by rw[hB.len];exact Ak hsb
  have hE:Edge t st b kb q:=⟨sb,sq,hsb,hkb,hsq,hst⟩;have hJ:∀ al'' op'',KU t st al'' op'' (some (q,l,m+1))->2*Jb al''+op''.length<=2*Jb al+op.length->Tot (λ n=>E2 n (m:Int) al'' op'') (Rd2 (λ x:List Bool×List Int×Int=>x.2.2=((m+1:Nat):Int)/\KU t st x.1 x.2.1 (some (q,l,m+1))/\2*Jb x.1+x.2.1.length<=2*Jb al+op.length) (λ r=>KU t st r.1 r.2 none/\2*Jb r.1+r.2.length<=2*Jb al+op.length)):=by
   intro al'' op'' h h';unfold E2;exact Jh1 ⟨Td (by omega),h,h'⟩
  unfold D3;refine Tot.iteT (by simpa using hm) (Tot.bindC (Bj hm) ?_);rw[hb];rw[hb]at hgm;refine Tot.bindC (Bj hbl) (Tot.ite (λ hf=>?_) (λ hf=>?_))
  ·have hbf:al'[b]?=some false:=by rw[Jiu hbl];simpa using hf
   have hcs:=Z0 hbf;have hsz:=hB.siz;refine Tot.bindC (Bj hbl) (Tot.bindC (Iz hbl) (Tot.bindC (ZM (by simp;omega)) (hJ _ _ ⟨by rw[JiL];exact hB.len,λ j hj=>?_,λ j s h1 h2=>?_,λ x hx=>?_,λ i k j he hj=>?_,?_⟩ ?_)))
   ·by_cases e:b=j
    ·subst e;exact .step b kb q hE hq
    ·rw[JiK e]at hj;exact hB.snd j hj
   ·by_cases e:b=j
    ·subst e;rw[JiF hbl]
    ·rw[JiK e];exact hB.acc j s h1 h2
   ·rcases List.mem_append.1 hx with hx|hx
    ·obtain⟨j,rfl,hj⟩:=hB.opn x hx;refine⟨j,rfl,?_⟩;by_cases e:b=j
     ·subst e;rw[JiF hbl]
     ·rw[JiK e];exact hj
    ·simp at hx;exact⟨b,hx,JiF hbl⟩
   ·by_cases ei:b=i
    ·subst ei;rw[JiF hbl];exact .inl rfl
    ·rw[JiK ei];by_cases e:b=j
     ·subst e;exact .inr (.inl (by simp))
     ·rw[JiK e]at hj;rcases hB.cl i k j he hj with h|h|⟨l',m',p,h1,h2,h3⟩
      ·exact .inl h
      ·exact .inr (.inl (List.mem_append_left _ h))
      ·cases h1;refine .inr (.inr ⟨l,m+1,p,rfl,?_,h3⟩);rcases Jil m p with h|h
       ·exact h
       ·have:p=m:=by omega
        subst this;rw[hgm]at h3;exact absurd (Int.ofNat_inj.1 (Option.some.inj h3)) ei
   ·simp only[List.length_append,List.length_singleton];omega
   ·simp only[List.length_append,List.length_singleton];omega
  ·have hbt:al'[b]?=some true:=by rw[Jiu hbl];simpa using hf
   refine hJ _ _ ⟨hB.len,hB.snd,hB.acc,hB.opn,λ i k j he hj=>?_,hB.siz⟩ hc;rcases hB.cl i k j he hj with h|h|⟨l',m',p,h1,h2,h3⟩
   ·exact .inl h
   ·exact .inr (.inl h)
   ·cases h1;rcases Jil m p with h|h
    ·exact .inr (.inr ⟨l,m+1,p,rfl,h,h3⟩)
    ·have:p=m:=by omega
     subst this;rw[hgm]at h3;have:=Int.ofNat_inj.1 (Option.some.inj h3);subst this;exact .inl hbt
 ·rintro⟨al',op',m'⟩ ⟨e,hB,hc⟩;simp only at e hB hc;subst e;unfold D3;refine Tot.iteF (by simp) (Jh1 ⟨⟨hB.len,hB.snd,hB.acc,hB.opn,λ i k j he hj=>?_,hB.siz⟩,hc⟩);rcases hB.cl i k j he hj with h|h|⟨l',m',p,h1,h2,h3⟩
  ·exact .inl h
  ·exact .inr (.inl h)
  ·cases h1;have:=Ak h3;omega
theorem WN {t:Ab} (ht:Gl t):Tot (λ n=>Ki n t) (IA t (AP t)):=by
 obtain⟨hF,hD⟩:=D8 ht;obtain⟨fr,hR,hE⟩:=O9 ht;unfold Ki;refine Jh2 hE ?_;generalize AP t=st at *;have hlen:=hF.len;have hmk:mkl 1 ((st.length:Nat):Int) false=some (List.replicate st.length false):=by
  unfold mkl;rw[if_pos (by simp;omega),JiD]
 refine Tot.bindC hmk (Tot.bind (Z2 hF fr) ?_);rintro⟨al,op⟩ hB;simp only at hB;refine Tot.bind (R:=IA t st) ?_ λ y hy=>Jh1 hy;refine Tot.whl (body:=λ n x=>Gt n (st,fr) x.1 x.2) (λ c x=>c=2*Jb x.1+x.2.length/\KU t st x.1 x.2 none) ?_ _ _ ⟨rfl,hB⟩;rintro c ⟨al,op⟩ ⟨rfl,hB⟩;simp only at hB;unfold Gt;refine Tot.ite (λ hc=>?_) (λ hc=>?_)
 ·have hpos:0<op.length:=by simpa using hc
  have hsz:=hB.siz;obtain⟨op',x,rfl⟩:∃ op' x,op=op'++[x]:=⟨op.dropLast,op.getLast (by intro h;subst h;simp at hpos),(List.dropLast_concat_getLast _).symm⟩;have hn:K5 .i64 ((List.length (op'++[x]):Nat):Int) 1=(op'.length:Int):=by
   simp only[List.length_append,List.length_singleton]at hsz⊢;rw[ZD (by omega) (by omega)];omega
  have hx:(op'++[x])[op'.length]?=some x:=by simp
  have hsub:sub (op'++[x]) 0 (op'.length:Int)=some op':=by
   unfold sub;rw[if_pos (by simp;omega)];simp
  obtain⟨q,rfl,hq⟩:=hB.opn x (by simp);have hqF:q<fr.length:=by rw[hR.len,← hB.len];exact Ak hq
  simp only[hn];refine Tot.bindC (CH hx) (Tot.bindC hsub (Tot.bindC (Bj hqF) ?_));have hlq:fr[q]?=some fr[q]:=Jiu hqF;have hB':KU t st al op' (some (q,fr[q],0)):=by
   refine⟨hB.len,hB.snd,hB.acc,λ y hy=>hB.opn y (List.mem_append_left _ hy),λ i k j he hj=>?_,by simp at hsz;omega⟩;rcases hB.cl i k j he hj with h|h|⟨_,_,_,h,_⟩
   ·exact .inl h
   ·rcases List.mem_append.1 h with h|h
    ·exact .inr (.inl h)
    ·simp at h;have hjq:j=q:=by omega
     subst hjq;obtain⟨s,s',a1,a2,a3,a4⟩:=he;have hm:=hR.compl j _ hlq i s k s' (.inl (Ak a1)) a1 a2 a3 a4;obtain⟨p,hp,hp'⟩:=List.getElem_of_mem hm;exact .inr (.inr ⟨_,0,p,rfl,by omega,by rw[Jiu hp,hp']⟩)
   ·cases h
  refine Tot.bind (Z3 hF hR hlq (hB.snd q hq) hB') λ y hy=>Jh1 ⟨_,?_,rfl,hy.1⟩;have:=hy.2;simp only[List.length_append,List.length_singleton];omega
 ·have h0:op=[]:=by
   have:¬ 0<op.length:=by simpa using hc
   exact List.eq_nil_of_length_eq_zero (by omega)
  subst h0;refine Jh1 (IA.of hB.len hB.snd hB.acc λ i k j he hj=>?_);rcases hB.cl i k j he hj with h|h|⟨_,_,_,h,_⟩
  ·exact h
  ·simp at h
  ·cases h
end Go.AI
end
section
namespace Go.AI
def ldT:List UInt8->List UInt8->Int×List UInt8
 | [],[]=>(0,[])
 | a::x,[]=>(1,a::x)
 | [],b::y=>(2,b::y)
 | a::x,b::y=>if a=b then ldT x y else(3,[])
def G4 (l:Int×List UInt8) (p q:List UInt8):Int×List UInt8:=
 if l.1=1 then ldT (l.2++p) q else if l.1=2 then ldT p (l.2++q)else if l.1=3 then l else ldT p q
def swT (l:Int×List UInt8):Int×List UInt8:=if l.1=1 then(2,l.2)else if l.1=2 then(1,l.2)else l
def Nv (l:Int×List UInt8):Prop:=(l.1=0/\l.2=[])\/(l.1=1/\l.2≠[])\/(l.1=2/\l.2≠[])\/(l.1=3/\l.2=[])
theorem Z4:∀ x y,Nv (ldT x y)
 | [],[]=>.inl ⟨rfl,rfl⟩
 | a::x,[]=>.inr (.inl ⟨rfl,by simp[ldT]⟩)
 | [],b::y=>.inr (.inr (.inl ⟨rfl,by simp[ldT]⟩))
 | a::x,b::y=>by
  unfold ldT;split
  ·exact Z4 x y
  ·exact .inr (.inr (.inr ⟨rfl,rfl⟩))
theorem F3 (a b:UInt8) (x y:List UInt8):ldT (a::x) (b::y)=if a=b then ldT x y else(3,[]):=rfl
theorem IB:∀ (x y p q:List UInt8),ldT (x++p) (y++q)=G4 (ldT x y) p q
 | [],[],p,q=>rfl
 | a::x,[],p,q=>rfl
 | [],b::y,p,q=>rfl
 | a::x,b::y,p,q=>by
  show ldT (a::(x++p)) (b::(y++q))=_;rw[F3,F3];split
  ·exact IB x y p q
  ·rfl
theorem J0:∀ x y,ldT y x=swT (ldT x y)
 | [],[]=>rfl
 | a::x,[]=>rfl
 | [],b::y=>rfl
 | a::x,b::y=>by
  rw[F3,F3];by_cases h:a=b
  ·subst h;rw[if_pos rfl,if_pos rfl];exact J0 x y
  ·rw[if_neg h,if_neg (Ne.symm h)];rfl
theorem IC:∀ {x y:List UInt8},(ldT x y).1=0↔x=y
 | [],[]=>by simp[ldT]
 | a::x,[]=>by simp[ldT]
 | [],b::y=>by simp[ldT]
 | a::x,b::y=>by
  rw[F3];split
  ·rename_i h;subst h;rw[IC];simp
  ·rename_i h;simp[h]
theorem Vn:∀ x y,(ldT x y).2.length<=max x.length y.length
 | [],[]=>by simp[ldT]
 | a::x,[]=>by simp[ldT]
 | [],b::y=>by simp[ldT]
 | a::x,b::y=>by
  rw[F3];split
  ·have:=Vn x y;simp only[List.length_cons];omega
  ·simp
theorem WO {l:Int×List UInt8} (h:Nv l) (p q:List UInt8):G4 (swT l) q p=swT (G4 l p q):=by
 obtain⟨s,t⟩:=l;rcases h with⟨h1,h2⟩|⟨h1,h2⟩|⟨h1,h2⟩|⟨h1,h2⟩<;>simp only at h1 h2<;>subst h1
 ·exact J0 p q
 ·exact J0 (t++p) q
 ·exact J0 p (t++q)
 ·rfl
theorem WQ {l m:Int×List UInt8} (hl:Nv l) (hm:Nv m) {p q:List UInt8} (h1:(G4 l p q).1=0) (h2:(G4 m p q).1=0):l=m:=by
 have key:∀ {l:Int×List UInt8},Nv l->(G4 l p q).1=0->(l.1=0/\l.2=[]/\p=q)\/(l.1=1/\l.2≠[]/\l.2++p=q)\/(l.1=2/\l.2≠[]/\p=l.2++q):=by
  intro l hl h;obtain⟨s,t⟩:=l;rcases hl with⟨e1,e2⟩|⟨e1,e2⟩|⟨e1,e2⟩|⟨e1,e2⟩<;>simp only at e1 e2<;>subst e1
  ·exact .inl ⟨rfl,e2,IC.1 h⟩
  ·exact .inr (.inl ⟨rfl,e2,IC.1 h⟩)
  ·exact .inr (.inr ⟨rfl,e2,IC.1 h⟩)
  ·exact absurd (show(3:Int)=0 from h) (by decide)
 have hlen:∀ {t:List UInt8},t≠[]->0<t.length:=λ h=>List.length_pos_iff.2 h;rcases key hl h1 with⟨a1,a2,a3⟩|⟨a1,a2,a3⟩|⟨a1,a2,a3⟩<;>rcases key hm h2 with⟨b1,b2,b3⟩|⟨b1,b2,b3⟩|⟨b1,b2,b3⟩
 ·exact Prod.ext (by rw[a1,b1]) (by rw[a2,b2])
 ·have:=hlen b2;have:=congrArg List.length b3;have:=congrArg List.length a3;simp only[List.length_append]at *;omega
 ·have:=hlen b2;have:=congrArg List.length b3;have:=congrArg List.length a3;simp only[List.length_append]at *;omega
 ·have:=hlen a2;have:=congrArg List.length b3;have:=congrArg List.length a3;simp only[List.length_append]at *;omega
 ·exact Prod.ext (by rw[a1,b1]) (List.append_cancel_right (a3.trans b3.symm))
 ·have:=hlen a2;have:=hlen b2;have:=congrArg List.length b3;have:=congrArg List.length a3;simp only[List.length_append]at *;omega
 ·have:=hlen a2;have:=congrArg List.length b3;have:=congrArg List.length a3;simp only[List.length_append]at *;omega
 ·have:=hlen a2;have:=hlen b2;have:=congrArg List.length b3;have:=congrArg List.length a3;simp only[List.length_append]at *;omega
 ·exact Prod.ext (by rw[a1,b1]) (List.append_cancel_right (a3.symm.trans b3))
structure Ac where
 p:List UInt8
 c:List Int
 to:Nat
abbrev Hf:=Nat×List Int
inductive Sp (A:Nat->Ac->Prop):Hf->Int->List UInt8->Hf->Prop
 | rest (k:Nat) (c:Int) (r:List Int):Sp A (k,c::r) c [] (k,r)
 | arc {k:Nat} {a:Ac} {c:Int} {r:List Int} (h:A k a) (hc:a.c=c::r):Sp A (k,[]) c a.p (a.to,r)
inductive Rn (A:Nat->Ac->Prop):Hf->List Int->List UInt8->Hf->Prop
 | nil (h:Hf):Rn A h [] [] h
 | cons {h h' h'':Hf} {c:Int} {w:List Int} {p x:List UInt8} (h1:Sp A h c p h') (h2:Rn A h' w x h''):Rn A h (c::w) (p++x) h''
theorem Rn.one {A:Nat->Ac->Prop} {h h':Hf} {c:Int} {p:List UInt8} (s:Sp A h c p h'):Rn A h [c] p h':=by
 have:=Rn.cons s (Rn.nil (A:=A) h');rwa[List.append_nil]at this
theorem Rn.app {A:Nat->Ac->Prop} {h h' h'':Hf} {w v:List Int} {x y:List UInt8} (h1:Rn A h w x h') (h2:Rn A h' v y h''):Rn A h (w++v) (x++y) h'':=by
 induction h1 with
 | nil h=>exact h2
 | cons s _ ih=>have:=Rn.cons s (ih h2);rwa[← List.append_assoc]at this
theorem Rn.inv {A:Nat->Ac->Prop} {h h':Hf} {x:List UInt8} {c:Int} {w:List Int} (H:Rn A h (c::w) x h'):∃ h1 p y,Sp A h c p h1/\Rn A h1 w y h'/\x=p++y:=by
 cases H with
 | cons s r=>exact⟨_,_,_,s,r,rfl⟩
theorem Rn.inv0 {A:Nat->Ac->Prop} {h h':Hf} {x:List UInt8} (H:Rn A h [] x h'):h'=h/\x=[]:=by
 cases H;exact⟨rfl,rfl⟩
def En (A:Nat->Ac->Prop) (acc:Nat->Prop) (h:Hf) (w:List Int) (x:List UInt8):Prop:=∃ k,Rn A h w x (k,[])/\acc k
def Amb (A:Nat->Ac->Prop) (acc:Nat->Prop) (w:List Int):Prop:=∃ x y,x≠y/\En A acc (0,[]) w x/\En A acc (0,[]) w y
def Rch (A:Nat->Ac->Prop) (w:List Int) (a b:Hf) (l:Int×List UInt8):Prop:=∃ x y,Rn A (0,[]) w x a/\Rn A (0,[]) w y b/\ldT x y=l
theorem Rch.ok {A:Nat->Ac->Prop} {w:List Int} {a b:Hf} {l:Int×List UInt8} (h:Rch A w a b l):Nv l:=by obtain⟨x,y,_,_,rfl⟩:=h;exact Z4 x y
theorem Rch.swap {A:Nat->Ac->Prop} {w:List Int} {a b:Hf} {l:Int×List UInt8} (h:Rch A w a b l):Rch A w b a (swT l):=by
 obtain⟨x,y,h1,h2,rfl⟩:=h;exact⟨y,x,h2,h1,J0 x y⟩
theorem Jh6 (A:Nat->Ac->Prop):Rch A [] (0,[]) (0,[]) (0,[]):=⟨[],[],.nil _,.nil _,rfl⟩
theorem Rch.step {A:Nat->Ac->Prop} {w:List Int} {a b a' b':Hf} {l:Int×List UInt8} {c:Int} {p q:List UInt8} (h:Rch A w a b l) (h1:Sp A a c p a') (h2:Sp A b c q b'):Rch A (w++[c]) a' b' (G4 l p q):=by
 obtain⟨x,y,g1,g2,rfl⟩:=h;exact⟨x++p,y++q,g1.app (Rn.one h1),g2.app (Rn.one h2),IB x y p q⟩
def Gd (A:Nat->Ac->Prop) (acc:Nat->Prop) (a b:Hf) (l:Int×List UInt8) (v:List Int):Prop:=∃ p q,En A acc a v p/\En A acc b v q/\(G4 l p q).1≠0
theorem Gd.amb {A:Nat->Ac->Prop} {acc:Nat->Prop} {w v:List Int} {a b:Hf} {l:Int×List UInt8} (h:Rch A w a b l) (g:Gd A acc a b l v):Amb A acc (w++v):=by
 obtain⟨x,y,h1,h2,rfl⟩:=h;obtain⟨p,q,⟨k,g1,g2⟩,⟨k',g3,g4⟩,g5⟩:=g;refine⟨x++p,y++q,λ e=>?_,⟨k,h1.app g1,g2⟩,⟨k',h2.app g3,g4⟩⟩;rw[← IB,IC.2 e]at g5;exact g5 rfl
theorem Gd.swap {A:Nat->Ac->Prop} {acc:Nat->Prop} {v:List Int} {a b:Hf} {l:Int×List UInt8} (hl:Nv l) (g:Gd A acc a b l v):Gd A acc b a (swT l) v:=by
 obtain⟨p,q,g1,g2,g3⟩:=g;refine⟨q,p,g2,g1,?_⟩;rw[WO hl];unfold swT;split
 ·simp
 ·split
  ·simp
  ·exact g3
theorem Amb.gd {A:Nat->Ac->Prop} {acc:Nat->Prop} {w:List Int} (h:Amb A acc w):Gd A acc (0,[]) (0,[]) (0,[]) w:=by
 obtain⟨x,y,h1,h2,h3⟩:=h;exact⟨x,y,h2,h3,λ e=>h1 (IC.1 e)⟩
theorem Gd.next {A:Nat->Ac->Prop} {acc:Nat->Prop} {a b:Hf} {w:List Int} {l:Int×List UInt8} {c:Int} {v:List Int} (h:Rch A w a b l) (g:Gd A acc a b l (c::v)):∃ p q a' b',Sp A a c p a'/\Sp A b c q b'/\Gd A acc a' b' (G4 l p q) v:=by
 obtain⟨x,y,h1,h2,rfl⟩:=h;obtain⟨p,q,⟨k,g1,g2⟩,⟨k',g3,g4⟩,g5⟩:=g;obtain⟨a',p1,p2,s1,r1,rfl⟩:=g1.inv;obtain⟨b',q1,q2,s2,r2,rfl⟩:=g3.inv;refine⟨p1,q1,a',b',s1,s2,p2,q2,⟨k,r1,g2⟩,⟨k',r2,g4⟩,?_⟩;rw[← IB,← List.append_assoc,← List.append_assoc,IB,IB]at g5;exact g5
theorem Jh7 {A:Nat->Ac->Prop} {acc:Nat->Prop} {a b:Hf} {l:Int×List UInt8} (hl:Nv l):Gd A acc a b l []↔l.1≠0/\a.2=[]/\b.2=[]/\acc a.1/\acc b.1:=by
 have h0:(G4 l [] []).1=0↔l.1=0:=by
  obtain⟨s,t⟩:=l;rcases hl with⟨h1,h2⟩|⟨h1,h2⟩|⟨h1,h2⟩|⟨h1,h2⟩<;>simp only at h1 h2<;>subst h1
  ·simp[G4,ldT]
  ·simp only[G4,if_true,List.append_nil];rw[IC];simp[h2]
  ·simp only[G4,if_true,List.append_nil];rw[if_neg (by decide),IC];simp[eq_comm,h2]
  ·simp[G4]
 constructor
 ·rintro⟨p,q,⟨k,g1,g2⟩,⟨k',g3,g4⟩,g5⟩;obtain⟨e1,rfl⟩:=g1.inv0;obtain⟨e2,rfl⟩:=g3.inv0;subst e1;subst e2;exact⟨λ h=>g5 (h0.2 h),rfl,rfl,g2,g4⟩
 ·rintro⟨h1,h2,h3,h4,h5⟩;obtain⟨a,r⟩:=a;obtain⟨b,r'⟩:=b;simp only at h2 h3;subst h2;subst h3;exact⟨[],[],⟨a,.nil _,h4⟩,⟨b,.nil _,h5⟩,λ h=>h1 (h0.1 h)⟩
def Cov (R:(Int×List UInt8)->Prop) (l:Int×List UInt8):Prop:=R l\/R (3,[])\/∃ m m',R m/\R m'/\m≠m'
theorem Cov.gd {A:Nat->Ac->Prop} {acc:Nat->Prop} {R:(Int×List UInt8)->Prop} {l:Int×List UInt8} (h:Cov R l) (hR:∀ m,R m->Nv m) {a b:Hf} {v:List Int} (g:Gd A acc a b l v):∃ m,R m/\Gd A acc a b m v:=by
 rcases h with h|h|⟨m,m',h1,h2,h3⟩
 ·exact⟨l,h,g⟩
 ·obtain⟨p,q,g1,g2,_⟩:=g;exact⟨_,h,p,q,g1,g2,by simp[G4]⟩
 ·obtain⟨p,q,g1,g2,_⟩:=g;by_cases e:(G4 m p q).1=0
  ·exact⟨m',h2,p,q,g1,g2,λ e'=>h3 (WQ (hR m h1) (hR m' h2) e e')⟩
  ·exact⟨m,h1,p,q,g1,g2,e⟩
def ltL:List Int->List Int->Bool
 | [],[]=>false
 | [],_::_=>true
 | _::_,[]=>false
 | a::x,b::y=>decide (a<b)||(a==b&&ltL x y)
def ltW (x y:List Int):Prop:=x.length<y.length\/(x.length=y.length/\ltL x y=true)
theorem Vo:∀ x,ltL x x=false
 | []=>rfl
 | a::x=>by simp[ltL,Vo x]
theorem HV:∀ {x y z:List Int},ltL x y=true->ltL y z=true->ltL x z=true
 | [],[],_,h,_=>by cases h
 | [],_::_,[],_,h=>by cases h
 | [],_::_,_::_,_,_=>rfl
 | _::_,[],_,h,_=>by cases h
 | _::_,_::_,[],_,h=>by cases h
 | a::x,b::y,c::z,h,h'=>by
  simp only[ltL,JiN,decide_eq_true_eq,Jiv,beq_iff_eq]at *;rcases h with h|⟨rfl,h⟩<;>rcases h' with h'|⟨rfl,h'⟩
  ·left;omega
  ·left;exact h
  ·left;exact h'
  ·right;exact⟨rfl,HV h h'⟩
theorem Vp:∀ {x y:List Int},x.length=y.length->ltL x y=true\/x=y\/ltL y x=true
 | [],[],_=>.inr (.inl rfl)
 | [],_::_,h=>by simp at h
 | _::_,[],h=>by simp at h
 | a::x,b::y,h=>by
  simp only[ltL,JiN,decide_eq_true_eq,Jiv,beq_iff_eq];rcases Int.lt_trichotomy a b with h1|rfl|h1
  ·exact .inl (.inl h1)
  ·rcases Vp (by simpa using h:x.length=y.length)with h2|rfl|h2
   ·exact .inl (.inr ⟨rfl,h2⟩)
   ·exact .inr (.inl rfl)
   ·exact .inr (.inr (.inr ⟨rfl,h2⟩))
  ·exact .inr (.inr (.inl h1))
theorem JbI {x y:List Int} (h:x.length=y.length) (hl:ltL x y=true) (u v:List Int):ltL (x++u) (y++v)=true:=by
 induction x generalizing y with
 | nil=>cases y with
  | nil=>cases hl
  | cons _ _=>simp at h
 | cons a x ih=>
  cases y with
  | nil=>simp at h
  | cons b y=>
   simp only[List.cons_append,ltL,JiN,decide_eq_true_eq,Jiv,beq_iff_eq]at *;rcases hl with hl|⟨rfl,hl⟩
   ·exact .inl hl
   ·exact .inr ⟨rfl,ih (by simpa using h) hl⟩
theorem Qf {x y z:List Int} (h:ltW x y) (h':ltW y z):ltW x z:=by
 rcases h with h|⟨h,h1⟩<;>rcases h' with h'|⟨h',h2⟩
 ·exact .inl (by omega)
 ·exact .inl (by omega)
 ·exact .inl (by omega)
 ·exact .inr ⟨by omega,HV h1 h2⟩
theorem Vq (x y:List Int):ltW x y\/x=y\/ltW y x:=by
 rcases Nat.lt_trichotomy x.length y.length with h|h|h
 ·exact .inl (.inl h)
 ·rcases Vp h with h1|h1|h1
  ·exact .inl (.inr ⟨h,h1⟩)
  ·exact .inr (.inl h1)
  ·exact .inr (.inr (.inr ⟨h.symm,h1⟩))
 ·exact .inr (.inr (.inl h))
theorem JbJ {x y:List Int} (h:ltW x y) (v:List Int):ltW (x++v) (y++v):=by
 rcases h with h|⟨h,h1⟩
 ·exact .inl (by simp;omega)
 ·exact .inr ⟨by simp[h],JbI h h1 v v⟩
def Lst (A:Nat->Ac->Prop) (acc:Nat->Prop) (w:List Int):Prop:=Amb A acc w/\∀ u,Amb A acc u->¬ltW u w
theorem Lst.uniq {A:Nat->Ac->Prop} {acc:Nat->Prop} {w u:List Int} (h:Lst A acc w) (h':Lst A acc u):w=u:=by
 rcases Vq w u with h1|h1|h1
 ·exact absurd h1 (h'.2 w h.1)
 ·exact h1
 ·exact absurd h1 (h.2 u h'.1)
end Go.AI
end
section
namespace Go.AI
def prt (t:Ab) (k:Nat):List UInt8:=(DB t (k:Int)).Print
def cls (t:Ab) (k:Nat):List Int:=(DB t (k:Int)).Cells
structure Pa (t:Ab) (st:List Ad) (i m:Nat) (l:List EO):Prop where
 len:l.length<=m
 snd:∀ a∈l,∃ j k:Nat,a.To=(j:Int)/\Edge t st i k j/\KG t st j/\a.Print=prt t k/\a.Cells=cls t k
 cov:∀ k j:Nat,k<m->Edge t st i k j->KG t st j->(⟨prt t k,cls t k,(j:Int)⟩:EO)∈l
structure Uv (t:Ab) (st:List Ad) (g:Ap):Prop where
 len:g.Arcs.length=st.length
 acc:∀ (i:Nat) s,st[i]?=some s->g.Accepts[i]?=some (Bv t s)
 alive:g.Alive=true↔KG t st 0
 arcs:∀ (i:Nat) l,g.Arcs[i]?=some l->Pa t st i t.Rules.length l
structure GJ (t:Ab) (st:List Ad) (al:Bool) (i m c:Nat) (g:Ap):Prop where
 len:g.Arcs.length=st.length
 aln:g.Accepts.length=st.length
 acc:∀ (j:Nat) s,j<c->st[j]?=some s->g.Accepts[j]?=some (Bv t s)
 alive:g.Alive=al
 arcs:∀ (j:Nat) l,g.Arcs[j]?=some l->(j<i->Pa t st j t.Rules.length l)/\(j=i->Pa t st i m l)/\(i<j->l=[])
theorem Pa.nil (t:Ab) (st:List Ad) (i:Nat):Pa t st i 0 []:=⟨Jik _,λ a h=>by simp at h,λ k j h=>by omega⟩
theorem WR {t:Ab} (ht:Gl t) {st:List Ad} (hF:Fg t st) (hD:∀ i,ZK t i st) {nb:List (Ad×Int)} (hN:IV st nb) {al:List Bool} (hal:IA t st al) (r24:List Ad) {b:Bool} {i:Nat} {s:Ad} (hi:st[i]?=some s) {g:Ap} (hg:GJ t st b i 0 (i+1) g) :
  Tot (λ n=>whl (λ (x:(Ap×Int))=>CI n t r24 al nb (i:Int) s x.1 x.2) n (g,0)) (GJ t st b (i+1) 0 (i+1)):=by
 have hil:=Ak hi;have h768:=hF.len;have hr:=ht.1;refine Tot.upto (body:=λ n (x:Ap×Int)=>CI n t r24 al nb (i:Int) s x.1 x.2) t.Rules.length (λ m x=>x.2=(m:Int)/\GJ t st b i m (i+1) x.1) ?_ ?_ _ ⟨rfl,hg⟩
 ·rintro m ⟨g,_⟩ hm ⟨rfl,hg⟩;unfold CI;refine Tot.iteT (by simp;omega) (Tot.bindC (ZZ (k:=(m:Int)) (by omega) (by omega)) (Jh3 (λ n=>NF ht.short n s (m:Nat)) ?_));have same:∀ (no:¬∃ j,Edge t st i m j/\KG t st j),GJ t st b i (m+1) (i+1) g:=λ no=>by
   refine⟨hg.len,hg.aln,hg.acc,hg.alive,λ j l hl=>?_⟩;obtain⟨h1,h2,h3⟩:=hg.arcs j l hl;refine⟨h1,λ e=>?_,h3⟩;obtain⟨q1,q2,q3⟩:=h2 e;refine⟨by omega,q2,λ k j hk hE hL=>?_⟩;by_cases e:k=m
   ·subst e;exact absurd ⟨j,hE,hL⟩ no
   ·exact q3 k j (by omega) hE hL
  have nxt:∀ g',GJ t st b i (m+1) (i+1) g'->Tot (λ n=>EB n (m:Int) g') (Rd2 (λ x=>x.2=((m+1:Nat):Int)/\GJ t st b i (m+1) (i+1) x.1) (GJ t st b (i+1) 0 (i+1))):=λ g' hg'=>Jh1 ⟨Td (by omega),hg'⟩;by_cases hs:(BA t s (m:Nat)).2=true
  ·have hmem:=hD (i+1) i s (by omega) hi m hm hs;obtain⟨j,hjl,hj⟩:=List.mem_iff_getElem.1 hmem;have hj':st[j]?=some (BA t s (m:Nat)).1:=by rw[Jiu hjl,hj]
   have hE:Edge t st i m j:=⟨s,_,hi,hm,hj',by rw[← hs]⟩;have hnum:Option.getD (BJ (BA t s (m:Nat)).1 nb) 0=(j:Int):=by rw[hN,Dj hF.nodup hj'];rfl
   have hjal:j<al.length:=by rw[hal.1];exact hjl
   refine Tot.bindC (y:=al[j]) (by rw[if_pos hs,hnum];exact Bj hjal) ?_;by_cases hL:al[j]=true
   ·have hLj:KG t st j:=(hal.2 j).1 (by rw[Jiu hjal,hL]);have hial:i<g.Arcs.length:=by rw[hg.len];exact hil
    have hai:=Jiu hial;obtain⟨_,hA,_⟩:=hg.arcs i _ hai;have hA:=hA rfl;refine Tot.iteT (by rw[hs,hL];rfl) (Tot.bindC (Bj hial) (Tot.bindC (El (by have:=hA.len;simp;omega)) (nxt _ ?_)));refine⟨by simpa using hg.len,hg.aln,hg.acc,hg.alive,λ j' l hl=>?_⟩;rw[hnum,JiD,List.getElem?_set]at hl;split at hl
    ·rename_i e;subst e
     try rw[if_pos hial]at hl
     cases hl;refine⟨λ h=>absurd h (Nat.lt_irrefl _),λ _=>⟨by have:=hA.len;simp;omega,λ a ha=>?_,λ k j2 hk hE2 hL2=>?_⟩,λ h=>absurd h (Nat.lt_irrefl _)⟩
     ·rcases List.mem_append.1 ha with h|h
      ·exact hA.snd a h
      ·simp only[List.mem_singleton]at h;subst h;exact⟨j,m,rfl,hE,hLj,rfl,rfl⟩
     ·by_cases e:k=m
      ·subst e;obtain⟨s1,s2,k1,_,k3,k4⟩:=hE2;rw[hi]at k1;cases k1;have:j2=j:=Rv hF.nodup (s:=s2) k3 (by rw[hj'];rw[k4]);subst this;exact List.mem_append_right _ (List.mem_singleton.2 rfl)
      ·exact List.mem_append_left _ (hA.cov k j2 (by omega) hE2 hL2)
    ·rename_i e;obtain⟨h1,h2,h3⟩:=hg.arcs j' l hl;exact⟨h1,λ h=>absurd h.symm e,h3⟩
   ·have hL':al[j]=false:=by simpa using hL
    refine Tot.iteF (by rw[hs,hL'];rfl) (nxt _ (same ?_));rintro⟨j2,⟨s1,s2,k1,_,k3,k4⟩,hL2⟩;rw[hi]at k1;cases k1;have:j2=j:=Rv hF.nodup (s:=s2) k3 (by rw[hj'];rw[k4]);subst this;have:=(hal.2 j2).2 hL2;rw[Jiu hjal,hL']at this;cases this
  ·have hs':(BA t s (m:Nat)).2=false:=by simpa using hs
   refine Tot.bindC (y:=default) (by rw[if_neg hs]) (Tot.iteF (by rw[hs'];rfl) (nxt _ (same ?_)));rintro⟨j2,⟨s1,s2,k1,_,k3,k4⟩,hL2⟩;rw[hi]at k1;cases k1;rw[k4]at hs';cases hs'
 ·rintro⟨g,_⟩ ⟨rfl,hg⟩;unfold CI;refine Tot.iteF (by simp) (Jh1 ⟨hg.len,hg.aln,hg.acc,hg.alive,λ j l hl=>?_⟩);obtain⟨h1,h2,h3⟩:=hg.arcs j l hl;refine⟨λ h=>?_,λ h=>?_,λ h=>h3 (by omega)⟩
  ·by_cases e:j=i
   ·subst e;exact h2 rfl
   ·exact h1 (by omega)
  ·have:=h3 (by omega);subst this;exact .nil _ _ _
theorem Z5 {t:Ab} (ht:Gl t):Tot (λ n=>E4 n t) (Uv t (AP t)):=by
 obtain⟨hF,hD⟩:=D8 ht;have h768:=hF.len;unfold E4;refine Jh2 (Uq ht) (Tot.bind (WN ht) λ al hal=>Tot.bind (R:=IV (AP t)) ?_ λ nb hN=>Tot.bindC (ZQ (by omega) (by omega)) (Tot.bindC (ZQ (by omega) (by omega)) ?_))
 ·refine Tot.upto (body:=λ n (x:(List (Ad×Int))×Int)=>Dr n t (AP t) al x.1 x.2) (AP t).length (λ i x=>x.2=(i:Int)/\IV ((AP t).take i) x.1) ?_ ?_ _ ⟨rfl,λ s=>rfl⟩
  ·rintro i ⟨nb,_⟩ hi ⟨rfl,hN⟩;unfold Dr;refine Tot.iteT (by simp;omega) (Tot.bindC (Bj hi) (Jh1 ⟨Td (by omega),?_⟩));rw[List.take_add_one,Jiu hi,Option.toList_some];have:=hN.snoc (p:=(AP t)[i]) (hF.nodup.sublist (List.take_sublist _ _)) (λ h=>by
    obtain⟨j,hj,e⟩:=List.mem_iff_getElem.1 h;rw[List.getElem_take]at e;have hj':j<i:=by rw[List.length_take]at hj;omega
    have:=Rv hF.nodup (i:=i) (j:=j) (Jiu hi) (by rw[Jiu (show j<(AP t).length by omega),e]);omega)
   rw[List.length_take,Nat.min_eq_left (by omega)]at this;exact this
  ·rintro⟨nb,_⟩ ⟨rfl,hN⟩;unfold Dr;refine Tot.iteF (by simp) (Jh1 ?_);rw[List.take_length]at hN;exact hN
 ·have h0:0<al.length:=by rw[hal.1];exact Ak hF.first
  refine Tot.bindC (Bj (i:=0) h0) (Tot.bind (R:=Uv t (AP t)) ?_ λ g hg=>Jh1 hg);refine Tot.upto (body:=λ n (x:Ap×Int)=>Ds n t (AP t) al nb x.1 x.2) (AP t).length (λ i x=>x.2=(i:Int)/\GJ t (AP t) al[0] i 0 i x.1) ?_ ?_ _ ⟨rfl,by simp,by simp,λ j s h=>by omega,rfl,λ j l hl=>?_⟩
  ·rintro i ⟨g,_⟩ hi ⟨rfl,hg⟩;have hia:i<g.Accepts.length:=by rw[hg.aln];exact hi
   have hsi:=Jiu hi;unfold Ds;refine Tot.iteT (by simp;omega) (Tot.bindC (Bj hi) (Jh3 (λ n=>O8 n t _) (Tot.bindC (Bj hia) (Tot.bindC (Iz hia) (Tot.bind (WR ht hF hD hN hal _ hsi ?_) λ g' hg'=>Jh1 ⟨Td (by omega),hg'⟩)))));refine⟨hg.len,by simpa using hg.aln,λ j s hj hs=>?_,hg.alive,hg.arcs⟩;rw[List.getElem?_set];split
   ·rename_i e;subst e;rw[hsi]at hs;cases hs
    first|rfl|rw[if_pos hia]
   ·exact hg.acc j s (by omega) hs
  ·rintro⟨g,_⟩ ⟨rfl,hg⟩;unfold Ds;refine Tot.iteF (by simp) (Jh1 ⟨hg.len,λ i s hs=>hg.acc i s (Ak hs) hs,?_,λ i l hl=>?_⟩)
   ·rw[hg.alive,← hal.2 0,Jiu h0];simp
   ·exact(hg.arcs i l hl).1 (by have:=Ak hl;rw[hg.len]at this;exact this)
  ·have:l=[]:=by
    rw[List.getElem?_replicate]at hl;split at hl
    ·exact(Option.some.inj hl).symm
    ·cases hl
   subst this;exact⟨λ h=>by omega,λ _=>.nil _ _ _,λ _=>rfl⟩
end Go.AI
end
section
namespace Go.AI
def C5 (l:BR):Int×List UInt8:=(l.Side,l.Text)
theorem Rw {a:UInt8} {x:List UInt8}:IY (a::x) 0=some ((a.toNat:Nat):Int):=by
 unfold IY;rw[if_pos (by simp)];rfl
theorem Rx {α:Type} {a:α} {x:List α}:sub (a::x) 1 ((List.length (a::x):Nat):Int)=some x:=by
 rw[ZP (by omega) (by simp;omega) (by omega)];simp
theorem Vr {a b:UInt8}:((((a.toNat:Nat):Int) != ((b.toNat:Nat):Int))=true)↔a≠b:=by
 rw[bne_iff_ne];constructor
 ·rintro h rfl;exact h rfl
 ·intro h e;exact h (UInt8.toNat_inj.1 (by omega))
theorem ME (p q:List UInt8):Tot (λ n=>Cj n p q) (λ r=>C5 r=ldT p q):=by
 unfold Cj;refine Tot.bind (R:=λ y=>match y with
  | .inl y=>(y.1=[]\/y.2=[])/\ldT y.1 y.2=ldT p q
  | .inr l=>C5 l=ldT p q) ?_ λ y hy=>?_
 ·refine Tot.whl (body:=λ n (x:List UInt8×List UInt8)=>DH n x.1 x.2) (λ k x=>k=x.1.length/\ldT x.1 x.2=ldT p q) ?_ p.length (p,q) ⟨rfl,rfl⟩;rintro k ⟨x,y⟩ ⟨rfl,he⟩;unfold DH;simp only at he⊢;cases x with
  | nil=>exact Tot.iteF (by simp) (Jh1 ⟨.inl rfl,he⟩)
  | cons a x=>
   cases y with
   | nil=>exact Tot.iteF (by simp) (Jh1 ⟨.inr rfl,he⟩)
   | cons b y=>
    refine Tot.iteT (by simp) (Tot.bindC Rw (Tot.bindC Rw (Tot.ite (λ h=>?_) λ h=>?_)))
    ·have hne:=Vr.1 h;refine Jh1 ?_;show C5 { Side:=3,Text:=[] }=ldT p q;rw[← he,F3,if_neg hne];rfl
    ·have heq:a=b:=Classical.byContradiction λ hn=>by rw[Vr.2 hn]at h;cases h
     rw[F3,if_pos heq]at he;exact Tot.bindC Rx (Tot.bindC Rx (Jh1 ⟨x.length,by simp,rfl,he⟩))
 ·cases y with
  | inl y=>
   obtain⟨x,y⟩:=y;obtain⟨h1,h2⟩:=hy;simp only at h1 h2⊢;cases x with
   | cons a x=>
    have:y=[]:=by rcases h1 with h|h;cases h;exact h
    subst this;exact Tot.iteT (by simp) (Jh1 (by rw[← h2];rfl))
   | nil=>
    refine Tot.iteF (by simp) ?_;cases y with
    | cons b y=>exact Tot.iteT (by simp) (Jh1 (by rw[← h2];rfl))
    | nil=>exact Tot.iteF (by simp) (Jh1 (by rw[← h2];rfl))
  | inr l=>exact Jh1 hy
theorem Z6 (l:BR) (p q:List UInt8) (h:l.Text.length+p.length<=9223372036854775807) (h':l.Text.length+q.length<=9223372036854775807):Tot (λ n=>E3 n l p q) (λ r=>C5 r=G4 (C5 l) p q):=by
 unfold E3 G4 C5;simp only;refine Tot.ite (λ e=>?_) λ e=>?_
 ·have e:l.Side=1:=by simpa using e
  rw[if_pos e];exact Tot.bindC (Ur h) (ME _ _)
 ·have e:¬l.Side=1:=by simpa using e
  rw[if_neg e];refine Tot.ite (λ e2=>?_) λ e2=>?_
  ·have e2:l.Side=2:=by simpa using e2
   rw[if_pos e2];exact Tot.bindC (Ur h') (ME _ _)
  ·have e2:¬l.Side=2:=by simpa using e2
   rw[if_neg e2];refine Tot.ite (λ e3=>?_) λ e3=>?_
   ·have e3:l.Side=3:=by simpa using e3
    rw[if_pos e3];exact Jh1 rfl
   ·have e3:¬l.Side=3:=by simpa using e3
    rw[if_neg e3];exact ME _ _
def swN (n:Ah):Ah:=⟨⟨n.Pair.B,n.Pair.A⟩,⟨if n.Lead.Side=1 then 2 else if n.Lead.Side=2 then 1 else n.Lead.Side,n.Lead.Text⟩⟩
theorem Z7 (n:Ah):C5 (swN n).Lead=swT (C5 n.Lead):=by
 unfold swN swT C5;simp only;split
 ·rfl
 ·split<;>rfl
theorem Uw (m:Ah):∃ r,(r=m\/r=swN m)/\∀ n,D4 n m=some r:=by
 unfold D4 Cq swN;cases h:(decide (m.Pair.A<m.Pair.B)||m.Pair.A==m.Pair.B&&m.Lead.Side != 2)with
 | true=>exact⟨m,.inl rfl,λ n=>by simp⟩
 | false=>
  refine⟨swN m,.inr rfl,λ n=>?_⟩;unfold swN;by_cases h1:m.Lead.Side=1
  ·simp[h1]
  ·by_cases h2:m.Lead.Side=2
   ·simp[h2]
   ·simp[h1,h2]
end Go.AI
end
section
namespace Go.AI
def HW (t:Ab) (s:Ad):List Int->Ad->Prop
 | [],s'=>s=s'
 | k::p,s'=>(BA t s k).2=true/\HW t (BA t s k).1 p s'
theorem HW.snoc {t:Ab}:∀ {p:List Int} {s s':Ad} {k:Int},HW t s p s'->(BA t s' k).2=true->HW t s (p++[k]) (BA t s' k).1
 | [],s,s',k,h,h'=>by
  unfold HW at h;subst h;exact⟨h',rfl⟩
 | a::p,s,s',k,h,h'=>⟨h.1,HW.snoc h.2 h'⟩
theorem HW.mem {t:Ab}:∀ {p:List Int} {s s':Ad},HW t s p s'->∀ k∈p,0<=k/\k<t.Rules.length
 | [],_,_,_,k,hk=>by cases hk
 | a::p,s,s',h,k,hk=>by
  rcases List.mem_cons.1 hk with rfl|hk
  ·exact JZ h.1
  ·exact HW.mem h.2 k hk
def GU (t:Ab) (p:List Int):List UInt8:=p.flatMap λ k=>(DB t k).Print
def cellsOf (t:Ab) (p:List Int):List Int:=p.flatMap λ k=>(DB t k).Cells
end Go.AI
end
section
namespace Go.AI
theorem Qg {r:AF} {m:Int} (h:B4 r m=true):(∀ b∈r.Print,Gm b=true)/\(∀ c∈r.Cells,c<63)/\r.Cells.countP (λ c=>c==0)=r.Print.countP C4:=by
 unfold B4 at h;simp only[Jiv,Jif,decide_eq_true_eq]at h;obtain⟨⟨⟨⟨⟨⟨h1,_⟩,_⟩,_⟩,_⟩,h2⟩,h3⟩:=h;refine⟨h1,h2,?_⟩;cases hs:r.Print.any C4 with
 | true=>
  rw[hs]at h3;simp only[cond_true,Jiv,decide_eq_true_eq]at h3;obtain⟨⟨a,b⟩,c⟩:=h3;obtain⟨x,hx⟩:=List.length_eq_one_iff.1 a;obtain⟨y,hy⟩:=List.length_eq_one_iff.1 b;rw[hx]at hs⊢;rw[hy]at c⊢;simp only[List.any_cons,List.any_nil,Bool.or_false]at hs c;simp[hs,c]
 | false=>
  rw[hs]at h3;simp only[cond_false,Bool.not_eq_true']at h3;rw[List.any_eq_false]at h3 hs;rw[List.countP_eq_zero.2 h3,List.countP_eq_zero.2 hs]
end Go.AI
end
section
namespace Go.AI
theorem Ev.demB {α:Type} {S:Bool->Prop} {k:Nat->Bool->Option α} {z:α} (h0:∃ b,S b) (h:∀ b,S b->Ev (λ n=>k n b) z):Ev (λ n=>dem S (k n)) z:=by
 have hb:∀ b,∃ N,∀ n,N<=n->S b->k n b=some z:=λ b=>by
  by_cases hs:S b
  ·obtain⟨N,hN⟩:=h b hs;exact⟨N,λ n hn _=>hN n hn⟩
  ·exact⟨0,λ n _ hs'=>absurd hs' hs⟩
 obtain⟨N1,h1⟩:=hb true;obtain⟨N2,h2⟩:=hb false;refine⟨max N1 N2,λ n hn=>Yj h0 λ b hs=>?_⟩;cases b with
 | true=>exact h1 n (by omega) hs
 | false=>exact h2 n (by omega) hs
theorem Tot.demB {α:Type} {S:Bool->Prop} {k:Nat->Bool->Option α} {P:α->Prop} {z:α} (h0:∃ b,S b) (h:∀ b,S b->Ev (λ n=>k n b) z) (hp:P z):Tot (λ n=>dem S (k n)) P:=(Ev.demB h0 h).tot hp
structure Ry {κ:Type} [DecidableEq κ] (st:List κ) (nb:List (κ×Int)):Prop where
 get:∀ (i:Nat) s,st[i]?=some s->BJ s nb=some (i:Int)
 inv:∀ s v,BJ s nb=some v->∃ i:Nat,v=(i:Int)/\st[i]?=some s
theorem Ry.nil {κ:Type} [DecidableEq κ]:Ry ([]:List κ) []:=⟨λ i s h=>by simp at h,λ s v h=>by cases h⟩
theorem Ry.snoc {κ:Type} [DecidableEq κ] {st:List κ} {nb:List (κ×Int)} (h:Ry st nb) {x:κ} (hx:BJ x nb=none):Ry (st++[x]) (DV x ((st.length:Nat):Int) nb):=by
 refine⟨λ i s hs=>?_,λ s v hv=>?_⟩
 ·rw[HT];by_cases hi:i<st.length
  ·rw[JiC hi]at hs;have:=h.get i s hs;rw[if_neg (by rintro rfl;rw[hx]at this;cases this)];exact this
  ·rw[JiM (by omega)]at hs;have:i-st.length=0:=by have:=Ak hs;simp at this;omega
   rw[this]at hs;simp at hs;subst hs;rw[if_pos rfl];congr 2;omega
 ·rw[HT]at hv;split at hv
  ·rename_i e;cases hv;subst e;exact⟨st.length,rfl,by simp⟩
  ·obtain⟨i,h1,h2⟩:=h.inv s v hv;exact⟨i,h1,by rw[JiC (Ak h2)];exact h2⟩
theorem Ry.nodup {κ:Type} [DecidableEq κ] {st:List κ} {nb:List (κ×Int)} (h:Ry st nb):st.Nodup:=by
 rw[List.Nodup,List.pairwise_iff_getElem];intro i j hi hj hij e;have a:=h.get j _ (Jiu hj);have b:=h.get i _ (Jiu hi);rw[e,a]at b;have:(j:Int)=i:=Option.some.inj b;omega
theorem Qh {α:Type} [DecidableEq α] {l m:List α} (h:l.Nodup) (hs:∀ x∈l,x∈m):l.length<=m.length:=by
 induction l generalizing m with
 | nil=>simp
 | cons a l ih=>
  rw[List.nodup_cons]at h;have ha:=hs a (by simp);have:=ih (m:=m.erase a) h.2 λ x hx=>by
   refine(List.mem_erase_of_ne (by rintro rfl;exact h.1 hx)).2 (hs x (by simp[hx]))
  have h2:=List.length_erase_of_mem ha;have h3:0<m.length:=List.length_pos_of_mem ha;simp only[List.length_cons];omega
structure GW (g:Ap) (S:Nat) (CL:List (List Int)):Prop where
 pos:0<S
 len:g.Arcs.length=S
 acc:∀ i:Nat,i<S->∃ b,g.Accepts[i]?=some b
 small:S<=768
 cl:CL.length<=11
 clc:∀ c∈CL,1<=c.length/\c.length<=4/\∀ x∈c,0<=x/\x<63
 al:∀ (i:Nat) l,g.Arcs[i]?=some l->l.length<=11
 arc:∀ (i:Nat) l,g.Arcs[i]?=some l->∀ a∈l,a.Cells∈CL/\a.Print.length<=4/\∃ j:Nat,a.To=(j:Int)/\j<S
def Ag (g:Ap) (k:Nat) (a:Ac):Prop:=∃ l x,g.Arcs[k]?=some l/\x∈l/\a=⟨x.Print,x.Cells,x.To.toNat⟩
def Acg (g:Ap) (k:Nat):Prop:=g.Accepts[k]?=some true
def Fx (h:Aa):Hf:=(h.State.toNat,Da h.Rest)
def okH (S:Nat) (CL:List (List Int)) (h:Aa):Prop:=(∃ k:Nat,h.State=(k:Int)/\k<S)/\(h.Rest=[]\/∃ c∈CL,∃ j:Nat,1<=j/\j<=3/\Da h.Rest=c.drop j)
def unb (l:List Int):List UInt8:=l.map λ n=>UInt8.ofNat n.toNat
theorem WS (x:List UInt8):unb (Da x)=x:=by
 unfold unb Da;rw[List.map_map]
 conv=>rhs;rw[← List.map_id x]
 exact Jit λ b _=>by simp
theorem MF {l:List Int} (h:∀ x∈l,0<=x/\x<63):Da (unb l)=l:=by
 unfold unb Da;rw[List.map_map]
 conv=>rhs;rw[← List.map_id l]
 refine Jit λ b hb=>?_;obtain⟨h1,h2⟩:=h b hb;simp only[Function.comp,UInt8.toNat_ofNat',id];omega
theorem Z8 {l:List Int} (h:∀ x∈l,0<=x/\x<63):Oq l=some (unb l):=by
 unfold Oq;rw[if_pos]
 ·rfl
 ·rw[Jif];intro x hx;obtain⟨h1,h2⟩:=h x hx;simp;omega
def Jfp (S:Nat) (CL:List (List Int)):List Aa:=(List.range S).flatMap λ (k:Nat)=>⟨(k:Int),[]⟩::CL.flatMap λ c=>[⟨(k:Int),unb (c.drop 1)⟩,⟨(k:Int),unb (c.drop 2)⟩,⟨(k:Int),unb (c.drop 3)⟩]
theorem J1 {α β:Type} {f:α->List β} {m:Nat}:∀ {l:List α},(∀ x∈l,(f x).length<=m)->(l.flatMap f).length<=l.length*m
 | [],_=>by simp
 | a::l,h=>by
  have h1:=h a (by simp);have h2:=J1 (l:=l) (m:=m) λ x hx=>h x (by simp[hx]);rw[List.flatMap_cons,List.length_append,List.length_cons,JiH];omega
theorem okH.mem {S:Nat} {CL:List (List Int)} {h:Aa} (H:okH S CL h):h∈Jfp S CL:=by
 obtain⟨⟨k,hk,hS⟩,hr⟩:=H;obtain⟨s,r⟩:=h;simp only at hk hr;subst hk;refine List.mem_flatMap.2 ⟨k,List.mem_range.2 hS,?_⟩;rcases hr with rfl|⟨c,hc,j,h1,h2,e⟩
 ·exact List.mem_cons_self
 ·have e:r=unb (c.drop j):=by rw[← e,WS]
  refine List.mem_cons_of_mem _ (List.mem_flatMap.2 ⟨c,hc,?_⟩);have:j=1\/j=2\/j=3:=by omega
  rcases this with rfl|rfl|rfl<;>simp[e]
theorem Z9 {g:Ap} {S:Nat} {CL:List (List Int)} (hw:GW g S CL):(Jfp S CL).length<=26112:=by
 have h1:(Jfp S CL).length<=(List.range S).length*34:=J1 λ k _=>by
  have:(CL.flatMap λ c=>[(⟨(k:Int),unb (c.drop 1)⟩:Aa),⟨(k:Int),unb (c.drop 2)⟩,⟨(k:Int),unb (c.drop 3)⟩]).length<=CL.length*3:=J1 λ c _=>by simp
  have:=hw.cl;simp only[List.length_cons];omega
 have:=hw.small;rw[List.length_range]at h1;omega
structure Ux (g:Ap) (hs:List Aa) (h:Aa) (s:Af):Prop where
 lo:0<=s.Cell
 hi:s.Cell<63
 pl:s.Print.length<=4
 to:∃ (j:Nat) (h':Aa),s.To=(j:Int)/\hs[j]?=some h'/\Sp (Ag g) (Fx h) s.Cell s.Print (Fx h')
theorem Ux.ext {g:Ap} {hs hs':List Aa} {h:Aa} {s:Af} (H:Ux g hs h s) (hp:hs <+: hs'):Ux g hs' h s:=by
 obtain⟨a,b,c,j,h',d,e,f⟩:=H;exact⟨a,b,c,j,h',d,CF hp e,f⟩
structure Rz (g:Ap) (hs:List Aa) (h:Aa) (l:List Af):Prop where
 len:l.length<=11
 snd:∀ s∈l,Ux g hs h s
 cov:∀ c p x',Sp (Ag g) (Fx h) c p x'->∃ s∈l,s.Cell=c/\s.Print=p/\∃ (j:Nat) (h':Aa),s.To=(j:Int)/\hs[j]?=some h'/\Fx h'=x'
theorem Rz.ext {g:Ap} {hs hs':List Aa} {h:Aa} {l:List Af} (H:Rz g hs h l) (hp:hs <+: hs'):Rz g hs' h l:=by
 refine⟨H.len,λ s hs=>(H.snd s hs).ext hp,λ c p x' hx=>?_⟩;obtain⟨s,h1,h2,h3,j,h',h4,h5,h6⟩:=H.cov c p x' hx;exact⟨s,h1,h2,h3,j,h',h4,CF hp h5,h6⟩
structure HSt (g:Ap) (S:Nat) (CL:List (List Int)) (hs:List Aa) (nb:List (Aa×Int)) (sp:List (Option (List Af))):Prop where
 num:Ry hs nb
 ok:∀ h∈hs,okH S CL h
 len:sp.length=hs.length
 stp:∀ (i:Nat) h l,hs[i]?=some h->sp[i]?=some (some l)->Rz g hs h l
theorem HSt.le {g:Ap} {S:Nat} {CL:List (List Int)} (hw:GW g S CL) {hs:List Aa} {nb:List (Aa×Int)} {sp:List (Option (List Af))} (H:HSt g S CL hs nb sp):hs.length<=26112:=
 Nat.le_trans (Qh H.num.nodup λ h hh=>(H.ok h hh).mem) (Z9 hw)
def JhT (sp sp':List (Option (List Af))):Prop:=∀ (i:Nat) x,sp[i]?=some x->sp'[i]?=some x
variable {g:Ap} {S:Nat} {CL:List (List Int)} {hs:List Aa} {nb:List (Aa×Int)} {sp:List (Option (List Af))}
theorem RB (hw:GW g S CL) (H:HSt g S CL hs nb sp) {h:Aa} (hh:okH S CL h) (fd:List (Am×An)) :
  Tot (λ n=>Cc n h g hs nb sp fd) (λ r=>HSt g S CL r.2.1 r.1 r.2.2.1/\hs <+: r.2.1/\JhT sp r.2.2.1/\∃ j:Nat,r.2.2.2=(j:Int)/\r.2.1[j]?=some h):=by
 have hle:=H.le hw;unfold Cc DK;cases hm:BJ h nb with
 | none=>
  refine Tot.iteT (by simp) (Tot.bindC (El (by simp;omega)) (Tot.bindC (El (by have:=H.len;simp;omega)) (Jh1 ?_)));refine⟨⟨H.num.snoc hm,λ x hx=>?_,by simp[H.len],λ i x l hx hl=>?_⟩,List.prefix_append _ _,λ i x hx=>?_,hs.length,rfl,by simp⟩
  ·rcases List.mem_append.1 hx with hx|hx
   ·exact H.ok x hx
   ·simp only[List.mem_singleton]at hx;subst hx;exact hh
  ·by_cases hi:i<sp.length
   ·rw[JiC hi]at hl;rw[JiC (by rw[← H.len];exact hi)]at hx;exact(H.stp i x l hx hl).ext (List.prefix_append _ _)
   ·rw[JiM (by omega)]at hl;have:i-sp.length=0:=by have:=Ak hl;simp at this;omega
    rw[this]at hl;cases hl
  ·rw[JiC (Ak hx)];exact hx
 | some v=>
  obtain⟨i,rfl,hi⟩:=H.num.inv h v hm;exact Tot.iteF (by simp) (Jh1 ⟨H,List.prefix_refl _,λ _ _ h=>h,i,rfl,hi⟩)
theorem Te (l:List Af) (s:Af) (hl:l.length<9223372036854775807):Tot (λ n=>Kj n l s) (λ r=>r=decide (s∈l)):=by
 unfold Kj OL;refine Tot.bind (R:=λ r=>(r=-1/\s ∉ l)\/(0<=r/\s∈l)) (Tot.bind (R:=λ y=>match y with
  | .inl _=>s ∉ l
  | .inr i=>0<=i/\s∈l) ?_ λ y hy=>?_) λ r hr=>Jh1 ?_
 ·refine Tot.upto (body:=λ n (x:Int)=>FP n l s x) l.length (λ i x=>x=(i:Int)/\s ∉ l.take i) ?_ ?_ _ ⟨rfl,by simp⟩
  ·rintro i _ hi ⟨rfl,hn⟩;unfold FP;refine Tot.iteT (by simp;omega) (Tot.bindC (Bj hi) (Tot.ite (λ h=>?_) λ h=>?_))
   ·simp only[Bool.and_true,Jiv,beq_iff_eq]at h;have:l[i]=s:=by
     generalize l[i]=x at h;obtain⟨a,b,c⟩:=x;obtain⟨a',b',c'⟩:=s;simp only at h;obtain⟨rfl,rfl,rfl⟩:=h;rfl
    exact Jh1 ⟨by omega,by rw[← this];exact Jih hi⟩
   ·refine Jh1 ⟨Bx (by omega),?_⟩;rw[List.take_add_one,Jiu hi];intro hm;rcases List.mem_append.1 hm with hm|hm
    ·exact hn hm
    ·simp only[Option.toList_some,List.mem_singleton]at hm;rw[← hm]at h;simp at h
  ·rintro _ ⟨rfl,hn⟩;unfold FP;rw[List.take_length]at hn;exact Tot.iteF (by simp) (Jh1 hn)
 ·cases y with
  | inl _=>exact Jh1 (.inl ⟨rfl,hy⟩)
  | inr i=>exact Jh1 (.inr hy)
 ·rcases hr with⟨rfl,h⟩|⟨h1,h2⟩
  ·simp[h]
  ·simp[h1,h2]
end Go.AI
end
section
namespace Go.AI
theorem Sp.inv {A:Nat->Ac->Prop} {h x:Hf} {c:Int} {p:List UInt8} (H:Sp A h c p x):(∃ r,h.2=c::r/\p=[]/\x=(h.1,r))\/(h.2=[]/\∃ a r,A h.1 a/\a.c=c::r/\p=a.p/\x=(a.to,r)):=by
 cases H with
 | rest k c r=>exact .inl ⟨r,rfl,rfl,rfl⟩
 | arc h hc=>exact .inr ⟨rfl,_,_,h,hc,rfl,rfl⟩
theorem Uy (a:UInt8) (r:List UInt8):Da (a::r)=((a.toNat:Nat):Int)::Da r:=rfl
variable {g:Ap} {S:Nat} {CL:List (List Int)} {hs:List Aa} {nb:List (Aa×Int)} {sp:List (Option (List Af))}
theorem okH.tail (hw:GW g S CL) {st:Int} {a:UInt8} {r:List UInt8} (h:okH S CL ⟨st,a::r⟩):okH S CL ⟨st,r⟩/\a.toNat<63:=by
 obtain⟨hk,hr⟩:=h;rcases hr with hr|⟨c,hc,j,h1,h2,e⟩
 ·cases hr
 ·simp only[Uy]at e;obtain⟨c1,c2,c3⟩:=hw.clc c hc;have hm:((a.toNat:Nat):Int)∈c:=List.mem_of_mem_drop (i:=j) (by rw[← e];simp);have hd:Da r=c.drop (j+1):=by rw[← List.drop_drop,← e];rfl
  refine⟨⟨hk,?_⟩,by have:=c3 _ hm;omega⟩;by_cases hj:j+1<=3
  ·exact .inr ⟨c,hc,j+1,by omega,hj,hd⟩
  ·left;rw[List.drop_of_length_le (by omega)]at hd;cases r with
   | nil=>rfl
   | cons b r=>cases hd
theorem HSt.put (H:HSt g S CL hs nb sp) {i:Nat} {h:Aa} {l:List Af} (hi:hs[i]?=some h) (hl:Rz g hs h l):HSt g S CL hs nb (sp.set i (some l)):=by
 refine⟨H.num,H.ok,by rw[JiL];exact H.len,λ j h' l' hj hl'=>?_⟩;rw[List.getElem?_set]at hl';split at hl'
 ·rename_i e;subst e;rw[hi]at hj;cases hj;split at hl'
  ·cases hl';exact hl
  ·cases hl'
 ·exact H.stp j h' l' hj hl'
theorem Tf (H:HSt g S CL hs nb sp) {i:Nat} {h:Aa} {l:List Af} (hi:hs[i]?=some h) (hl:Rz g hs h l):Tot (λ n=>Bm n (i:Int) nb l hs sp) (λ r=>HSt g S CL r.2.1 r.1 r.2.2.1/\hs <+: r.2.1/\Rz g r.2.1 h r.2.2.2):=by
 have hil:i<sp.length:=by rw[H.len];exact Ak hi
 unfold Bm;exact Tot.bindC (Bj hil) (Tot.bindC (Iz hil) (Jh1 ⟨H.put hi hl,List.prefix_refl _,hl⟩))
def JbK (hs:List Aa) (steps:List Af) (a:EO):Prop:=∃ s∈steps,∃ cfg0 r,a.Cells=cfg0::r/\s.Cell=cfg0/\s.Print=a.Print/\∃ (j:Nat) (h':Aa),s.To=(j:Int)/\hs[j]?=some h'/\Fx h'=(a.To.toNat,r)
theorem JbK.ext {hs hs':List Aa} {steps steps':List Af} {a:EO} (h:JbK hs steps a) (hp:hs <+: hs') (hs:∀ s∈steps,s∈steps'):JbK hs' steps' a:=by
 obtain⟨s,h1,cfg0,r,h2,h3,h4,j,h',h5,h6,h7⟩:=h;exact⟨s,hs s h1,cfg0,r,h2,h3,h4,j,h',h5,CF hp h6,h7⟩
structure FrI (g:Ap) (S:Nat) (CL:List (List Int)) (hs0:List Aa) (h:Aa) (l:List EO) (m:Nat) (nb:List (Aa×Int)) (steps:List Af) (hs:List Aa) (sp:List (Option (List Af))):Prop where
 st:HSt g S CL hs nb sp
 pre:hs0 <+: hs
 len:steps.length<=m
 snd:∀ s∈steps,Ux g hs h s
 cov:∀ (m':Nat) a,m'<m->l[m']?=some a->JbK hs steps a
theorem JbL (p1:Int) (fd:List (Am×An)) (x56:List EO) (steps:List Af) (m:Int) (a:EO) (hl:a.Cells.length<=4):Tot (λ n=>whl (λ (x:((List Int)×Int))=>B3 n p1 g fd x56 nb steps hs sp m a x.1 x.2) n (([]:List Int),0)) (λ r=>r=a.Cells):=by
 refine Tot.upto (body:=λ n (x:List Int×Int)=>B3 n p1 g fd x56 nb steps hs sp m a x.1 x.2) a.Cells.length (λ i x=>x.2=(i:Int)/\x.1=a.Cells.take i) ?_ ?_ _ ⟨rfl,rfl⟩
 ·rintro i ⟨y,_⟩ hi ⟨rfl,h⟩;simp only at h;subst h;unfold B3;refine Tot.iteT (by simp;omega) (Tot.bindC (Bj hi) (Tot.bindC (El (by simp;omega)) (Jh1 ⟨Bx (by omega),?_⟩)));show a.Cells.take i++[a.Cells[i]]=_;rw[List.take_add_one,Jiu hi];rfl
 ·rintro⟨y,_⟩ ⟨rfl,h⟩;simp only at h;subst h;unfold B3;exact Tot.iteF (by simp) (Jh1 (List.take_length))
theorem Jaa (hw:GW g S CL) (H:HSt g S CL hs nb sp) {i:Nat} {h:Aa} (hr:h.Rest=[]) {l:List EO} (hl:g.Arcs[h.State.toNat]?=some l) (fd:List (Am×An)) :
  Tot (λ n=>whl (λ (x:((List (Aa×Int))×(List Af)×(List Aa)×(List (Option (List Af)))×Int))=>Bi n (i:Int) g fd l x.1 x.2.1 x.2.2.1 x.2.2.2.1 x.2.2.2.2) n (nb,([]:List Af),hs,sp,0)) (λ r=>FrI g S CL hs h l l.length r.1 r.2.1 r.2.2.1 r.2.2.2):=by
 have hll:=hw.al _ l hl;refine Tot.upto (body:=λ n (x:((List (Aa×Int))×(List Af)×(List Aa)×(List (Option (List Af)))×Int))=>Bi n (i:Int) g fd l x.1 x.2.1 x.2.2.1 x.2.2.2.1 x.2.2.2.2) l.length (λ m x=>x.2.2.2.2=(m:Int)/\FrI g S CL hs h l m x.1 x.2.1 x.2.2.1 x.2.2.2.1) ?_ ?_ _ ⟨rfl,H,List.prefix_refl _,by simp,λ s hs=>by simp at hs,λ m' a hm=>by omega⟩
 ·rintro m ⟨nb1,steps,hs1,sp1,_⟩ hm ⟨rfl,hI⟩;simp only at hI⊢;have ham:=Jih hm;obtain⟨a1,a2,k,a3,a4⟩:=hw.arc _ l hl _ ham;obtain⟨c1,c2,c3⟩:=hw.clc _ a1;unfold Bi;refine Tot.iteT (by simp;omega) (Tot.bindC (Bj hm) ?_);generalize hae:l[m]=a at *;obtain⟨cfg0,r,hcr⟩:∃ cfg0 r,a.Cells=cfg0::r:=by
   cases hc:a.Cells with
   | nil=>rw[hc]at c1;simp at c1
   | cons cfg0 r=>exact⟨cfg0,r,rfl⟩
  have hrs:∀ x∈r,0<=x/\x<63:=λ x hx=>c3 x (by rw[hcr];simp[hx]);have hc0:=c3 cfg0 (by rw[hcr];simp);have hok:okH S CL ⟨a.To,unb r⟩:=by
   refine⟨⟨k,a3,a4⟩,.inr ⟨a.Cells,a1,1,by omega,by omega,?_⟩⟩;rw[hcr];exact MF hrs
  refine Tot.bind (JbL _ _ _ _ _ a c2) ?_;rintro _ rfl;refine Tot.bindC (y:=cfg0) (by rw[hcr];exact Bj (i:=0) (by simp)) (Tot.bindC (y:=r) (by rw[hcr];exact Rx) (Tot.bindC (Z8 hrs) (Tot.bind (RB hw hI.st hok fd) ?_)));rintro⟨nb2,hs2,sp2,j⟩ ⟨g1,g2,_,jn,rfl,g4⟩;simp only at g1 g2 g4⊢;have hspA:Sp (Ag g) (Fx h) cfg0 a.Print (Fx ⟨a.To,unb r⟩):=by
   have:Fx h=(h.State.toNat,[]):=by unfold Fx;rw[hr];rfl
   rw[this];have e:Fx ⟨a.To,unb r⟩=(a.To.toNat,r):=by unfold Fx;rw[MF hrs]
   rw[e];exact Sp.arc (a:=⟨a.Print,a.Cells,a.To.toNat⟩) ⟨l,a,hl,ham,rfl⟩ hcr
  have nxt:∀ st',steps.length<=st'.length->st'.length<=m+1->(∀ s∈steps,s∈st')->(∀ s∈st',s∈steps\/s=⟨cfg0,a.Print,(jn:Int)⟩)->(⟨cfg0,a.Print,(jn:Int)⟩:Af)∈st'->Tot (λ n=>De n (m:Int) nb2 st' hs2 sp2) (Rd2 (λ x=>x.2.2.2.2=((m+1:Nat):Int)/\FrI g S CL hs h l (m+1) x.1 x.2.1 x.2.2.1 x.2.2.2.1) (λ r=>FrI g S CL hs h l l.length r.1 r.2.1 r.2.2.1 r.2.2.2)):=λ st' q0 q1 q2 q3 q4=>by
   refine Jh1 ⟨Bx (by omega),g1,hI.pre.trans g2,q1,λ s hs'=>?_,λ m' a' hm' ha'=>?_⟩
   ·rcases q3 s hs' with h|rfl
    ·exact(hI.snd s h).ext g2
    ·exact⟨hc0.1,hc0.2,a2,jn,_,rfl,g4,hspA⟩
   ·by_cases e:m'=m
    ·subst e;rw[Jiu hm,hae]at ha';cases ha';exact⟨_,q4,cfg0,r,hcr,rfl,rfl,jn,_,rfl,g4,by unfold Fx;rw[MF hrs]⟩
    ·exact(hI.cov m' a' (by omega) ha').ext g2 q2
  have h3:=hI.len;refine Tot.bind (Te steps ⟨cfg0,a.Print,(jn:Int)⟩ (by omega)) ?_;rintro _ rfl;refine Tot.ite (λ hc=>?_) λ hc=>?_
  ·refine Tot.bindC (El (by simp;omega)) (nxt _ (by simp) (by simp;omega) (λ s hs=>by simp[hs]) (λ s hs=>by simpa using hs) (by simp))
  ·have:(⟨cfg0,a.Print,(jn:Int)⟩:Af)∈steps:=by simpa using hc
   exact nxt _ (Jik _) (by omega) (λ _ h=>h) (λ s hs=>.inl hs) this
 ·rintro⟨nb1,steps,hs1,sp1,_⟩ ⟨rfl,hI⟩;unfold Bi;exact Tot.iteF (by simp) (Jh1 hI)
theorem Vs (hw:GW g S CL) (H:HSt g S CL hs nb sp) {i:Nat} {h:Aa} (hi:hs[i]?=some h) (fd:List (Am×An)) :
  Tot (λ n=>Dt n (i:Int) g hs nb sp fd) (λ r=>HSt g S CL r.2.1 r.1 r.2.2.1/\hs <+: r.2.1/\Rz g r.2.1 h r.2.2.2):=by
 have hil:=Ak hi;have hsl:i<sp.length:=by rw[H.len];exact hil
 have hok:=H.ok h (Jiw hi);obtain⟨k,hk,hkS⟩:=hok.1;have hka:k<g.Arcs.length:=by rw[hw.len];exact hkS
 unfold Dt
 generalize hx:sp[i]=x;have hx:=(Jiu hsl).trans (congrArg some hx);refine Tot.bindC (CH hx) ?_;cases x with
 | some l=>
  have hst:=H.stp i h l hi hx;refine Tot.demB (z:=(nb,hs,sp,l)) ⟨false,λ _=>rfl⟩ (λ b hb=>?_) ⟨H,List.prefix_refl _,hst⟩;cases b with
  | false=>exact Ev.iteT rfl (Ev.bindC (CH hx) Ev.const)
  | true=>
   have hl:l=[]:=Classical.byContradiction λ hne=>by have:=hb hne;cases this
   subst hl;have hno:∀ c p x',¬Sp (Ag g) (Fx h) c p x':=λ c p x' hs=>by
    obtain⟨s,h1,_⟩:=hst.cov c p x' hs;simp at h1
   have hr:h.Rest=[]:=by
    cases hr:h.Rest with
    | nil=>rfl
    | cons a r=>
     refine absurd ?_ (hno ((a.toNat:Nat):Int) [] (h.State.toNat,Da r));have:Fx h=(h.State.toNat,((a.toNat:Nat):Int)::Da r):=by unfold Fx;rw[hr];rfl
     rw[this];exact .rest _ _ _
   have ha:g.Arcs[k]?=some []:=by
    rw[Jiu hka];cases hl:g.Arcs[k]with
    | nil=>rfl
    | cons a l=>
     exfalso;have hlk:g.Arcs[k]?=some (a::l):=by rw[Jiu hka,hl]
     obtain⟨a1,_⟩:=hw.arc _ _ hlk a (by simp);obtain⟨c1,_⟩:=hw.clc _ a1;cases hc:a.Cells with
     | nil=>rw[hc]at c1;simp at c1
     | cons cfg0 r=>
      refine hno cfg0 a.Print (a.To.toNat,r) ?_;have:Fx h=(k,[]):=by unfold Fx;rw[hr,hk];rfl
      rw[this];exact Sp.arc (a:=⟨a.Print,a.Cells,a.To.toNat⟩) ⟨_,a,hlk,by simp,rfl⟩ hc
   have hset:sp.set i (some [])=sp:=by
    apply List.ext_getElem?;intro j;rw[List.getElem?_set];split
    ·rename_i e;subst e;first|exact hx.symm|(rw[if_pos hsl];exact hx.symm)
    ·rfl
   refine Ev.iteF rfl (Ev.bindC (CH hi) (Ev.iteF (by rw[hr];rfl) (Ev.bindC (y:=[]) (by rw[hk];exact CH ha) (Ev.bind (x:=(nb,[],hs,sp)) ?_ ?_))))
   ·refine Ev.whl (body:=λ n (x:((List (Aa×Int))×(List Af)×(List Aa)×(List (Option (List Af)))×Int))=>Bi n (i:Int) g fd [] x.1 x.2.1 x.2.2.1 x.2.2.2.1 x.2.2.2.2) (λ k x=>x=(nb,[],hs,sp,0)) (λ k x hx=>.inr ?_) 0 _ rfl;subst hx;unfold Bi;exact Ev.iteF (by simp) Ev.const
   ·unfold Bm;exact Ev.bindC (Bj hsl) (Ev.bindC (Iz hsl) (Ev.all λ n=>by simp only[hset]))
 | none=>
  have main:Tot (λ n=>(idx hs (i:Int)).bind λ x54=>
    if(!(x54.Rest==[]))=true then
     (IY x54.Rest 0).bind λ b8=>
     (sub x54.Rest 1 ((x54.Rest.length:Nat):Int)).bind λ s6=>
     (Cc n ({ State:=x54.State,Rest:=s6 }:Aa) g hs nb sp fd).bind λ (r29:((List (Aa×Int))×(List Aa)×(List (Option (List Af)))×Int))=>
     (app 32 ([]:List Af) ([({ Cell:=b8,Print:=[],To:=r29.2.2.2 }:Af)])).bind λ l26=>
     Bm n (i:Int) r29.1 l26 r29.2.1 r29.2.2.1
    else
     (idx g.Arcs x54.State).bind λ x56=>
     (whl (λ (x:((List (Aa×Int))×(List Af)×(List Aa)×(List (Option (List Af)))×Int))=>Bi n (i:Int) g fd x56 x.1 x.2.1 x.2.2.1 x.2.2.2.1 x.2.2.2.2) n (nb,([]:List Af),hs,sp,0)).bind λ (y48:((List (Aa×Int))×(List Af)×(List Aa)×(List (Option (List Af)))))=>
     Bm n (i:Int) y48.1 y48.2.1 y48.2.2.1 y48.2.2.2) (λ r=>HSt g S CL r.2.1 r.1 r.2.2.1/\hs <+: r.2.1/\Rz g r.2.1 h r.2.2.2):=by
   refine Tot.bindC (CH hi) ?_;obtain⟨st,rr⟩:=h;simp only at hk⊢;subst hk;cases rr with
   | cons a r=>
    obtain⟨t1,t2⟩:=hok.tail hw;refine Tot.iteT rfl (Tot.bindC Rw (Tot.bindC Rx (Tot.bind (RB hw H t1 fd) ?_)));rintro⟨nb2,hs2,sp2,j⟩ ⟨g1,g2,_,jn,rfl,g4⟩;simp only at g1 g2 g4⊢;refine Tot.bindC (El (by simp)) ((Tf g1 (CF g2 hi) ⟨by simp,λ s hs=>?_,λ c p x' hx=>?_⟩).mono λ r hr=>⟨hr.1,g2.trans hr.2.1,hr.2.2⟩)
    ·simp only[List.nil_append,List.mem_singleton]at hs;subst hs;exact⟨by simp only;omega,by simp only;omega,by simp,jn,_,rfl,g4,Sp.rest _ _ _⟩
    ·rcases hx.inv with⟨r',h1,h2,h3⟩|⟨h1,_⟩
     ·have h1:((a.toNat:Nat):Int)::Da r=c::r':=h1;cases h1;exact⟨_,List.mem_singleton.2 rfl,rfl,h2.symm,jn,_,rfl,g4,h3.symm⟩
     ·cases h1
   | nil=>
    have ha:=Jiu hka;refine Tot.iteF rfl (Tot.bindC (CH ha) (Tot.bind (Jaa (h:=⟨(k:Int),[]⟩) hw H rfl ha fd) ?_));rintro⟨nb2,steps,hs2,sp2⟩ hI;simp only at hI⊢;refine(Tf hI.st (CF hI.pre hi) ⟨Nat.le_trans hI.len (hw.al _ _ ha),hI.snd,λ c p x' hx=>?_⟩).mono λ r hr=>⟨hr.1,hI.pre.trans hr.2.1,hr.2.2⟩;rcases hx.inv with⟨r',h1,_⟩|⟨_,b,r',⟨l',x,h1,h2,rfl⟩,h3,h4,h5⟩
    ·cases h1
    ·have h1:g.Arcs[k]?=some l':=h1;rw[ha]at h1;cases h1;obtain⟨m',hm',hm2⟩:=List.mem_iff_getElem.1 h2;obtain⟨s,q1,cfg0,r0,q2,q3,q4,j,h',q5,q6,q7⟩:=hI.cov m' x hm' (by rw[Jiu hm',hm2]);simp only at h3 h4 h5;rw[q2]at h3;cases h3;exact⟨s,q1,q3,q4.trans h4.symm,j,h',q5,q6,q7.trans h5.symm⟩
  obtain⟨z,hz,he⟩:=main
  refine⟨z,hz,Ev.demB ⟨true,rfl⟩ λ b hb=>?_⟩;cases hb;exact Ev.iteF rfl he
end Go.AI
end
section
namespace Go.AI
variable {g:Ap} {S:Nat} {CL:List (List Int)} {hs hs':List Aa} {nb:List (Aa×Int)} {sp:List (Option (List Af))}
def hfA (hs:List Aa) (i:Int):Hf:=Fx (hs.getD i.toNat default)
def InN (hs:List Aa) (n:Ah):Prop:=∃ a b:Nat,n.Pair.A=(a:Int)/\a<hs.length/\n.Pair.B=(b:Int)/\b<hs.length
def GdN (g:Ap) (hs:List Aa) (v:List Int) (n:Ah):Prop:=Gd (Ag g) (Acg g) (hfA hs n.Pair.A) (hfA hs n.Pair.B) (C5 n.Lead) v
def RcN (g:Ap) (hs:List Aa) (w:List Int) (n:Ah):Prop:=Rch (Ag g) w (hfA hs n.Pair.A) (hfA hs n.Pair.B) (C5 n.Lead)
theorem DO {i:Nat} {h:Aa} (hi:hs[i]?=some h):hfA hs (i:Int)=Fx h:=by
 unfold hfA;rw[JiD,List.getD_eq_getElem?_getD,hi];rfl
theorem Ko (hp:hs <+: hs') {i:Nat} (hi:i<hs.length):hfA hs' (i:Int)=hfA hs (i:Int):=by
 have h:=Jiu hi;rw[DO h,DO (CF hp h)]
theorem InN.ext {n:Ah} (h:InN hs n) (hp:hs <+: hs'):InN hs' n:=by
 obtain⟨a,b,h1,h2,h3,h4⟩:=h;have:=hp.length_le;exact⟨a,b,h1,by omega,h3,by omega⟩
theorem GdN.ext {n:Ah} (h:InN hs n) (hp:hs <+: hs') {v:List Int}:GdN g hs' v n↔GdN g hs v n:=by
 obtain⟨a,b,h1,h2,h3,h4⟩:=h;unfold GdN;rw[h1,h3,Ko hp h2,Ko hp h4]
theorem RcN.ext {n:Ah} (h:InN hs n) (hp:hs <+: hs') {w:List Int}:RcN g hs' w n↔RcN g hs w n:=by
 obtain⟨a,b,h1,h2,h3,h4⟩:=h;unfold RcN;rw[h1,h3,Ko hp h2,Ko hp h4]
theorem RcN.ld {n:Ah} {w:List Int} (h:RcN g hs w n):Nv (C5 n.Lead):=Rch.ok h
theorem InN.sw {n:Ah} (h:InN hs n):InN hs (swN n):=by
 obtain⟨a,b,h1,h2,h3,h4⟩:=h;exact⟨b,a,h3,h4,h1,h2⟩
theorem RcN.sw {n:Ah} {w:List Int} (h:RcN g hs w n):RcN g hs w (swN n):=by
 unfold RcN;rw[Z7];exact Rch.swap h
theorem GdN.sw {n:Ah} {w v:List Int} (h:RcN g hs w n) (hg:GdN g hs v n):GdN g hs v (swN n):=by
 unfold GdN;rw[Z7];exact Gd.swap h.ld hg
theorem Uz (hw:GW g S CL) {h h':Hf} {w:List Int} {x:List UInt8} (H:Rn (Ag g) h w x h'):x.length<=4*w.length:=by
 induction H with
 | nil h=>simp
 | cons s _ ih=>
  have hp:∀ {h h1:Hf} {c:Int} {p:List UInt8},Sp (Ag g) h c p h1->p.length<=4:=λ s=>by
   rcases s.inv with⟨r,_,h2,_⟩|⟨_,a,r,⟨l,x,q1,q2,rfl⟩,_,h3,_⟩
   ·rw[h2];simp
   ·rw[h3];exact(hw.arc _ l q1 x q2).2.1
  have:=hp s;simp only[List.length_append,List.length_cons];omega
theorem RcN.len (hw:GW g S CL) {n:Ah} {w:List Int} (h:RcN g hs w n):n.Lead.Text.length<=4*w.length:=by
 obtain⟨x,y,h1,h2,h3⟩:=h;have a:=Uz hw h1;have b:=Uz hw h2;have:=Vn x y;have e:(ldT x y).2=n.Lead.Text:=by rw[h3];rfl
 rw[e]at this;omega
theorem Qi {κ β:Type} [DecidableEq κ] (k k':κ) (v:List β) (m:List (κ×List β)):Ca k' (DV k v m)=if k'=k then v else Ca k' m:=by
 unfold Ca;rw[HT];split<;>rfl
structure Fo2 (g:Ap) (hs:List Aa) (w:List Int) (n:Ah) (x:Af) (lb:List Af) (j:Nat) (bh1 bh:List (Int×List Ah)):Prop where
 all:∀ c,∃ new,Ca c bh=Ca c bh1++new/\new.length<=j/\(∀ m∈new,InN hs m/\RcN g hs (w++[c]) m) /\
  ∀ (j':Nat) y,j'<j->lb[j']?=some y->x.Cell=c->y.Cell=c->∀ v,Gd (Ag g) (Acg g) (hfA hs x.To) (hfA hs y.To) (G4 (C5 n.Lead) x.Print y.Print) v->∃ m∈new,GdN g hs v m
theorem UA (hw:GW g S CL) {w:List Int} (hwl:w.length<=2000000000) {n:Ah} (hr:RcN g hs w n) {ha hb:Aa} {x:Af} (hha:hfA hs n.Pair.A=Fx ha) (hhb:hfA hs n.Pair.B=Fx hb) (hx:Ux g hs ha x) {lb:List Af} (hlb:lb.length<=11) (hy:∀ y∈lb,Ux g hs hb y) (fd:List (Am×An)) (r32 r33:(List (Aa×Int))×(List Aa)×(List (Option (List Af)))×(List Af)) (h33:r33.2.2.2=lb) (xi:Int) {bh1:List (Int×List Ah)} (hbl:∀ c,(Ca c bh1).length<=1000000000000) :
  Tot (λ k=>whl (λ (z:((List (Int×(List Ah)))×Int))=>BK k n g fd r32 xi x r33 z.1 z.2) k (bh1,0)) (Fo2 g hs w n x lb lb.length bh1):=by
 have htl:=hr.len hw;refine Tot.upto (body:=λ k (z:(List (Int×(List Ah)))×Int)=>BK k n g fd r32 xi x r33 z.1 z.2) lb.length (λ j z=>z.2=(j:Int)/\Fo2 g hs w n x lb j bh1 z.1) ?_ ?_ _ ⟨rfl,⟨λ c=>⟨[],by simp,by simp,by simp,λ j' y h=>by omega⟩⟩⟩
 ·rintro j ⟨bh,_⟩ hj ⟨rfl,hI⟩;simp only at hI;unfold BK;rw[h33];have hyj:=hy _ (Jih hj);refine Tot.iteT (by simp;omega) (Tot.bindC (Bj hj) ?_);generalize hye:lb[j]=y at *;have hyg:lb[j]?=some y:=by rw[Jiu hj,hye]
  refine Tot.ite (λ hne=>?_) λ heq=>?_
  ·have hne:x.Cell≠y.Cell:=by simpa using hne
   unfold Ce;refine Jh1 ⟨Bx (by omega),⟨λ c=>?_⟩⟩;obtain⟨new,q1,q2,q3,q4⟩:=hI.all c;refine⟨new,q1,by omega,q3,λ j' y' hj' hy' e1 e2=>?_⟩;by_cases e:j'=j
   ·subst e;rw[hyg]at hy';cases hy';exact absurd (e1.trans e2.symm) hne
   ·exact q4 j' y' (by omega) hy' e1 e2
  ·have heq:x.Cell=y.Cell:=by simpa using heq
   refine Tot.bind (Z6 n.Lead x.Print y.Print (by have:=hx.pl;omega) (by have:=hyj.pl;omega)) λ ld hld=>?_;obtain⟨r,hrm,hre⟩:=Uw ⟨⟨x.To,y.To⟩,ld⟩;refine Jh3 hre ?_;obtain⟨jx,hx',hx1,hx2,hx3⟩:=hx.to;obtain⟨jy,hy',hy1,hy2,hy3⟩:=hyj.to;have hIn0:InN hs ⟨⟨x.To,y.To⟩,ld⟩:=⟨jx,jy,hx1,Ak hx2,hy1,Ak hy2⟩;have hfx:hfA hs x.To=Fx hx':=by rw[hx1];exact DO hx2
   have hfy:hfA hs y.To=Fx hy':=by rw[hy1];exact DO hy2
   have hRc0:RcN g hs (w++[x.Cell]) ⟨⟨x.To,y.To⟩,ld⟩:=by
    unfold RcN;simp only[hld,hfx,hfy];refine Rch.step hr (by rw[hha];exact hx3) (by rw[hhb,heq];exact hy3)
   have hIn:InN hs r:=hrm.elim (λ e=>e▸hIn0) λ e=>e▸hIn0.sw;have hRc:RcN g hs (w++[x.Cell]) r:=hrm.elim (λ e=>e▸hRc0) λ e=>e▸hRc0.sw;have hGd:∀ v,Gd (Ag g) (Acg g) (hfA hs x.To) (hfA hs y.To) (G4 (C5 n.Lead) x.Print y.Print) v->GdN g hs v r:=λ v hv=>by
    have h0:GdN g hs v ⟨⟨x.To,y.To⟩,ld⟩:=by unfold GdN;simp only[hld];exact hv
    exact hrm.elim (λ e=>e▸h0) λ e=>e▸GdN.sw hRc0 h0
   obtain⟨new0,p1,p2,_,_⟩:=hI.all x.Cell;have hb0:=hbl x.Cell;refine Tot.bindC (El (by rw[p1];simp;omega)) ?_;unfold Ce;refine Jh1 ⟨Bx (by omega),⟨λ c=>?_⟩⟩;obtain⟨new,q1,q2,q3,q4⟩:=hI.all c;by_cases hc:c=x.Cell
   ·subst hc;refine⟨new++[r],by simp only[Qi,if_true,q1,List.append_assoc],by simp;omega,λ m hm=>?_,λ j' y' hj' hy' e1 e2 v hv=>?_⟩
    ·rcases List.mem_append.1 hm with hm|hm
     ·exact q3 m hm
     ·simp only[List.mem_singleton]at hm;subst hm;exact⟨hIn,hRc⟩
    ·by_cases e:j'=j
     ·subst e;rw[hyg]at hy';cases hy';exact⟨r,by simp,hGd v hv⟩
     ·obtain⟨m,h1,h2⟩:=q4 j' y' (by omega) hy' e1 e2 v hv;exact⟨m,by simp[h1],h2⟩
   ·refine⟨new,by simp only[Qi,if_neg hc];exact q1,by omega,q3,λ j' y' hj' hy' e1 e2=>absurd e1.symm hc⟩
 ·rintro⟨bh,_⟩ ⟨rfl,hI⟩;unfold BK;rw[h33];exact Tot.iteF (by simp) (Jh1 hI)
structure Fo1 (g:Ap) (hs:List Aa) (w:List Int) (n:Ah) (la:List Af) (i:Nat) (bh0 bh:List (Int×List Ah)):Prop where
 all:∀ c,∃ new,Ca c bh=Ca c bh0++new/\new.length<=11*i/\(∀ m∈new,InN hs m/\RcN g hs (w++[c]) m) /\
  ∀ (i':Nat) x,i'<i->la[i']?=some x->x.Cell=c->∀ q b' v,Sp (Ag g) (hfA hs n.Pair.B) c q b'->Gd (Ag g) (Acg g) (hfA hs x.To) b' (G4 (C5 n.Lead) x.Print q) v->∃ m∈new,GdN g hs v m
theorem WT (hw:GW g S CL) (H:HSt g S CL hs nb sp) {w:List Int} (hwl:w.length<=2000000000) {n:Ah} (hn:InN hs n) (hr:RcN g hs w n) (fd:List (Am×An)) {bh0:List (Int×List Ah)} (hbl:∀ c,(Ca c bh0).length<=900000000000) :
  Tot (λ k=>DL k n g bh0 hs nb sp fd) (λ r=>HSt g S CL r.2.2.1 r.2.1 r.2.2.2/\hs <+: r.2.2.1/\∀ c,∃ new,Ca c r.1=Ca c bh0++new/\new.length<=121/\(∀ m∈new,InN r.2.2.1 m/\RcN g r.2.2.1 (w++[c]) m)/\∀ v,GdN g r.2.2.1 (c::v) n->∃ m∈new,GdN g r.2.2.1 v m):=by
 obtain⟨a,b,ha1,ha2,hb1,hb2⟩:=hn;obtain⟨ha,hae⟩:∃ h,hs[a]?=some h:=⟨_,Jiu ha2⟩;obtain⟨hb,hbe⟩:∃ h,hs[b]?=some h:=⟨_,Jiu hb2⟩;have hn:InN hs n:=⟨a,b,ha1,ha2,hb1,hb2⟩;unfold DL;rw[ha1];refine Tot.bind (Vs hw H hae fd) ?_;rintro⟨nb1,hs1,sp1,la⟩ ⟨g1,g2,g3⟩;simp only at g1 g2 g3⊢;refine Tot.bind (R:=λ r=>HSt g S CL r.2.2.1 r.2.1 r.2.2.2/\hs1 <+: r.2.2.1/\Fo1 g r.2.2.1 w n la la.length bh0 r.1) ?_ ?_
 ·refine Tot.upto (body:=λ k (z:(List (Int×(List Ah)))×(List (Aa×Int))×(List Aa)×(List (Option (List Af)))×Int)=>Cf k n g fd (nb1,hs1,sp1,la) z.1 z.2.1 z.2.2.1 z.2.2.2.1 z.2.2.2.2) la.length (λ i z=>z.2.2.2.2=(i:Int)/\HSt g S CL z.2.2.1 z.2.1 z.2.2.2.1/\hs1 <+: z.2.2.1/\Fo1 g z.2.2.1 w n la i bh0 z.1) ?_ ?_ _ ⟨rfl,g1,List.prefix_refl _,⟨λ c=>⟨[],by simp,by simp,by simp,λ i' x h=>by omega⟩⟩⟩
  ·rintro i ⟨bh,nb2,hs2,sp2,_⟩ hi ⟨rfl,k1,k2,k3⟩;simp only at k1 k2 k3;unfold Cf;have hxi:=g3.snd _ (Jih hi);refine Tot.iteT (by simp;omega) (Tot.bindC (Bj hi) ?_);generalize hxe:la[i]=x at *;have hxg:la[i]?=some x:=by rw[Jiu hi,hxe]
   rw[hb1];refine Tot.bind (Vs hw k1 (CF (g2.trans k2) hbe) fd) ?_;rintro⟨nb3,hs3,sp3,lb⟩ ⟨m1,m2,m3⟩;simp only at m1 m2 m3⊢;have hp03:hs <+: hs3:=(g2.trans k2).trans m2;have hp23:hs1 <+: hs3:=k2.trans m2;have hfa:hfA hs3 n.Pair.A=Fx ha:=by rw[ha1];exact DO (CF hp03 hae)
   have hfb:hfA hs3 n.Pair.B=Fx hb:=by rw[hb1];exact DO (CF hp03 hbe)
   have hll:=g3.len;have hnl:∀ c,(Ca c bh).length<=900000000000+11*i:=λ c=>by
    obtain⟨new,q1,q2,_⟩:=k3.all c;have:=hbl c;rw[q1];simp;omega
   refine Tot.bind (UA hw hwl ((RcN.ext hn hp03).2 hr) hfa hfb (hxi.ext hp23) m3.len m3.snd fd _ _ rfl _ (λ c=>by have:=hnl c;omega)) λ bh2 h2=>Jh1 ⟨Bx (by omega),m1,hp23,⟨λ c=>?_⟩⟩;obtain⟨new1,q1,q2,q3,q4⟩:=k3.all c;obtain⟨new2,p1,p2,p3,p4⟩:=h2.all c;have hlb:=m3.len;refine⟨new1++new2,by simp only[p1,q1,List.append_assoc],by simp;omega,λ m hm=>?_,λ i' x' hi' hx' e1 q b' v hs hv=>?_⟩
   ·rcases List.mem_append.1 hm with hm|hm
    ·obtain⟨r1,r2⟩:=q3 m hm;exact⟨r1.ext m2,(RcN.ext r1 m2).2 r2⟩
    ·exact p3 m hm
   ·by_cases e:i'=i
    ·subst e;rw[hxg]at hx';cases hx';rw[hfb]at hs;obtain⟨y,hy1,hy2,hy3,jy,hy',hy4,hy5,hy6⟩:=m3.cov _ _ _ hs;obtain⟨j',hj',hj2⟩:=List.mem_iff_getElem.1 hy1;have hfy:hfA hs3 y.To=b':=by rw[hy4,DO hy5,hy6]
     obtain⟨m,r1,r2⟩:=p4 j' y hj' (by rw[Jiu hj',hj2]) e1 hy2 v (by rw[hfy,hy3];exact hv);exact⟨m,by simp[r1],r2⟩
    ·obtain⟨jx,hx0,hx1,hx2,_⟩:=(g3.snd x' (Jiw hx')).to;have hfx:hfA hs3 x'.To=hfA hs2 x'.To:=by rw[hx1];exact Ko m2 (Ak (CF k2 hx2))
     have hfb2:hfA hs3 n.Pair.B=hfA hs2 n.Pair.B:=by rw[hb1];exact Ko m2 (Ak (CF (g2.trans k2) hbe))
     obtain⟨m,r1,r2⟩:=q4 i' x' (by omega) hx' e1 q b' v (by rw[← hfb2];exact hs) (by rw[← hfx];exact hv);exact⟨m,by simp[r1],(GdN.ext (q3 m r1).1 m2).2 r2⟩
  ·rintro⟨bh,nb2,hs2,sp2,_⟩ ⟨rfl,k1,k2,k3⟩;unfold Cf;exact Tot.iteF (by simp) (Jh1 ⟨k1,k2,k3⟩)
 ·rintro⟨bh,nb2,hs2,sp2⟩ ⟨k1,k2,k3⟩;simp only at k1 k2 k3⊢;have hp:hs <+: hs2:=g2.trans k2;refine Jh1 ⟨k1,hp,λ c=>?_⟩;obtain⟨new,q1,q2,q3,q4⟩:=k3.all c;have hll:=g3.len;refine⟨new,q1,by omega,q3,λ v hv=>?_⟩;obtain⟨p,q,a',b',s1,s2,s3⟩:=Gd.next ((RcN.ext hn hp).2 hr) hv;have hfa:hfA hs2 n.Pair.A=Fx ha:=by rw[ha1];exact DO (CF hp hae)
  rw[hfa]at s1;obtain⟨x,x1,x2,x3,jx,hx',x4,x5,x6⟩:=g3.cov _ _ _ s1;obtain⟨i',hi',hi2⟩:=List.mem_iff_getElem.1 x1;have hfx:hfA hs2 x.To=a':=by rw[x4,DO (CF k2 x5),x6]
  exact q4 i' x hi' (by rw[Jiu hi',hi2]) x2 q b' v s2 (by rw[hfx,x3];exact s3)
end Go.AI
end
section
namespace Go.AI
variable {g:Ap} {S:Nat} {CL:List (List Int)} {hs hs':List Aa} {nb:List (Aa×Int)} {sp:List (Option (List Af))}
abbrev Rec:=List Int×Ah×Nat
def JgY:An:=⟨0,⟨⟨0,[]⟩,⟨0,[]⟩⟩⟩
def DC (fd:List (Am×An)) (p:Am):An:=(BJ p fd).getD JgY
def LdS (RL:List Rec) (p:Am) (l:Int×List UInt8):Prop:=∃ e∈RL,e.2.1.Pair=p/\C5 e.2.1.Lead=l
def Jfq (e:Rec):Nat:=(e.2.1.Pair.A.toNat*26112+e.2.1.Pair.B.toNat)*2+e.2.2
structure Pb (RL:List Rec) (fd:List (Am×An)):Prop where
 num:∀ p,(DC fd p).N=0\/(DC fd p).N=1\/(DC fd p).N=2
 one:∀ p,1<=(DC fd p).N->LdS RL p (C5 (DC fd p).Leads.a0)
 two:∀ p,(DC fd p).N=2->LdS RL p (C5 (DC fd p).Leads.a1)/\C5 (DC fd p).Leads.a0≠C5 (DC fd p).Leads.a1
 idx:∀ e∈RL,(e.2.2:Int)<(DC fd e.2.1.Pair).N
 key:(RL.map Jfq).Nodup
theorem Pb.nil:Pb [] []:=⟨λ p=>.inl rfl,λ p h=>by have h:(1:Int)<=0:=h;omega,λ p h=>by have h:(0:Int)=2:=h;omega,λ e h=>by simp at h,by simp⟩
theorem LdS.app {RL RL':List Rec} {p:Am} {l:Int×List UInt8} (h:LdS RL p l):LdS (RL++RL') p l:=by
 obtain⟨e,h1,h2⟩:=h;exact⟨e,List.mem_append_left _ h1,h2⟩
theorem Jab {l:List Nat} {M:Nat} (h:l.Nodup) (hM:∀ x∈l,x<M):l.length<=M:=by
 have:=Qh h (m:=List.range M) λ x hx=>List.mem_range.2 (hM x hx);rwa[List.length_range]at this
theorem Pb.le {RL:List Rec} {fd:List (Am×An)} (H:Pb RL fd) (hl:hs.length<=26112) (hi:∀ e∈RL,InN hs e.2.1):RL.length<=1363673088:=by
 have:=Jab (M:=1363673088) H.key λ x hx=>by
  obtain⟨e,he,rfl⟩:=Jin.1 hx;obtain⟨a,b,h1,h2,h3,h4⟩:=hi e he;have h5:=H.idx e he;have h6:=H.num e.2.1.Pair;unfold Jfq;rw[h1,h3];simp only[JiD];omega
 rwa[Jiq]at this
theorem ID (fd:List (Am×An)) (p q:Am) (s:An):DC (DV p s fd) q=if q=p then s else DC fd q:=by
 unfold DC;rw[HT];split<;>rfl
theorem Jac {a b:BR} (h:C5 a=C5 b):a=b:=by
 obtain⟨s,t⟩:=a;obtain⟨s',t'⟩:=b;unfold C5 at h;simp only[Prod.mk.injEq]at h;obtain⟨rfl,rfl⟩:=h;rfl
theorem Pb.add {RL:List Rec} {fd:List (Am×An)} (H:Pb RL fd) (hl:hs.length<=26112) (hi:∀ e∈RL,InN hs e.2.1) {n:Ah} (hn:InN hs n) (w:List Int) (i:Nat) {s:An} (h0:(DC fd n.Pair).N=(i:Int)) (h1:s.N=(i:Int)+1) (h2:i<2)
  (ha:i=0->s.Leads.a0=n.Lead) (hb:i=1->s.Leads.a0=(DC fd n.Pair).Leads.a0/\s.Leads.a1=n.Lead/\C5 (DC fd n.Pair).Leads.a0≠C5 n.Lead):Pb (RL++[(w,n,i)]) (DV n.Pair s fd):=by
 have hnew:∀ RL',LdS (RL'++[(w,n,i)]) n.Pair (C5 n.Lead):=λ RL'=>⟨(w,n,i),by simp,rfl,rfl⟩;refine⟨λ p=>?_,λ p hp=>?_,λ p hp=>?_,λ e he=>?_,?_⟩
 ·rw[ID];split
  ·omega
  ·exact H.num p
 ·rw[ID]at hp⊢;split at hp
  ·rename_i e;subst e;rw[if_pos rfl];have:i=0\/i=1:=by omega
   rcases this with rfl|rfl
   ·rw[ha rfl];exact hnew _
   ·rw[(hb rfl).1];exact(H.one _ (by omega)).app
  ·rename_i e;rw[if_neg e];exact(H.one p hp).app
 ·rw[ID]at hp⊢;split at hp
  ·rename_i e;subst e;rw[if_pos rfl];have:i=1:=by omega
   subst this;obtain⟨b1,b2,b3⟩:=hb rfl;rw[b1,b2];exact⟨hnew _,b3⟩
  ·rename_i e;rw[if_neg e];exact⟨(H.two p hp).1.app,(H.two p hp).2⟩
 ·rw[ID];rcases List.mem_append.1 he with he|he
  ·have:=H.idx e he;split
   ·rename_i h;rw[h,h0]at this;omega
   ·exact this
  ·simp only[List.mem_singleton]at he;subst he;simp only[if_true];omega
 ·rw[List.map_append,List.nodup_append];refine⟨H.key,by simp,λ x hx y hy=>?_⟩;simp only[Jir,List.map_nil,List.mem_singleton]at hy;subst hy;obtain⟨e,he,rfl⟩:=Jin.1 hx;intro hk;obtain⟨a,b,q1,q2,q3,q4⟩:=hi e he;obtain⟨a',b',p1,p2,p3,p4⟩:=hn;have h5:=H.idx e he;have h6:=H.num e.2.1.Pair;unfold Jfq at hk;simp only[q1,q3,p1,p3,JiD]at hk;have hi2:e.2.2=i:=by omega
  have hb2:b=b':=by omega
  have ha2:a=a':=by omega
  have hp:e.2.1.Pair=n.Pair:=by
   have x1:e.2.1.Pair.A=n.Pair.A:=by rw[q1,p1,ha2]
   have x2:e.2.1.Pair.B=n.Pair.B:=by rw[q3,p3,hb2]
   generalize e.2.1.Pair=P1 at *;generalize n.Pair=P2 at *;obtain⟨c,d⟩:=P1;obtain⟨c',d'⟩:=P2;simp only at x1 x2;rw[x1,x2]
  rw[hp,h0,hi2]at h5;omega
theorem JbM {n:Nat} {i:Int} (h:0<=i) (h':i<(n:Nat)):inB n i=some ():=by
 unfold inB;exact D9 (by simp;omega)
theorem Jfr {β:Type} {c:Bool} {x:Option β} {y d:β} (h:x=some y):(if c=true then x else some d)=some (if c=true then y else d):=by
 cases c with
 | true=>exact h
 | false=>rfl
theorem Qj {RL:List Rec} {fd:List (Am×An)} (H:Pb RL fd) (hl:hs.length<=26112) (hi:∀ e∈RL,InN hs e.2.1) {n:Ah} (hn:InN hs n) (hRL:∀ e∈RL,Nv (C5 e.2.1.Lead)) (w:List Int) :
  Tot (λ k=>CN k n g hs nb sp fd) (λ r=>(r.2=true/\∃ i,Pb (RL++[(w,n,i)]) r.1)\/(r.2=false/\r.1=fd/\Cov (LdS RL n.Pair) (C5 n.Lead))):=by
 have hz:(BJ n.Pair fd).getD (⟨0,⟨⟨0,[]⟩,⟨0,[]⟩⟩⟩:An)=DC fd n.Pair:=rfl;unfold CN;refine Tot.bindC rfl ?_;rw[hz];have hN:=H.num n.Pair;have h1:=H.one n.Pair;have h2:=H.two n.Pair;generalize hs0:DC fd n.Pair=s at *;refine Tot.bindC (JbM (by omega) (by omega)) ?_;obtain⟨K,hK,hK2⟩:∃ K:Nat,s.N=(K:Int)/\K<=2:=⟨s.N.toNat,by omega,by omega⟩;have hLl:(List.take K [s.Leads.a0,s.Leads.a1]).length=K:=by rw[List.length_take];simp;omega
 refine Tot.bind (R:=λ y=>match y with
  | .inl _=>∀ l∈List.take K [s.Leads.a0,s.Leads.a1],C5 l≠C5 n.Lead/\l.Side≠3
  | .inr z=>z=(fd,false)/\∃ l∈List.take K [s.Leads.a0,s.Leads.a1],C5 l=C5 n.Lead\/l.Side=3) ?_ λ y hy=>?_
 ·refine Tot.upto (body:=λ k (x:Int)=>Cd k n g hs nb sp fd s x) K (λ i x=>x=(i:Int)/\∀ l∈(List.take K [s.Leads.a0,s.Leads.a1]).take i,C5 l≠C5 n.Lead/\l.Side≠3) ?_ ?_ _ ⟨rfl,by simp⟩
  ·rintro i _ hik ⟨rfl,hI⟩;unfold Cd;rw[hK,JiD];have hil:i<(List.take K [s.Leads.a0,s.Leads.a1]).length:=by omega
   refine Tot.iteT (by simp;omega) (Tot.bindC (Bj hil) ?_);generalize hle:(List.take K [s.Leads.a0,s.Leads.a1])[i]=l;have hlm:l∈List.take K [s.Leads.a0,s.Leads.a1]:=by rw[← hle];exact Jih hil
   refine Tot.ite (λ hc=>Jh1 ⟨rfl,l,hlm,?_⟩) λ hc=>Jh1 ⟨Bx (by omega),λ l' hl'=>?_⟩
   ·simp only[Bool.and_true,JiN,Jiv,beq_iff_eq]at hc;rcases hc with⟨a,b⟩|h
    ·exact .inl (by unfold C5;rw[a,b])
    ·exact .inr h
   ·rw[List.take_add_one,Jiu hil,hle]at hl';rcases List.mem_append.1 hl' with h|h
    ·exact hI l' h
    ·simp only[Option.toList_some,List.mem_singleton]at h;subst h;constructor
     ·intro e;rw[Jac e]at hc;simp at hc
     ·intro e;rw[e]at hc;simp at hc
  ·rintro _ ⟨rfl,hI⟩;unfold Cd;rw[hK,JiD];rw[List.take_of_length_le (by omega)]at hI;exact Tot.iteF (by simp) (Jh1 hI)
 ·cases y with
  | inr z=>
   obtain⟨rfl,l,hl1,hl2⟩:=hy;refine Jh1 (.inr ⟨rfl,rfl,?_⟩);have hlS:LdS RL n.Pair (C5 l):=by
    have:K=0\/K=1\/K=2:=by omega
    rcases this with rfl|rfl|rfl
    ·simp at hl1
    ·simp at hl1;subst hl1;exact h1 (by omega)
    ·simp at hl1;rcases hl1 with rfl|rfl
     ·exact h1 (by omega)
     ·exact(h2 hK).1
   rcases hl2 with e|e
   ·left;rw[← e];exact hlS
   ·right;left;obtain⟨e0,he0,he1,he2⟩:=hlS;have hk:=hRL e0 he0;rw[he2]at hk;have:C5 l=(3,[]):=by
     unfold C5 at hk⊢;rcases hk with⟨a,b⟩|⟨a,b⟩|⟨a,b⟩|⟨a,b⟩<;>simp only at a b
     ·omega
     ·omega
     ·omega
     ·rw[a,b]
    rw[← this];exact⟨e0,he0,he1,he2⟩
  | inl _=>
   simp only at hy⊢;refine Tot.ite (λ hc=>?_) λ hc=>?_
   ·have hc:s.N=2:=by simpa using hc
    have h3:=h2 hc;exact Jh1 (.inr ⟨rfl,rfl,.inr (.inr ⟨_,_,h1 (by omega),h3.1,h3.2⟩)⟩)
   ·have hc:s.N≠2:=by simpa using hc
    have hK3:K<2:=by omega
    rw[hK];refine Tot.bindC (Bj (show K<[s.Leads.a0,s.Leads.a1].length by simp;omega)) (Tot.bindC (Iz (show K<[s.Leads.a0,s.Leads.a1].length by simp;omega)) (Jh1 (.inl ⟨rfl,K,?_⟩)));refine H.add hl hi hn w K (by rw[hs0];exact hK) ?_ hK3 (λ h=>?_) λ h=>?_
    ·show Ba .i64 (K:Int) 1=_;rw[Bx (by omega)];omega
    ·subst h;rfl
    ·subst h;rw[hs0];exact⟨rfl,rfl,(hy s.Leads.a0 (by simp)).1⟩
theorem UB (hw:GW g S CL) (H:HSt g S CL hs nb sp) {n:Ah} (hn:InN hs n) (hok:Nv (C5 n.Lead)) (fd:List (Am×An)):Tot (λ k=>Df k n g hs nb sp fd) (λ r=>r=true↔GdN g hs [] n):=by
 obtain⟨a,b,h1,h2,h3,h4⟩:=hn;obtain⟨ha,hae⟩:∃ h,hs[a]?=some h:=⟨_,Jiu h2⟩;obtain⟨hb,hbe⟩:∃ h,hs[b]?=some h:=⟨_,Jiu h4⟩;obtain⟨ka,ka1,ka2⟩:=(H.ok ha (Jiw hae)).1;obtain⟨kb,kb1,kb2⟩:=(H.ok hb (Jiw hbe)).1;obtain⟨ba,hba⟩:=hw.acc ka ka2;obtain⟨bb,hbb⟩:=hw.acc kb kb2;have key:GdN g hs [] n↔n.Lead.Side≠0/\ha.Rest=[]/\hb.Rest=[]/\ba=true/\bb=true:=by
  unfold GdN;rw[Jh7 hok,h1,h3,DO hae,DO hbe];unfold Fx Acg C5;rw[ka1,kb1];simp only[JiD,hba,hbb,JiE];have:∀ x:List UInt8,Da x=[]↔x=[]:=λ x=>by unfold Da;simp
  rw[this,this]
 unfold Df;rw[h1,h3];refine Tot.bindC (CH hae) (Tot.bindC (CH hbe) ?_);rw[ka1,kb1];refine Tot.bindC (Jfr (CH hba)) (Tot.bindC (Jfr (CH hbb)) (Jh1 ?_));rw[key];have hr:∀ x:List UInt8,(x==[])=decide (x=[]):=λ x=>by cases x<;>simp
 by_cases e1:n.Lead.Side=0
 ·simp[e1]
 ·by_cases e2:ha.Rest=[]
  ·by_cases e3:hb.Rest=[]
   ·cases ba<;>cases bb<;>simp[e1,e2,e3]
   ·simp[e1,e2,e3,hr]
  ·simp[e1,e2,hr]
end Go.AI
end
section
namespace Go.AI
theorem UC (l:List Int) (hl:l.length<9000000000000):Tot (λ n=>Il n l) (λ r=>r=l.reverse):=by
 have hj0:K5 .i64 ((l.length:Nat):Int) 1=(l.length:Int)-1:=ZO (by omega) (by omega);unfold Il;rw[hj0];refine Tot.bind (R:=λ r=>r=l.reverse) ?_ λ r hr=>Jh1 hr;refine Tot.upto (body:=λ n (x:List Int×Int×Int)=>Em n x.1 x.2.1 x.2.2) (l.length / 2) (λ k x=>x.2.1=(k:Int)/\x.2.2=(l.length:Int)-1-k/\x.1.length=l.length/\∀ p:Nat,x.1[p]?=if p<k\/l.length-k<=p then l.reverse[p]? else l[p]?) ?_ ?_ _ ⟨rfl,by simp,rfl,λ p=>?_⟩
 ·rintro k ⟨s,_,_⟩ hk ⟨rfl,rfl,hsl,hs⟩;simp only at hsl hs;unfold Em;have e:(l.length:Int)-1-(k:Int)=((l.length-1-k:Nat):Int):=by omega
  have hk1:k<s.length:=by omega
  have hk2:l.length-1-k<s.length:=by omega
  simp only[e];refine Tot.iteT (by simp;omega) (Tot.bindC (Bj hk2) (Tot.bindC (Bj hk1) (Tot.bindC (Bj hk1) (Tot.bindC (Iz hk1) (Tot.bindC (Bj (by simpa using hk2)) (Tot.bindC (Iz (by simpa using hk2)) (Jh1 ⟨Bx (by omega),?_,by simpa using hsl,λ p=>?_⟩)))))))
  ·show K5 .i64 ((l.length-1-k:Nat):Int) 1=_;rw[ZO (by omega) (by omega)];omega
  ·have h1:=hs k;have h2:=hs (l.length-1-k);rw[if_neg (by omega),Jiu hk1]at h1;rw[if_neg (by omega),Jiu hk2]at h2;simp only[List.getElem?_set,JiL];by_cases e1:l.length-1-k=p
   ·rw[if_pos e1,if_pos hk2,if_pos (by omega),h1,← e1,List.getElem?_reverse (by omega)];congr 1;omega
   ·rw[if_neg e1];by_cases e2:k=p
    ·rw[if_pos e2,if_pos hk1,if_pos (by omega),h2,← e2,List.getElem?_reverse (by omega)]
    ·rw[if_neg e2,hs p];by_cases e3:p<k\/l.length-k<=p
     ·rw[if_pos e3,if_pos (by omega)]
     ·rw[if_neg e3,if_neg (by omega)]
 ·rintro⟨s,_,_⟩ ⟨rfl,rfl,hsl,hs⟩;simp only at hsl hs;unfold Em;refine Tot.iteF (by simp;omega) (Jh1 ?_);apply List.ext_getElem?;intro p;rw[hs p];split
  ·rfl
  ·by_cases hp:p<l.length
   ·rw[List.getElem?_reverse hp];congr 1;omega
   ·rw[JiP (by omega),JiP (by simp;omega)]
 ·simp only[Nat.not_lt_zero,false_or,Nat.sub_zero];split
  ·rw[JiP (by omega),JiP (by simp;omega)]
  ·rfl
abbrev Ch:=List (List Ah×Int)
def wdC:Ch->List Int
 | []=>[]
 | [_]=>[]
 | p::q::r=>wdC (q::r)++[p.2]
theorem Vt:∀ ch:Ch,(wdC ch).length=ch.length-1
 | []=>rfl
 | [_]=>rfl
 | p::q::r=>by simp[wdC,Vt (q::r)]
theorem Jad (ns:List Ah) (c:Int) (fr:Ch) (hl:fr.length<8000000000000):Tot (λ n=>Ez n ({ Nodes:=ns,From:=fr,Cell:=c }:Bf)) (λ r=>r=wdC ((ns,c)::fr)):=by
 unfold Ez;refine Tot.bind (R:=λ r=>r.reverse=wdC ((ns,c)::fr)/\r.length=fr.length) ?_ ?_
 ·refine Tot.whl (body:=λ n (x:List Int×Ch)=>Db n x.1 x.2) (λ k x=>k=x.2.length/\x.2≠[]/\x.1.length+x.2.length=fr.length+1/\wdC ((ns,c)::fr)=wdC x.2++x.1.reverse) ?_ _ _ ⟨rfl,by simp,by simp,by simp⟩;rintro k ⟨l,ch⟩ ⟨rfl,h1,h2,h3⟩;simp only at h1 h2 h3;unfold Db;cases ch with
  | nil=>exact absurd rfl h1
  | cons p r=>
   refine Tot.bindC (y:={ Nodes:=p.1,From:=r,Cell:=p.2 }) rfl ?_;cases r with
   | nil=>
    refine Tot.iteF rfl (Jh1 ⟨?_,by simp at h2;omega⟩);rw[h3];rfl
   | cons q r=>
    refine Tot.iteT rfl (Tot.bindC (El (by simp at h2⊢;omega)) (Jh1 ⟨(q::r).length,by simp,rfl,by simp,by simp at h2⊢;omega,?_⟩));rw[h3];simp[wdC]
 ·rintro l ⟨h1,h2⟩;refine Tot.bind (UC l (by omega)) ?_;rintro _ rfl;exact Tot.bindC (D9 (by simp)) (Jh1 h1)
def leS (x y:List Int):Prop:=ltW x y\/x=y
theorem leS.refl (x:List Int):leS x x:=.inr rfl
theorem leS.trans {x y z:List Int} (h:leS x y) (h':leS y z):leS x z:=by
 rcases h with h|rfl
 ·rcases h' with h'|rfl
  ·exact .inl (Qf h h')
  ·exact .inl h
 ·exact h'
theorem leS.lt {x y z:List Int} (h:leS x y) (h':ltW y z):ltW x z:=by
 rcases h with h|rfl
 ·exact Qf h h'
 ·exact h'
theorem leS.app {x y:List Int} (h:leS x y) (v:List Int):leS (x++v) (y++v):=by
 rcases h with h|rfl
 ·exact .inl (JbJ h v)
 ·exact .inr rfl
theorem JbN (x v:List Int):leS x (x++v):=by
 cases v with
 | nil=>rw[List.append_nil];exact .inr rfl
 | cons c v=>exact .inl (.inl (by simp))
theorem Pc {x y:List Int} (h:x.length=y.length) (a b:Int):ltL (x++[a]) (y++[b])=true↔ltL x y=true\/(x=y/\a<b):=by
 induction x generalizing y with
 | nil=>
  cases y with
  | nil=>simp[ltL]
  | cons _ _=>simp at h
 | cons c x ih=>
  cases y with
  | nil=>simp at h
  | cons d y=>
   simp only[List.cons_append,ltL,JiN,decide_eq_true_eq,Jiv,beq_iff_eq,ih (by simpa using h:x.length=y.length)];constructor
   ·rintro (h1|⟨rfl,h1|⟨rfl,h1⟩⟩)
    ·exact .inl (.inl h1)
    ·exact .inl (.inr ⟨rfl,h1⟩)
    ·exact .inr ⟨rfl,h1⟩
   ·rintro ((h1|⟨rfl,h1⟩)|⟨h1,h2⟩)
    ·exact .inl h1
    ·exact .inr ⟨rfl,.inl h1⟩
    ·cases h1;exact .inr ⟨rfl,.inr ⟨rfl,h2⟩⟩
variable {g:Ap} {S:Nat} {CL:List (List Int)} {hs hs':List Aa} {nb:List (Aa×Int)} {sp:List (Option (List Af))} {fd:List (Am×An)} {RL RL':List Rec}
def Clo (g:Ap) (hs:List Aa) (RL:List Rec) (e:Rec) (c:Int):Prop:=∀ v,GdN g hs (c::v) e.2.1->∃ e'∈RL,leS e'.1 (e.1++[c])/\GdN g hs v e'.2.1
theorem Clo.mono {e:Rec} {c:Int} (h:Clo g hs RL e c) (hm:∀ x∈RL,x∈RL'):Clo g hs RL' e c:=λ v hv=>by
 obtain⟨e',h1,h2⟩:=h v hv;exact⟨e',hm e' h1,h2⟩
theorem Jae (u:List Int) (h0:∃ e∈RL,e.1=[]/\GdN g hs u e.2.1) (hcl:∀ p c v,u=p++c::v->∀ e∈RL,leS e.1 p->Clo g hs RL e c):∃ e∈RL,GdN g hs [] e.2.1:=by
 have key:∀ v p,u=p++v->(∃ e∈RL,leS e.1 p/\GdN g hs v e.2.1)->∃ e∈RL,GdN g hs [] e.2.1:=by
  intro v;induction v with
  | nil=>rintro p _ ⟨e,h1,_,h2⟩;exact⟨e,h1,h2⟩
  | cons c v ih=>
   rintro p hu ⟨e,h1,h2,h3⟩;obtain⟨e',q1,q2,q3⟩:=hcl p c v hu e h1 h2 v h3;exact ih (p++[c]) (by rw[hu];simp) ⟨e',q1,q2.trans (h2.app [c]),q3⟩
 obtain⟨e,h1,h2,h3⟩:=h0;exact key u [] rfl ⟨e,h1,.inr h2,h3⟩
structure BI (g:Ap) (S:Nat) (CL:List (List Int)) (RL:List Rec) (hs:List Aa) (nb:List (Aa×Int)) (sp:List (Option (List Af))) (fd:List (Am×An)):Prop where
 st:HSt g S CL hs nb sp
 fd:Pb RL fd
 inn:∀ e∈RL,InN hs e.2.1
 rc:∀ e∈RL,RcN g hs e.1 e.2.1
 no:∀ e∈RL,¬GdN g hs [] e.2.1
 zero:∃ e∈RL,e.1=[]/\∀ u,Amb (Ag g) (Acg g) u->GdN g hs u e.2.1
theorem BI.ext {nb':List (Aa×Int)} {sp':List (Option (List Af))} (H:BI g S CL RL hs nb sp fd) (hp:hs <+: hs') (h:HSt g S CL hs' nb' sp'):BI g S CL RL hs' nb' sp' fd:=by
 obtain⟨e,h1,h2,h3⟩:=H.zero;exact⟨h,H.fd,λ e he=>(H.inn e he).ext hp,λ e he=>(RcN.ext (H.inn e he) hp).2 (H.rc e he),λ e he hg=>H.no e he ((GdN.ext (H.inn e he) hp).1 hg),e,h1,h2,λ u hu=>(GdN.ext (H.inn e h1) hp).2 (h3 u hu)⟩
theorem Clo.ext (H:BI g S CL RL hs nb sp fd) (hp:hs <+: hs') {e:Rec} (he:e∈RL) {c:Int} (h:Clo g hs RL e c):Clo g hs' RL e c:=λ v hv=>by
 obtain⟨e',h1,h2,h3⟩:=h v ((GdN.ext (H.inn e he) hp).1 hv);exact⟨e',h1,h2,(GdN.ext (H.inn e' h1) hp).2 h3⟩
theorem BI.le (hw:GW g S CL) (H:BI g S CL RL hs nb sp fd):RL.length<=1363673088:=H.fd.le (H.st.le hw) H.inn
theorem UD (hw:GW g S CL) (H:HSt g S CL hs nb sp) {n:Ah} (hn:InN hs n) {c:Int} {v:List Int} (h:GdN g hs (c::v) n):0<=c/\c<63:=by
 obtain⟨a,b,h1,h2,_⟩:=hn;have hae:=Jiu h2;obtain⟨p,q,⟨k,r1,_⟩,_⟩:=h;obtain⟨x,p1,y,s1,_,_⟩:=r1.inv;rw[h1,DO hae]at s1;have hok:=H.ok _ (Jiw hae);rcases s1.inv with⟨r,e1,_⟩|⟨_,a1,r,⟨l,x1,q1,q2,rfl⟩,e2,_⟩
 ·have hb:Da hs[a].Rest=c::r:=e1;rcases hok.2 with h0|⟨cc,hc1,j,j1,j2,h0⟩
  ·rw[h0]at hb;cases hb
  ·have:c∈cc:=List.mem_of_mem_drop (i:=j) (by rw[← h0,hb];simp);exact(hw.clc cc hc1).2.2 c this
 ·have:c∈x1.Cells:=by rw[show x1.Cells=c::r from e2];simp
  exact(hw.clc _ (hw.arc _ l q1 x1 q2).1).2.2 c this
end Go.AI
end
section
namespace Go.AI
variable {g:Ap} {S:Nat} {CL:List (List Int)} {hs hs':List Aa} {nb:List (Aa×Int)} {sp:List (Option (List Af))} {fd:List (Am×An)} {RL RL':List Rec}
structure L5I (g:Ap) (S:Nat) (CL:List (List Int)) (hs:List Aa) (nb:List (Aa×Int)) (sp:List (Option (List Af))) (RL:List Rec) (W:List Int) (fr:Ch) (c:Int) (Bc:List Ah) (i:Nat) (grp:Bf) (fd:List (Am×An)) (RL':List Rec):Prop where
 bi:BI g S CL RL' hs nb sp fd
 sub:∀ e∈RL,e∈RL'
 new:∀ e∈RL',e∈RL\/(e.1=W/\e.2.1∈grp.Nodes)
 own:∀ m∈grp.Nodes,∃ i,(W,m,i)∈RL'
 len:RL'.length=RL.length+grp.Nodes.length
 cov:∀ (j:Nat) m,j<i->Bc[j]?=some m->∀ v,GdN g hs v m->∃ e∈RL',GdN g hs v e.2.1
 from_:grp.From=fr
 cell:grp.Cell=c
theorem JgZ (hw:GW g S CL) {w:List Int} {c:Int} {q:List Ah×Int} {fr:Ch} (hwf:wdC (q::fr)=w) (hwl:w.length<=2000000000) (H:BI g S CL RL hs nb sp fd) {bh:List (Int×List Ah)} (hB:∀ m∈Ca c bh,InN hs m/\RcN g hs (w++[c]) m) (hBl:(Ca c bh).length<=900000000000) (layer next:List Ch) (xi:Int) (g2:Bf) :
  Tot (λ k=>whl (λ (x:(Bf×(List (Am×An))×Int))=>Bq k g layer xi g2 (nb,bh,hs,sp) next c x.1 x.2.1 x.2.2) k (({ Nodes:=([]:List Ah),From:=q::fr,Cell:=c }:Bf),fd,0)) (λ r=>match r with
   | .inl y=>∃ RL',L5I g S CL hs nb sp RL (w++[c]) (q::fr) c (Ca c bh) (Ca c bh).length y.1 y.2 RL'
   | .inr z=>Amb (Ag g) (Acg g) (w++[c])/\z.2.2.1=w++[c]/\z.2.2.2.2.2=true):=by
 refine Tot.upto (body:=λ k (x:(Bf×(List (Am×An))×Int))=>Bq k g layer xi g2 (nb,bh,hs,sp) next c x.1 x.2.1 x.2.2) (Ca c bh).length (λ i x=>x.2.2=(i:Int)/\∃ RL',L5I g S CL hs nb sp RL (w++[c]) (q::fr) c (Ca c bh) i x.1 x.2.1 RL') ?_ ?_ _ ⟨rfl,RL,H,λ _ h=>h,λ _ h=>.inl h,λ m h=>by simp at h,by simp,λ j m h=>by omega,rfl,rfl⟩
 ·rintro i ⟨grp,fd1,_⟩ hi ⟨rfl,RL1,hI⟩;simp only at hI;unfold Bq;refine Tot.iteT (by simp;omega) (Tot.bindC (Bj hi) ?_);have hm:=hB _ (Jih hi);generalize hme:(Ca c bh)[i]=m at *;have hmg:(Ca c bh)[i]?=some m:=by rw[Jiu hi,hme]
  have hRl:=hI.bi.le hw;have hlen:=hI.len;refine Tot.bind (Qj (sp:=sp) (nb:=nb) hI.bi.fd (hI.bi.st.le hw) hI.bi.inn hm.1 (λ e he=>(hI.bi.rc e he).ld) (w++[c])) ?_;rintro⟨fd2,b⟩ hr;simp only at hr⊢;have nxt:∀ grp' fd',(∃ RL',L5I g S CL hs nb sp RL (w++[c]) (q::fr) c (Ca c bh) (i+1) grp' fd' RL')->Tot (λ k=>Cr k (i:Int) grp' fd') (Rd2 (λ x=>x.2.2=((i+1:Nat):Int)/\∃ RL',L5I g S CL hs nb sp RL (w++[c]) (q::fr) c (Ca c bh) (i+1) x.1 x.2.1 RL') (λ r=>match r with
   | .inl y=>∃ RL',L5I g S CL hs nb sp RL (w++[c]) (q::fr) c (Ca c bh) (Ca c bh).length y.1 y.2 RL'
   | .inr z=>Amb (Ag g) (Acg g) (w++[c])/\z.2.2.1=w++[c]/\z.2.2.2.2.2=true)):=λ grp' fd' h=>Jh1 ⟨Bx (by omega),h⟩
  rcases hr with⟨rfl,i0,hfd⟩|⟨rfl,rfl,hcov⟩
  ·refine Tot.iteF rfl (Tot.bind (UB hw hI.bi.st hm.1 hm.2.ld fd2) λ r39 h39=>Tot.ite (λ ht=>?_) λ hf=>?_)
   ·have hcl:=h39.1 ht;have hfl:(q::fr).length<=2000000001:=by have:=Vt (q::fr);rw[hwf]at this;simp at this⊢;omega
    obtain⟨ns,fr1,c1⟩:=grp;have e1:=hI.from_;have e2:=hI.cell;simp only at e1 e2;subst e1;subst e2;refine Tot.bind (Jad ns c1 (q::fr) (by omega)) ?_;rintro _ rfl;have hwd:wdC ((ns,c1)::q::fr)=w++[c1]:=by rw[← hwf];rfl
    refine Jh1 ⟨?_,hwd,rfl⟩;have:=Gd.amb hm.2 hcl;rwa[List.append_nil]at this
   ·have hncl:¬GdN g hs [] m:=λ h=>by rw[h39.2 h]at hf;cases hf
    refine Tot.bindC (El (by simp;omega)) (nxt _ _ ⟨RL1++[(w++[c],m,i0)],?_,λ e he=>List.mem_append_left _ (hI.sub e he),λ e he=>?_,λ m' hm'=>?_,by simp;omega,λ j m' hj hm' v hv=>?_,hI.from_,hI.cell⟩)
    ·obtain⟨e0,z1,z2,z3⟩:=hI.bi.zero;refine⟨hI.bi.st,hfd,λ e he=>?_,λ e he=>?_,λ e he=>?_,e0,List.mem_append_left _ z1,z2,z3⟩
     all_goals
      rcases List.mem_append.1 he with he|he
      first|exact hI.bi.inn e he|exact hI.bi.rc e he|exact hI.bi.no e he
      simp only[List.mem_singleton]at he;subst he
      first|exact hm.1|exact hm.2|exact hncl
    ·rcases List.mem_append.1 he with he|he
     ·rcases hI.new e he with h|⟨h1,h2⟩
      ·exact .inl h
      ·exact .inr ⟨h1,List.mem_append_left _ h2⟩
     ·simp only[List.mem_singleton]at he;subst he;exact .inr ⟨rfl,by simp⟩
    ·rcases List.mem_append.1 hm' with h|h
     ·obtain⟨i1,h1⟩:=hI.own m' h;exact⟨i1,List.mem_append_left _ h1⟩
     ·simp only[List.mem_singleton]at h;subst h;exact⟨i0,by simp⟩
    ·by_cases e:j=i
     ·subst e;rw[hmg]at hm';cases hm';exact⟨(w++[c],m,i0),by simp,hv⟩
     ·obtain⟨e',h1,h2⟩:=hI.cov j m' (by omega) hm' v hv;exact⟨e',List.mem_append_left _ h1,h2⟩
  ·refine Tot.iteT rfl (nxt _ _ ⟨RL1,hI.bi,hI.sub,hI.new,hI.own,hI.len,λ j m' hj hm' v hv=>?_,hI.from_,hI.cell⟩);by_cases e:j=i
   ·subst e;rw[hmg]at hm';cases hm';obtain⟨l,⟨e0,he0,h1,h2⟩,h3⟩:=hcov.gd (λ l hl=>by
     obtain⟨e0,he0,_,h2⟩:=hl;rw[← h2];exact(hI.bi.rc e0 he0).ld) hv
    refine⟨e0,he0,?_⟩;unfold GdN;rw[h1,h2];exact h3
   ·exact hI.cov j m' (by omega) hm' v hv
 ·rintro⟨grp,fd1,_⟩ ⟨rfl,RL1,hI⟩;unfold Bq;exact Tot.iteF (by simp) (Jh1 ⟨RL1,hI⟩)
def L8:Ch->List Ah
 | []=>[]
 | p::_=>p.1
structure LI (RL:List Rec) (d:Nat) (layer next:List Ch):Prop where
 lay:∀ G∈layer,G≠[]/\(wdC G).length=d
 inc:layer.Pairwise λ a b=>ltL (wdC a) (wdC b)=true
 has:∀ e∈RL,e.1.length=d->∃ (y:Nat) (G:Ch),layer[y]?=some G/\wdC G=e.1/\e.2.1∈L8 G
 own:∀ G∈layer,∀ m∈L8 G,∃ i,(wdC G,m,i)∈RL
 sz:∀ G∈layer,(L8 G).length<=1363673088
 nlay:∀ G∈next,G≠[]/\(wdC G).length=d+1
 ninc:next.Pairwise λ a b=>ltL (wdC a) (wdC b)=true
 nhas:∀ e∈RL,e.1.length=d+1->∃ (y:Nat) (G:Ch),next[y]?=some G/\wdC G=e.1/\e.2.1∈L8 G
 nown:∀ G∈next,∀ m∈L8 G,∃ i,(wdC G,m,i)∈RL
 nsz:∀ G∈next,(L8 G).length<=1363673088
 len:∀ e∈RL,e.1.length<=d+1
theorem Pd {α:Type} {R:α->α->Prop} {l:List α} (h:l.Pairwise R) {i j:Nat} {a b:α} (hi:l[i]?=some a) (hj:l[j]?=some b) (hij:i<j):R a b:=by
 have h1:=Ak hi;have h2:=Ak hj;have:=List.pairwise_iff_getElem.1 h i j h1 h2 hij;rw[Jiu h1]at hi;rw[Jiu h2]at hj;cases hi;cases hj;exact this
theorem RC {x:List Int} (h:ltL x x=true):False:=by rw[Vo]at h;cases h
structure L4I (g:Ap) (S:Nat) (CL:List (List Int)) (hs:List Aa) (nb:List (Aa×Int)) (sp:List (Option (List Af))) (R0 d:Nat) (layer:List Ch) (w:List Int) (c:Int) (fd:List (Am×An)) (next:List Ch) (RL:List Rec):Prop where
 bi:BI g S CL RL hs nb sp fd
 li:LI RL d layer next
 nlt:∀ G∈next,ltL (wdC G) (w++[c])=true
 dn:∀ e∈RL,∀ c1,(e.1.length<d\/(e.1.length=d/\(ltL e.1 w=true\/(e.1=w/\c1<c))))->Clo g hs RL e c1
 cnt:next.length+R0<=RL.length
theorem L4I.least {R0 d:Nat} {layer next:List Ch} {w:List Int} {c:Int} (h:L4I g S CL hs nb sp R0 d layer w c fd next RL) (hd:w.length=d) (ha:Amb (Ag g) (Acg g) (w++[c])):Lst (Ag g) (Acg g) (w++[c]):=by
 refine⟨ha,λ u hu hlt=>?_⟩;obtain⟨e0,z1,z2,z3⟩:=h.bi.zero;have hcl:∀ p c v,u=p++c::v->∀ e∈RL,leS e.1 p->Clo g hs RL e c:=λ p c1 v hp e he hle=>by
  refine h.dn e he c1 ?_;have h3:ltW (e.1++[c1]) (w++[c]):=by
   refine(hle.app [c1]).lt ?_;have:leS (p++[c1]) u:=by rw[hp];have:=JbN (p++[c1]) v;simpa using this
   exact this.lt hlt
  rcases h3 with h3|⟨h3,h4⟩
  ·simp only[List.length_append,List.length_singleton]at h3;left;omega
  ·simp only[List.length_append,List.length_singleton]at h3;exact .inr ⟨by omega,(Pc (by omega) c1 c).1 h4⟩
 obtain⟨e,h1,h2⟩:=Jae u ⟨e0,z1,z2,z3 u hu⟩ hcl;exact h.bi.no e h1 h2
theorem Jcp {c:Nat} (h:c<255):Ba .u8 (c:Int) 1=((c+1:Nat):Int):=by
 unfold Ba;rw[w8 (by omega) (by omega)];omega
theorem Jg0 (hw:GW g S CL) {R0 d:Nat} {layer:List Ch} {x:Nat} {q:List Ah×Int} {fr:Ch} (hx:layer[x]?=some (q::fr)) {w:List Int} (hwf:wdC (q::fr)=w) (hd:w.length=d) (hdl:d<=1399999999) {next:List Ch} (H:L4I g S CL hs nb sp R0 d layer w 0 fd next RL) {bh:List (Int×List Ah)}
  (hB:∀ c,(∀ m∈Ca c bh,InN hs m/\RcN g hs (w++[c]) m)/\(Ca c bh).length<=900000000000/\∀ n∈q.1,∀ v,GdN g hs (c::v) n->∃ m∈Ca c bh,GdN g hs v m) (xi:Int) (g2:Bf) (hg2:g2={ Nodes:=q.1,From:=fr,Cell:=q.2 }) :
  Tot (λ k=>whl (λ (z:((List (Am×An))×(List Ch)×Int))=>Br k g layer xi g2 (nb,bh,hs,sp) z.1 z.2.1 z.2.2) k (fd,next,0)) (λ r=>match r with
   | .inl y=>∃ RL',L4I g S CL hs nb sp R0 d layer w 63 y.1 y.2 RL'/\RL.length<=RL'.length
   | .inr z=>(Lst (Ag g) (Acg g) z.2.2.1/\z.2.2.1.length<=1400000000)/\z.2.2.2.2.2=true):=by
 subst hg2;refine Tot.upto (body:=λ k (z:((List (Am×An))×(List Ch)×Int))=>Br k g layer xi _ (nb,bh,hs,sp) z.1 z.2.1 z.2.2) 63 (λ c z=>z.2.2=(c:Int)/\∃ RL',L4I g S CL hs nb sp R0 d layer w (c:Int) z.1 z.2.1 RL'/\RL.length<=RL'.length) ?_ ?_ _ ⟨rfl,RL,H,Jik _⟩
 ·rintro c ⟨fd1,next1,_⟩ hc ⟨rfl,RL1,hI,hRR⟩;simp only at hI;unfold Br;obtain⟨b1,b2,b3⟩:=hB (c:Int);refine Tot.iteT (by simp;omega) (Tot.bind (JgZ hw hwf (by omega) hI.bi b1 b2 layer next1 xi _) λ y hy=>?_);cases y with
  | inr z=>exact Jh1 ⟨⟨by rw[hy.2.1];exact hI.least hd hy.1,by rw[hy.2.1];simp;omega⟩,hy.2.2⟩
  | inl y=>
   obtain⟨grp,fd2⟩:=y;obtain⟨RL2,h5⟩:=hy;simp only at h5⊢;have hle:=h5.bi.le hw;have hlen:=h5.len;have hcnt:=hI.cnt;have hnewl:∀ e∈RL2,e∈RL1\/(e.1=w++[(c:Int)]/\e.2.1∈grp.Nodes/\e.1.length=d+1):=λ e he=>by
    rcases h5.new e he with h|⟨h1,h2⟩
    ·exact .inl h
    ·exact .inr ⟨h1,h2,by rw[h1];simp;omega⟩
   have hstep:ltL (w++[(c:Int)]) (w++[((c+1:Nat):Int)])=true:=(Pc rfl _ _).2 (.inr ⟨rfl,by omega⟩);have hdn:∀ e∈RL2,∀ c1,(e.1.length<d\/(e.1.length=d/\(ltL e.1 w=true\/(e.1=w/\c1<((c+1:Nat):Int)))))->Clo g hs RL2 e c1:=λ e he c1 hp=>by
    have he1:e∈RL1:=by
     rcases hnewl e he with h|⟨_,_,h⟩
     ·exact h
     ·rcases hp with hp|hp<;>omega
    by_cases hpc:e.1.length<d\/(e.1.length=d/\(ltL e.1 w=true\/(e.1=w/\c1<(c:Int))))
    ·exact(hI.dn e he1 c1 hpc).mono h5.sub
    ·have hew:e.1=w/\c1=(c:Int):=by
      rcases hp with hp|⟨hp1,hp|⟨hp2,hp3⟩⟩
      ·exact absurd (.inl hp) hpc
      ·exact absurd (.inr ⟨hp1,.inl hp⟩) hpc
      ·by_cases h:c1<(c:Int)
       ·exact absurd (.inr ⟨hp1,.inr ⟨hp2,h⟩⟩) hpc
       ·exact⟨hp2,by omega⟩
     obtain⟨hew,rfl⟩:=hew;intro v hv;obtain⟨y,G,hy1,hy2,hy3⟩:=hI.li.has e he1 (by rw[hew];exact hd);have hyx:y=x:=by
      rcases Nat.lt_trichotomy y x with h|h|h
      ·exact(RC (x:=w) (by have:=Pd hI.li.inc hy1 hx h;rwa[hy2,hwf,hew]at this)).elim
      ·exact h
      ·exact(RC (x:=w) (by have:=Pd hI.li.inc hx hy1 h;rwa[hy2,hwf,hew]at this)).elim
     subst hyx;rw[hx]at hy1;cases hy1;obtain⟨m,hm1,hm2⟩:=b3 e.2.1 hy3 v hv;obtain⟨j,hj,hje⟩:=List.mem_iff_getElem.1 hm1;obtain⟨e',he',hg'⟩:=h5.cov j m hj (by rw[Jiu hj,hje]) v hm2;refine⟨e',he',?_,hg'⟩;rw[hew];rcases hnewl e' he' with h|⟨h,_⟩
     ·have hl:=hI.li.len e' h;by_cases hl2:e'.1.length=d+1
      ·obtain⟨y',G',k1,k2,k3⟩:=hI.li.nhas e' h hl2;have:=hI.nlt G' (Jiw k1);rw[k2]at this;exact .inl (.inr ⟨by simp;omega,this⟩)
      ·exact .inl (.inl (by simp;omega))
     ·exact .inr h
   have base:∀ next',(∀ G∈next1,G∈next')->(∀ G∈next',G∈next1\/G=(grp.Nodes,(c:Int))::q::fr)->(next'.Pairwise λ a b=>ltL (wdC a) (wdC b)=true)->(∀ (y:Nat) G,next1[y]?=some G->next'[y]?=some G)->(grp.Nodes≠[]->∃ y:Nat,next'[y]?=some ((grp.Nodes,(c:Int))::q::fr))->next'.length+R0<=RL2.length ->
     L4I g S CL hs nb sp R0 d layer w ((c+1:Nat):Int) fd2 next' RL2:=λ next' n1 n2 n3 n4 n5 n6=>by
    have hwd:wdC ((grp.Nodes,(c:Int))::q::fr)=w++[(c:Int)]:=by rw[← hwf];rfl
    have hwn:w++[(c:Int)]≠w:=λ h=>by have:=congrArg List.length h;simp at this
    refine⟨h5.bi,⟨hI.li.lay,hI.li.inc,λ e he hel=>?_,λ G hG m hm=>?_,hI.li.sz,λ G hG=>?_,n3,λ e he hel=>?_,λ G hG m hm=>?_,λ G hG=>?_,λ e he=>?_⟩,λ G hG=>?_,hdn,n6⟩
    ·rcases hnewl e he with h|⟨_,_,h⟩
     ·exact hI.li.has e h hel
     ·omega
    ·obtain⟨i,h⟩:=hI.li.own G hG m hm;exact⟨i,h5.sub _ h⟩
    ·rcases n2 G hG with h|rfl
     ·exact hI.li.nlay G h
     ·exact⟨by simp,by rw[hwd];simp;omega⟩
    ·rcases hnewl e he with h|⟨h1,h2,_⟩
     ·obtain⟨y,G,k1,k2⟩:=hI.li.nhas e h hel;exact⟨y,G,n4 y G k1,k2⟩
     ·obtain⟨y,hy⟩:=n5 (λ h=>by rw[h]at h2;simp at h2);exact⟨y,_,hy,by rw[hwd,h1],h2⟩
    ·rcases n2 G hG with h|rfl
     ·obtain⟨i,h⟩:=hI.li.nown G h m hm;exact⟨i,h5.sub _ h⟩
     ·rw[hwd];exact h5.own m hm
    ·rcases n2 G hG with h|rfl
     ·exact hI.li.nsz G h
     ·show grp.Nodes.length<=_;omega
    ·rcases hnewl e he with h|⟨_,_,h⟩
     ·exact hI.li.len e h
     ·omega
    ·rcases n2 G hG with h|rfl
     ·exact HV (hI.nlt G h) hstep
     ·rw[hwd];exact hstep
   refine Tot.ite (λ hpos=>?_) λ hz=>?_
   ·have hpos:0<grp.Nodes.length:=by simpa using hpos
    have hfe:(grp.Nodes,grp.Cell)::grp.From=(grp.Nodes,(c:Int))::q::fr:=by rw[h5.from_,h5.cell]
    rw[hfe];refine Tot.bindC (El (by simp;omega)) (Jh1 ⟨Jcp (by omega),RL2,base _ (λ G h=>by simp[h]) (λ G h=>by simpa using h) ?_ (λ y G h=>by rw[JiC (Ak h)];exact h) (λ _=>⟨next1.length,by simp⟩) (by simp;omega),by omega⟩);rw[List.pairwise_append];refine⟨hI.li.ninc,by simp,λ a ha b hb=>?_⟩;simp only[List.mem_singleton]at hb;subst hb;have hwd:wdC ((grp.Nodes,(c:Int))::q::fr)=w++[(c:Int)]:=by rw[← hwf];rfl
    rw[hwd];exact hI.nlt a ha
   ·have hz:grp.Nodes=[]:=by
     cases h:grp.Nodes with
     | nil=>rfl
     | cons a l=>rw[h]at hz;simp at hz
    exact Jh1 ⟨Jcp (by omega),RL2,base next1 (λ _ h=>h) (λ _ h=>.inl h) hI.li.ninc (λ _ _ h=>h) (λ h=>absurd hz h) (by omega),by omega⟩
 ·rintro⟨fd1,next1,_⟩ ⟨rfl,RL1,hI,hRR⟩;unfold Br;exact Tot.iteF (by simp) (Jh1 ⟨RL1,hI,hRR⟩)
end Go.AI
end
section
namespace Go.AI
variable {g:Ap} {S:Nat} {CL:List (List Int)} {hs hs':List Aa} {nb:List (Aa×Int)} {sp:List (Option (List Af))} {fd:List (Am×An)} {RL RL':List Rec}
structure BhI (g:Ap) (hs:List Aa) (w:List Int) (ns:List Ah) (j:Nat) (bh:List (Int×List Ah)):Prop where
 snd:∀ c,∀ m∈Ca c bh,InN hs m/\RcN g hs (w++[c]) m
 len:∀ c,(Ca c bh).length<=121*j
 cov:∀ c,∀ n∈ns,∀ v,GdN g hs (c::v) n->∃ m∈Ca c bh,GdN g hs v m
theorem Jg1 (hw:GW g S CL) (H:HSt g S CL hs nb sp) {w:List Int} (hwl:w.length<=2000000000) (g2:Bf) (hn:∀ n∈g2.Nodes,InN hs n/\RcN g hs w n) (hnl:g2.Nodes.length<=1363673088) (layer next:List Ch) (fd:List (Am×An)) (xi:Int) :
  Tot (λ k=>whl (λ (x:((List (Aa×Int))×(List (Int×(List Ah)))×(List Aa)×(List (Option (List Af)))×Int))=>Bp k g layer fd next xi g2 x.1 x.2.1 x.2.2.1 x.2.2.2.1 x.2.2.2.2) k (nb,([]:(List (Int×(List Ah)))),hs,sp,0)) (λ r=>HSt g S CL r.2.2.1 r.1 r.2.2.2/\hs <+: r.2.2.1/\BhI g r.2.2.1 w g2.Nodes g2.Nodes.length r.2.1):=by
 refine Tot.upto (body:=λ k (x:((List (Aa×Int))×(List (Int×(List Ah)))×(List Aa)×(List (Option (List Af)))×Int))=>Bp k g layer fd next xi g2 x.1 x.2.1 x.2.2.1 x.2.2.2.1 x.2.2.2.2) g2.Nodes.length (λ j x=>x.2.2.2.2=(j:Int)/\HSt g S CL x.2.2.1 x.1 x.2.2.2.1/\hs <+: x.2.2.1/\BhI g x.2.2.1 w (g2.Nodes.take j) j x.2.1) ?_ ?_ _ ⟨rfl,H,List.prefix_refl _,λ c m h=>by simp[Ca,BJ]at h,λ c=>by simp[Ca,BJ],λ c n h=>by simp at h⟩
 ·rintro j ⟨nb1,bh,hs1,sp1,_⟩ hj ⟨rfl,k1,k2,k3⟩;simp only at k1 k2 k3;unfold Bp;refine Tot.iteT (by simp;omega) (Tot.bindC (Bj hj) ?_);have hm:=hn _ (Jih hj);generalize hme:g2.Nodes[j]=n at *;refine Tot.bind (WT hw k1 hwl (hm.1.ext k2) ((RcN.ext hm.1 k2).2 hm.2) fd (λ c=>by have:=k3.len c;show(Ca c bh).length<=_;omega)) ?_;rintro⟨bh2,nb2,hs2,sp2⟩ ⟨m1,m2,m3⟩;simp only at m1 m2 m3⊢;refine Jh1 ⟨Bx (by omega),m1,k2.trans m2,λ c m hmm=>?_,λ c=>?_,λ c n' hn' v hv=>?_⟩
  ·obtain⟨new,q1,q2,q3,q4⟩:=m3 c;simp only[q1]at hmm;rcases List.mem_append.1 hmm with h|h
   ·obtain⟨r1,r2⟩:=k3.snd c m h;exact⟨r1.ext m2,(RcN.ext r1 m2).2 r2⟩
   ·exact q3 m h
  ·obtain⟨new,q1,q2,q3,q4⟩:=m3 c;have:=k3.len c;simp only[q1,List.length_append];omega
  ·obtain⟨new,q1,q2,q3,q4⟩:=m3 c;rw[List.take_add_one,Jiu hj,hme]at hn';rcases List.mem_append.1 hn' with h|h
   ·have hin:=hn n' (List.mem_of_mem_take h);obtain⟨m,r1,r2⟩:=k3.cov c n' h v ((GdN.ext (hin.1.ext k2) m2).1 hv);exact⟨m,by simp only[q1];simp[r1],(GdN.ext (k3.snd c m r1).1 m2).2 r2⟩
   ·simp only[Option.toList_some,List.mem_singleton]at h;subst h;obtain⟨m,r1,r2⟩:=q4 v hv;exact⟨m,by simp only[q1];simp[r1],r2⟩
 ·rintro⟨nb1,bh,hs1,sp1,_⟩ ⟨rfl,k1,k2,k3⟩;unfold Bp;rw[List.take_length]at k3;exact Tot.iteF (by simp) (Jh1 ⟨k1,k2,k3⟩)
structure L2I (g:Ap) (S:Nat) (CL:List (List Int)) (R0 d:Nat) (layer:List Ch) (x:Nat) (nb:List (Aa×Int)) (fd:List (Am×An)) (next:List Ch) (hs:List Aa) (sp:List (Option (List Af))) (RL:List Rec):Prop where
 bi:BI g S CL RL hs nb sp fd
 li:LI RL d layer next
 nlt:∀ G,layer[x]?=some G->∀ G'∈next,ltL (wdC G') (wdC G++[0])=true
 dn:∀ e∈RL,(e.1.length<d\/∃ (y:Nat) (G:Ch),y<x/\layer[y]?=some G/\e.1=wdC G)->∀ c1,Clo g hs RL e c1
 cnt:next.length+R0<=RL.length
theorem Clo.out (hw:GW g S CL) (H:BI g S CL RL hs nb sp fd) {e:Rec} (he:e∈RL) {c:Int} (hc:¬(0<=c/\c<63)):Clo g hs RL e c:=λ _ hv=>absurd (UD hw H.st (H.inn e he) hv) hc
theorem Jg2 (hw:GW g S CL) {R0 d:Nat} {layer:List Ch} (hll:layer.length<9000000000000) (hdl:d<=1399999999) (H:L2I g S CL R0 d layer 0 nb fd [] hs sp RL) (bh:List (Int×List Ah)) :
  Tot (λ k=>whl (λ (x:((List (Aa×Int))×(List (Am×An))×(List (Int×(List Ah)))×(List Ch)×(List Aa)×(List (Option (List Af)))×Int))=>Bs k g layer x.1 x.2.1 x.2.2.1 x.2.2.2.1 x.2.2.2.2.1 x.2.2.2.2.2.1 x.2.2.2.2.2.2) k (nb,fd,bh,([]:List Ch),hs,sp,0)) (λ r=>match r with
   | .inl y=>∃ RL',L2I g S CL R0 d layer layer.length y.1 y.2.1 y.2.2.2.1 y.2.2.2.2.1 y.2.2.2.2.2 RL'/\RL.length<=RL'.length
   | .inr z=>(Lst (Ag g) (Acg g) z.2.2.1/\z.2.2.1.length<=1400000000)/\z.2.2.2.2.2=true):=by
 refine Tot.upto (body:=λ k (x:((List (Aa×Int))×(List (Am×An))×(List (Int×(List Ah)))×(List Ch)×(List Aa)×(List (Option (List Af)))×Int))=>Bs k g layer x.1 x.2.1 x.2.2.1 x.2.2.2.1 x.2.2.2.2.1 x.2.2.2.2.2.1 x.2.2.2.2.2.2) layer.length (λ i x=>x.2.2.2.2.2.2=(i:Int)/\∃ RL',L2I g S CL R0 d layer i x.1 x.2.1 x.2.2.2.1 x.2.2.2.2.1 x.2.2.2.2.2.1 RL'/\RL.length<=RL'.length) ?_ ?_ _ ⟨rfl,RL,H,Jik _⟩
 ·rintro i ⟨nb1,fd1,bh1,next1,hs1,sp1,_⟩ hi ⟨rfl,RL1,hI,hRR⟩;simp only at hI;unfold Bs;refine Tot.iteT (by simp;omega) (Tot.bindC (Bj hi) ?_);have hGm:=Jih hi;generalize hGe:layer[i]=G at *;have hGg:layer[i]?=some G:=by rw[Jiu hi,hGe]
  obtain⟨hGn,hGl⟩:=hI.li.lay G hGm;cases G with
  | nil=>exact absurd rfl hGn
  | cons q fr=>
   refine Tot.bindC (y:={ Nodes:=q.1,From:=fr,Cell:=q.2 }) rfl ?_;have hnodes:∀ n∈q.1,InN hs1 n/\RcN g hs1 (wdC (q::fr)) n:=λ n hn=>by
    obtain⟨i0,h⟩:=hI.li.own _ hGm n hn;exact⟨hI.bi.inn _ h,hI.bi.rc _ h⟩
   refine Tot.bind (Jg1 hw hI.bi.st (by omega) _ hnodes (hI.li.sz _ hGm) layer next1 fd1 _) ?_;rintro⟨nb2,bh2,hs2,sp2⟩ ⟨k1,k2,k3⟩;simp only at k1 k2 k3⊢;have B2:=hI.bi.ext k2 k1;have hsz:=hI.li.sz _ hGm;have hq1:q.1.length<=1363673088:=hsz;have hL4:L4I g S CL hs2 nb2 sp2 R0 d layer (wdC (q::fr)) 0 fd1 next1 RL1:=by
    refine⟨B2,hI.li,hI.nlt _ hGg,λ e he c1 hp=>?_,hI.cnt⟩;rcases hp with hp|⟨hp1,hp|⟨hp2,hp3⟩⟩
    ·exact Clo.ext hI.bi k2 he (hI.dn e he (.inl hp) c1)
    ·obtain⟨y,G',hy1,hy2,_⟩:=hI.li.has e he hp1;have hyi:y<i:=by
      rcases Nat.lt_trichotomy y i with h|h|h
      ·exact h
      ·subst h;rw[hGg]at hy1;cases hy1;rw[← hy2]at hp;exact(RC hp).elim
      ·have h1:=Pd hI.li.inc hGg hy1 h;rw[hy2]at h1;exact(RC (HV h1 hp)).elim
     exact Clo.ext hI.bi k2 he (hI.dn e he (.inr ⟨y,G',hyi,hy1,hy2.symm⟩) c1)
    ·exact Clo.out hw B2 he (by omega)
   refine Tot.bind (Jg0 hw hGg rfl hGl hdl hL4 (λ c=>⟨k3.snd c,by have:=k3.len c;omega,k3.cov c⟩) _ _ rfl) λ y hy=>?_;cases y with
   | inr z=>exact Jh1 hy
   | inl y=>
    obtain⟨fd3,next3⟩:=y;obtain⟨RL3,h4,hR3⟩:=hy;simp only at h4⊢;refine Jh1 ⟨Bx (by omega),RL3,⟨h4.bi,h4.li,λ G2 hG2 G' hG'=>?_,λ e he hp c1=>?_,h4.cnt⟩,by omega⟩
    ·refine HV (h4.nlt G' hG') ((Pc ?_ _ _).2 (.inl (Pd hI.li.inc hGg hG2 (by omega))));rw[hGl,(hI.li.lay G2 (Jiw hG2)).2]
    ·rcases hp with hp|⟨y,G',hy1,hy2,hy3⟩
     ·exact h4.dn e he c1 (.inl hp)
     ·have hel:e.1.length=d:=by rw[hy3];exact(hI.li.lay G' (Jiw hy2)).2
      by_cases hyi:y=i
      ·subst hyi;rw[hGg]at hy2;cases hy2;by_cases hc:c1<63
       ·exact h4.dn e he c1 (.inr ⟨hel,.inr ⟨hy3,hc⟩⟩)
       ·exact Clo.out hw h4.bi he (by omega)
      ·refine h4.dn e he c1 (.inr ⟨hel,.inl ?_⟩);rw[hy3];exact Pd hI.li.inc hy2 hGg (by omega)
 ·rintro⟨nb1,fd1,bh1,next1,hs1,sp1,_⟩ ⟨rfl,RL1,hI,hRR⟩;unfold Bs;exact Tot.iteF (by simp) (Jh1 ⟨RL1,hI,hRR⟩)
structure L1I (g:Ap) (S:Nat) (CL:List (List Int)) (d:Nat) (nb:List (Aa×Int)) (fd:List (Am×An)) (layer:List Ch) (hs:List Aa) (sp:List (Option (List Af))) (RL:List Rec):Prop where
 bi:BI g S CL RL hs nb sp fd
 li:LI RL d layer []
 len:∀ e∈RL,e.1.length<=d
 dn:∀ e∈RL,e.1.length<d->∀ c1,Clo g hs RL e c1
 dep:layer≠[]->d<RL.length
 cnt:layer.length<=RL.length
theorem Jg3 (hw:GW g S CL) {layer:List Ch} {d:Nat} (H:L1I g S CL d nb fd layer hs sp RL) (bh:List (Int×List Ah)) :
  Tot (λ k=>whl (λ (x:((List (Aa×Int))×(List (Am×An))×(List Ch)×(List (Int×(List Ah)))×(List Aa)×(List (Option (List Af)))))=>BV k g x.1 x.2.1 x.2.2.1 x.2.2.2.1 x.2.2.2.2.1 x.2.2.2.2.2) k (nb,fd,layer,bh,hs,sp)) (λ r=>match r with
   | .inl _=>∀ u,¬Amb (Ag g) (Acg g) u
   | .inr z=>(Lst (Ag g) (Acg g) z.2.2.1/\z.2.2.1.length<=1400000000)/\z.2.2.2.2.2=true):=by
 refine Tot.whl (body:=λ k (x:((List (Aa×Int))×(List (Am×An))×(List Ch)×(List (Int×(List Ah)))×(List Aa)×(List (Option (List Af)))))=>BV k g x.1 x.2.1 x.2.2.1 x.2.2.2.1 x.2.2.2.2.1 x.2.2.2.2.2) (λ m x=>∃ RL d,L1I g S CL d x.1 x.2.1 x.2.2.1 x.2.2.2.2.1 x.2.2.2.2.2 RL/\m=2*(1363673088-RL.length)+(if x.2.2.1=[]then 0 else 1)) ?_ _ _ ⟨RL,d,H,rfl⟩
 rintro m ⟨nb1,fd1,layer1,bh1,hs1,sp1⟩ ⟨RL1,d1,hI,rfl⟩;simp only at hI⊢;unfold BV;have hle:=hI.bi.le hw;cases hl:layer1 with
 | nil=>
  subst hl;refine Tot.iteF (by simp) (Jh1 λ u hu=>?_);obtain⟨e0,z1,z2,z3⟩:=hI.bi.zero;have hcl:∀ p c v,u=p++c::v->∀ e∈RL1,leS e.1 p->Clo g hs1 RL1 e c:=λ p c1 v hp e he hle=>by
   refine hI.dn e he ?_ c1;have h1:=hI.len e he;by_cases h2:e.1.length=d1
   ·obtain⟨y,G,hy,_⟩:=hI.li.has e he h2;simp at hy
   ·omega
  obtain⟨e,h1,h2⟩:=Jae u ⟨e0,z1,z2,z3 u hu⟩ hcl;exact hI.bi.no e h1 h2
 | cons G0 ls=>
  rw[← hl];have hne:layer1≠[]:=by rw[hl];simp
  have hpos:0<layer1.length:=List.length_pos_iff.2 hne;have hdep:=hI.dep hne;have hcnt:=hI.cnt;have h2:L2I g S CL RL1.length d1 layer1 0 nb1 fd1 [] hs1 sp1 RL1:=by
   refine⟨hI.bi,hI.li,λ G _ G' h=>by simp at h,λ e he hp=>?_,by simp⟩;rcases hp with hp|⟨y,G,h,_⟩
   ·exact hI.dn e he hp
   ·omega
  refine Tot.iteT (by simpa using hpos) (Tot.bind (Jg2 hw (by omega) (by omega) h2 bh1) λ y hy=>?_);cases y with
  | inr z=>exact Jh1 hy
  | inl y=>
   obtain⟨nb2,fd2,bh2,next2,hs2,sp2⟩:=y;obtain⟨RL2,hJ,hRR⟩:=hy;simp only at hJ⊢;have hle2:=hJ.bi.le hw;have hcnt2:=hJ.cnt;refine Jh1 ⟨_,?_,RL2,d1+1,⟨hJ.bi,⟨hJ.li.nlay,hJ.li.ninc,hJ.li.nhas,hJ.li.nown,hJ.li.nsz,λ G h=>by simp at h,by simp,λ e he h=>?_,λ G h=>by simp at h,λ G h=>by simp at h,λ e he=>?_⟩,hJ.li.len,λ e he hel c1=>?_,λ hn=>?_,?_⟩,rfl⟩
   ·simp only;rw[if_neg hne];by_cases hn:next2=[]
    ·rw[if_pos hn];omega
    ·rw[if_neg hn];have:0<next2.length:=List.length_pos_iff.2 hn;omega
   ·have:=hJ.li.len e he;omega
   ·have:=hJ.li.len e he;omega
   ·by_cases hd:e.1.length=d1
    ·obtain⟨y,G,hy1,hy2,_⟩:=hJ.li.has e he hd;exact hJ.dn e he (.inr ⟨y,G,Ak hy1,hy1,hy2.symm⟩) c1
    ·exact hJ.dn e he (.inl (by omega)) c1
   ·have hn:next2≠[]:=hn;have:0<next2.length:=List.length_pos_iff.2 hn;omega
   ·show next2.length<=_;omega
theorem Tg (hw:GW g S CL) (hal:g.Alive=false->∀ w x,¬En (Ag g) (Acg g) (0,[]) w x) :
  Tot (λ k=>CY k g ([]:List Aa) [] ([]:List (Option (List Af))) []) (λ r=>(r.2.2.2.2.2=true/\Lst (Ag g) (Acg g) r.2.2.1/\r.2.2.1.length<=1400000000)\/(r.2.2.2.2.2=false/\∀ u,¬Amb (Ag g) (Acg g) u)):=by
 unfold CY;refine Tot.ite (λ h=>?_) λ h=>?_
 ·have h:g.Alive=false:=by simpa using h
  refine Jh1 (.inr ⟨rfl,λ u hu=>?_⟩);obtain⟨x,y,_,h1,_⟩:=hu;exact hal h u x h1
 ·have h0:HSt g S CL [] [] []:=⟨Ry.nil,λ h hh=>by simp at hh,rfl,λ i h l hi=>by simp at hi⟩;have hok:okH S CL ⟨0,[]⟩:=⟨⟨0,rfl,hw.pos⟩,.inl rfl⟩;refine Tot.bind (RB hw h0 hok []) ?_;rintro⟨nb1,hs1,sp1,j1⟩ ⟨k1,_,_,a,rfl,k4⟩;simp only at k1 k4⊢;refine Tot.bind (RB hw k1 hok []) ?_;rintro⟨nb2,hs2,sp2,j2⟩ ⟨m1,m2,_,b,rfl,m4⟩;simp only at m1 m2 m4⊢;have k4':=CF m2 k4;have hin:InN hs2 (⟨⟨(a:Int),(b:Int)⟩,⟨0,[]⟩⟩:Ah):=⟨a,b,rfl,Ak k4',rfl,Ak m4⟩;have ea:hfA hs2 (a:Int)=(0,[]):=by rw[DO k4'];rfl
  have eb:hfA hs2 (b:Int)=(0,[]):=by rw[DO m4];rfl
  have hrc:RcN g hs2 [] (⟨⟨(a:Int),(b:Int)⟩,⟨0,[]⟩⟩:Ah):=by
   unfold RcN;simp only[ea,eb];exact Jh6 _
  have hno:¬GdN g hs2 [] (⟨⟨(a:Int),(b:Int)⟩,⟨0,[]⟩⟩:Ah):=λ h=>by
   have:=(Jh7 hrc.ld).1 h;exact this.1 rfl
  refine Tot.bind (Qj (RL:=[]) (hs:=hs2) Pb.nil (m1.le hw) (λ e h=>by simp at h) hin (λ e h=>by simp at h) []) ?_;rintro⟨fd2,bb⟩ hr;simp only at hr⊢;rcases hr with⟨rfl,i0,hfd⟩|⟨rfl,rfl,hcov⟩
  ·have hBI:BI g S CL [([],⟨⟨(a:Int),(b:Int)⟩,⟨0,[]⟩⟩,i0)] hs2 nb2 sp2 fd2:=by
    refine⟨m1,hfd,λ e he=>?_,λ e he=>?_,λ e he=>?_,_,List.mem_singleton.2 rfl,rfl,λ u hu=>?_⟩
    ·simp only[List.mem_singleton]at he;subst he;exact hin
    ·simp only[List.mem_singleton]at he;subst he;exact hrc
    ·simp only[List.mem_singleton]at he;subst he;exact hno
    ·unfold GdN;simp only[ea,eb];exact Amb.gd hu
   have hLI:L1I g S CL 0 nb2 fd2 [[([⟨⟨(a:Int),(b:Int)⟩,⟨0,[]⟩⟩],0)]] hs2 sp2 [([],⟨⟨(a:Int),(b:Int)⟩,⟨0,[]⟩⟩,i0)]:=by
    refine⟨hBI,⟨λ G hG=>?_,by simp,λ e he _=>?_,λ G hG m hm=>?_,λ G hG=>?_,λ G h=>by simp at h,by simp,λ e he h=>?_,λ G h=>by simp at h,λ G h=>by simp at h,λ e he=>?_⟩,λ e he=>?_,λ e he h=>by omega,λ _=>by simp,by simp⟩
    ·simp only[List.mem_singleton]at hG;subst hG;exact⟨by simp,rfl⟩
    ·simp only[List.mem_singleton]at he;subst he;exact⟨0,_,rfl,rfl,by simp[L8]⟩
    ·simp only[List.mem_singleton]at hG;subst hG;simp only[L8,List.mem_singleton]at hm;subst hm;exact⟨i0,by simp[wdC]⟩
    ·simp only[List.mem_singleton]at hG;subst hG;simp[L8]
    ·simp only[List.mem_singleton]at he;subst he;simp at h
    ·simp only[List.mem_singleton]at he;subst he;simp
    ·simp only[List.mem_singleton]at he;subst he;simp
   refine Tot.bind (Jg3 hw hLI []) λ y hy=>?_;cases y with
   | inl y=>exact Jh1 (.inr ⟨rfl,hy⟩)
   | inr z=>exact Jh1 (.inl ⟨hy.2,hy.1⟩)
  ·exfalso;rcases hcov with⟨e,h,_⟩|⟨e,h,_⟩|⟨_,_,⟨e,h,_⟩,_⟩<;>simp at h
end Go.AI
end
section
namespace Go.AI
def ltB (a b:List UInt8):Prop:=Op.bytesLess a b=true
theorem RD (a:List UInt8):¬ltB a []:=by cases a<;>simp[ltB,Op.bytesLess]
theorem J2 {a b:UInt8} {x y:List UInt8}:ltB (a::x) (b::y)↔a<b\/(a=b/\ltB x y):=by
 simp[ltB,Op.bytesLess]
theorem Dk:∀ a:List UInt8,¬ltB a a
 | []=>RD _
 | a::x=>by
  rw[J2];rintro (h|⟨_,h⟩)
  ·exact UInt8.lt_irrefl a h
  ·exact Dk x h
theorem CJ:∀ {a b c:List UInt8},ltB a b->ltB b c->ltB a c
 | a,[],c,h,_=>absurd h (RD a)
 | _,_::_,[],_,h=>absurd h (RD _)
 | [],_::_,_::_,_,_=>rfl
 | a::x,b::y,c::z,h,h'=>by
  rw[J2]at *;rcases h with h|⟨rfl,h⟩
  ·rcases h' with h'|⟨rfl,_⟩
   ·exact .inl (UInt8.lt_trans h h')
   ·exact .inl h
  ·rcases h' with h'|⟨rfl,h'⟩
   ·exact .inl h'
   ·exact .inr ⟨rfl,CJ h h'⟩
theorem Gz:∀ (a b:List UInt8),a=b\/ltB a b\/ltB b a
 | [],[]=>.inl rfl
 | [],_::_=>.inr (.inl rfl)
 | _::_,[]=>.inr (.inr rfl)
 | a::x,b::y=>by
  rw[J2,J2];by_cases h:a=b
  ·subst h;rcases Gz x y with rfl|h|h
   ·exact .inl rfl
   ·exact .inr (.inl (.inr ⟨rfl,h⟩))
   ·exact .inr (.inr (.inr ⟨rfl,h⟩))
  ·rcases Nat.lt_or_gt_of_ne (λ e=>h (UInt8.toNat_inj.1 e))with h1|h1
   ·exact .inr (.inl (.inl (UInt8.lt_iff_toNat_lt.2 h1)))
   ·exact .inr (.inr (.inl (UInt8.lt_iff_toNat_lt.2 h1)))
theorem Kp {a b:List UInt8} (h:ltB a b):¬ltB b a:=λ h'=>Dk a (CJ h h')
theorem RE (c:List UInt8) {a b:List UInt8}:ltB (c++a) (c++b)↔ltB a b:=by
 induction c with
 | nil=>rfl
 | cons x c ih=>
  rw[List.cons_append,List.cons_append,J2,ih];exact⟨λ h=>h.elim (λ h=>absurd h (UInt8.lt_irrefl x)) λ h=>h.2,λ h=>.inr ⟨rfl,h⟩⟩
def IW (l:List (List UInt8)):Prop:=l.Pairwise ltB
theorem IW.ext:∀ {l m:List (List UInt8)},IW l->IW m->(∀ x,x∈l↔x∈m)->l=m
 | [],[],_,_,_=>rfl
 | [],b::m,_,_,h=>by have:=(h b).2 (by simp);cases this
 | a::l,[],_,_,h=>by have:=(h a).1 (by simp);cases this
 | a::l,b::m,hl,hm,h=>by
  have h1:=List.pairwise_cons.1 hl;have h2:=List.pairwise_cons.1 hm;have e:a=b:=by
   rcases List.mem_cons.1 ((h a).1 (by simp))with e|e
   ·exact e
   ·rcases List.mem_cons.1 ((h b).2 (by simp))with e'|e'
    ·exact e'.symm
    ·exact absurd (h1.1 b e') (Kp (h2.1 a e))
  subst e;congr 1;refine IW.ext h1.2 h2.2 λ x=>⟨λ hx=>?_,λ hx=>?_⟩
  ·rcases List.mem_cons.1 ((h x).1 (by simp[hx]))with e|e
   ·subst e;exact absurd (h1.1 x hx) (Dk x)
   ·exact e
  ·rcases List.mem_cons.1 ((h x).2 (by simp[hx]))with e|e
   ·subst e;exact absurd (h2.1 x hx) (Dk x)
   ·exact e
end Go.AI
end
section
namespace Go.AI
structure EP (two:List (List UInt8)) (T:List UInt8->Prop):Prop where
 len:two.length<=2
 sort:IW two
 snd:∀ x∈two,T x
 cov:∀ x,T x->x∈two\/(two.length=2/\∀ y∈two,ltB y x)
theorem EP.congr {two:List (List UInt8)} {T T':List UInt8->Prop} (h:EP two T) (e:∀ x,T x↔T' x):EP two T':=⟨h.len,h.sort,λ x hx=>(e x).1 (h.snd x hx),λ x hx=>h.cov x ((e x).2 hx)⟩
theorem Jaf (a:List UInt8):IW [a]:=by unfold IW;simp
theorem Th {a b:List UInt8} (h:ltB a b):IW [a,b]:=by unfold IW;simp[h]
theorem Lk {a b:List UInt8} (h:IW [a,b]):ltB a b:=by unfold IW at h;simpa using h
theorem WU {two:List (List UInt8)} {T:List UInt8->Prop} (H:EP two T) (x:List UInt8):∃ r,(∀ n,CV n two x=some r)/\EP r (λ y=>T y\/y=x):=by
 have hl:=H.len
 match two,H,hl with
 | [],H,_=>
  refine⟨[x],λ n=>rfl,by simp,Jaf x,λ y hy=>.inr (by simpa using hy),λ y hy=>?_⟩;rcases hy with hy|rfl
  ·rcases H.cov y hy with h|h
   ·simp at h
   ·simp at h
  ·simp
 | [a],H,_=>
  have hTa:=H.snd a (by simp);have hcov:∀ y,T y->y=a:=λ y hy=>by
   rcases H.cov y hy with h|h
   ·simpa using h
   ·simp at h
  by_cases h1:ltB x a
  ·refine⟨[x,a],λ n=>?_,by simp,Th h1,λ y hy=>?_,λ y hy=>?_⟩
   ·unfold CV;have e1:Op.bytesLess x a=true:=h1;simp[idx,e1]
   ·simp only[List.mem_cons,List.not_mem_nil,or_false]at hy;rcases hy with rfl|rfl
    ·exact .inr rfl
    ·exact .inl hTa
   ·rcases hy with hy|rfl
    ·rw[hcov y hy];simp
    ·simp
  ·have e1:Op.bytesLess x a=false:=by simpa [ltB]using h1
   by_cases h2:x=a
   ·subst h2;refine⟨[x],λ n=>?_,by simp,Jaf x,λ y hy=>.inr (by simpa using hy),λ y hy=>?_⟩
    ·unfold CV;simp[idx,e1]
    ·rcases hy with hy|rfl
     ·rw[hcov y hy];simp
     ·simp
   ·have h3:ltB a x:=by
     rcases Gz a x with h|h|h
     ·exact absurd h.symm h2
     ·exact h
     ·exact absurd h h1
    refine⟨[a,x],λ n=>?_,by simp,Th h3,λ y hy=>?_,λ y hy=>?_⟩
    ·unfold CV;simp[idx,e1,h2]
    ·simp only[List.mem_cons,List.not_mem_nil,or_false]at hy;rcases hy with rfl|rfl
     ·exact .inl hTa
     ·exact .inr rfl
    ·rcases hy with hy|rfl
     ·rw[hcov y hy];simp
     ·simp
 | [a,b],H,_=>
  have hTa:=H.snd a (by simp);have hTb:=H.snd b (by simp);have hab:=Lk H.sort;have hcov:∀ y,T y->y=a\/y=b\/ltB b y:=λ y hy=>by
   rcases H.cov y hy with h|⟨_,h⟩
   ·simp at h;rcases h with h|h<;>simp[h]
   ·exact .inr (.inr (h b (by simp)))
  by_cases h1:ltB x a
  ·refine⟨[x,a],λ n=>?_,by simp,Th h1,λ y hy=>?_,λ y hy=>?_⟩
   ·unfold CV;have e1:Op.bytesLess x a=true:=h1;simp[idx,e1]
   ·simp only[List.mem_cons,List.not_mem_nil,or_false]at hy;rcases hy with rfl|rfl
    ·exact .inr rfl
    ·exact .inl hTa
   ·rcases hy with hy|rfl
    ·rcases hcov y hy with rfl|rfl|h
     ·simp
     ·refine .inr ⟨rfl,λ z hz=>?_⟩;simp only[List.mem_cons,List.not_mem_nil,or_false]at hz;rcases hz with rfl|rfl
      ·exact CJ h1 hab
      ·exact hab
     ·refine .inr ⟨rfl,λ z hz=>?_⟩;simp only[List.mem_cons,List.not_mem_nil,or_false]at hz;rcases hz with rfl|rfl
      ·exact CJ h1 (CJ hab h)
      ·exact CJ hab h
    ·simp
  ·have e1:Op.bytesLess x a=false:=by simpa [ltB]using h1
   by_cases h2:x=a
   ·subst h2;refine⟨[x,b],λ n=>?_,by simp,H.sort,λ y hy=>.inl (H.snd y hy),λ y hy=>?_⟩
    ·unfold CV;simp[idx,e1]
    ·rcases hy with hy|rfl
     ·exact H.cov y hy
     ·simp
   ·have h3:ltB a x:=by
     rcases Gz a x with h|h|h
     ·exact absurd h.symm h2
     ·exact h
     ·exact absurd h h1
    by_cases h4:ltB x b
    ·refine⟨[a,x],λ n=>?_,by simp,Th h3,λ y hy=>?_,λ y hy=>?_⟩
     ·unfold CV;have e2:Op.bytesLess x b=true:=h4;simp[idx,e1,h2,e2]
     ·simp only[List.mem_cons,List.not_mem_nil,or_false]at hy;rcases hy with rfl|rfl
      ·exact .inl hTa
      ·exact .inr rfl
     ·rcases hy with hy|rfl
      ·rcases hcov y hy with rfl|rfl|h
       ·simp
       ·refine .inr ⟨rfl,λ z hz=>?_⟩;simp only[List.mem_cons,List.not_mem_nil,or_false]at hz;rcases hz with rfl|rfl
        ·exact hab
        ·exact h4
       ·refine .inr ⟨rfl,λ z hz=>?_⟩;simp only[List.mem_cons,List.not_mem_nil,or_false]at hz;rcases hz with rfl|rfl
        ·exact CJ hab h
        ·exact CJ h4 h
      ·simp
    ·have e2:Op.bytesLess x b=false:=by simpa [ltB]using h4
     refine⟨[a,b],λ n=>?_,by simp,H.sort,λ y hy=>.inl (H.snd y hy),λ y hy=>?_⟩
     ·unfold CV;simp[idx,e1,e2]
     ·rcases hy with hy|rfl
      ·exact H.cov y hy
      ·rcases Gz y b with h|h|h
       ·left;simp[h]
       ·exact absurd h h4
       ·refine .inr ⟨rfl,λ z hz=>?_⟩;simp only[List.mem_cons,List.not_mem_nil,or_false]at hz;rcases hz with rfl|rfl
        ·exact CJ hab h
        ·exact h
theorem Rn.rest {A:Nat->Ac->Prop} (k:Nat) (r:List Int):Rn A (k,r) r [] (k,[]):=by
 induction r with
 | nil=>exact .nil _
 | cons c r ih=>have:=Rn.cons (Sp.rest (A:=A) k c r) ih;simpa using this
theorem Rn.arc {A:Nat->Ac->Prop} {k:Nat} {a:Ac} (h:A k a) (hc:a.c≠[]):Rn A (k,[]) a.c a.p (a.to,[]):=by
 cases hcc:a.c with
 | nil=>exact absurd hcc hc
 | cons c r=>have:=Rn.cons (Sp.arc h hcc) (Rn.rest (A:=A) a.to r);simpa using this
theorem Rn.skip {A:Nat->Ac->Prop} {k k':Nat}:∀ {r w:List Int} {x:List UInt8},Rn A (k,r) w x (k',[])->∃ w',w=r++w'/\Rn A (k,[]) w' x (k',[])
 | [],w,x,h=>⟨w,rfl,h⟩
 | c::r,[],x,h=>by have:=h.inv0.1;cases this
 | c::r,c'::w,x,h=>by
  obtain⟨h1,p,y,s,h2,rfl⟩:=h.inv;rcases s.inv with⟨r',e1,rfl,rfl⟩|⟨e1,_⟩
  ·have e1:c::r=c'::r':=e1;cases e1;obtain⟨w',rfl,h3⟩:=Rn.skip h2;exact⟨w',rfl,h3⟩
  ·cases e1
theorem En.arcs {A:Nat->Ac->Prop} {acc:Nat->Prop} (hA:∀ k a,A k a->a.c≠[]) {k:Nat} {v:List Int} {x:List UInt8}:En A acc (k,[]) v x↔(v=[]/\x=[]/\acc k)\/∃ a v' x',A k a/\v=a.c++v'/\x=a.p++x'/\En A acc (a.to,[]) v' x':=by
 constructor
 ·rintro⟨k',h1,h2⟩;cases v with
  | nil=>
   obtain⟨e1,e2⟩:=h1.inv0;cases e1;exact .inl ⟨rfl,e2,h2⟩
  | cons c v=>
   obtain⟨h,p,y,s,r,rfl⟩:=h1.inv;rcases s.inv with⟨r',e1,_⟩|⟨_,a,r',ha,hc,rfl,rfl⟩
   ·cases e1
   ·obtain⟨w',rfl,h3⟩:=Rn.skip r;exact .inr ⟨a,w',y,ha,by rw[hc];rfl,rfl,k',h3,h2⟩
 ·rintro (⟨rfl,rfl,h⟩|⟨a,v',x',ha,rfl,rfl,k',h1,h2⟩)
  ·exact⟨k,.nil _,h⟩
  ·exact⟨k',(Rn.arc ha (hA k a ha)).app h1,h2⟩
variable {g:Ap} {S:Nat} {CL:List (List Int)}
theorem GW.ne (hw:GW g S CL):∀ k a,Ag g k a->a.c≠[]:=by
 rintro k a ⟨l,x,h1,h2,rfl⟩ h;have:=(hw.clc _ (hw.arc _ l h1 x h2).1).1;simp only at h;rw[h]at this;simp at this
theorem Jfs (hw:GW g S CL) {h:Hf} {w:List Int} {x:List UInt8} (H:En (Ag g) (Acg g) h w x):x.length<=4*w.length:=by
 obtain⟨k,h1,_⟩:=H;exact Uz hw h1
theorem WV (l h:List Int) (hl:h.length<9000000000):Tot (λ n=>GM n l h) (λ r=>r=true↔h <+: l):=by
 unfold GM;refine Tot.ite (λ hc=>Jh1 ?_) λ hc=>?_
 ·have hc:l.length<h.length:=by simpa using hc
  exact⟨λ h=>(by cases h),λ hp=>by have:=hp.length_le;omega⟩
 ·have hc:h.length<=l.length:=by simpa using hc
  refine Tot.bind (R:=λ y=>match y with
   | .inl _=>h <+: l
   | .inr z=>z=false/\¬h <+: l) ?_ λ y hy=>?_
  ·refine Tot.upto (body:=λ n (x:Int)=>Eo n l h x) h.length (λ i x=>x=(i:Int)/\h.take i=l.take i) ?_ ?_ _ ⟨rfl,rfl⟩
   ·rintro i _ hi ⟨rfl,hI⟩;unfold Eo;have hil:i<l.length:=by omega
    refine Tot.iteT (by simp;omega) (Tot.bindC (Bj hi) (Tot.bindC (Bj hil) (Tot.ite (λ hne=>Jh1 ⟨rfl,λ hp=>?_⟩) λ heq=>Jh1 ⟨Bx (by omega),?_⟩)))
    ·have hne:l[i]≠h[i]:=by simpa using hne
     obtain⟨t,rfl⟩:=hp;exact hne (List.getElem_append_left hi)
    ·have heq:l[i]=h[i]:=by simpa using heq
     rw[List.take_add_one,List.take_add_one,hI,Jiu hi,Jiu hil,heq]
   ·rintro _ ⟨rfl,hI⟩;unfold Eo;rw[List.take_length]at hI;refine Tot.iteF (by simp) (Jh1 ?_);show h <+: l;rw[hI];exact List.take_prefix _ _
  ·cases y with
   | inl _=>exact Jh1 ⟨λ _=>hy,λ _=>rfl⟩
   | inr z=>
    obtain⟨rfl,h1⟩:=hy;exact Jh1 ⟨λ h=>(by cases h),λ h=>absurd h h1⟩
end Go.AI
end
section
namespace Go.AI
theorem Ti (n:Nat):Bh (n:Int) 5=((n % 5:Nat):Int):=by
 rw[(Kn (a:=(n:Int)) (m:=5) (by omega) (by omega)).1];omega
theorem EP.rest {two rest:List (List UInt8)} {T0 T1:List UInt8->Prop} (p:List UInt8) (h:EP two (λ x=>T0 x\/∃ y∈rest,x=p++y)) (hr:EP rest T1):EP two (λ x=>T0 x\/∃ y,T1 y/\x=p++y):=by
 refine⟨h.len,h.sort,λ x hx=>?_,λ x hx=>?_⟩
 ·rcases h.snd x hx with h1|⟨y,h1,h2⟩
  ·exact .inl h1
  ·exact .inr ⟨y,hr.snd y h1,h2⟩
 ·rcases hx with hx|⟨y,hy,rfl⟩
  ·exact h.cov x (.inl hx)
  ·rcases hr.cov y hy with h1|⟨h1,h2⟩
   ·exact h.cov _ (.inr ⟨y,h1,rfl⟩)
   ·match rest,h1,h2,h,hr with
    | [a,b],_,h2,h,hr=>
     have hab:=Lk hr.sort;have ha:=(RE p).2 (h2 a (by simp));have hb:=(RE p).2 (h2 b (by simp));have hpp:=(RE p).2 hab;rcases h.cov (p++a) (.inr ⟨a,by simp,rfl⟩)with c1|⟨c1,c2⟩
     ·rcases h.cov (p++b) (.inr ⟨b,by simp,rfl⟩)with d1|⟨d1,d2⟩
      ·right;have hne:p++a≠p++b:=λ e=>by rw[e]at hpp;exact Dk _ hpp
       match two,h.len,c1,d1 with
       | [],_,c1,_=>simp at c1
       | [x],_,c1,d1=>
        simp only[List.mem_cons,List.not_mem_nil,or_false]at c1 d1;exact absurd (c1.trans d1.symm) hne
       | [x,z],_,c1,d1=>
        refine⟨rfl,λ q hq=>?_⟩;simp only[List.mem_cons,List.not_mem_nil,or_false]at c1 d1 hq;have:q=p++a\/q=p++b:=by
         rcases c1 with c1|c1<;>rcases d1 with d1|d1
         ·exact absurd (c1.trans d1.symm) hne
         ·rcases hq with rfl|rfl
          ·exact .inl c1.symm
          ·exact .inr d1.symm
         ·rcases hq with rfl|rfl
          ·exact .inr d1.symm
          ·exact .inl c1.symm
         ·exact absurd (c1.trans d1.symm) hne
        rcases this with rfl|rfl
        ·exact ha
        ·exact hb
      ·exact .inr ⟨d1,λ q hq=>CJ (d2 q hq) hb⟩
     ·exact .inr ⟨c1,λ q hq=>CJ (c2 q hq) ha⟩
variable {g:Ap} {S:Nat} {CL:List (List Int)}
def Qk (g:Ap) (S:Nat) (cells:List Int) (j:Nat) (col:List (List (List UInt8))):Prop:=col.length=S/\∀ (k:Nat) two,col[k]?=some two->EP two (En (Ag g) (Acg g) (k,[]) (cells.drop j))
theorem WW {cells:List Int} {cols:List (List (List (List UInt8)))} {i3:Int} {x32 col:List (List (List UInt8))} {x15:Int} {x33:List EO} {x16:Int} {a:EO} {rest two:List (List UInt8)} {T0:List UInt8->Prop} (hrl:rest.length<=2) (hl:∀ y∈rest,a.Print.length+y.length<=9223372036854775807) (h:EP two T0) :
  Tot (λ n=>whl (λ (x:((List (List UInt8))×Int))=>BZ n g cells cols i3 x32 col x15 x33 x16 a rest x.1 x.2) n (two,0)) (λ r=>EP r (λ x=>T0 x\/∃ y∈rest,x=a.Print++y)):=by
 refine Tot.upto (body:=λ n (x:((List (List UInt8))×Int))=>BZ n g cells cols i3 x32 col x15 x33 x16 a rest x.1 x.2) rest.length (λ p x=>x.2=(p:Int)/\EP x.1 (λ x=>T0 x\/∃ y∈rest.take p,x=a.Print++y)) ?_ ?_ _ ⟨rfl,h.congr λ x=>by simp⟩
 ·rintro p ⟨tw,_⟩ hp ⟨rfl,hI⟩;unfold BZ;obtain⟨r,hr1,hr2⟩:=WU hI (a.Print++rest[p]);refine Tot.iteT (by simp;omega) (Tot.bindC (Bj hp) (Tot.bindC (Ur (hl _ (Jih hp))) (Jh3 hr1 (Jh1 ⟨Bx (by omega),hr2.congr λ x=>?_⟩))));rw[List.take_add_one,Jiu hp];simp only[Option.toList_some,List.mem_append,List.mem_singleton];constructor
  ·rintro ((h|⟨y,h1,h2⟩)|h)
   ·exact .inl h
   ·exact .inr ⟨y,.inl h1,h2⟩
   ·exact .inr ⟨_,.inr rfl,h⟩
  ·rintro (h|⟨y,h1|h1,h2⟩)
   ·exact .inl (.inl h)
   ·exact .inl (.inr ⟨y,h1,h2⟩)
   ·subst h1;exact .inr h2
 ·rintro⟨tw,_⟩ ⟨rfl,hI⟩;unfold BZ;rw[List.take_length]at hI;exact Tot.iteF (by simp) (Jh1 hI)
def ByA (g:Ap) (cells:List Int) (i:Nat) (l:List EO) (x:List UInt8):Prop:=∃ a∈l,∃ x',a.Cells <+: cells.drop i/\En (Ag g) (Acg g) (a.To.toNat,[]) (cells.drop (i+a.Cells.length)) x'/\x=a.Print++x'
theorem WX (hw:GW g S CL) {cells:List Int} (hcl:cells.length<=2000000000) {cols:List (List (List (List UInt8)))} {i:Nat} (hi:i<=cells.length) (hc:∀ j,i<j->j<=i+4->j<=cells.length->∃ col,cols[j % 5]?=some col/\Qk g S cells j col) {x32 col:List (List (List UInt8))} {x15:Int} {k:Nat} {l:List EO} (hl:g.Arcs[k]?=some l) {two:List (List UInt8)} {T0:List UInt8->Prop} (h:EP two T0) :
  Tot (λ n=>whl (λ (x:((List (List UInt8))×Int))=>B0 n g cells cols (i:Int) x32 col x15 l x.1 x.2) n (two,0)) (λ r=>EP r (λ x=>T0 x\/ByA g cells i l x)):=by
 have hll:=hw.al _ l hl;refine Tot.upto (body:=λ n (x:((List (List UInt8))×Int))=>B0 n g cells cols (i:Int) x32 col x15 l x.1 x.2) l.length (λ m x=>x.2=(m:Int)/\EP x.1 (λ x=>T0 x\/ByA g cells i (l.take m) x)) ?_ ?_ _ ⟨rfl,h.congr λ x=>by simp[ByA]⟩
 ·rintro m ⟨tw,_⟩ hm ⟨rfl,hI⟩;unfold B0 Dc;have ham:=Jih hm;obtain⟨a1,a2,ja,a3,a4⟩:=hw.arc _ l hl _ ham;obtain⟨c1,c2,_⟩:=hw.clc _ a1;refine Tot.iteT (by simp;omega) (Tot.bindC (Bj hm) ?_);have htake:l.take (m+1)=l.take m++[l[m]]:=by rw[List.take_add_one,Jiu hm];rfl
  generalize hae:l[m]=a at *;have hsub:sub cells (i:Int) ((cells.length:Nat):Int)=some (cells.drop i):=by
   rw[ZP (by omega) (by omega) (by omega)];simp
  refine Tot.bindC hsub (Tot.bind (WV (cells.drop i) a.Cells (by omega)) λ b hb=>?_);have hsplit:∀ x,ByA g cells i (l.take (m+1)) x↔ByA g cells i (l.take m) x\/∃ x',a.Cells <+: cells.drop i/\En (Ag g) (Acg g) (a.To.toNat,[]) (cells.drop (i+a.Cells.length)) x'/\x=a.Print++x':=λ x=>by
   unfold ByA;rw[htake];simp only[List.mem_append,List.mem_singleton];constructor
   ·rintro⟨b,h1|rfl,h2⟩
    ·exact .inl ⟨b,h1,h2⟩
    ·exact .inr h2
   ·rintro (⟨b,h1,h2⟩|h2)
    ·exact⟨b,.inl h1,h2⟩
    ·exact⟨a,.inr rfl,h2⟩
  refine Tot.ite (λ hf=>?_) λ ht=>?_
  ·have hnp:¬a.Cells <+: cells.drop i:=λ h=>by rw[hb.2 h]at hf;cases hf
   refine Jh1 ⟨Bx (by omega),hI.congr λ x=>?_⟩;rw[hsplit];constructor
   ·rintro (h|h)
    ·exact .inl h
    ·exact .inr (.inl h)
   ·rintro (h|h|⟨_,h,_⟩)
    ·exact .inl h
    ·exact .inr h
    ·exact absurd h hnp
  ·have hp:a.Cells <+: cells.drop i:=hb.1 (by simpa using ht);have hpl:=hp.length_le;rw[List.length_drop]at hpl;obtain⟨col2,q1,q2,q3⟩:=hc (i+a.Cells.length) (by omega) (by omega) (by omega);have e1:Ba .i64 (i:Int) ((a.Cells.length:Nat):Int)=((i+a.Cells.length:Nat):Int):=by rw[ZN (by omega) (by omega)];omega
   rw[e1,Ti,Ti];have hja:ja<col2.length:=by rw[q2];exact a4
   obtain⟨rest,hrest⟩:∃ rest,col2[ja]?=some rest:=⟨_,Jiu hja⟩;have hT:=q3 ja rest hrest;refine Tot.bindC (D9 (by simp;omega)) (Tot.bindC (CH q1) (Tot.bindC (D9 (by simp;omega)) (Tot.bindC (y:=rest) (by rw[a3];exact CH hrest) ?_)));refine Tot.bind (WW hT.len (λ y hy=>?_) hI) λ r hr=>Jh1 ⟨Bx (by omega),(hr.rest a.Print hT).congr λ x=>?_⟩
   ·have:=Jfs hw (hT.snd y hy);rw[List.length_drop]at this;omega
   ·rw[hsplit,a3,JiD];constructor
    ·rintro ((h|h)|⟨y,h1,h2⟩)
     ·exact .inl h
     ·exact .inr (.inl h)
     ·exact .inr (.inr ⟨y,hp,h1,h2⟩)
    ·rintro (h|h|⟨y,_,h1,h2⟩)
     ·exact .inl (.inl h)
     ·exact .inl (.inr h)
     ·exact .inr ⟨y,h1,h2⟩
 ·rintro⟨tw,_⟩ ⟨rfl,hI⟩;unfold B0;rw[List.take_length]at hI;exact Tot.iteF (by simp) (Jh1 hI)
theorem Jft (hw:GW g S CL) {cells:List Int} {i:Nat} (hi:i<=cells.length) {k:Nat} {l:List EO} (hl:g.Arcs[k]?=some l) (x:List UInt8):En (Ag g) (Acg g) (k,[]) (cells.drop i) x↔(i=cells.length/\x=[]/\Acg g k)\/ByA g cells i l x:=by
 rw[En.arcs hw.ne];constructor
 ·rintro (⟨h1,h2,h3⟩|⟨a,v',x',⟨l',y,h1,h2,rfl⟩,h3,h4,h5⟩)
  ·have:=congrArg List.length h1;simp only[List.length_drop,List.length_nil]at this;exact .inl ⟨by omega,h2,h3⟩
  ·rw[hl]at h1;cases h1;refine .inr ⟨y,h2,x',⟨v',h3.symm⟩,?_,h4⟩;rw[← List.drop_drop,h3];simpa using h5
 ·rintro (⟨h1,h2,h3⟩|⟨a,h1,x',⟨v',h2⟩,h3,h4⟩)
  ·exact .inl ⟨by rw[h1];simp,h2,h3⟩
  ·refine .inr ⟨⟨a.Print,a.Cells,a.To.toNat⟩,v',x',⟨l,a,hl,h1,rfl⟩,h2.symm,h4,?_⟩;rw[← List.drop_drop,← h2]at h3;simpa using h3
theorem WY (hw:GW g S CL) {cells:List Int} (hcl:cells.length<=2000000000) {cols:List (List (List (List UInt8)))} {i:Nat} (hi:i<=cells.length) (hc:∀ j,i<j->j<=i+4->j<=cells.length->∃ col,cols[j % 5]?=some col/\Qk g S cells j col) {x32:List (List (List UInt8))} (hx:x32.length=S) :
  Tot (λ n=>whl (λ (x:((List (List (List UInt8)))×Int))=>B1 n g cells cols (i:Int) x32 x.1 x.2) n (x32,0)) (λ r=>∃ col,r=List.set cols (i % 5) col/\Qk g S cells i col):=by
 have hsm:=hw.small;refine Tot.upto (body:=λ n (x:((List (List (List UInt8)))×Int))=>B1 n g cells cols (i:Int) x32 x.1 x.2) S (λ k x=>x.2=(k:Int)/\x.1.length=S/\∀ (k':Nat) two,k'<k->x.1[k']?=some two->EP two (En (Ag g) (Acg g) (k',[]) (cells.drop i))) ?_ ?_ _ ⟨rfl,hx,λ k' two h=>by omega⟩
 ·rintro k ⟨col,_⟩ hk ⟨rfl,hcl2,hI⟩;simp only at hcl2 hI;unfold B1;obtain⟨b,hb⟩:=hw.acc k hk;have hka:k<g.Arcs.length:=by rw[hw.len];exact hk
  have ha:=Jiu hka;have hkc:k<col.length:=by omega
  have main:∀ two,EP two (λ x=>i=cells.length/\x=[]/\Acg g k)->Tot (λ n=>CD n g cells cols (i:Int) x32 col (k:Int) two) (Rd2 (λ x=>x.2=((k+1:Nat):Int)/\x.1.length=S/\∀ (k':Nat) two,k'<k+1->x.1[k']?=some two->EP two (En (Ag g) (Acg g) (k',[]) (cells.drop i))) (λ r=>∃ col,r=List.set cols (i % 5) col/\Qk g S cells i col)):=λ two h2=>by
   unfold CD;refine Tot.bindC (CH ha) (Tot.bind (WX hw hcl hi hc ha h2) λ r hr=>Tot.bindC (Bj hkc) (Tot.bindC (Iz hkc) (Jh1 ⟨Bx (by omega),by simpa using hcl2,λ k' two' hk' h'=>?_⟩)));simp only[List.getElem?_set]at h';by_cases e:k=k'
   ·subst e;rw[if_pos rfl,if_pos hkc]at h';cases h';exact hr.congr λ x=>(Jft hw hi ha x).symm
   ·rw[if_neg e]at h';exact hI k' two' (by omega) h'
  refine Tot.iteT (by simp;omega) (Tot.bindC (Jfr (CH hb)) (Tot.ite (λ ht=>main _ ?_) λ hf=>main _ ?_))
  ·simp only[Jiv,beq_iff_eq]at ht;obtain⟨h1,h2⟩:=ht;have h1':i=cells.length:=by omega
   rw[if_pos h1]at h2;subst h2;refine⟨by simp,Jaf [],λ x hx=>?_,λ x hx=>.inl (by simp[hx.2.1])⟩;simp only[List.mem_singleton]at hx;exact⟨h1',hx,hb⟩
  ·refine⟨by simp,by unfold IW;simp,λ x hx=>by simp at hx,λ x hx=>?_⟩;exfalso;obtain⟨h1,_,h3⟩:=hx;have h1':((i:Int)==((cells.length:Nat):Int))=true:=by rw[h1];simp
   unfold Acg at h3;rw[hb]at h3;rw[h1',if_pos rfl,Option.some.inj h3]at hf;cases hf
 ·rintro⟨col,_⟩ ⟨rfl,hcl2,hI⟩;simp only at hcl2 hI;unfold B1;refine Tot.iteF (by simp;omega) (Jh1 ⟨col,by rw[Ti,JiD],hcl2,λ k two h=>hI k two (by have:=Ak h;omega) h⟩)
theorem Jag (hw:GW g S CL) {cells:List Int} (hcl:cells.length<=2000000000):Tot (λ n=>EA n g cells) (λ r=>EP r (En (Ag g) (Acg g) (0,[]) cells)):=by
 have hsm:=hw.small;have hlen:=hw.len;unfold EA;refine Tot.bind (R:=λ cols=>cols.length=5/\∀ (q:Nat) col,cols[q]?=some col->col.length=S) ?_ λ cols hcols=>?_
 ·refine Tot.upto (body:=λ n (x:((List (List (List (List UInt8))))×Int))=>CC n g cells x.1 x.2) 5 (λ i x=>x.2=(i:Int)/\x.1.length=5/\∀ (q:Nat) col,q<i->x.1[q]?=some col->col.length=S) ?_ ?_ _ ⟨rfl,rfl,λ q col h=>by omega⟩
  ·rintro i ⟨cols,_⟩ hi ⟨rfl,h5,hI⟩;simp only at h5 hI;unfold CC;refine Tot.iteT (by simp;omega) (Tot.bindC (Bj (show i<cols.length by omega)) (Tot.bindC (ZQ (by omega) (by omega)) (Tot.bindC (D9 (by simp;omega)) (Jh1 ⟨Bx (by omega),by simpa using h5,λ q col hq hc=>?_⟩))));simp only[JiD,List.getElem?_set]at hc;by_cases e:i=q
   ·subst e;rw[if_pos rfl,if_pos (by omega)]at hc;cases hc;simp[hlen]
   ·rw[if_neg e]at hc;exact hI q col (by omega) hc
  ·rintro⟨cols,_⟩ ⟨rfl,h5,hI⟩;unfold CC;exact Tot.iteF (by simp) (Jh1 ⟨h5,λ q col hc=>hI q col (by have:=Ak hc;have:cols.length=5:=h5;have:q<cols.length:=Ak hc;omega) hc⟩)
 ·obtain⟨h5,hS⟩:=hcols;refine Tot.bind (R:=λ cols=>∃ col,cols[0]?=some col/\Qk g S cells 0 col) ?_ ?_
  ·refine Tot.whl (body:=λ n (x:((List (List (List (List UInt8))))×Int))=>Dd n g cells x.1 x.2) (λ k x=>x.2=(k:Int)-1/\k<=cells.length+1/\x.1.length=5/\(∀ (q:Nat) col,x.1[q]?=some col->col.length=S)/\∀ j,k<=j->j<=k+4->j<=cells.length->∃ col,x.1[j % 5]?=some col/\Qk g S cells j col) ?_ (cells.length+1) _ ⟨by simp,Jik _,h5,hS,λ j h1 _ h2=>by omega⟩;rintro k ⟨cols,_⟩ ⟨rfl,hk,h5,hS,hI⟩;simp only at h5 hS hI⊢;unfold Dd;cases k with
   | zero=>
    obtain⟨col,h1,h2⟩:=hI 0 (by omega) (by omega) (by omega);exact Tot.iteF (by simp) (Jh1 ⟨col,h1,h2⟩)
   | succ i=>
    have e:((i+1:Nat):Int)-1=(i:Int):=by omega
    rw[e];have hi5:i % 5<cols.length:=by omega
    have hx:=Jiu hi5;refine Tot.iteT (by simp) (Tot.bindC (y:=cols[i % 5]) (by rw[Ti];exact CH hx) (Tot.bindC (D9 (by rw[Ti];simp;omega)) (Tot.bind (WY hw hcl (by omega) (λ j h1 h2 h3=>hI j (by omega) (by omega) h3) (hS _ _ hx)) ?_)));rintro _ ⟨col,rfl,hcol⟩;refine Jh1 ⟨i,by omega,?_,by omega,by simpa using h5,λ q col' hq=>?_,λ j h1 h2 h3=>?_⟩
    ·show K5 .i64 (i:Int) 1=_;rw[ZO (by omega) (by omega)]
    ·simp only[List.getElem?_set]at hq;split at hq
     ·first|(cases hq;exact hcol.1)|(split at hq<;>first|(cases hq;exact hcol.1)|cases hq)
     ·exact hS q col' hq
    ·simp only[List.getElem?_set];by_cases ej:j=i
     ·subst ej;exact⟨col,by rw[if_pos rfl,if_pos hi5],hcol⟩
     ·rw[if_neg (by omega)];exact hI j (by omega) (by omega) h3
  ·rintro cols ⟨col,h1,h2,h3⟩;have h0:0<col.length:=by rw[h2];exact hw.pos
   have hc0:=Jiu h0;exact Tot.bindC (CH (i:=0) h1) (Tot.bindC (D9 (by simp)) (Tot.bindC (CH (i:=0) hc0) (Jh1 (by have:=h3 0 _ hc0;simpa using this))))
end Go.AI
end
section
namespace Go.AI
def WrT (t:Ab) (w:List Int) (x:List UInt8):Prop:=∃ p s,HW t Fv p s/\Bv t s=true/\cellsOf t p=w/\GU t p=x
def GV (t:Ab) (w:List Int):Prop:=∃ x y,x≠y/\WrT t w x/\WrT t w y
def WZ (t:Ab) (w:List Int):Prop:=GV t w/\∀ u,GV t u->¬ltW u w
structure TbK (t:Ab):Prop where
 tab:Gl t
 valid:Hw t=true
 pos:∀ r∈t.Rules,∀ c∈r.Cells,0<=c
theorem TbK.sound {t:Ab} (h:TbK t):∀ r∈t.Rules,B4 r t.Modes=true:=L7 h.valid
theorem TbK.small {t:Ab} (h:TbK t):Fw t:=MD h.tab.1 λ r hr=>⟨h.tab.2 r hr,(GT (h.sound r hr)).2.2⟩
theorem L9 (t:Ab) (k:Int) (p:List Int):cellsOf t (k::p)=(DB t k).Cells++cellsOf t p:=rfl
theorem Nh (t:Ab) (k:Int) (p:List Int):GU t (k::p)=(DB t k).Print++GU t p:=rfl
theorem Jah {t:Ab} (ht:TbK t) {g:Ap} (hg:Uv t (AP t) g):GW g (AP t).length (t.Rules.map AF.Cells):=by
 obtain⟨hF,hD⟩:=D8 ht.tab;refine⟨Ak hF.first,hg.len,λ i hi=>⟨_,hg.acc i _ (Jiu hi)⟩,hF.len,by rw[Jiq];exact ht.tab.1,λ c hc=>?_,λ i l hl=>Nat.le_trans (hg.arcs i l hl).len ht.tab.1,λ i l hl a ha=>?_⟩
 ·obtain⟨r,hr,rfl⟩:=Jin.1 hc;have h1:=GT (ht.sound r hr);exact⟨h1.2.1,h1.2.2,λ x hx=>⟨ht.pos r hr x hx,(Qg (ht.sound r hr)).2.1 x hx⟩⟩
 ·obtain⟨j,k,h1,h2,_,h4,h5⟩:=(hg.arcs i l hl).snd a ha;obtain⟨s,s',_,hk,hj,_⟩:=h2;have hm:DB t (k:Int)∈t.Rules:=Lj (by omega) (by omega);exact⟨by rw[h5];exact Jin.2 ⟨_,hm,rfl⟩,by rw[h4];exact(GT (ht.sound _ hm)).1,j,h1,Ak hj⟩
theorem MG {t:Ab} {st:List Ad} (hD:∀ i,ZK t i st):∀ {p:List Int} {s s':Ad} {i:Nat},st[i]?=some s->HW t s p s'->Bv t s'=true->KG t st i
 | [],s,s',i,hi,hg,ha=>by
  unfold HW at hg;subst hg;exact .acc i s hi ha
 | k::p,s,s',i,hi,hg,ha=>by
  obtain⟨h1,h2⟩:=hg;obtain⟨k0,k1⟩:=JZ h1;obtain⟨kn,rfl⟩:∃ kn:Nat,k=(kn:Int):=⟨k.toNat,by omega⟩;have hm:=hD (i+1) i s (by omega) hi kn (by omega) h1;obtain⟨j,hj,hje⟩:=List.mem_iff_getElem.1 hm;have hjg:st[j]?=some (BA t s (kn:Int)).1:=by rw[Jiu hj,hje]
  exact .step i kn j ⟨s,_,hi,by omega,hjg,by rw[← h1]⟩ (MG hD hjg h2 ha)
theorem Vu {t:Ab} (ht:TbK t) {g:Ap} (hg:Uv t (AP t) g):∀ {p:List Int} {s s':Ad} {i:Nat},(AP t)[i]?=some s->HW t s p s'->Bv t s'=true->En (Ag g) (Acg g) (i,[]) (cellsOf t p) (GU t p)
 | [],s,s',i,hi,hgo,ha=>by
  unfold HW at hgo;subst hgo;exact⟨i,.nil _,by unfold Acg;rw[hg.acc i s hi,ha]⟩
 | k::p,s,s',i,hi,hgo,ha=>by
  obtain⟨hF,hD⟩:=D8 ht.tab;obtain⟨h1,h2⟩:=hgo;obtain⟨k0,k1⟩:=JZ h1;obtain⟨kn,rfl⟩:∃ kn:Nat,k=(kn:Int):=⟨k.toNat,by omega⟩;have hm:=hD (i+1) i s (by omega) hi kn (by omega) h1;obtain⟨j,hj,hje⟩:=List.mem_iff_getElem.1 hm;have hjg:(AP t)[j]?=some (BA t s (kn:Int)).1:=by rw[Jiu hj,hje]
  have hE:Edge t (AP t) i kn j:=⟨s,_,hi,by omega,hjg,by rw[← h1]⟩;have hial:i<g.Arcs.length:=by rw[hg.len];exact Ak hi
  have hl:=Jiu hial;have hc:=(hg.arcs i _ hl).cov kn j (by omega) hE (MG hD hjg h2 ha);have hA:Ag g i ⟨prt t kn,cls t kn,j⟩:=⟨_,_,hl,hc,by simp⟩;have hw:=Jah ht hg;rw[En.arcs hw.ne];exact .inr ⟨_,cellsOf t p,GU t p,hA,rfl,rfl,Vu ht hg hjg h2 ha⟩
theorem JbO {t:Ab} (ht:TbK t) {g:Ap} (hg:Uv t (AP t) g):∀ (m:Nat) {w:List Int} {x:List UInt8} {s:Ad} {i:Nat},w.length<=m->(AP t)[i]?=some s->En (Ag g) (Acg g) (i,[]) w x->∃ p s',HW t s p s'/\Bv t s'=true/\cellsOf t p=w/\GU t p=x:=by
 have hw:=Jah ht hg;intro m;induction m with
 | zero=>
  intro w x s i hm hi h;rw[En.arcs hw.ne]at h;rcases h with⟨rfl,rfl,h⟩|⟨a,v',x',ha,rfl,_⟩
  ·unfold Acg at h;rw[hg.acc i s hi]at h;exact⟨[],s,rfl,Option.some.inj h,rfl,rfl⟩
  ·have h1:=hw.ne _ _ ha;have h2:0<a.c.length:=List.length_pos_iff.2 h1;rw[List.length_append]at hm;omega
 | succ m ih=>
  intro w x s i hm hi h;rw[En.arcs hw.ne]at h;rcases h with⟨rfl,rfl,h⟩|⟨a,v',x',ha,rfl,rfl,h3⟩
  ·unfold Acg at h;rw[hg.acc i s hi]at h;exact⟨[],s,rfl,Option.some.inj h,rfl,rfl⟩
  ·have hne:=hw.ne _ _ ha;have hpos:0<a.c.length:=List.length_pos_iff.2 hne;obtain⟨l,y,h1,h2,rfl⟩:=ha;obtain⟨j,k,q1,q2,_,q4,q5⟩:=(hg.arcs i l h1).snd y h2;obtain⟨s0,s1,e1,e2,e3,e4⟩:=q2;rw[hi]at e1;cases e1;have hto:y.To.toNat=j:=by rw[q1];simp
   simp only[hto]at h3;simp only[List.length_append]at hm hpos;obtain⟨p,s',p1,p2,p3,p4⟩:=ih (by omega) e3 h3;refine⟨(k:Int)::p,s',⟨by rw[e4],by rw[e4];exact p1⟩,p2,?_,?_⟩
   ·rw[L9,p3,q5];rfl
   ·rw[Nh,p4,q4];rfl
theorem UE {t:Ab} (ht:TbK t) {g:Ap} (hg:Uv t (AP t) g) (w:List Int) (x:List UInt8):En (Ag g) (Acg g) (0,[]) w x↔WrT t w x:=by
 have h0:=(D8 ht.tab).1.first;constructor
 ·intro h;obtain⟨p,s',h1,h2,h3,h4⟩:=JbO ht hg _ (Jik _) h0 h;exact⟨p,s',h1,h2,h3,h4⟩
 ·rintro⟨p,s',h1,h2,rfl,rfl⟩;exact Vu ht hg h0 h1 h2
theorem RG {t:Ab} (ht:TbK t) {g:Ap} (hg:Uv t (AP t) g) (w:List Int):Amb (Ag g) (Acg g) w↔GV t w:=by
 unfold Amb GV;simp only[UE ht hg]
def GX (t:Ab) (r:Cb×Int):Prop:=(r=(⟨[],[],[]⟩,0)/\∀ w,¬GV t w)\/(r.2=50/\WZ t r.1.Cells/\EP [r.1.A,r.1.B] (WrT t r.1.Cells)/\r.1.Cells.length<=1400000000)
theorem Ql {t:Ab} (ht:TbK t):Tot (λ n=>Bg n t) (GX t):=by
 unfold Bg;refine Jh2 (Qe ht.small) (Tot.iteF (by rw[ht.valid];rfl) (Tot.bind (Z5 ht.tab) λ g hg=>Jh3 (y:=()) (λ n=>rfl) ?_));have hw:=Jah ht hg;have h0:=(D8 ht.tab).1.first;refine Tot.bind (Tg hw λ hf w x hx=>?_) λ r hr=>?_
 ·rw[UE ht hg]at hx;obtain⟨p,s',h1,h2,_⟩:=hx;rw[hg.alive.2 (MG (D8 ht.tab).2 h0 h1 h2)]at hf;cases hf
 ·rcases hr with⟨h1,h2,h3⟩|⟨h1,h2⟩
  ·refine Tot.iteF (by rw[h1];rfl) (Tot.bind (Jag hw (by omega)) λ two htwo=>?_);have htwo:=htwo.congr (UE ht hg _);have hamb:WZ t r.2.2.1:=⟨(RG ht hg _).1 h2.1,λ u hu=>h2.2 u ((RG ht hg u).2 hu)⟩;obtain⟨x,y,hxy,hx,hy⟩:=hamb.1
   match two,htwo with
   | [],htwo=>rcases htwo.cov x hx with h|⟨h,_⟩<;>simp at h
   | [a],htwo=>
    have e:∀ z,WrT t r.2.2.1 z->z=a:=λ z hz=>by
     rcases htwo.cov z hz with h|⟨h,_⟩
     ·simpa using h
     ·simp at h
    exact absurd ((e x hx).trans (e y hy).symm) hxy
   | [a,b],htwo=>
    exact Tot.iteF (by simp) (Tot.bindC (y:=a) rfl (Tot.bindC (y:=b) rfl (Jh1 (.inr ⟨rfl,hamb,htwo,h3⟩))))
   | a::b::c::l,htwo=>have:=htwo.len;simp at this
  ·exact Tot.iteT (by rw[h1];rfl) (Jh1 (.inl ⟨rfl,λ w hw'=>h2 w ((RG ht hg w).2 hw')⟩))
end Go.AI
end
section
namespace Go.AI
theorem Ev.any {α:Type} {f:Nat->Option α} {z:α} (h:Ev f z):∃ n,f n=some z:=by
 obtain⟨N,h⟩:=h;exact⟨N,h N (Jik _)⟩
theorem WZ.uniq {t u:Ab} (h:∀ w x,WrT t w x↔WrT u w x) {w v:List Int} (hw:WZ t w) (hv:WZ u v):w=v:=by
 have ha:∀ z,GV t z↔GV u z:=λ z=>by unfold GV;simp only[h]
 rcases Vq w v with h1|h1|h1
 ·exact absurd h1 (hv.2 w ((ha w).1 hw.1))
 ·exact h1
 ·exact absurd h1 (hw.2 v ((ha v).2 hv.1))
theorem EP.uniq {a b c d:List UInt8} {T:List UInt8->Prop} (h:EP [a,b] T) (h':EP [c,d] T):a=c/\b=d:=by
 have hab:=Lk h.sort;have hcd:=Lk h'.sort;have f:∀ {a b:List UInt8},EP [a,b] T->∀ x,T x->x=a\/x=b\/ltB b x:=λ h x hx=>by
  rcases h.cov x hx with h1|⟨_,h1⟩
  ·simp at h1;rcases h1 with h1|h1<;>simp[h1]
  ·exact .inr (.inr (h1 _ (by simp)))
 have key:∀ {a b c d:List UInt8},EP [a,b] T->EP [c,d] T->¬ltB c a:=λ {a b c d} h h' hlt=>by
  rcases f h c (h'.snd c (by simp))with e|e|e
  ·rw[e]at hlt;exact Dk _ hlt
  ·rw[e]at hlt;exact Kp hlt (Lk h.sort)
  ·exact Kp (CJ (Lk h.sort) e) hlt
 have e1:a=c:=by
  rcases Gz a c with e|e|e
  ·exact e
  ·exact absurd e (key h' h)
  ·exact absurd e (key h h')
 subst e1;refine⟨rfl,?_⟩;have key2:∀ {a b d:List UInt8},EP [a,b] T->EP [a,d] T->¬ltB d b:=λ {a b d} h h' hlt=>by
  rcases f h d (h'.snd d (by simp))with e|e|e
  ·have:=Lk h'.sort;rw[e]at this;exact Dk _ this
  ·rw[e]at hlt;exact Dk _ hlt
  ·exact Kp e hlt
 rcases Gz b d with e|e|e
 ·exact e
 ·exact absurd e (key2 h' h)
 ·exact absurd e (key2 h h')
theorem GX.uniq {t u:Ab} (h:∀ w x,WrT t w x↔WrT u w x) {r r':Cb×Int} (hr:GX t r) (hr':GX u r'):r=r':=by
 have ha:∀ z,GV t z↔GV u z:=λ z=>by unfold GV;simp only[h]
 rcases hr with⟨rfl,h1⟩|⟨h1,h2,h3,_⟩<;>rcases hr' with⟨rfl,k1⟩|⟨k1,k2,k3,_⟩
 ·rfl
 ·exact absurd ((ha _).2 k2.1) (h1 _)
 ·exact absurd ((ha _).1 h2.1) (k1 _)
 ·obtain⟨⟨c,a,b⟩,e⟩:=r;obtain⟨⟨c',a',b'⟩,e'⟩:=r';simp only at h1 h2 h3 k1 k2 k3;have hc:=WZ.uniq h h2 k2;subst hc;have:=h3.uniq (k3.congr λ x=>(h c x).symm);obtain⟨rfl,rfl⟩:=this;rw[h1,k1]
theorem Pe (a b:Cb) (ha:a.Cells.length<9223372036854775807):Ev (λ n=>HJ n a b) (decide (a=b)):=by
 unfold HJ;refine Ev.guard (x:=decide (a.Cells=b.Cells)) (λ _=>Gv _ _ ha) (Ev.all λ n=>?_);obtain⟨c,x,y⟩:=a;obtain⟨c',x',y'⟩:=b;by_cases h1:x=x'<;>by_cases h2:y=y'<;>by_cases h3:c=c'<;>simp[h1,h2,h3]
end Go.AI
end
section
namespace Go.AI
def GoR:Ad->List AF->Ad->Prop
 | s,[],s'=>s=s'
 | s,r::p,s'=>(L3 r s).2=true/\GoR (L3 r s).1 p s'
theorem Pf {t:Ab} {s:Ad} {k:Int} (h:0<=k) (h':k<t.Rules.length):BA t s k=L3 (DB t k) s:=by
 unfold BA DB;rw[if_neg (by simp;omega)]
theorem Pg {t:Ab}:∀ {p:List Int} {s s':Ad},HW t s p s'->GoR s (p.map (DB t)) s'/\∀ r∈p.map (DB t),r∈t.Rules
 | [],s,s',h=>⟨h,by simp⟩
 | k::p,s,s',h=>by
  obtain⟨h1,h2⟩:=h;obtain⟨k0,k1⟩:=JZ h1;rw[Pf k0 k1]at h1 h2;obtain⟨q1,q2⟩:=Pg h2;refine⟨⟨h1,q1⟩,λ r hr=>?_⟩;rcases List.mem_cons.1 hr with rfl|hr
  ·exact Lj k0 k1
  ·exact q2 r hr
theorem Ph {t:Ab}:∀ {rs:List AF} {s s':Ad},(∀ r∈rs,r∈t.Rules)->GoR s rs s'->∃ p,p.map (DB t)=rs/\HW t s p s'
 | [],s,s',_,h=>⟨[],rfl,h⟩
 | r::rs,s,s',hm,h=>by
  obtain⟨h1,h2⟩:=h;obtain⟨p,q1,q2⟩:=Ph (λ r hr=>hm r (by simp[hr])) h2;obtain⟨k,hk,hkr⟩:=List.mem_iff_getElem.1 (hm r (by simp));have e:DB t (k:Int)=r:=by unfold DB;rw[JiD,Jiu hk,hkr];rfl
  refine⟨(k:Int)::p,by rw[Jir,e,q1],?_⟩;have es:BA t s (k:Int)=L3 r s:=by rw[Pf (by omega) (by omega),e]
  exact⟨by rw[es];exact h1,by rw[es];exact q2⟩
theorem RH {t:Ab} {w:List Int} {x:List UInt8}:WrT t w x↔∃ rs s,(∀ r∈rs,r∈t.Rules)/\GoR Fv rs s/\Bv t s=true/\rs.flatMap AF.Cells=w/\rs.flatMap AF.Print=x:=by
 constructor
 ·rintro⟨p,s,h1,h2,rfl,rfl⟩;obtain⟨q1,q2⟩:=Pg h1;exact⟨_,s,q2,q1,h2,by unfold cellsOf;rw[List.flatMap_map],by unfold GU;rw[List.flatMap_map]⟩
 ·rintro⟨rs,s,h0,h1,h2,rfl,rfl⟩;obtain⟨p,rfl,q2⟩:=Ph h0 h1;exact⟨p,s,q2,h2,by unfold cellsOf;rw[List.flatMap_map],by unfold GU;rw[List.flatMap_map]⟩
theorem Tj {t u:Ab} (hm:u.Modes=t.Modes) (ha:u.Accept=t.Accept) (hr:∀ r∈t.Rules,r∈u.Rules) {w:List Int} {x:List UInt8} (h:WrT t w x):WrT u w x:=by
 rw[RH]at h⊢;obtain⟨rs,s,h0,h1,h2,h3⟩:=h;refine⟨rs,s,λ r hr'=>hr r (h0 r hr'),h1,?_,h3⟩;unfold Bv at h2⊢;rw[hm,ha];exact h2
variable {α:Type}
theorem GX.small {t:Ab} {r:Cb×Int} (h:GX t r):r.1.Cells.length<=1400000000:=by
 rcases h with⟨rfl,_⟩|⟨_,_,_,h⟩
 ·simp
 ·exact h
theorem GV.mono {t u:Ab} (hm:u.Modes=t.Modes) (ha:u.Accept=t.Accept) (hr:∀ r∈t.Rules,r∈u.Rules) {w:List Int} (h:GV t w):GV u w:=by
 obtain⟨x,y,h0,h1,h2⟩:=h;exact⟨x,y,h0,Tj hm ha hr h1,Tj hm ha hr h2⟩
theorem GX.amb {t:Ab} {r:Cb×Int} (h:GX t r) {w:List Int} (hw:GV t w):r.2=50/\r.1.Cells.length<=w.length:=by
 rcases h with⟨_,h1⟩|⟨h1,h2,_⟩
 ·exact absurd hw (h1 w)
 ·refine⟨h1,?_⟩;rcases Jil w.length r.1.Cells.length with h|h
  ·exact absurd (.inl h) (h2.2 w hw)
  ·exact h
end Go.AI
end
section
namespace Go.AI
structure Tk (r:AF):Prop where
 lft:r.Left=63
 rgt:r.Right=63
 frm:r.From=0
 to:r.To=0
 pl:r.Print.length=1
 lo:1<=r.Cells.length
 hi:r.Cells.length<=3
 cel:∀ c∈r.Cells,1<=c/\c<=4
theorem Jai {k:Int} (h:0<=k) (h':k<=5):Nt 63 k=true:=by
 have:∀ n:Nat,n<=5->Nt 63 (n:Int)=true:=by decide
 have:=this k.toNat (by omega);rwa[Int.toNat_of_nonneg h]at this
theorem W2 {r:AF} (h1:r.Left=63) (h2:r.From=0) (h3:r.Print.length=1):L3 r Fv=(⟨r.To,F7 (Nd r.Print (r.Print.length-1)),r.Right⟩,true):=by
 unfold L3 Fv;rw[h1,h2];simp only;have hp:(r.Print==[])=false:=by
  cases hr:r.Print with
  | nil=>rw[hr]at h3;simp at h3
  | cons a l=>rfl
 have hc:=Nc (Nd r.Print 0);rw[if_neg (by rw[Jai (by omega) (by omega)];simp),if_neg (by rw[hp];simp),if_neg (by rw[Jai (by omega) (by omega)];simp)]
theorem Jfu {t:Ab} {r:AF} (hr:r∈t.Rules) (h1:r.Left=63) (h2:r.From=0) (h3:r.Print.length=1) (h4:r.Right=63) (hm:r.To<t.Modes) (ha:Nt t.Accept r.To=true):WrT t r.Cells r.Print:=by
 rw[RH];have hs:=W2 h1 h2 h3;refine⟨[r],_,by simpa using hr,⟨by rw[hs],rfl⟩,?_,by simp,by simp⟩;rw[hs];unfold Bv;simp only;rw[ha,h4,Jai (by omega) (by omega)];simp[hm]
theorem W3 {v:Int} (hv:U8 v):∃ b:UInt8,Oq [Ba .u8 97 (Bh v 26)]=some [b]:=by
 have h:=Kn (a:=v) (m:=26) hv.1 (by omega);have e:Ba .u8 97 (Bh v 26)=97+Bh v 26:=w8 (by omega) (by omega);rw[e];refine⟨UInt8.ofNat (97+Bh v 26).toNat,?_⟩;unfold Oq;rw[if_pos]
 ·rfl
 ·simp;omega
theorem W4 {l:List (Ps Int)} {i:Nat} {x:Ps Int} (hi:l[i]?=some x) (hx:U8 x.a0/\U8 x.a1/\U8 x.a2) (ts:List Int) (s:Bool) (t:Ab) {r0:AF} (h0:r0.Cells=[]) :
  Tot (λ n=>whl (λ (y:(AF×Int))=>Ck n l ts s t (i:Int) y.1 y.2) n (r0,0)) (λ r=>r.Left=r0.Left/\r.Right=r0.Right/\r.From=r0.From/\r.To=r0.To/\r.Print=r0.Print/\1<=r.Cells.length/\r.Cells.length<=3/\∀ c∈r.Cells,1<=c/\c<=4):=by
 have hr:=Kn (a:=x.a0) (m:=3) hx.1.1 (by omega);obtain⟨q,hq,hq2⟩:∃ q:Nat,Bh x.a0 3=(q:Int)/\q<3:=⟨(Bh x.a0 3).toNat,by omega,by omega⟩;have e:Ba .i64 1 (IntKind.i64.wrap (Bh x.a0 3))=((q+1:Nat):Int):=by
  rw[hq,w64 (by omega) (by omega),ZN (by omega) (by omega)];omega
 refine Tot.upto (body:=λ n (y:AF×Int)=>Ck n l ts s t (i:Int) y.1 y.2) (q+1) (λ k y=>y.2=(k:Int)/\y.1.Left=r0.Left/\y.1.Right=r0.Right/\y.1.From=r0.From/\y.1.To=r0.To/\y.1.Print=r0.Print/\y.1.Cells.length=k/\∀ c∈y.1.Cells,1<=c/\c<=4) ?_ ?_ _ ⟨rfl,rfl,rfl,rfl,rfl,rfl,by simp[h0],by simp[h0]⟩
 ·rintro k ⟨r,_⟩ hk ⟨rfl,c1,c2,c3,c4,c5,c6,c7⟩;simp only at c1 c2 c3 c4 c5 c6 c7;unfold Ck;refine Tot.bindC (CH hi) (Tot.iteT (by rw[e];simp;omega) (Tot.bindC (CH hi) ?_));have hkl:k<[x.a0,x.a1,x.a2].length:=by simp;omega
  have hu:U8 ([x.a0,x.a1,x.a2][k]):=by
   have:k=0\/k=1\/k=2:=by simp at hkl;omega
   rcases this with rfl|rfl|rfl
   ·exact hx.1
   ·exact hx.2.1
   ·exact hx.2.2
  refine Tot.bindC (Bj hkl) ?_;generalize [x.a0,x.a1,x.a2][k]=v at hu;have hv:=Kn (a:=v) (m:=4) hu.1 (by omega);have e2:Ba .u8 1 (Bh v 4)=1+Bh v 4:=w8 (by omega) (by omega);refine Tot.bindC (El (by simp;omega)) (Jh1 ⟨Bx (by omega),c1,c2,c3,c4,c5,by simp;omega,λ c hc=>?_⟩);rcases List.mem_append.1 hc with hc|hc
  ·exact c7 c hc
  ·simp only[List.mem_singleton]at hc;rw[hc,e2];omega
 ·rintro⟨r,_⟩ ⟨rfl,c1,c2,c3,c4,c5,c6,c7⟩;simp only at c1 c2 c3 c4 c5 c6 c7;unfold Ck;exact Tot.bindC (CH hi) (Tot.iteF (by rw[e];simp) (Jh1 ⟨c1,c2,c3,c4,c5,by show 1<=r.Cells.length;omega,by show r.Cells.length<=3;omega,c7⟩))
theorem W5 {l:List (Ps Int)} (hl:∀ x∈l,U8 x.a0/\U8 x.a1/\U8 x.a2) {ts:List Int} (hts:∀ x∈ts,U8 x) (s:Bool) :
  Tot (λ n=>whl (λ (x:(Ab×Int))=>CO n l ts s x.1 x.2) n (({ Modes:=1,Accept:=1,Rules:=([]:List AF) }:Ab),0)) (λ t=>t.Modes=1/\t.Accept=1/\t.Rules.length<=8/\∀ r∈t.Rules,Tk r):=by
 refine Tot.whl (body:=λ n (x:Ab×Int)=>CO n l ts s x.1 x.2) (λ m x=>∃ i:Nat,m=8-i/\i<=8/\x.2=(i:Int)/\x.1.Modes=1/\x.1.Accept=1/\x.1.Rules.length=i/\∀ r∈x.1.Rules,Tk r) ?_ 8 _ ⟨0,rfl,by omega,rfl,rfl,rfl,rfl,by simp⟩;rintro m ⟨t,_⟩ ⟨i,rfl,hi8,rfl,c1,c2,c3,c4⟩;simp only at c1 c2 c3 c4;unfold CO;refine Tot.ite (λ h=>?_) λ h=>Jh1 ⟨c1,c2,by show t.Rules.length<=8;omega,c4⟩;simp only[Jiv,decide_eq_true_eq]at h;have hil:i<l.length:=by omega
 have hit:i<ts.length:=by omega
 obtain⟨b,hb⟩:=W3 (hts _ (Jih hit));refine Tot.bindC (Bj hit) (Tot.bindC hb (Tot.bind (W4 (Jiu hil) (hl _ (Jih hil)) ts s t rfl) ?_));rintro r ⟨d1,d2,d3,d4,d5,d6,d7,d8⟩;refine Tot.bindC (El (by simp;omega)) (Jh1 ⟨8-(i+1),by omega,i+1,rfl,by omega,Bx (by omega),c1,c2,by simp;omega,λ q hq=>?_⟩);rcases List.mem_append.1 hq with hq|hq
 ·exact c4 q hq
 ·simp only[List.mem_singleton]at hq;rw[hq];exact⟨d1,d2,d3,d4,by rw[d5];rfl,d6,d7,d8⟩
theorem UF (a b:List Int) (ha:a.length<9000000000):Tot (λ n=>Io n a b) (λ r=>r=true↔b <+: a):=by
 unfold Io;by_cases h:b.length<=a.length
 ·have hd:decide (((a.length:Nat):Int)>=((b.length:Nat):Int))=true:=by simp;omega
  rw[hd];refine Tot.bindC (y:=a.take b.length) (by rw[if_pos rfl];exact Vj h) (Jh2 (x:=decide (a.take b.length=b)) ?_ (Jh1 ?_))
  ·exact(Gv _ _ (by simp;omega)).congr λ n=>if_pos rfl
  ·simp only[Bool.true_and,decide_eq_true_eq];constructor
   ·intro e;rw[← e];exact List.take_prefix _ _
   ·intro e;exact(List.prefix_iff_eq_take.1 e).symm
 ·have hd:decide (((a.length:Nat):Int)>=((b.length:Nat):Int))=false:=by simp;omega
  rw[hd];refine Tot.bindC (y:=default) rfl (Jh3 (y:=default) (λ n=>rfl) (Jh1 ?_));simp only[Bool.false_and];constructor
  ·intro e;cases e
  ·intro e;exact absurd e.length_le h
def cl5 (t:Ab) (k:Nat):List Int:=(t.Rules.getD k default).Cells
def RI (t:Ab) (free:Bool) (i k:Nat):Prop:=free=true->∀ i' k':Nat,(i'<i\/(i'=i/\k'<k))->k'<t.Rules.length->i'≠k'->¬cl5 t k' <+: cl5 t i'
def Tl (t:Ab) (same:Int):Prop:=same<=99/\(same<99->∃ a∈t.Rules,∃ b∈t.Rules,a.Print≠b.Print/\a.Cells=b.Cells/\((a.Cells.length:Nat):Int)=same)
theorem W6 {t:Ab} (ht:t.Rules.length<=8) (hc:∀ r∈t.Rules,Tk r) (s:Bool) {i:Nat} (hi:i<t.Rules.length) {free:Bool} {same:Int} (hf:RI t free i 0) (hs:Tl t same) :
  Tot (λ n=>whl (λ (x:(Bool×Int×Int))=>Cl n s t (i:Int) x.1 x.2.1 x.2.2) n (free,same,0)) (λ r=>RI t r.1 (i+1) 0/\Tl t r.2):=by
 refine Tot.upto (body:=λ n (x:(Bool×Int×Int))=>Cl n s t (i:Int) x.1 x.2.1 x.2.2) t.Rules.length (λ k x=>x.2.2=(k:Int)/\RI t x.1 i k/\Tl t x.2.1) ?_ ?_ _ ⟨rfl,hf,hs⟩
 ·rintro k ⟨fr,sm,_⟩ hk ⟨rfl,h1,h2⟩;simp only at h1 h2;unfold Cl;refine Tot.iteT (by simp;omega) (Tot.bindC (Bj hi) (Tot.bindC (Bj hk) ?_));have hia:=Jih hi;have hka:=Jih hk;have ei:cl5 t i=t.Rules[i].Cells:=by unfold cl5;rw[BN hi]
  have ek:cl5 t k=t.Rules[k].Cells:=by unfold cl5;rw[BN hk]
  generalize t.Rules[i]=a at *;generalize t.Rules[k]=b at *;have ha3:=(hc a hia).hi;have main:∀ fr',RI t fr' i (k+1)->Tot (λ n=>CP n sm (k:Int) a b fr') (Rd2 (λ x=>x.2.2=((k+1:Nat):Int)/\RI t x.1 i (k+1)/\Tl t x.2.1) (λ r=>RI t r.1 (i+1) 0/\Tl t r.2)):=λ fr' hfr=>by
   unfold CP DM;refine Tot.guard (R:=λ r=>r=decide (a.Cells=b.Cells)) (λ _=>(Gv _ _ (by omega)).tot rfl) λ r162 hr=>?_;refine Tot.ite (λ h=>Jh1 ⟨Bx (by omega),hfr,?_⟩) λ h=>Jh1 ⟨Bx (by omega),hfr,h2⟩;simp only[Jiv,Bool.not_eq_true',beq_eq_false_iff_ne]at h;have hr:=hr (by simpa using h.1);rw[hr]at h;simp only[decide_eq_true_eq]at h;obtain⟨e1,e2⟩:=h;simp only;split
   ·rename_i hlt;exact⟨by have:=h2.1;omega,λ _=>⟨a,hia,b,hka,e1,e2,rfl⟩⟩
   ·exact h2
  have hstep:∀ fr',(fr'=true->fr=true/\(i≠k->¬b.Cells <+: a.Cells))->RI t fr' i (k+1):=λ fr' hfr hft i' k' hik hk' hne=>by
   obtain⟨q1,q2⟩:=hfr hft;by_cases e:i'=i/\k'=k
   ·obtain⟨rfl,rfl⟩:=e;rw[ei,ek];exact q2 hne
   ·exact h1 q1 i' k' (by omega) hk' hne
  refine Tot.guard (R:=λ r=>r=true↔b.Cells <+: a.Cells) (λ _=>UF _ _ (by omega)) λ r163 hr=>?_;refine Tot.ite (λ _=>main _ (hstep _ (λ h=>by cases h))) λ h=>main _ (hstep _ λ hft=>⟨hft,λ hne hp=>?_⟩);have hb:((i:Int) != (k:Int))=true:=by simp;omega
  rw[hb,Bool.true_and]at h;rw[(hr hb).2 hp]at h;cases h
 ·rintro⟨fr,sm,_⟩ ⟨rfl,h1,h2⟩;unfold Cl;exact Tot.iteF (by simp) (Jh1 ⟨λ hft i' k' hik hk' hne=>h1 hft i' k' (by omega) hk' hne,h2⟩)
theorem W7 {t:Ab} (ht:t.Rules.length<=8) (hc:∀ r∈t.Rules,Tk r) (s:Bool) :
  Tot (λ n=>whl (λ (x:(Bool×Int×Int))=>Cm n s t x.1 x.2.1 x.2.2) n (true,99,0)) (λ r=>RI t r.1 t.Rules.length 0/\Tl t r.2):=by
 refine Tot.upto (body:=λ n (x:(Bool×Int×Int))=>Cm n s t x.1 x.2.1 x.2.2) t.Rules.length (λ i x=>x.2.2=(i:Int)/\RI t x.1 i 0/\Tl t x.2.1) ?_ ?_ _ ⟨rfl,λ _ i' k' h=>by omega,by unfold Tl;simp⟩
 ·rintro i ⟨fr,sm,_⟩ hi ⟨rfl,h1,h2⟩;unfold Cm;exact Tot.iteT (by simp;omega) (Tot.bind (W6 ht hc s hi h1 h2) λ r hr=>Jh1 ⟨Bx (by omega),hr⟩)
 ·rintro⟨fr,sm,_⟩ ⟨rfl,h1,h2⟩;unfold Cm;exact Tot.iteF (by simp) (Jh1 ⟨h1,h2⟩)
theorem W8 {α:Type} {a b x y:List α} (h:a++x=b++y):a <+: b\/b <+: a:=by
 rcases List.append_eq_append_iff.1 h with⟨c,h1,_⟩|⟨c,h1,_⟩
 ·exact .inl ⟨c,h1.symm⟩
 ·exact .inr ⟨c,h1.symm⟩
theorem Qm {t:Ab} (hc:∀ r∈t.Rules,Tk r) (hf:∀ i k:Nat,i<t.Rules.length->k<t.Rules.length->i≠k->¬cl5 t k <+: cl5 t i):∀ {rs rs':List AF},(∀ r∈rs,r∈t.Rules)->(∀ r∈rs',r∈t.Rules)->rs.flatMap AF.Cells=rs'.flatMap AF.Cells->rs=rs'
 | [],[],_,_,_=>rfl
 | [],r::rs,_,h,e=>by
  have h1:=(hc r (h r (by simp))).lo;have h2:=congrArg List.length e;rw[List.flatMap_cons,List.length_append]at h2;have:(List.flatMap AF.Cells ([]:List AF)).length=0:=rfl;omega
 | r::rs,[],h,_,e=>by
  have h1:=(hc r (h r (by simp))).lo;have h2:=congrArg List.length e;rw[List.flatMap_cons,List.length_append]at h2;have:(List.flatMap AF.Cells ([]:List AF)).length=0:=rfl;omega
 | r::rs,r'::rs',h,h',e=>by
  simp only[List.flatMap_cons]at e;obtain⟨i,hi,hir⟩:=List.mem_iff_getElem.1 (h r (by simp));obtain⟨k,hk,hkr⟩:=List.mem_iff_getElem.1 (h' r' (by simp));have ei:cl5 t i=r.Cells:=by unfold cl5;rw[BN hi,hir]
  have ek:cl5 t k=r'.Cells:=by unfold cl5;rw[BN hk,hkr]
  have hik:i=k:=by
   apply Classical.byContradiction;intro hne;rcases W8 e with hp|hp
   ·exact hf k i hk hi (Ne.symm hne) (by rw[ei,ek];exact hp)
   ·exact hf i k hi hk hne (by rw[ei,ek];exact hp)
  subst hik;rw[hir]at hkr;subst hkr;rw[Qm hc hf (λ q hq=>h q (by simp[hq])) (λ q hq=>h' q (by simp[hq])) (List.append_cancel_left e)]
theorem Jaj (hS:Ev (λ n=>GN n) true) {l:List (Ps Int)} (hl:∀ x∈l,U8 x.a0/\U8 x.a1/\U8 x.a2) {ts:List Int} (hts:∀ x∈ts,U8 x):Ev (λ n=>E7 n l ts) true:=by
 refine Tot.ev ?_;unfold E7;refine Jh2 hS (Tot.bind (W5 hl hts true) ?_);rintro t ⟨h1,h2,h3,h4⟩;have hro:∀ r∈t.Rules,Up r/\r.Cells.length<=4:=λ r hr=>by
  obtain⟨c1,c2,c3,c4,c5,c6,c7,c8⟩:=h4 r hr;exact⟨⟨by omega,by omega,by omega,by omega,by omega⟩,by omega⟩
 refine Jh2 (ZY (MD (by omega) hro)) (Tot.ite (λ _=>Jh1 rfl) λ hv=>?_);have hv:Hw t=true:=by simpa using hv
 have ht:TbK t:=⟨⟨by omega,λ r hr=>(hro r hr).1⟩,hv,λ r hr c hc=>by have:=(h4 r hr).cel c hc;omega⟩;refine Tot.bind (W7 h3 h4 true) ?_;rintro⟨fr,sm⟩ ⟨f1,f2⟩;simp only at f1 f2⊢;refine Tot.bind (Ql ht) λ c hck=>?_;have hfree:fr=true->c.2=0:=λ hfr=>by
  rcases hck with⟨rfl,_⟩|⟨_,h,_⟩
  ·rfl
  ·exfalso;obtain⟨x,y,hne,hx,hy⟩:=h.1;rw[RH]at hx hy;obtain⟨rs,s1,a0,_,_,a3,a4⟩:=hx;obtain⟨rs',s2,b0,_,_,b3,b4⟩:=hy;have:=Qm h4 (λ i k hi hk hne=>f1 hfr i k (.inl hi) hk hne) a0 b0 (a3.trans b3.symm);rw[← a4,← b4,this]at hne;exact hne rfl
 have hsame:sm<99->c.2=50/\((c.1.Cells.length:Nat):Int)<=sm:=λ hlt=>by
  obtain⟨a,ha,b,hb,q1,q2,q3⟩:=f2.2 hlt;have wr:∀ r∈t.Rules,WrT t r.Cells r.Print:=λ r hr=>by
   obtain⟨c1,c2,c3,c4,c5,_⟩:=h4 r hr;refine Jfu hr c1 c3 c5 c2 (by rw[c4,h1];decide) ?_;rw[h2,c4];decide
  have hamb:GV t a.Cells:=⟨a.Print,b.Print,q1,wr a ha,by rw[q2];exact wr b hb⟩;obtain⟨e1,e2⟩:=hck.amb hamb;exact⟨e1,by omega⟩
 refine Tot.iteF ?_ (Jh1 ?_)
 ·rw[Bool.eq_false_iff];intro h;simp only[JiN,Jiv,decide_eq_true_eq,bne_iff_ne]at h;rcases h with⟨h1,h2⟩|⟨h1,h2|h2⟩
  ·exact h2 (hfree h1)
  ·exact h2 (hsame h1).1
  ·have:=(hsame h1).2;omega
 ·rcases hck with⟨rfl,_⟩|⟨h,_⟩
  ·rfl
  ·simp[h]
end Go.AI
end
section
namespace Go.AI
def At5 (t:Ab) (i:Nat) (a:Ac):Prop:=∃ k j,Edge t (AP t) i k j/\a=⟨prt t k,cls t k,j⟩
def AcT (t:Ab) (i:Nat):Prop:=∃ s,(AP t)[i]?=some s/\Bv t s=true
theorem Jfv {t:Ab} (ht:TbK t) {k:Nat} (hk:k<t.Rules.length):1<=(cls t k).length/\(cls t k).length<=4/\(prt t k).length<=4/\∀ c∈cls t k,0<=c/\c<63:=by
 have hm:DB t (k:Int)∈t.Rules:=Lj (by omega) (by omega);have h1:=GT (ht.sound _ hm);exact⟨h1.2.1,h1.2.2,h1.1,λ c hc=>⟨ht.pos _ hm c hc,(Qg (ht.sound _ hm)).2.1 c hc⟩⟩
theorem At5.ne {t:Ab} (ht:TbK t):∀ k a,At5 t k a->a.c≠[]:=by
 rintro i a ⟨k,j,⟨_,_,_,hk,_⟩,rfl⟩ h;have:=(Jfv ht hk).1;simp only at h;rw[h]at this;simp at this
theorem Vv {t:Ab} (ht:TbK t):∀ {p:List Int} {s s':Ad} {i:Nat},(AP t)[i]?=some s->HW t s p s'->Bv t s'=true->En (At5 t) (AcT t) (i,[]) (cellsOf t p) (GU t p)
 | [],s,s',i,hi,hgo,ha=>by
  unfold HW at hgo;subst hgo;exact⟨i,.nil _,s,hi,ha⟩
 | k::p,s,s',i,hi,hgo,ha=>by
  obtain⟨hF,hD⟩:=D8 ht.tab;obtain⟨h1,h2⟩:=hgo;obtain⟨k0,k1⟩:=JZ h1;obtain⟨kn,rfl⟩:∃ kn:Nat,k=(kn:Int):=⟨k.toNat,by omega⟩;have hm:=hD (i+1) i s (by omega) hi kn (by omega) h1;obtain⟨j,hj,hje⟩:=List.mem_iff_getElem.1 hm;have hjg:(AP t)[j]?=some (BA t s (kn:Int)).1:=by rw[Jiu hj,hje]
  have hE:Edge t (AP t) i kn j:=⟨s,_,hi,by omega,hjg,by rw[← h1]⟩;rw[En.arcs (At5.ne ht)];exact .inr ⟨⟨prt t kn,cls t kn,j⟩,cellsOf t p,GU t p,⟨kn,j,hE,rfl⟩,rfl,rfl,Vv ht hjg h2 ha⟩
theorem JbP {t:Ab} (ht:TbK t):∀ (m:Nat) {w:List Int} {x:List UInt8} {s:Ad} {i:Nat},w.length<=m->(AP t)[i]?=some s->En (At5 t) (AcT t) (i,[]) w x->∃ p s',HW t s p s'/\Bv t s'=true/\cellsOf t p=w/\GU t p=x:=by
 intro m;induction m with
 | zero=>
  intro w x s i hm hi h;rw[En.arcs (At5.ne ht)]at h;rcases h with⟨rfl,rfl,s',h1,h2⟩|⟨a,v',x',ha,rfl,_⟩
  ·rw[hi]at h1;cases h1;exact⟨[],s,rfl,h2,rfl,rfl⟩
  ·have h1:=At5.ne ht _ _ ha;have h2:0<a.c.length:=List.length_pos_iff.2 h1;rw[List.length_append]at hm;omega
 | succ m ih=>
  intro w x s i hm hi h;rw[En.arcs (At5.ne ht)]at h;rcases h with⟨rfl,rfl,s',h1,h2⟩|⟨a,v',x',ha,rfl,rfl,h3⟩
  ·rw[hi]at h1;cases h1;exact⟨[],s,rfl,h2,rfl,rfl⟩
  ·have hne:=At5.ne ht _ _ ha;have hpos:0<a.c.length:=List.length_pos_iff.2 hne;obtain⟨k,j,⟨s0,s1,e1,e2,e3,e4⟩,rfl⟩:=ha;rw[hi]at e1;cases e1;simp only[List.length_append]at hm hpos;obtain⟨p,s',p1,p2,p3,p4⟩:=ih (by omega) e3 h3;refine⟨(k:Int)::p,s',⟨by rw[e4],by rw[e4];exact p1⟩,p2,?_,?_⟩
   ·rw[L9,p3];rfl
   ·rw[Nh,p4];rfl
theorem Jak {t:Ab} (ht:TbK t) (w:List Int) (x:List UInt8):En (At5 t) (AcT t) (0,[]) w x↔WrT t w x:=by
 have h0:=(D8 ht.tab).1.first;constructor
 ·intro h;obtain⟨p,s',h1,h2,h3,h4⟩:=JbP ht _ (Jik _) h0 h;exact⟨p,s',h1,h2,h3,h4⟩
 ·rintro⟨p,s',h1,h2,rfl,rfl⟩;exact Vv ht h0 h1 h2
theorem Rn.snoc {A:Nat->Ac->Prop} {h h1 h':Hf} {w:List Int} {c:Int} {x p:List UInt8} (H:Rn A h w x h1) (s:Sp A h1 c p h'):Rn A h (w++[c]) (x++p) h':=H.app (Rn.one s)
theorem Rn.unsnoc {A:Nat->Ac->Prop} {h':Hf} {c:Int}:∀ {w:List Int} {h:Hf} {x:List UInt8},Rn A h (w++[c]) x h'->∃ h1 x1 p,Rn A h w x1 h1/\Sp A h1 c p h'/\x=x1++p
 | [],h,x,H=>by
  obtain⟨h1,p,y,s,r,rfl⟩:=H.inv;obtain⟨rfl,rfl⟩:=r.inv0;exact⟨h,[],p,.nil _,s,by simp⟩
 | d::w,h,x,H=>by
  obtain⟨h1,p,y,s,r,rfl⟩:=Rn.inv (w:=w++[c]) H;obtain⟨h2,x1,p2,q1,q2,rfl⟩:=Rn.unsnoc r;exact⟨h2,p++x1,p2,.cons s q1,q2,by simp⟩
def WfP (t:Ab) (p:GL):Prop:=p.Rule=-1\/∃ k a:Nat,p.Rule=(k:Int)/\k<t.Rules.length/\p.At=(a:Int)/\1<=a/\a<(cls t k).length
def Vw (t:Ab) (p:GL):List Int:=if p.Rule<0 then []else(cls t p.Rule.toNat).drop p.At.toNat
theorem WfP.rest {t:Ab} {p:GL} (h:WfP t p):Vw t p=[]↔p.Rule<0:=by
 unfold Vw;rcases h with h|⟨k,a,h1,h2,h3,h4,h5⟩
 ·rw[if_pos (by omega)];simp;omega
 ·rw[if_neg (by omega),h1,h3];simp only[JiD];constructor
  ·intro h;have:=congrArg List.length h;simp at this;omega
  ·intro h;omega
end Go.AI
end
section
namespace Go.AI
def Jfw (t:Ab) (c:Int) (p:GL) (out:List GL):Prop:=∀ i,(AP t)[i]?=some p.S->∀ q h',Sp (At5 t) (i,Vw t p) c q h'->∃ y∈out,(AP t)[h'.1]?=some y.S/\y.Text=p.Text++q/\Vw t y=h'.2
theorem Jfw.mono {t:Ab} {c:Int} {p:GL} {out out':List GL} (h:Jfw t c p out) (hs:∀ y∈out,y∈out'):Jfw t c p out':=λ i hi q h' hs'=>by
 obtain⟨y,h1,h2⟩:=h i hi q h' hs';exact⟨y,hs y h1,h2⟩
end Go.AI
end
section
namespace Go.AI
theorem Jh8 {A:Nat->Ac->Prop} {h'':Hf}:∀ {w v:List Int} {h:Hf} {x:List UInt8},Rn A h (w++v) x h''->∃ h' x1,Rn A h w x1 h'
 | [],_,h,_,_=>⟨h,[],.nil _⟩
 | c::w,_,_,_,H=>by
  obtain⟨h1,p,y,s,r,rfl⟩:=H.inv;obtain⟨h',x1,r1⟩:=Jh8 r;exact⟨h',p++x1,.cons s r1⟩
def PE (t:Ab) (w:List Int) (D:List Int->Prop) (r:CB):Prop:=
 (r.Ok=false/\∀ u,D u->¬GV t (w++u))\/(r.Ok=true/\∃ v,D v/\r.C.Cells=w++v/\GV t (w++v)/\EP [r.C.A,r.C.B] (WrT t (w++v))/\∀ u,D u->GV t (w++u)->ltL u v=false)
theorem PE.congr {t:Ab} {w:List Int} {D D':List Int->Prop} {r:CB} (h:PE t w D r) (e:∀ u,GV t (w++u)->(D u↔D' u)):PE t w D' r:=by
 rcases h with⟨h1,h2⟩|⟨h1,v,h2,h3,h4,h5,h6⟩
 ·exact .inl ⟨h1,λ u hu ha=>h2 u ((e u ha).2 hu) ha⟩
 ·exact .inr ⟨h1,v,(e v h4).1 h2,h3,h4,h5,λ u hu ha=>h6 u ((e u ha).2 hu) ha⟩
def bud:Nat->Nat
 | 0=>161051
 | m+1=>161051+63*bud m
structure LP (t:Ab) (w:List Int) (m:Nat) (s r:CB):Prop where
 T:r.T=t
 lo:s.Left<=r.Left+bud m
 hi:r.Left<=s.Left
 old:0<=r.Left->s.Ok=true->r.Ok=true/\r.C=s.C
 new:0<=r.Left->s.Ok=false->PE t w (λ u=>u.length=m) r
def Hd (m i:Nat) (u:List Int):Prop:=∃ c u',u=c::u'/\u'.length=m/\c<(i:Int)
theorem Hd.succ {m i:Nat} {u:List Int} (h:Hd m (i+1) u):Hd m i u\/∃ u',u=(i:Int)::u'/\u'.length=m:=by
 obtain⟨c,u',rfl,h1,h2⟩:=h;by_cases e:c=(i:Int)
 ·exact .inr ⟨u',by rw[e],h1⟩
 ·exact .inl ⟨c,u',rfl,h1,by omega⟩
theorem Hd.up {m i:Nat} {u:List Int} (h:Hd m i u):Hd m (i+1) u:=by
 obtain⟨c,u',rfl,h1,h2⟩:=h;exact⟨c,u',rfl,h1,by omega⟩
theorem Hd.not {m i:Nat} {u v:List Int} (h:Hd m i v):ltL ((i:Int)::u) v=false:=by
 obtain⟨c,u',rfl,h1,h2⟩:=h;simp[ltL];omega
theorem PE.skip {t:Ab} {w:List Int} {m i:Nat} {r:CB} (h:PE t w (Hd m i) r) (hn:∀ u,¬GV t (w++(i:Int)::u)):PE t w (Hd m (i+1)) r:=by
 refine h.congr λ u ha=>⟨Hd.up,λ hu=>?_⟩;rcases hu.succ with h|⟨u',rfl,_⟩
 ·exact h
 ·exact absurd ha (hn u')
theorem PE.step {t:Ab} {w:List Int} {m i:Nat} {s r:CB} (h:PE t w (Hd m i) s) (h':LP t (w++[(i:Int)]) m s r) (h0:0<=r.Left):PE t w (Hd m (i+1)) r:=by
 have hw:∀ u,(w++[(i:Int)])++u=w++(i:Int)::u:=λ u=>by simp
 rcases h with⟨h1,h2⟩|⟨h1,v,h2,h3,h4,h5,h6⟩
 ·rcases h'.new h0 h1 with⟨k1,k2⟩|⟨k1,v,k2,k3,k4,k5,k6⟩
  ·refine .inl ⟨k1,λ u hu=>?_⟩;rcases hu.succ with h|⟨u',rfl,hl⟩
   ·exact h2 u h
   ·rw[← hw];exact k2 u' hl
  ·simp only[hw]at k3 k4 k5 k6;refine .inr ⟨k1,(i:Int)::v,⟨_,v,rfl,k2,by omega⟩,k3,k4,k5,λ u hu ha=>?_⟩;rcases hu.succ with h|⟨u',rfl,hl⟩
   ·exact absurd ha (h2 u h)
   ·have:=k6 u' hl ha;simp[ltL,this]
 ·obtain⟨k1,k2⟩:=h'.old h0 h1;refine .inr ⟨k1,v,h2.up,by rw[k2];exact h3,h4,by rw[k2];exact h5,λ u hu ha=>?_⟩;rcases hu.succ with h|⟨u',rfl,hl⟩
  ·exact h6 u h ha
  ·exact h2.not
end Go.AI
end
section
namespace Go.AI
def MH (t:Ab) (st:List Ad) (h:Hf):List (Int×List UInt8×Hf):=
 match h.2 with
 | c::r=>[(c,[],(h.1,r))]
 | []=>(List.range t.Rules.length).flatMap λ (k:Nat)=>match st[h.1]? with
  | none=>[]
  | some s=>if(BA t s (k:Nat)).2=true then match cls t k with
    | []=>[]
    | c::r=>(List.range st.length).filterMap λ (j:Nat)=>if st[j]?=some (BA t s (k:Nat)).1 then some (c,prt t k,(j,r))else none
   else []
def Vx (t:Ab) (st:List Ad):Nat->Hf->List (List Int×List UInt8×Hf)
 | 0,h=>[([],[],h)]
 | n+1,h=>(MH t st h).flatMap λ a=>(Vx t st n a.2.2).map λ b=>(a.1::b.1,a.2.1++b.2.1,b.2.2)
def Jal (t:Ab) (st:List Ad) (h:Hf):Bool:=h.2==[]&&match st[h.1]? with|some s=>Bv t s|none=>false
def Pi (t:Ab) (st:List Ad) (n:Nat):List (List Int×List UInt8):=((Vx t st n (0,[])).filter λ b=>Jal t st b.2.2).map λ b=>(b.1,b.2.1)
abbrev Cfg:=Hf×Hf×(Int×List UInt8)
def Jam (t:Ab) (st:List Ad) (x:Cfg):List Cfg:=(MH t st x.1).flatMap λ a=>(MH t st x.2.1).filterMap λ b=>if a.1=b.1 then some (a.2.2,b.2.2,G4 x.2.2 a.2.1 b.2.1)else none
def Jan (t:Ab) (st:List Ad) (C:List Cfg):Bool:=C.contains ((0,[]),(0,[]),(0,[]))&&C.all λ x=>(Jam t st x).all (λ y=>C.contains y)&&(x.2.2.1==0||!(Jal t st x.1&&Jal t st x.2.1))
def Jg4 (t:Ab) (st:List Ad):Nat->List Cfg->List Cfg->List Cfg
 | 0,seen,_=>seen
 | _,seen,[]=>seen
 | f+1,seen,x::todo=>let ns:=((Jam t st x).eraseDups).filter λ y=>!seen.contains y
  Jg4 t st f (seen++ns) (todo++ns)
def cfg0:Cfg:=((0,[]),(0,[]),(0,[]))
def W9 (l:List (List UInt8×List Int)):Ab:=⟨1,1,l.map λ x=>⟨x.1,x.2,63,63,0,0⟩⟩
def tb1:=W9 [([97],[1]),([98],[3])]
def tb2:=W9 [([97],[1]),([98],[3]),([99],[1,3])]
def tb3:=W9 [([98],[1]),([97],[1])]
def tb4:=W9 [([97],[1]),([98],[3]),([97,98],[1,3])]
def tb5:=W9 [([97],[1,3]),([98],[1]),([99],[3,3]),([100],[3])]
theorem Kq (t:Ab) (h h':Hf) (c:Int) (p:List UInt8):Sp (At5 t) h c p h'↔(c,p,h')∈MH t (AP t) h:=by
 obtain⟨i,l⟩:=h;cases l with
 | cons d r=>
  show _↔(c,p,h')∈[(d,([]:List UInt8),(i,r))];rw[List.mem_singleton,Prod.mk.injEq,Prod.mk.injEq];constructor
  ·intro H;cases H with
   | rest=>exact⟨rfl,rfl,rfl⟩
  ·rintro⟨rfl,rfl,rfl⟩;exact .rest _ _ _
 | nil=>
  unfold MH;simp only[List.mem_flatMap,List.mem_range];constructor
  ·intro H;cases H with
   | @arc _ a _ r h hc=>
    obtain⟨k,j,⟨s,s',e1,e2,e3,e4⟩,rfl⟩:=h;refine⟨k,e2,?_⟩;simp only at hc;simp only[e1,e4,if_true,hc,List.mem_filterMap,List.mem_range];exact⟨j,Ak e3,by rw[if_pos e3]⟩
  ·rintro⟨k,hk,H⟩;cases e1:(AP t)[i]? with
   | none=>rw[e1]at H;simp at H
   | some s=>
    rw[e1]at H;simp only at H;split at H
    ·rename_i h2;cases hc:cls t k with
     | nil=>rw[hc]at H;simp at H
     | cons d r=>
      rw[hc]at H;simp only[List.mem_filterMap,List.mem_range]at H;obtain⟨j,_,hj⟩:=H;split at hj
      ·rename_i h3;cases hj;exact .arc (a:=⟨prt t k,cls t k,j⟩) ⟨k,j,⟨s,_,e1,hk,h3,by rw[← h2]⟩,rfl⟩ hc
      ·cases hj
    ·simp at H
theorem Ma (t:Ab):∀ (w:List Int) (h h':Hf) (x:List UInt8),Rn (At5 t) h w x h'↔(w,x,h')∈Vx t (AP t) w.length h
 | [],h,h',x=>by
  show _↔(([]:List Int),x,h')∈[(([]:List Int),([]:List UInt8),h)];simp only[List.mem_singleton,Prod.mk.injEq,true_and];constructor
  ·intro H;obtain⟨rfl,rfl⟩:=H.inv0;exact⟨rfl,rfl⟩
  ·rintro⟨rfl,rfl⟩;exact .nil _
 | c::w,h,h',x=>by
  show _↔_∈(MH t (AP t) h).flatMap λ a=>(Vx t (AP t) w.length a.2.2).map λ b=>(a.1::b.1,a.2.1++b.2.1,b.2.2);simp only[List.mem_flatMap,Jin];constructor
  ·intro H;obtain⟨h1,p,y,s,r,rfl⟩:=H.inv;exact⟨(c,p,h1),(Kq t h h1 c p).1 s,(w,y,h'),(Ma t w h1 h' y).1 r,rfl⟩
  ·rintro⟨⟨c',p,h1⟩,s,⟨w',y,h2⟩,r,e⟩;simp only[Prod.mk.injEq,List.cons.injEq]at e;obtain⟨⟨rfl,rfl⟩,rfl,rfl⟩:=e;exact .cons ((Kq t h h1 c' p).2 s) ((Ma t w' h1 h2 y).2 r)
theorem RJ (t:Ab) (h:Hf):Jal t (AP t) h=true↔h.2=[]/\AcT t h.1:=by
 unfold Jal AcT;rw[Jiv,beq_iff_eq];refine and_congr_right λ _=>?_;cases (AP t)[h.1]? with
 | none=>simp
 | some s=>simp
theorem J3 {t:Ab} (ht:TbK t) (w:List Int) (x:List UInt8):WrT t w x↔(w,x)∈Pi t (AP t) w.length:=by
 rw[← Jak ht];unfold Pi En;simp only[Jin,List.mem_filter,RJ];constructor
 ·rintro⟨k,h1,h2⟩;exact⟨(w,x,(k,[])),⟨(Ma t w _ _ x).1 h1,rfl,h2⟩,rfl⟩
 ·rintro⟨⟨w',x',⟨k,l⟩⟩,⟨h1,h2,h3⟩,e⟩;cases e;simp only at h2 h3;subst h2;exact⟨k,(Ma t _ _ _ _).2 h1,h3⟩
theorem JbQ {t:Ab} (ht:TbK t) {C:List Cfg} (hC:Jan t (AP t) C=true):∀ w,¬GV t w:=by
 unfold Jan at hC;simp only[Jiv,List.contains_iff_mem,Jif,JiN,beq_iff_eq,Bool.not_eq_true',Bool.and_eq_false_iff]at hC;obtain⟨h0,hC⟩:=hC;have key:∀ (m:Nat) (w:List Int),w.length=m->∀ x y a b,Rn (At5 t) (0,[]) w x a->Rn (At5 t) (0,[]) w y b->(a,b,ldT x y)∈C:=by
  intro m;induction m with
  | zero=>
   intro w hw x y a b h1 h2;have:w=[]:=List.length_eq_zero_iff.1 hw;subst this;obtain⟨rfl,rfl⟩:=h1.inv0;obtain⟨rfl,rfl⟩:=h2.inv0;exact h0
  | succ m ih=>
   intro w hw x y a b h1 h2;have hne:w≠[]:=λ e=>by rw[e]at hw;simp at hw
   obtain⟨u,c,rfl⟩:∃ u c,w=u++[c]:=⟨w.dropLast,w.getLast hne,(List.dropLast_concat_getLast hne).symm⟩;obtain⟨a1,x1,p,q1,q2,rfl⟩:=h1.unsnoc;obtain⟨b1,y1,q,r1,r2,rfl⟩:=h2.unsnoc;have:=ih u (by simpa using hw) x1 y1 a1 b1 q1 r1;refine(hC _ this).1 _ ?_;unfold Jam;simp only[List.mem_flatMap,List.mem_filterMap];exact⟨(c,p,a),(Kq t _ _ _ _).1 q2,(c,q,b),(Kq t _ _ _ _).1 r2,by rw[if_pos rfl,IB]⟩
 rintro w ⟨x,y,hxy,hx,hy⟩;rw[← Jak ht]at hx hy;obtain⟨i,h1,h2⟩:=hx;obtain⟨j,h3,h4⟩:=hy;rcases (hC _ (key _ w rfl x y _ _ h1 h3)).2 with h|h|h
 ·exact hxy (IC.1 h)
 ·rw[(RJ t _).2 ⟨rfl,h2⟩]at h;cases h
 ·rw[(RJ t _).2 ⟨rfl,h4⟩]at h;cases h
def JbR (t:Ab) (st:List Ad) (m:Nat) (ok:List Int->Bool):Bool:=(Pi t st m).all λ a=>(Pi t st m).all λ b=>!(a.1==b.1)||a.2==b.2||ok a.1
def Jao (t:Ab) (st:List Ad) (w:List Int) (A B:List UInt8):Bool:=(List.range w.length).all (λ m=>JbR t st m λ _=>false)&&JbR t st w.length (λ u=>!ltL u w)&&Op.bytesLess A B&&(Pi t st w.length).contains (w,A)&&(Pi t st w.length).contains (w,B)&&(Pi t st w.length).all λ e=>!(e.1==w)||e.2==A||e.2==B
theorem Jap {t:Ab} (ht:TbK t) {m:Nat} {ok:List Int->Bool} (h:JbR t (AP t) m ok=true):∀ u,u.length=m->GV t u->ok u=true:=by
 rintro u rfl ⟨x,y,hxy,hx,hy⟩;unfold JbR at h;simp only[Jif,JiN,Bool.not_eq_true',beq_eq_false_iff_ne,beq_iff_eq]at h;rcases h _ ((J3 ht u x).1 hx) _ ((J3 ht u y).1 hy)with (h|h)|h
 ·exact absurd rfl h
 ·exact absurd h hxy
 ·exact h
theorem Mb {t:Ab} (ht:TbK t) {w:List Int} {A B:List UInt8} (h:Jao t (AP t) w A B=true) (hw:w.length<=1000):GX t (⟨w,A,B⟩,50):=by
 unfold Jao at h;simp only[Jiv,Jif,List.mem_range,JiN,Bool.not_eq_true',beq_eq_false_iff_ne,beq_iff_eq,List.contains_iff_mem]at h;obtain⟨⟨⟨⟨⟨h1,h2⟩,h3⟩,h4⟩,h5⟩,h6⟩:=h;have hA:=(J3 ht w A).2 h4;have hB:=(J3 ht w B).2 h5;have hne:A≠B:=λ e=>by subst e;exact Dk _ h3
 refine .inr ⟨rfl,⟨⟨A,B,hne,hA,hB⟩,?_⟩,⟨by simp,Th h3,?_,?_⟩,by simp only;omega⟩
 ·rintro u hu (hl|⟨hl,hl'⟩)
  ·have:=Jap ht (h1 _ hl) u rfl hu;cases this
  ·have:=Jap ht h2 u hl hu;rw[hl']at this;cases this
 ·intro x hx;rcases List.mem_cons.1 hx with rfl|hx
  ·exact hA
  ·rw[List.mem_singleton.1 hx];exact hB
 ·intro x hx;rcases h6 _ ((J3 ht w x).1 hx)with (h|h)|h
  ·exact absurd rfl h
  ·exact .inl (by simp only at h;simp[h])
  ·exact .inl (by simp only at h;simp[h])
theorem Pj {t:Ab} (ht:TbK t) {r:Cb×Int} (h:GX t r):Ev (λ n=>Bg n t) r:=by
 obtain⟨z,hz,he⟩:=Ql ht;rw[GX.uniq (λ _ _=>Iff.rfl) h hz];exact he
def tkB (t:Ab):Bool:=decide (t.Rules.length<=11)&&t.Rules.all (λ r=>decide (0<=r.To)&&decide (r.To<2)&&decide (0<=r.Right)&&decide (r.Right<=63)&&decide (r.Print.length<=3)&&r.Cells.all λ c=>decide (0<=c))&&Hw t
theorem J4 {t:Ab} (h:tkB t=true):TbK t:=by
 unfold tkB at h;simp only[Jiv,Jif,decide_eq_true_eq]at h;obtain⟨⟨h1,h2⟩,h3⟩:=h;exact⟨⟨h1,λ r hr=>⟨(h2 r hr).1.1.1.1.1,(h2 r hr).1.1.1.1.2,(h2 r hr).1.1.1.2,(h2 r hr).1.1.2,(h2 r hr).1.2⟩⟩,h3,λ r hr=>(h2 r hr).2⟩
theorem Jh9 {α:Type} {f:Nat->Option α} {z:α} (d:Nat) (h:∀ k,f (k+d)=some z):Ev f z:=⟨d,λ m hm=>by obtain⟨k,rfl⟩:∃ k,m=k+d:=⟨m-d,by omega⟩;exact h k⟩
theorem Kr {a:List (List UInt8)} {b:List (List Int)} {t:Ab} (h:∀ k,EY (k+9) a b=some t):Ev (λ n=>EY n a b) t:=Jh9 9 h
theorem UG {t:Ab} (ht:TbK t) {C:List Cfg} (hC:Jan t (AP t) C=true):Ev (λ n=>Bg n t) (⟨[],[],[]⟩,0):=Pj ht (.inl ⟨rfl,JbQ ht hC⟩)
theorem Jaq:Ev (λ n=>Bg n ⟨0,0,[]⟩) (⟨[],[],[]⟩,20):=by
 unfold Bg;exact Ev.bind (Qe (t:=⟨0,0,[]⟩) (MD (by simp) (λ r hr=>by simp at hr))) (Ev.iteT (by decide +kernel) Ev.const)
def clo (t:Ab):List Cfg:=Jg4 t (AP t) 100 [cfg0] [cfg0]
theorem Jg5:Ev (λ n=>Bg n tb1) (⟨[],[],[]⟩,0):=UG (J4 (by decide +kernel)) (C:=clo tb1) (by decide +kernel)
theorem Jg6:Ev (λ n=>Bg n tb2) (⟨[1,3],[97,98],[99]⟩,50):=Pj (J4 (by decide +kernel)) (Mb (J4 (by decide +kernel)) (by decide +kernel) (by simp))
theorem Jg7:Ev (λ n=>Bg n tb3) (⟨[1],[97],[98]⟩,50):=Pj (J4 (by decide +kernel)) (Mb (J4 (by decide +kernel)) (by decide +kernel) (by simp))
theorem Jg8:Ev (λ n=>Bg n tb4) (⟨[],[],[]⟩,0):=UG (J4 (by decide +kernel)) (C:=clo tb4) (by decide +kernel)
theorem Jg9:Ev (λ n=>Bg n tb5) (⟨[1,3],[97],[98,100]⟩,50):=Pj (J4 (by decide +kernel)) (Mb (J4 (by decide +kernel)) (by decide +kernel) (by simp))
theorem Jha:Ev (λ n=>Bg n (Vl 2)) (⟨[],[],[]⟩,0):=UG (J4 (by decide +kernel)) (C:=clo (Vl 2)) (by decide +kernel)
theorem Jhb:Ev (λ n=>Bg n (Vl 4)) (⟨[1,3],[45],[97,98]⟩,50):=Pj (J4 (by decide +kernel)) (Mb (J4 (by decide +kernel)) (by decide +kernel) (by simp))
def tb6:=W9 [([97],[1]),([98],[1])]
theorem Jar {c:Cb} {b:Bool} (h:∀ k,Ft (k+40) tb6 c=some b):Ev (λ n=>Ft n tb6 c) b:=Jh9 40 h
theorem UH:Ev (λ n=>GN n) true:=by
 unfold GN;refine Ev.bind (Kr (t:=tb1) (λ _=>by kernel_rfl)) (Ev.bind Jg5 ?_);refine Ev.bind (Kr (t:=tb2) (λ _=>by kernel_rfl)) (Ev.bind Jg6 ?_);refine Ev.bind (Kr (t:=tb3) (λ _=>by kernel_rfl)) (Ev.bind Jg7 ?_);refine Ev.bind (Kr (t:=tb4) (λ _=>by kernel_rfl)) (Ev.bind Jg8 ?_);refine Ev.bind (Kr (t:=tb5) (λ _=>by kernel_rfl)) (Ev.bind Jg9 (Ev.bind Jaq ?_));refine Ev.bind (Ev.iteT rfl (Pe _ _ (by simp))) (Ev.bind (Ev.iteT rfl (Pe _ _ (by simp))) (Ev.bind (Ev.iteT rfl (Pe _ _ (by simp))) ?_));refine Ev.bind (Kr (t:=tb6) (λ _=>by kernel_rfl)) ?_;refine Ev.bind (Ev.iteT rfl (Jar (b:=true) (λ _=>by kernel_rfl))) (Ev.bind (Ev.iteT rfl (Jar (b:=false) (λ _=>by kernel_rfl))) (Ev.bind (Ev.iteT rfl (Jar (b:=false) (λ _=>by kernel_rfl))) ?_));refine Ev.bind (Ev.iteT rfl (Ev.all λ n=>(Vm n 2 (by decide)).1)) (Ev.bind (Ev.iteT rfl (Ev.bind Jha Ev.const)) ?_);refine Ev.bind (Ev.iteT rfl (Ev.all λ n=>(Vm n 4 (by decide)).1)) (Ev.bind (Ev.iteT rfl (Ev.bind Jhb Ev.const)) ?_);exact Ev.const
end Go.AI
end
section
namespace Go.AI
theorem RM {n:Int} (h:okI .u8 n):U8 n:=by
 unfold okI Lit.wf at h;have:IntKind.u8.min=0/\IntKind.u8.max=255:=by decide
 unfold U8;simp only[Jiv,decide_eq_true_eq]at h;omega
theorem Jfx {l:List Int} (h:∀ a∈l,okI .u8 a):∀ a∈l,U8 a:=λ a ha=>RM (h a ha)
theorem Xa:∀ (l:List (Ps Int)) (ts:List Int),(∀ a∈l,(okI .u8 a.a0/\okI .u8 a.a1/\okI .u8 a.a2))->(∀ a∈ts,okI .u8 a)->∃ n,E7 n l ts=some true:=λ _ _ h hl=>(Jaj UH (λ x hx=>⟨RM (h x hx).1,RM (h x hx).2.1,RM (h x hx).2.2⟩) (Jfx hl)).out
end Go.AI
end
section
namespace Go.Proofs.Ytnpikfdkjmebjaa
open Go.AI Go.ChangeShapes Go.WideShapes Go.ChangeAt Go.RowKit
theorem own:ownKnob Try.prog.godebug=none:=by kernel_rfl
set_option maxRecDepth 100000 in
theorem Jfy (os:Os) (started:os.Started) (H:Type) (enc:TypeId×Value->H) :
  ReturnsInHanded {} Try.checked os 6 .any (Rows.admitCodesSpec.pre6 enc Try.prog Try.f6 Rows.admitCodesRow.domain false) (Rows.admitCodesSpec.post enc Try.prog Try.f6 false true false false):=by
 refine returnsInHanded_of_change (C:=Try.checked) own started (by kernel_rfl) Try.func6
  (ChangeSpec.witness6 (enc:=enc) (C:=Try.checked) false ⟨#[],#[.slice none 0 0,.slice none 0 0],[]⟩ 8 (by kernel_rfl) (by kernel_rfl) (by kernel_rfl) (by kernel_rfl)) ?_
 intro W base args ds gs before hval0 hW hcnd _;have hval:∀ (j:Nat) t v,Try.f6.params[j]?=some t->args[j]?=some v->Value.okWide Try.prog W .any base t v:=hval0;have hW':=hW;obtain⟨p,q,hA0,hV,rfl,hfz,hnd⟩:=hW;have hA:DataW.TrodAll enc Try.prog W 0 (λ _=>true) true Try.f6.params.toList args.toList ds p:=hA0;have hlt:=hA.lt;rw[Try.params6]at hA hval;obtain⟨v0,vs0,d0,ds0,p0,q0,hargs,rfl,rfl,h0,r0⟩:=trodAll_cons hA;obtain⟨v1,vs1,d1,ds1,p1,q1,rfl,rfl,rfl,h1,r1⟩:=trodAll_cons r0;obtain⟨rfl,rfl,rfl⟩:=trodAll_nil r1;obtain rfl:args=#[v0,v1]:=by cases args;simp_all
 obtain⟨rfl,rfl⟩:=trodVars_none hV;obtain⟨x0,y0,z0,hc0⟩:=okWide_slice Try.underlying50 (hval 0 50 v0 rfl rfl);obtain⟨a0,k0,rep0⟩:=Vg (y:=λ a=>.sl (a.map (HL eU8))) (by rw[hc0];rfl) h0 JhS (λ _=>rfl);obtain⟨x1,y1,z1,hc1⟩:=okWide_slice Try.underlying44 (hval 1 44 v1 rfl rfl);obtain⟨a1,k1,rep1⟩:=Vg (y:=λ a=>.sl (a.map eU8)) (by rw[hc1];rfl) h1 JhQ (λ _=>rfl);clear hA0 hval0;simp only[List.append_nil]at hW' hlt;obtain⟨n,hn⟩:=Xa a0 a1 k0 k1;refine(ZB (LZ hn) (Vh rep0 (Vh rep1 Jfk))).mono λ e W' ⟨he,hg,hold⟩=>?_;subst he;exact⟨_,rfl,Wz (pv:=[]) hW' (λ _ _ _=>(trodAll_cons_mk (shut_bool Try.underlying4 _) trodAll_mk0)) (λ sp hsp=>trodAll_cons_mk (Jcn (by kernel_rfl) (by kernel_rfl) (of_decide_eq_true (by kernel_rfl)) h0 (λ p hp=>hlt p (by simp[hp])) (λ p hp=>hsp p (by simp[hp])) hold) (trodAll_cons_mk (Jcn (by kernel_rfl) (by kernel_rfl) (of_decide_eq_true (by kernel_rfl)) h1 (λ p hp=>hlt p (by simp[hp])) (λ p hp=>hsp p (by simp[hp])) hold) trodAll_mk0)) (λ _ _=>rfl) (by simp) (hg _) hold (ok_one (by kernel_rfl) rfl (okWide_bool_mk Try.underlying4 _))⟩
theorem JhU:Rows.admitCodesRow.holds Try.pinned (OpenSpec.ofChange Rows.admitCodesSpec):=
 OpenClaim.holds_of_wide 6 Try.f6 rfl rfl rfl rfl rfl rfl rfl ⟨rfl,rfl,rfl,rfl,rfl⟩ rfl rfl rfl rfl rfl (by kernel_rfl) Try.func6 (by kernel_rfl)
  (of_decide_eq_true (by kernel_rfl)) (by unfold Func.isWrapper;first|(rw[if_pos (by decide +kernel)];kernel_rfl)|(rw[if_neg (by decide +kernel)];exact⟨rfl,rfl⟩))
  (λ os started H enc _=>Jfy os started H enc)
theorem admitCodes_holds:Rows.AdmitCodesSaid:=JhU
end Go.Proofs.Ytnpikfdkjmebjaa
end
