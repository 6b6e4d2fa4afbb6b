/- The theorem: the last one of this text; part 6 of 6 of its proof. It holds with no condition beyond the given statement. -/
import Derived.Test.YtlhfdeoeeenapaaLE
import Derived.KernelRfl
import Derived.Test.YtlhfdeoeeenapaaRows
section
namespace Go.AI
def ES (r:Int):Ab:=(Fw 0 r).getD default
theorem Md (n:Nat) (k:Int) (h0:0<=k):Fw n k=some (ES (Bg k 8))/\0<=Bg k 8/\Bg k 8<8:=by
 have e:Bg k 8=k % 8:=by unfold Bg;rw[Int.tmod_eq_emod_of_nonneg h0]
 have hr:Bg k 8=0\/Bg k 8=1\/Bg k 8=2\/Bg k 8=3\/Bg k 8=4\/Bg k 8=5\/Bg k 8=6\/Bg k 8=7:=by rw[e];omega
 rcases hr with h|h|h|h|h|h|h|h
 all_goals
  refine⟨?_,by omega,by omega⟩;unfold Fw;rw[h];rfl
def SN (r:Ay):Bool:=decide (0<=r.To)&&decide (r.To<2)&&decide (0<=r.Right)&&decide (r.Right<=63)&&decide (r.Print.length<=3)
theorem PW {r:Ay} (h:SN r=true):K8 r:=by
 simp only[SN,JjY,decide_eq_true_eq]at h;obtain⟨⟨⟨⟨h1,h2⟩,h3⟩,h4⟩,h5⟩:=h;exact⟨h1,h2,h3,h4,h5⟩
def Oi (t:Ab):Bool:=decide (t.Rules.length<=8)&&t.Rules.all SN&&decide (1<=t.Modes)&&decide (t.Modes<=2)&&DM t
theorem WF {r:Int} (h:0<=r) (h':r<8):Oi (ES r)=true:=by
 have:∀ k:Nat,k<8->Oi (ES (k:Int))=true:=by decide +kernel
 have e:=this r.toNat (by omega);rwa[Int.toNat_of_nonneg h]at e
def U8 (n:Int):Prop:=0<=n/\n<256
def WG (x:Cz):Prop:=(∀ a∈x.P,U8 a)/\(∀ a∈x.C,U8 a)/\U8 x.L/\U8 x.R/\U8 x.W.a0/\U8 x.W.a1
theorem C1 {a m:Int} (h:0<=a) (hm:0<m):0<=Bg a m/\Bg a m<m:=(M7 h hm).2
theorem JR {α:Type} {l:List α} {i:Int} (h:0<=i) (h':i<l.length):∃ x,x∈l/\idx l i=some x:=by
 have hl:i.toNat<l.length:=by omega
 refine⟨l[i.toNat],JjJ hl,?_⟩;unfold idx;rw[if_pos h];exact JjX hl
theorem Jdh {α:Type} {l:List α} {i:Int} (h:0<=i) (h':i<l.length):∃ z,z.length=1/\sub l i (i+1)=some z:=by
 refine⟨(l.take (i+1).toNat).drop i.toNat,?_,?_⟩
 ·simp;omega
 ·unfold sub;rw[if_pos (by omega)]
def WH (a b:Ay):Prop:=a.Left=b.Left/\a.Right=b.Right/\a.From=b.From/\a.To=b.To
theorem Jby (x:Cz) (hx:∀ a∈x.P,U8 a) (r0:Ay) (h0:r0.Print=[]):Tot (λ n=>whl (λ (y:(Ay×Int))=>Ef n x y.1 y.2) n (r0,0)) (λ r=>r.Print.length<=3/\WH r r0):=by
 refine Tot.upto (body:=λ n y=>Ef n x y.1 y.2) (min x.P.length 3) (λ i y=>y.2=(i:Int)/\y.1.Print.length=i/\WH y.1 r0) ?_ ?_ (r0,0) ⟨rfl,by simp[h0],rfl,rfl,rfl,rfl⟩
 ·rintro i ⟨r,i'⟩ hi ⟨h1,h2,h3⟩;simp only at h1 h2 h3;subst h1;obtain⟨c,hcm,hci⟩:=JR (l:=x.P) (i:=(i:Int)) (by omega) (by omega);have hu:=hx c hcm;have hr:=C1 (m:=9) hu.1 (by omega);have hw:IntKind.i64.wrap (Bg c 9)=Bg c 9:=PT (by omega) (by omega);obtain⟨z,hz1,hz⟩:=Jdh (l:=([97,98,99,65,66,49,50,45,46]:List UInt8)) (i:=Bg c 9) hr.1 (by simpa using hr.2);unfold Ef;refine Tot.iteT (by simp only[JjY,decide_eq_true_eq];omega) (Tot.bindC hci ?_);simp only[hw];rw[KO (by omega) (by omega)];refine Tot.bindC hz (Tot.bindC (SM (by omega)) (Jjw ⟨B3 (by omega),by simp[h2,hz1],h3⟩))
 ·rintro⟨r,i'⟩ ⟨h1,h2,h3⟩;simp only at h1 h2 h3;subst h1;unfold Ef;exact Tot.iteF (by rw[← JjL];simp only[JjY,decide_eq_true_eq];omega) (Jjw ⟨by show r.Print.length<=3;omega,h3⟩)
theorem Jbz (x:Cz) (hx:∀ a∈x.C,U8 a) (r0:Ay) (h0:r0.Cells.length=1):Tot (λ n=>whl (λ (y:(Ay×Int))=>CN n x y.1 y.2) n (r0,0)) (λ r=>(r.Cells.length<=3/\1<=r.Cells.length)/\r.Print=r0.Print/\WH r r0):=by
 refine Tot.upto (body:=λ n y=>CN n x y.1 y.2) (min x.C.length 2) (λ i y=>y.2=(i:Int)/\y.1.Cells.length=i+1/\y.1.Print=r0.Print/\WH y.1 r0) ?_ ?_ (r0,0) ⟨rfl,by simp[h0],rfl,rfl,rfl,rfl,rfl⟩
 ·rintro i ⟨r,i'⟩ hi ⟨h1,h2,h3,h4⟩;simp only at h1 h2 h3 h4;subst h1;obtain⟨c,hcm,hci⟩:=JR (l:=x.C) (i:=(i:Int)) (by omega) (by omega);have hu:=hx c hcm;have hr:=C1 (m:=8) hu.1 (by omega);obtain⟨z,_,hz⟩:=JR (l:=([1,3,9,5,7,32,44,60]:List Int)) (i:=Bg c 8) hr.1 (by simpa using hr.2);unfold CN;refine Tot.iteT (by simp only[JjY,decide_eq_true_eq];omega) (Tot.bindC hci (Tot.bindC hz (Tot.bindC (M6 (by simp;omega)) (Jjw ⟨B3 (by omega),by simp[h2],h3,h4⟩))))
 ·rintro⟨r,i'⟩ ⟨h1,h2,h3,h4⟩;simp only at h1 h2 h3 h4;subst h1;unfold CN;exact Tot.iteF (by rw[← JjL];simp only[JjY,decide_eq_true_eq];omega) (Jjw ⟨by show r.Cells.length<=3/\1<=r.Cells.length;omega,h3,h4⟩)
theorem Jdi {x:Cz} (hx:WG x) {m:Int} (hm:1<=m) (hm':m<=2):Tot (λ n=>HG n x m) (λ r=>K8 r/\(r.Cells.length<=3/\1<=r.Cells.length)/\0<=r.From/\r.From<m/\0<=r.To/\r.To<m):=by
 obtain⟨hP,hC,hL,hR,hW0,hW1⟩:=hx;have l8:=C1 (m:=8) hL.1 (by omega);have r8:=C1 (m:=8) hR.1 (by omega);obtain⟨a,ham,ha⟩:=JR (l:=([63,63,2,8,17,62,4,1]:List Int)) (i:=Bg x.L 8) l8.1 (by simpa using l8.2);obtain⟨b,hbm,hb⟩:=JR (l:=([63,63,2,8,17,62,4,1]:List Int)) (i:=Bg x.R 8) r8.1 (by simpa using r8.2);have hq:0<=Za .u8 x.L 8:=by unfold Za;exact(Uf _).1
 have q8:=C1 (m:=8) hq (by omega);obtain⟨c,_,hc⟩:=JR (l:=([1,3,9,5,7,32,44,60]:List Int)) (i:=Bg (Za .u8 x.L 8) 8) q8.1 (by simpa using q8.2);have hg:BO (!(m==0))=some ():=Cd (by simp;omega);have w0:IntKind.i64.wrap x.W.a0=x.W.a0:=PT (by have:=hW0.1;omega) (by have:=hW0.2;omega);have w1:IntKind.i64.wrap x.W.a1=x.W.a1:=PT (by have:=hW1.1;omega) (by have:=hW1.2;omega);have hfr:=C1 (a:=x.W.a0) (m:=m) hW0.1 (by omega);have hto:=C1 (a:=x.W.a1) (m:=m) hW1.1 (by omega);have hbr:0<=b/\b<=63:=by
  simp at hbm;omega
 unfold HG;refine Tot.bindC ha (Tot.bindC hb (Tot.bindC hg (Tot.bindC hg (Tot.bind (Jby x hP _ rfl) ?_))));rintro r1 ⟨p1,p2,p3,p4,p5⟩;refine Tot.bindC hc (Tot.bind (Jbz x hC _ rfl) ?_);rintro r2 ⟨q1,q2,q3,q4,q5,q6⟩;simp only at q2 q3 q4 q5 q6;rw[p3]at q4;rw[p4]at q5;rw[p5]at q6;simp only[w0,w1]at q5 q6 q4;refine Jjw ⟨⟨?_,?_,?_,?_,?_⟩,q1,?_,?_,?_,?_⟩
 all_goals first|(rw[q6];omega)|(rw[q4];omega)|(rw[q5];omega)|(rw[q2];exact p1)
def Me (x:I1):Prop:=0<=x.Base/\∀ r∈x.More,WG r
structure K9 (t:Ab):Prop where
 tab:HV t
 lo:1<=t.Modes
 hi:t.Modes<=2
 valid:DM t=true
theorem K9.sound {t:Ab} (h:K9 t):∀ r∈t.Rules,B4 r t.Modes=true:=IG h.valid
theorem GA {r:Ay} {m:Int} (h:B4 r m=true):r.Print.length<=4/\1<=r.Cells.length/\r.Cells.length<=4:=by
 simp only[B4,JjY,decide_eq_true_eq]at h;omega
theorem K9.small {t:Ab} (h:K9 t):E4 t:=⟨by have:=h.tab.1;omega,λ r hr=>by have:=GA (h.sound r hr);exact⟨by omega,by omega⟩⟩
theorem JbA (x:I1) (b:Ab) (hb:b.Rules.length<=8):Tot (λ n=>whl (λ (y:(Ab×Int))=>CO n x b y.1 y.2) n (({ Modes:=b.Modes,Accept:=b.Accept,Rules:=[] }:Ab),0)) (λ t=>t.Modes=b.Modes/\t.Accept=b.Accept/\t.Rules.Sublist b.Rules):=by
 refine Tot.upto (body:=λ n y=>CO n x b y.1 y.2) b.Rules.length (λ i y=>y.2=(i:Int)/\y.1.Modes=b.Modes/\y.1.Accept=b.Accept/\y.1.Rules.Sublist (b.Rules.take i)) ?_ ?_ _ ⟨rfl,rfl,rfl,by simp⟩
 ·rintro i ⟨t,i'⟩ hi ⟨h1,h2,h3,h4⟩;simp only at h1 h2 h3 h4;subst h1;have ht:b.Rules.take (i+1)=b.Rules.take i++[b.Rules.getD i default]:=by rw[List.take_add_one,B9 hi,JjX hi];rfl
  have hlen:=h4.length_le;rw[List.length_take]at hlen;unfold CO;refine Tot.iteT (Gz hi) (Tot.bindC (Cd (by simp)) (Tot.ite (λ _=>Tot.bindC (Gy hi) (Tot.bindC (M6 (by simp;omega)) ?_)) λ _=>?_))
  ·unfold Ds;exact Jjw ⟨B3 (by omega),h2,h3,by rw[ht];exact h4.append (List.Sublist.refl _)⟩
  ·unfold Ds;exact Jjw ⟨B3 (by omega),h2,h3,by rw[ht];exact h4.trans (List.sublist_append_left _ _)⟩
 ·rintro⟨t,i'⟩ ⟨h1,h2,h3,h4⟩;simp only at h1 h2 h3 h4;subst h1;rw[List.take_length]at h4;unfold CO;exact Tot.iteF (by simp) (Jjw ⟨h2,h3,h4⟩)
structure JgZ (b t:Ab):Prop where
 modes:t.Modes=b.Modes
 accept:t.Accept=b.Accept
 rules:∀ r∈t.Rules,K8 r/\r.Cells.length<=4
 valid:t.Rules=[]\/DM t=true
theorem Rm {t:Ab} (hl:t.Rules.length<=11) (h:∀ r∈t.Rules,K8 r/\r.Cells.length<=4):E4 t:=⟨by omega,λ r hr=>⟨by have:=(h r hr).1.2.2.2.2;omega,by have:=(h r hr).2;omega⟩⟩
theorem JbB (x:I1) (hx:∀ r∈x.More,WG r) (b t0:Ab) (hlo:1<=b.Modes) (hhi:b.Modes<=2) (h0:JgZ b t0) (hl0:t0.Rules.length<=8):Tot (λ n=>whl (λ (y:(Ab×Int))=>CP n x b y.1 y.2) n (t0,0)) (λ t=>JgZ b t/\t.Rules.length<=10):=by
 refine Tot.upto (body:=λ n y=>CP n x b y.1 y.2) (min x.More.length 2) (λ i y=>y.2=(i:Int)/\JgZ b y.1/\y.1.Rules.length<=8+i) ?_ ?_ _ ⟨rfl,h0,by simpa using hl0⟩
 ·rintro i ⟨t,i'⟩ hi ⟨h1,h2,h3⟩;simp only at h1 h2 h3;subst h1;unfold CP;refine Tot.iteT (by simp only[JjY,decide_eq_true_eq];omega) (Tot.bindC (BY (by omega)) ?_);rw[h2.modes];refine Tot.bind (Jdi (hx _ (JjJ _)) hlo hhi) ?_;rintro r ⟨hr1,hr2,-⟩;refine Tot.bindC (M6 (by simp;omega)) ?_;have hall:∀ q∈t.Rules++[r],K8 q/\q.Cells.length<=4:=by
   intro q hq;simp only[List.mem_append,List.mem_singleton]at hq;rcases hq with hq|rfl
   ·exact h2.rules q hq
   ·exact⟨hr1,by omega⟩
  refine Jjx (Jbx (Rm (t:=⟨b.Modes,t.Accept,t.Rules++[r]⟩) (by simp;omega) hall)) ?_;refine Tot.ite (λ _=>?_) λ hv=>?_
  ·have e:KW .i64 ((List.length (t.Rules++[r]):Nat):Int) 1=(t.Rules.length:Nat):=by
    rw[Un (by simp<;>omega) (by simp<;>omega)];simp
   rw[e];refine Tot.bindC (WD (by simp)) ?_;unfold Dt;rw[List.take_left' rfl];exact Jjw ⟨B3 (by omega),⟨rfl,h2.accept,h2.rules,by have:=h2.valid;have hm:=h2.modes;cases t;simp only at hm this⊢;subst hm;exact this⟩,by simp only;omega⟩
  ·unfold Dt;exact Jjw ⟨B3 (by omega),⟨rfl,h2.accept,hall,.inr (by simpa using hv)⟩,by simp;omega⟩
 ·rintro⟨t,i'⟩ ⟨h1,h2,h3⟩;simp only at h1 h2 h3;subst h1;unfold CP;exact Tot.iteF (by rw[← JjL];simp only[JjY,decide_eq_true_eq];omega) (Jjw ⟨h2,by show t.Rules.length<=10;omega⟩)
theorem Ym {x:I1} (hx:Me x):∃ t,(K9 t/\1<=t.Rules.length/\t.Rules.length<=10)/\Ev (λ n=>FA n x) t:=by
 have hb:∀ n,Fw n x.Base=some (ES (Bg x.Base 8)):=λ n=>(Md n x.Base hx.1).1;have hok:=WF (Md 0 x.Base hx.1).2.1 (Md 0 x.Base hx.1).2.2;generalize ES (Bg x.Base 8)=b at *;unfold Oi at hok;simp only[JjY,decide_eq_true_eq,JjH]at hok;obtain⟨⟨⟨⟨o1,o2⟩,o3⟩,o4⟩,o5⟩:=hok;have gb:∀ r∈b.Rules,K8 r/\r.Cells.length<=4:=λ r hr=>⟨PW (o2 r hr),(GA (IG o5 r hr)).2.2⟩;have hne:∀ t:Ab,DM t=true->1<=t.Rules.length:=λ t h=>by
  unfold DM Uv at h;simp only[JjY,Bool.not_eq_true',JjW,decide_eq_false_iff_not]at h;omega
 have:Tot (λ n=>FA n x) (λ t=>K9 t/\1<=t.Rules.length/\t.Rules.length<=10):=by
  unfold FA;refine Jjy hb (Tot.bind (JbA x b o1) ?_);rintro t1 ⟨a1,a2,a3⟩;refine Tot.bind (JbB x hx.2 b t1 o3 o4 ⟨a1,a2,λ r hr=>gb r (a3.subset hr),?_⟩ (by have:=a3.length_le;omega)) ?_
  ·rcases Nat.eq_zero_or_pos t1.Rules.length with h|h
   ·exact .inl (List.length_eq_zero_iff.1 h)
   ·right;have:=VX o5 a3 h;cases t1;simp only at a1 a2 this⊢;subst a1 a2;exact this
  rintro t2 ⟨b1,b2⟩;refine Tot.ite (λ h=>?_) λ h=>?_
  ·unfold Eg;have e:(⟨t2.Modes,t2.Accept,b.Rules⟩:Ab)=b:=by rw[b1.modes,b1.accept]
   rw[e];exact Jjw ⟨⟨⟨by omega,λ r hr=>(gb r hr).1⟩,o3,o4,o5⟩,hne b o5,by omega⟩
  ·unfold Eg;have hv:DM t2=true:=b1.valid.resolve_left λ e=>by rw[e]at h;cases h
   exact Jjw ⟨⟨⟨by omega,λ r hr=>(b1.rules r hr).1⟩,by rw[b1.modes];exact o3,by rw[b1.modes];exact o4,hv⟩,hne t2 hv,b2⟩
 obtain⟨t,ht,hE⟩:=this;exact⟨t,ht,hE⟩
end Go.AI
end
section
namespace Go.AI
def EK (t:Ab) (k:Int):Ay:=t.Rules[k.toNat]?.getD default
theorem Mf {t:Ab} {s:Ae} {k:Int} (h:(Bo t s k).2=true):0<=k/\k<t.Rules.length:=by
 unfold Bo at h;split at h
 ·cases h
 ·rename_i hk;simp only[Jkg,decide_eq_true_eq,not_or]at hk;omega
theorem PX {t:Ab} {k:Int} (h:0<=k) (h':k<t.Rules.length):idx t.Rules k=some (EK t k):=PV h h'
theorem PY {t:Ab} {k:Int} (h:0<=k) (h':k<t.Rules.length):EK t k∈t.Rules:=by
 unfold EK;rw[JjX (by omega)];exact JjJ _
end Go.AI
end
section
namespace Go.AI
theorem WI {st:List Ae} (hn:st.Nodup) {i j:Nat} {s:Ae} (h:st[i]?=some s) (h':st[j]?=some s):i=j:=by
 have a:=CZ hn h;rw[CZ hn h']at a;cases a;rfl
theorem D0 {i:Nat} (h:i<9223372036854775807):AX .i64 (i:Int) 1=((i+1:Nat):Int):=by
 rw[PU (by omega) (by omega)];rfl
end Go.AI
end
section
namespace Go.AI
def Edge (t:Ab) (st:List Ae) (i:Nat) (k:Nat) (j:Nat):Prop:=∃ s s',st[i]?=some s/\k<t.Rules.length/\st[j]?=some s'/\Bo t s (k:Nat)=(s',true)
inductive Uw (t:Ab) (st:List Ae):Nat->Prop
 | acc (i:Nat) (s:Ae) (h:st[i]?=some s) (ha:Bf t s=true):Uw t st i
 | step (i k j:Nat) (h:Edge t st i k j) (hj:Uw t st j):Uw t st i
def PZ (t:Ab) (st:List Ae) (l:List Bool):Prop:=l.length=st.length/\∀ i:Nat,l[i]?=some true↔Uw t st i
theorem Uw.lt {t:Ab} {st:List Ae} {i:Nat} (h:Uw t st i):i<st.length:=by
 cases h with
 | acc _ s h ha=>exact AA h
 | step _ k j h hj=>obtain⟨s,s',h,_⟩:=h;exact AA h
theorem PZ.uniq {t:Ab} {st:List Ae} {l m:List Bool} (h:PZ t st l) (h':PZ t st m):l=m:=by
 refine List.ext_getElem? λ i=>?_;rcases JjN i st.length with hi|hi
 ·have h1:i<l.length:=by rw[h.1];exact hi
  have h2:i<m.length:=by rw[h'.1];exact hi
  have e:=(h.2 i).trans (h'.2 i).symm;rw[JjX h1,JjX h2]at e⊢;cases ha:l[i]<;>cases hb:m[i]<;>simp_all
 ·rw[List.getElem?_eq_none_iff.2 (by rw[h.1];exact hi),List.getElem?_eq_none_iff.2 (by rw[h'.1];exact hi)]
theorem PZ.of {t:Ab} {st:List Ae} {l:List Bool} (hl:l.length=st.length) (hs:∀ i,l[i]?=some true->Uw t st i) (ha:∀ (i:Nat) s,st[i]?=some s->Bf t s=true->l[i]?=some true) (hc:∀ i k j,Edge t st i k j->l[j]?=some true->l[i]?=some true):PZ t st l:=by
 refine⟨hl,λ i=>⟨hs i,λ h=>?_⟩⟩;induction h with
 | acc i s h h'=>exact ha i s h h'
 | step i k j h _ ih=>exact hc i k j h ih
def JiD (l:List Bool):Nat:=l.count false
structure JbC (t:Ab) (st:List Ae) (out0 out:List Bool) (g:Bool) (i m:Nat):Prop where
 len:out.length=st.length
 snd:∀ j:Nat,out[j]?=some true->Uw t st j
 acc:∀ (j:Nat) s,st[j]?=some s->Bf t s=true->out[j]?=some true
 same:g=false->out=out0
 less:g=true->JiD out<JiD out0
 cl:g=false->∀ i' k j,(i'<i\/(i'=i/\k<m))->Edge t st i' k j->out[j]?=some true->out[i']?=some true
theorem JbC.stop {t:Ab} {st:List Ae} {out0 out:List Bool} {g:Bool} {i m:Nat} (h:JbC t st out0 out g i m) (hm:t.Rules.length<=m\/out[i]?=some true):JbC t st out0 out g (i+1) 0:=by
 refine⟨h.len,h.snd,h.acc,h.same,h.less,λ hg i' k j hi he hj=>?_⟩;rcases JjN i' i with hlt|hge
 ·exact h.cl hg i' k j (.inl hlt) he hj
 ·have:i'=i:=by omega
  subst this;rcases hm with hm|hm
  ·obtain⟨s,s',_,hk,_⟩:=id he;exact h.cl hg i' k j (.inr ⟨rfl,by omega⟩) he hj
  ·exact hm
end Go.AI
end
section
namespace Go.AI
def ldT:List UInt8->List UInt8->Int×List UInt8
 | [],[]=>(0,[])
 | a::x,[]=>(1,a::x)
 | [],b::y=>(2,b::y)
 | a::x,b::y=>if a=b then ldT x y else(3,[])
def P0 (l:Int×List UInt8) (p q:List UInt8):Int×List UInt8:=
 if l.1=1 then ldT (l.2++p) q else if l.1=2 then ldT p (l.2++q)else if l.1=3 then l else ldT p q
def swT (l:Int×List UInt8):Int×List UInt8:=if l.1=1 then(2,l.2)else if l.1=2 then(1,l.2)else l
def Ux (l:Int×List UInt8):Prop:=(l.1=0/\l.2=[])\/(l.1=1/\l.2≠[])\/(l.1=2/\l.2≠[])\/(l.1=3/\l.2=[])
theorem JbD:∀ x y,Ux (ldT x y)
 | [],[]=>.inl ⟨rfl,rfl⟩
 | a::x,[]=>.inr (.inl ⟨rfl,by simp[ldT]⟩)
 | [],b::y=>.inr (.inr (.inl ⟨rfl,by simp[ldT]⟩))
 | a::x,b::y=>by
  unfold ldT;split
  ·exact JbD x y
  ·exact .inr (.inr (.inr ⟨rfl,rfl⟩))
theorem JS (a b:UInt8) (x y:List UInt8):ldT (a::x) (b::y)=if a=b then ldT x y else(3,[]):=rfl
theorem Mg:∀ (x y p q:List UInt8),ldT (x++p) (y++q)=P0 (ldT x y) p q
 | [],[],p,q=>rfl
 | a::x,[],p,q=>rfl
 | [],b::y,p,q=>rfl
 | a::x,b::y,p,q=>by
  show ldT (a::(x++p)) (b::(y++q))=_;rw[JS,JS];split
  ·exact Mg x y p q
  ·rfl
theorem JT:∀ x y,ldT y x=swT (ldT x y)
 | [],[]=>rfl
 | a::x,[]=>rfl
 | [],b::y=>rfl
 | a::x,b::y=>by
  rw[JS,JS];by_cases h:a=b
  ·subst h;rw[if_pos rfl,if_pos rfl];exact JT x y
  ·rw[if_neg h,if_neg (Ne.symm h)];rfl
theorem P1:∀ {x y:List UInt8},(ldT x y).1=0↔x=y
 | [],[]=>by simp[ldT]
 | a::x,[]=>by simp[ldT]
 | [],b::y=>by simp[ldT]
 | a::x,b::y=>by
  rw[JS];split
  ·rename_i h;subst h;rw[P1];simp
  ·rename_i h;simp[h]
theorem Yn {l:Int×List UInt8} (h:Ux l) (p q:List UInt8):P0 (swT l) q p=swT (P0 l p q):=by
 obtain⟨s,t⟩:=l;rcases h with⟨h1,h2⟩|⟨h1,h2⟩|⟨h1,h2⟩|⟨h1,h2⟩<;>simp only at h1 h2<;>subst h1
 ·exact JT p q
 ·exact JT (t++p) q
 ·exact JT p (t++q)
 ·rfl
theorem Yo {l m:Int×List UInt8} (hl:Ux l) (hm:Ux m) {p q:List UInt8} (h1:(P0 l p q).1=0) (h2:(P0 m p q).1=0):l=m:=by
 have key:∀ {l:Int×List UInt8},Ux l->(P0 l p q).1=0->(l.1=0/\l.2=[]/\p=q)\/(l.1=1/\l.2≠[]/\l.2++p=q)\/(l.1=2/\l.2≠[]/\p=l.2++q):=by
  intro l hl h;obtain⟨s,t⟩:=l;rcases hl with⟨e1,e2⟩|⟨e1,e2⟩|⟨e1,e2⟩|⟨e1,e2⟩<;>simp only at e1 e2<;>subst e1
  ·exact .inl ⟨rfl,e2,P1.1 h⟩
  ·exact .inr (.inl ⟨rfl,e2,P1.1 h⟩)
  ·exact .inr (.inr ⟨rfl,e2,P1.1 h⟩)
  ·exact absurd (show(3:Int)=0 from h) (by decide)
 have hlen:∀ {t:List UInt8},t≠[]->0<t.length:=λ h=>List.length_pos_iff.2 h;rcases key hl h1 with⟨a1,a2,a3⟩|⟨a1,a2,a3⟩|⟨a1,a2,a3⟩<;>rcases key hm h2 with⟨b1,b2,b3⟩|⟨b1,b2,b3⟩|⟨b1,b2,b3⟩
 ·exact Prod.ext (by rw[a1,b1]) (by rw[a2,b2])
 ·have:=hlen b2;have:=congrArg List.length b3;have:=congrArg List.length a3;simp only[List.length_append]at *;omega
 ·have:=hlen b2;have:=congrArg List.length b3;have:=congrArg List.length a3;simp only[List.length_append]at *;omega
 ·have:=hlen a2;have:=congrArg List.length b3;have:=congrArg List.length a3;simp only[List.length_append]at *;omega
 ·exact Prod.ext (by rw[a1,b1]) (List.append_cancel_right (a3.trans b3.symm))
 ·have:=hlen a2;have:=hlen b2;have:=congrArg List.length b3;have:=congrArg List.length a3;simp only[List.length_append]at *;omega
 ·have:=hlen a2;have:=congrArg List.length b3;have:=congrArg List.length a3;simp only[List.length_append]at *;omega
 ·have:=hlen a2;have:=hlen b2;have:=congrArg List.length b3;have:=congrArg List.length a3;simp only[List.length_append]at *;omega
 ·exact Prod.ext (by rw[a1,b1]) (List.append_cancel_right (a3.symm.trans b3))
structure Ac where
 p:List UInt8
 c:List Int
 to:Nat
abbrev Hf:=Nat×List Int
inductive Sp (A:Nat->Ac->Prop):Hf->Int->List UInt8->Hf->Prop
 | rest (k:Nat) (c:Int) (r:List Int):Sp A (k,c::r) c [] (k,r)
 | arc {k:Nat} {a:Ac} {c:Int} {r:List Int} (h:A k a) (hc:a.c=c::r):Sp A (k,[]) c a.p (a.to,r)
inductive Rn (A:Nat->Ac->Prop):Hf->List Int->List UInt8->Hf->Prop
 | nil (h:Hf):Rn A h [] [] h
 | cons {h h' h'':Hf} {c:Int} {w:List Int} {p x:List UInt8} (h1:Sp A h c p h') (h2:Rn A h' w x h''):Rn A h (c::w) (p++x) h''
theorem Rn.one {A:Nat->Ac->Prop} {h h':Hf} {c:Int} {p:List UInt8} (s:Sp A h c p h'):Rn A h [c] p h':=by
 have:=Rn.cons s (Rn.nil (A:=A) h');rwa[List.append_nil]at this
theorem Rn.app {A:Nat->Ac->Prop} {h h' h'':Hf} {w v:List Int} {x y:List UInt8} (h1:Rn A h w x h') (h2:Rn A h' v y h''):Rn A h (w++v) (x++y) h'':=by
 induction h1 with
 | nil h=>exact h2
 | cons s _ ih=>have:=Rn.cons s (ih h2);rwa[← List.append_assoc]at this
theorem Rn.inv {A:Nat->Ac->Prop} {h h':Hf} {x:List UInt8} {c:Int} {w:List Int} (H:Rn A h (c::w) x h'):∃ h1 p y,Sp A h c p h1/\Rn A h1 w y h'/\x=p++y:=by
 cases H with
 | cons s r=>exact⟨_,_,_,s,r,rfl⟩
theorem Rn.inv0 {A:Nat->Ac->Prop} {h h':Hf} {x:List UInt8} (H:Rn A h [] x h'):h'=h/\x=[]:=by
 cases H;exact⟨rfl,rfl⟩
def En (A:Nat->Ac->Prop) (acc:Nat->Prop) (h:Hf) (w:List Int) (x:List UInt8):Prop:=∃ k,Rn A h w x (k,[])/\acc k
def Amb (A:Nat->Ac->Prop) (acc:Nat->Prop) (w:List Int):Prop:=∃ x y,x≠y/\En A acc (0,[]) w x/\En A acc (0,[]) w y
def Rch (A:Nat->Ac->Prop) (w:List Int) (a b:Hf) (l:Int×List UInt8):Prop:=∃ x y,Rn A (0,[]) w x a/\Rn A (0,[]) w y b/\ldT x y=l
theorem Rch.ok {A:Nat->Ac->Prop} {w:List Int} {a b:Hf} {l:Int×List UInt8} (h:Rch A w a b l):Ux l:=by obtain⟨x,y,_,_,rfl⟩:=h;exact JbD x y
theorem Rch.swap {A:Nat->Ac->Prop} {w:List Int} {a b:Hf} {l:Int×List UInt8} (h:Rch A w a b l):Rch A w b a (swT l):=by
 obtain⟨x,y,h1,h2,rfl⟩:=h;exact⟨y,x,h2,h1,JT x y⟩
theorem Rch.step {A:Nat->Ac->Prop} {w:List Int} {a b a' b':Hf} {l:Int×List UInt8} {c:Int} {p q:List UInt8} (h:Rch A w a b l) (h1:Sp A a c p a') (h2:Sp A b c q b'):Rch A (w++[c]) a' b' (P0 l p q):=by
 obtain⟨x,y,g1,g2,rfl⟩:=h;exact⟨x++p,y++q,g1.app (Rn.one h1),g2.app (Rn.one h2),Mg x y p q⟩
def Gd (A:Nat->Ac->Prop) (acc:Nat->Prop) (a b:Hf) (l:Int×List UInt8) (v:List Int):Prop:=∃ p q,En A acc a v p/\En A acc b v q/\(P0 l p q).1≠0
theorem Gd.swap {A:Nat->Ac->Prop} {acc:Nat->Prop} {v:List Int} {a b:Hf} {l:Int×List UInt8} (hl:Ux l) (g:Gd A acc a b l v):Gd A acc b a (swT l) v:=by
 obtain⟨p,q,g1,g2,g3⟩:=g;refine⟨q,p,g2,g1,?_⟩;rw[Yn hl];unfold swT;split
 ·simp
 ·split
  ·simp
  ·exact g3
theorem Amb.gd {A:Nat->Ac->Prop} {acc:Nat->Prop} {w:List Int} (h:Amb A acc w):Gd A acc (0,[]) (0,[]) (0,[]) w:=by
 obtain⟨x,y,h1,h2,h3⟩:=h;exact⟨x,y,h2,h3,λ e=>h1 (P1.1 e)⟩
theorem Gd.next {A:Nat->Ac->Prop} {acc:Nat->Prop} {a b:Hf} {w:List Int} {l:Int×List UInt8} {c:Int} {v:List Int} (h:Rch A w a b l) (g:Gd A acc a b l (c::v)):∃ p q a' b',Sp A a c p a'/\Sp A b c q b'/\Gd A acc a' b' (P0 l p q) v:=by
 obtain⟨x,y,h1,h2,rfl⟩:=h;obtain⟨p,q,⟨k,g1,g2⟩,⟨k',g3,g4⟩,g5⟩:=g;obtain⟨a',p1,p2,s1,r1,rfl⟩:=g1.inv;obtain⟨b',q1,q2,s2,r2,rfl⟩:=g3.inv;refine⟨p1,q1,a',b',s1,s2,p2,q2,⟨k,r1,g2⟩,⟨k',r2,g4⟩,?_⟩;rw[← Mg,← List.append_assoc,← List.append_assoc,Mg,Mg]at g5;exact g5
def Cov (R:(Int×List UInt8)->Prop) (l:Int×List UInt8):Prop:=R l\/R (3,[])\/∃ m m',R m/\R m'/\m≠m'
theorem Cov.gd {A:Nat->Ac->Prop} {acc:Nat->Prop} {R:(Int×List UInt8)->Prop} {l:Int×List UInt8} (h:Cov R l) (hR:∀ m,R m->Ux m) {a b:Hf} {v:List Int} (g:Gd A acc a b l v):∃ m,R m/\Gd A acc a b m v:=by
 rcases h with h|h|⟨m,m',h1,h2,h3⟩
 ·exact⟨l,h,g⟩
 ·obtain⟨p,q,g1,g2,_⟩:=g;exact⟨_,h,p,q,g1,g2,by simp[P0]⟩
 ·obtain⟨p,q,g1,g2,_⟩:=g;by_cases e:(P0 m p q).1=0
  ·exact⟨m',h2,p,q,g1,g2,λ e'=>h3 (Yo (hR m h1) (hR m' h2) e e')⟩
  ·exact⟨m,h1,p,q,g1,g2,e⟩
def ltL:List Int->List Int->Bool
 | [],[]=>false
 | [],_::_=>true
 | _::_,[]=>false
 | a::x,b::y=>decide (a<b)||(a==b&&ltL x y)
def ltW (x y:List Int):Prop:=x.length<y.length\/(x.length=y.length/\ltL x y=true)
theorem WJ:∀ {x y:List Int},x.length=y.length->ltL x y=true\/x=y\/ltL y x=true
 | [],[],_=>.inr (.inl rfl)
 | [],_::_,h=>by simp at h
 | _::_,[],h=>by simp at h
 | a::x,b::y,h=>by
  simp only[ltL,Jkg,decide_eq_true_eq,JjY,beq_iff_eq];rcases Int.lt_trichotomy a b with h1|rfl|h1
  ·exact .inl (.inl h1)
  ·rcases WJ (by simpa using h:x.length=y.length)with h2|rfl|h2
   ·exact .inl (.inr ⟨rfl,h2⟩)
   ·exact .inr (.inl rfl)
   ·exact .inr (.inr (.inr ⟨rfl,h2⟩))
  ·exact .inr (.inr (.inl h1))
theorem WK (x y:List Int):ltW x y\/x=y\/ltW y x:=by
 rcases Nat.lt_trichotomy x.length y.length with h|h|h
 ·exact .inl (.inl h)
 ·rcases WJ h with h1|h1|h1
  ·exact .inl (.inr ⟨h,h1⟩)
  ·exact .inr (.inl h1)
  ·exact .inr (.inr (.inr ⟨h.symm,h1⟩))
 ·exact .inr (.inr (.inl h))
def Lst (A:Nat->Ac->Prop) (acc:Nat->Prop) (w:List Int):Prop:=Amb A acc w/\∀ u,Amb A acc u->¬ltW u w
theorem Lst.uniq {A:Nat->Ac->Prop} {acc:Nat->Prop} {w u:List Int} (h:Lst A acc w) (h':Lst A acc u):w=u:=by
 rcases WK w u with h1|h1|h1
 ·exact absurd h1 (h'.2 w h.1)
 ·exact h1
 ·exact absurd h1 (h.2 u h'.1)
end Go.AI
end
section
namespace Go.AI
def prt (t:Ab) (k:Nat):List UInt8:=(EK t (k:Int)).Print
def cls (t:Ab) (k:Nat):List Int:=(EK t (k:Int)).Cells
theorem Sp.inv {A:Nat->Ac->Prop} {h x:Hf} {c:Int} {p:List UInt8} (H:Sp A h c p x):(∃ r,h.2=c::r/\p=[]/\x=(h.1,r))\/(h.2=[]/\∃ a r,A h.1 a/\a.c=c::r/\p=a.p/\x=(a.to,r)):=by
 cases H with
 | rest k c r=>exact .inl ⟨r,rfl,rfl,rfl⟩
 | arc h hc=>exact .inr ⟨rfl,_,_,h,hc,rfl,rfl⟩
theorem Rn.rest {A:Nat->Ac->Prop} (k:Nat) (r:List Int):Rn A (k,r) r [] (k,[]):=by
 induction r with
 | nil=>exact .nil _
 | cons c r ih=>have:=Rn.cons (Sp.rest (A:=A) k c r) ih;simpa using this
theorem Rn.skip {A:Nat->Ac->Prop} {k k':Nat}:∀ {r w:List Int} {x:List UInt8},Rn A (k,r) w x (k',[])->∃ w',w=r++w'/\Rn A (k,[]) w' x (k',[])
 | [],w,x,h=>⟨w,rfl,h⟩
 | c::r,[],x,h=>by have:=h.inv0.1;cases this
 | c::r,c'::w,x,h=>by
  obtain⟨h1,p,y,s,h2,rfl⟩:=h.inv;rcases s.inv with⟨r',e1,rfl,rfl⟩|⟨e1,_⟩
  ·have e1:c::r=c'::r':=e1;cases e1;obtain⟨w',rfl,h3⟩:=Rn.skip h2;exact⟨w',rfl,h3⟩
  ·cases e1
theorem Rn.arc {A:Nat->Ac->Prop} {k:Nat} {a:Ac} (h:A k a) (hc:a.c≠[]):Rn A (k,[]) a.c a.p (a.to,[]):=by
 cases hcc:a.c with
 | nil=>exact absurd hcc hc
 | cons c r=>have:=Rn.cons (Sp.arc h hcc) (Rn.rest (A:=A) a.to r);simpa using this
theorem En.arcs {A:Nat->Ac->Prop} {acc:Nat->Prop} (hA:∀ k a,A k a->a.c≠[]) {k:Nat} {v:List Int} {x:List UInt8}:En A acc (k,[]) v x↔(v=[]/\x=[]/\acc k)\/∃ a v' x',A k a/\v=a.c++v'/\x=a.p++x'/\En A acc (a.to,[]) v' x':=by
 constructor
 ·rintro⟨k',h1,h2⟩;cases v with
  | nil=>
   obtain⟨e1,e2⟩:=h1.inv0;cases e1;exact .inl ⟨rfl,e2,h2⟩
  | cons c v=>
   obtain⟨h,p,y,s,r,rfl⟩:=h1.inv;rcases s.inv with⟨r',e1,_⟩|⟨_,a,r',ha,hc,rfl,rfl⟩
   ·cases e1
   ·obtain⟨w',rfl,h3⟩:=Rn.skip r;exact .inr ⟨a,w',y,ha,by rw[hc];rfl,rfl,k',h3,h2⟩
 ·rintro (⟨rfl,rfl,h⟩|⟨a,v',x',ha,rfl,rfl,k',h1,h2⟩)
  ·exact⟨k,.nil _,h⟩
  ·exact⟨k',(Rn.arc ha (hA k a ha)).app h1,h2⟩
end Go.AI
end
section
namespace Go.AI
def JU (t:Ab) (s:Ae):List Int->Ae->Prop
 | [],s'=>s=s'
 | k::p,s'=>(Bo t s k).2=true/\JU t (Bo t s k).1 p s'
theorem JU.snoc {t:Ab}:∀ {p:List Int} {s s':Ae} {k:Int},JU t s p s'->(Bo t s' k).2=true->JU t s (p++[k]) (Bo t s' k).1
 | [],s,s',k,h,h'=>by
  unfold JU at h;subst h;exact⟨h',rfl⟩
 | a::p,s,s',k,h,h'=>⟨h.1,JU.snoc h.2 h'⟩
theorem JU.mem {t:Ab}:∀ {p:List Int} {s s':Ae},JU t s p s'->∀ k∈p,0<=k/\k<t.Rules.length
 | [],_,_,_,k,hk=>by cases hk
 | a::p,s,s',h,k,hk=>by
  rcases List.mem_cons.1 hk with rfl|hk
  ·exact Mf h.1
  ·exact JU.mem h.2 k hk
def La (t:Ab) (p:List Int):List UInt8:=p.flatMap λ k=>(EK t k).Print
def cellsOf (t:Ab) (p:List Int):List Int:=p.flatMap λ k=>(EK t k).Cells
end Go.AI
end
section
namespace Go.AI
theorem Yp {r:Ay} {m:Int} (h:B4 r m=true):(∀ b∈r.Print,FQ b=true)/\(∀ c∈r.Cells,c<63)/\r.Cells.countP (λ c=>c==0)=r.Print.countP CK:=by
 unfold B4 at h;simp only[JjY,JjH,decide_eq_true_eq]at h;obtain⟨⟨⟨⟨⟨⟨h1,_⟩,_⟩,_⟩,_⟩,h2⟩,h3⟩:=h;refine⟨h1,h2,?_⟩;cases hs:r.Print.any CK with
 | true=>
  rw[hs]at h3;simp only[cond_true,JjY,decide_eq_true_eq]at h3;obtain⟨⟨a,b⟩,c⟩:=h3;obtain⟨x,hx⟩:=List.length_eq_one_iff.1 a;obtain⟨y,hy⟩:=List.length_eq_one_iff.1 b;rw[hx]at hs⊢;rw[hy]at c⊢;simp only[List.any_cons,List.any_nil,Bool.or_false]at hs c;simp[hs,c]
 | false=>
  rw[hs]at h3;simp only[cond_false,Bool.not_eq_true']at h3;rw[List.any_eq_false]at h3 hs;rw[List.countP_eq_zero.2 h3,List.countP_eq_zero.2 hs]
end Go.AI
end
section
namespace Go.AI
def ltB (a b:List UInt8):Prop:=Op.bytesLess a b=true
theorem SO (a:List UInt8):¬ltB a []:=by cases a<;>simp[ltB,Op.bytesLess]
theorem HZ {a b:UInt8} {x y:List UInt8}:ltB (a::x) (b::y)↔a<b\/(a=b/\ltB x y):=by
 simp[ltB,Op.bytesLess]
theorem C2:∀ a:List UInt8,¬ltB a a
 | []=>SO _
 | a::x=>by
  rw[HZ];rintro (h|⟨_,h⟩)
  ·exact UInt8.lt_irrefl a h
  ·exact C2 x h
theorem Kd:∀ {a b c:List UInt8},ltB a b->ltB b c->ltB a c
 | a,[],c,h,_=>absurd h (SO a)
 | _,_::_,[],_,h=>absurd h (SO _)
 | [],_::_,_::_,_,_=>rfl
 | a::x,b::y,c::z,h,h'=>by
  rw[HZ]at *;rcases h with h|⟨rfl,h⟩
  ·rcases h' with h'|⟨rfl,_⟩
   ·exact .inl (UInt8.lt_trans h h')
   ·exact .inl h
  ·rcases h' with h'|⟨rfl,h'⟩
   ·exact .inl h'
   ·exact .inr ⟨rfl,Kd h h'⟩
theorem Ke:∀ (a b:List UInt8),a=b\/ltB a b\/ltB b a
 | [],[]=>.inl rfl
 | [],_::_=>.inr (.inl rfl)
 | _::_,[]=>.inr (.inr rfl)
 | a::x,b::y=>by
  rw[HZ,HZ];by_cases h:a=b
  ·subst h;rcases Ke x y with rfl|h|h
   ·exact .inl rfl
   ·exact .inr (.inl (.inr ⟨rfl,h⟩))
   ·exact .inr (.inr (.inr ⟨rfl,h⟩))
  ·rcases Nat.lt_or_gt_of_ne (λ e=>h (UInt8.toNat_inj.1 e))with h1|h1
   ·exact .inr (.inl (.inl (UInt8.lt_iff_toNat_lt.2 h1)))
   ·exact .inr (.inr (.inl (UInt8.lt_iff_toNat_lt.2 h1)))
theorem Ro {a b:List UInt8} (h:ltB a b):¬ltB b a:=λ h'=>C2 a (Kd h h')
theorem SP (c:List UInt8) {a b:List UInt8}:ltB (c++a) (c++b)↔ltB a b:=by
 induction c with
 | nil=>rfl
 | cons x c ih=>
  rw[List.cons_append,List.cons_append,HZ,ih];exact⟨λ h=>h.elim (λ h=>absurd h (UInt8.lt_irrefl x)) λ h=>h.2,λ h=>.inr ⟨rfl,h⟩⟩
def WL (l:List (List UInt8)):Prop:=l.Pairwise ltB
theorem WL.ext:∀ {l m:List (List UInt8)},WL l->WL m->(∀ x,x∈l↔x∈m)->l=m
 | [],[],_,_,_=>rfl
 | [],b::m,_,_,h=>by have:=(h b).2 (by simp);cases this
 | a::l,[],_,_,h=>by have:=(h a).1 (by simp);cases this
 | a::l,b::m,hl,hm,h=>by
  have h1:=List.pairwise_cons.1 hl;have h2:=List.pairwise_cons.1 hm;have e:a=b:=by
   rcases List.mem_cons.1 ((h a).1 (by simp))with e|e
   ·exact e
   ·rcases List.mem_cons.1 ((h b).2 (by simp))with e'|e'
    ·exact e'.symm
    ·exact absurd (h1.1 b e') (Ro (h2.1 a e))
  subst e;congr 1;refine WL.ext h1.2 h2.2 λ x=>⟨λ hx=>?_,λ hx=>?_⟩
  ·rcases List.mem_cons.1 ((h x).1 (by simp[hx]))with e|e
   ·subst e;exact absurd (h1.1 x hx) (C2 x)
   ·exact e
  ·rcases List.mem_cons.1 ((h x).2 (by simp[hx]))with e|e
   ·subst e;exact absurd (h2.1 x hx) (C2 x)
   ·exact e
end Go.AI
end
section
namespace Go.AI
def WrT (t:Ab) (w:List Int) (x:List UInt8):Prop:=∃ p s,JU t BX p s/\Bf t s=true/\cellsOf t p=w/\La t p=x
def JbE (t:Ab) (w:List Int):Prop:=∃ x y,x≠y/\WrT t w x/\WrT t w y
def Jg0 (t:Ab) (w:List Int):Prop:=JbE t w/\∀ u,JbE t u->¬ltW u w
structure TbK (t:Ab):Prop where
 tab:HV t
 valid:DM t=true
 pos:∀ r∈t.Rules,∀ c∈r.Cells,0<=c
theorem TbK.sound {t:Ab} (h:TbK t):∀ r∈t.Rules,B4 r t.Modes=true:=IG h.valid
theorem TbK.small {t:Ab} (h:TbK t):E4 t:=Rm h.tab.1 λ r hr=>⟨h.tab.2 r hr,(GA (h.sound r hr)).2.2⟩
theorem IH (t:Ab) (k:Int) (p:List Int):cellsOf t (k::p)=(EK t k).Cells++cellsOf t p:=rfl
theorem Uy (t:Ab) (k:Int) (p:List Int):La t (k::p)=(EK t k).Print++La t p:=rfl
end Go.AI
end
section
namespace Go.AI
theorem Mh {σ ρ:Type} {body:σ->Option (σ⊕ρ)} (I:σ->Prop) (P:ρ->Prop) (h1:∀ x y,I x->body x=some (.inl y)->I y) (h2:∀ x r,I x->body x=some (.inr r)->P r):∀ (n:Nat) (x:σ) (r:ρ),I x->whl body n x=some r->P r
 | 0,_,_,_,h=>by cases h
 | n+1,x,r,hI,h=>by
  unfold whl at h;cases hb:body x with
  | none=>rw[hb]at h;cases h
  | some y=>
   rw[hb]at h;cases y with
   | inl y=>exact Mh I P h1 h2 n y r (h1 x y hI hb) h
   | inr z=>cases h;exact h2 x _ hI hb
def N3 (r:Ay):Prop:=∀ c∈r.Cells,0<=c
theorem WM {α:Type} {l:List α} {i:Int} {x:α} (h:idx l i=some x):x∈l:=JjZ (Cy h).2.2
theorem WN {i x:Int} (h:idx ([1,3,9,5,7,32,44,60]:List Int) i=some x):0<=x:=by
 have:=WM h;simp only[List.mem_cons,List.not_mem_nil,or_false]at this;omega
theorem JbF {n:Nat} {x:Cz} {m:Int} {r:Ay} (h:HG n x m=some r):N3 r:=by
 unfold HG at h;obtain⟨a,_,h⟩:=bind_some h;obtain⟨b,_,h⟩:=bind_some h;obtain⟨_,_,h⟩:=bind_some h;obtain⟨_,_,h⟩:=bind_some h;obtain⟨y,_,h⟩:=bind_some h;obtain⟨c,hc,h⟩:=bind_some h;obtain⟨z,hz,h⟩:=bind_some h;cases h;refine Mh (λ y=>N3 y.1) N3 (λ x' y hI hb=>?_) (λ x' r hI hb=>?_) n _ _ ?_ hz
 ·unfold CN at hb;rcases Do hb with⟨_,hb⟩|⟨_,hb⟩
  ·obtain⟨a,_,hb⟩:=bind_some hb;obtain⟨c,hc,hb⟩:=bind_some hb;obtain⟨l,hl,hb⟩:=bind_some hb;cases hb;obtain⟨_,rfl⟩:=Hz hl;intro d hd;rcases List.mem_append.1 hd with hd|hd
   ·exact hI d hd
   ·simp only[List.mem_singleton]at hd;rw[hd];exact WN hc
  ·cases hb
 ·unfold CN at hb;rcases Do hb with⟨_,hb⟩|⟨_,hb⟩
  ·obtain⟨a,_,hb⟩:=bind_some hb;obtain⟨c,hc,hb⟩:=bind_some hb;obtain⟨l,hl,hb⟩:=bind_some hb;cases hb
  ·cases hb;exact hI
 ·intro d hd;simp only[List.mem_singleton]at hd;rw[hd];exact WN hc
theorem Uz {r:Int} (h:0<=r) (h':r<8):∀ x∈(ES r).Rules,N3 x:=by
 have:∀ k:Nat,k<8->((ES (k:Int)).Rules.all λ x=>x.Cells.all λ c=>decide (0<=c))=true:=by decide +kernel
 have e:=this r.toNat (by omega);rw[Int.toNat_of_nonneg h]at e;intro x hx c hc;have h1:=JjH.1 (JjH.1 e x hx) c hc;simpa using h1
theorem JbG {n:Nat} {x:I1} (hx:0<=x.Base) {t:Ab} (h:FA n x=some t):∀ r∈t.Rules,N3 r:=by
 unfold FA at h;obtain⟨b,hb,h⟩:=bind_some h;obtain⟨t1,h1,h⟩:=bind_some h;obtain⟨t2,h2,h⟩:=bind_some h;obtain⟨e1,e2,e3⟩:=Md n x.Base hx;rw[e1]at hb;cases hb;have hbp:=Uz e2 e3;have ht1:∀ r∈t1.Rules,N3 r:=by
  refine Mh (λ y=>∀ r∈y.1.Rules,N3 r) (λ y=>∀ r∈y.Rules,N3 r) (λ x' y hI hb=>?_) (λ x' r hI hb=>?_) n _ _ (by simp) h1
  ·unfold CO Ds at hb;rcases Do hb with⟨_,hb⟩|⟨_,hb⟩
   ·obtain⟨_,_,hb⟩:=bind_some hb;rcases Do hb with⟨_,hb⟩|⟨_,hb⟩
    ·obtain⟨a,ha,hb⟩:=bind_some hb;obtain⟨l,hl,hb⟩:=bind_some hb;cases hb;obtain⟨_,rfl⟩:=Hz hl;intro r hr;rcases List.mem_append.1 hr with hr|hr
     ·exact hI r hr
     ·simp only[List.mem_singleton]at hr;rw[hr];exact hbp a (WM ha)
    ·cases hb;exact hI
   ·cases hb
  ·unfold CO Ds at hb;rcases Do hb with⟨_,hb⟩|⟨_,hb⟩
   ·obtain⟨_,_,hb⟩:=bind_some hb;rcases Do hb with⟨_,hb⟩|⟨_,hb⟩
    ·obtain⟨a,ha,hb⟩:=bind_some hb;obtain⟨l,hl,hb⟩:=bind_some hb;cases hb
    ·cases hb
   ·cases hb;exact hI
 have ht2:∀ r∈t2.Rules,N3 r:=by
  refine Mh (λ y=>∀ r∈y.1.Rules,N3 r) (λ y=>∀ r∈y.Rules,N3 r) (λ x' y hI hb=>?_) (λ x' r hI hb=>?_) n _ _ ht1 h2
  ·unfold CP Dt at hb;rcases Do hb with⟨_,hb⟩|⟨_,hb⟩
   ·obtain⟨a,_,hb⟩:=bind_some hb;obtain⟨r1,hr1,hb⟩:=bind_some hb;obtain⟨l,hl,hb⟩:=bind_some hb;obtain⟨v,_,hb⟩:=bind_some hb;obtain⟨_,rfl⟩:=Hz hl;have hall:∀ r∈x'.1.Rules++[r1],N3 r:=λ r hr=>by
     rcases List.mem_append.1 hr with hr|hr
     ·exact hI r hr
     ·simp only[List.mem_singleton]at hr;rw[hr];exact JbF hr1
    rcases Do hb with⟨_,hb⟩|⟨_,hb⟩
    ·obtain⟨l2,hl2,hb⟩:=bind_some hb;cases hb;intro r hr;unfold sub at hl2;split at hl2
     ·cases hl2;exact hall r (List.mem_of_mem_take (List.mem_of_mem_drop hr))
     ·cases hl2
    ·cases hb;exact hall
   ·cases hb
  ·unfold CP Dt at hb;rcases Do hb with⟨_,hb⟩|⟨_,hb⟩
   ·obtain⟨a,_,hb⟩:=bind_some hb;obtain⟨r1,hr1,hb⟩:=bind_some hb;obtain⟨l,hl,hb⟩:=bind_some hb;obtain⟨v,_,hb⟩:=bind_some hb;rcases Do hb with⟨_,hb⟩|⟨_,hb⟩
    ·obtain⟨l2,hl2,hb⟩:=bind_some hb;cases hb
    ·cases hb
   ·cases hb;exact hI
 unfold Eg at h;rcases Do h with⟨_,h⟩|⟨_,h⟩
 ·cases h;exact hbp
 ·cases h;exact ht2
theorem Ev.any {α:Type} {f:Nat->Option α} {z:α} (h:Ev f z):∃ n,f n=some z:=by
 obtain⟨N,h⟩:=h;exact⟨N,h N (JjM _)⟩
structure MK (t:Ab):Prop where
 made:K9 t
 tk:TbK t
 lo:1<=t.Rules.length
 hi:t.Rules.length<=10
theorem JbH {x:I1} (hx:Me x):∃ t,MK t/\Ev (λ n=>FA n x) t:=by
 obtain⟨t,⟨h1,h2,h3⟩,h4⟩:=Ym hx;obtain⟨n,hn⟩:=h4.any;exact⟨t,⟨h1,⟨h1.tab,h1.valid,JbG hx.1 hn⟩,h2,h3⟩,h4⟩
theorem Jg0.uniq {t u:Ab} (h:∀ w x,WrT t w x↔WrT u w x) {w v:List Int} (hw:Jg0 t w) (hv:Jg0 u v):w=v:=by
 have ha:∀ z,JbE t z↔JbE u z:=λ z=>by unfold JbE;simp only[h]
 rcases WK w v with h1|h1|h1
 ·exact absurd h1 (hv.2 w ((ha w).1 hw.1))
 ·exact h1
 ·exact absurd h1 (hw.2 v ((ha v).2 hv.1))
end Go.AI
end
section
namespace Go.AI
theorem JbI {t:Ab} {p:List Int} {s s':Ae} (h:JU t s p s') {k:Int} (hk:(Bo t s' k).2=true):JU t s (p++[k]) (Bo t s' k).1:=h.snoc hk
end Go.AI
end
section
namespace Go.AI
def At5 (t:Ab) (i:Nat) (a:Ac):Prop:=∃ k j,Edge t (AK t) i k j/\a=⟨prt t k,cls t k,j⟩
theorem FM {t:Ab} (ht:TbK t) {k:Nat} (hk:k<t.Rules.length):1<=(cls t k).length/\(cls t k).length<=4/\(prt t k).length<=4/\∀ c∈cls t k,0<=c/\c<63:=by
 have hm:EK t (k:Int)∈t.Rules:=PY (by omega) (by omega);have h1:=GA (ht.sound _ hm);exact⟨h1.2.1,h1.2.2,h1.1,λ c hc=>⟨ht.pos _ hm c hc,(Yp (ht.sound _ hm)).2.1 c hc⟩⟩
theorem At5.ne {t:Ab} (ht:TbK t):∀ k a,At5 t k a->a.c≠[]:=by
 rintro i a ⟨k,j,⟨_,_,_,hk,_⟩,rfl⟩ h;have:=(FM ht hk).1;simp only at h;rw[h]at this;simp at this
theorem Rn.snoc {A:Nat->Ac->Prop} {h h1 h':Hf} {w:List Int} {c:Int} {x p:List UInt8} (H:Rn A h w x h1) (s:Sp A h1 c p h'):Rn A h (w++[c]) (x++p) h':=H.app (Rn.one s)
def WfP (t:Ab) (p:Gi):Prop:=p.Rule=-1\/∃ k a:Nat,p.Rule=(k:Int)/\k<t.Rules.length/\p.At=(a:Int)/\1<=a/\a<(cls t k).length
def WO (t:Ab) (p:Gi):List Int:=if p.Rule<0 then []else(cls t p.Rule.toNat).drop p.At.toNat
theorem WfP.rest {t:Ab} {p:Gi} (h:WfP t p):WO t p=[]↔p.Rule<0:=by
 unfold WO;rcases h with h|⟨k,a,h1,h2,h3,h4,h5⟩
 ·rw[if_pos (by omega)];simp;omega
 ·rw[if_neg (by omega),h1,h3];simp only[Jj6];constructor
  ·intro h;have:=congrArg List.length h;simp at this;omega
  ·intro h;omega
end Go.AI
end
section
namespace Go.AI
def Jg1 (t:Ab) (c:Int) (p:Gi) (out:List Gi):Prop:=∀ i,(AK t)[i]?=some p.S->∀ q h',Sp (At5 t) (i,WO t p) c q h'->∃ y∈out,(AK t)[h'.1]?=some y.S/\y.Text=p.Text++q/\WO t y=h'.2
theorem Jg1.mono {t:Ab} {c:Int} {p:Gi} {out out':List Gi} (h:Jg1 t c p out) (hs:∀ y∈out,y∈out'):Jg1 t c p out':=λ i hi q h' hs'=>by
 obtain⟨y,h1,h2⟩:=h i hi q h' hs';exact⟨y,hs y h1,h2⟩
end Go.AI
end
section
namespace Go.AI
theorem F4 {α:Type}:∀ {l m:List α},l.Nodup->(∀ x∈l,x∈m)->l.length<=m.length
 | [],_,_,_=>Nat.zero_le _
 | a::l,m,h,hs=>by
  rw[List.nodup_cons]at h;obtain⟨u,v,rfl⟩:=List.append_of_mem (hs a (by simp));have:=F4 (m:=u++v) h.2 λ x hx=>by
   have h1:=hs x (by simp[hx]);simp only[List.mem_append,List.mem_cons]at h1⊢;rcases h1 with h1|h1|h1
   ·exact .inl h1
   ·subst h1;exact absurd hx h.1
   ·exact .inr h1
  simp at *;omega
def klr (r s:Af):Prop:=r.Cost<s.Cost\/(r.Cost=s.Cost/\ltB r.Text s.Text)
def le2 (r s:Af):Prop:=r.Cost<s.Cost\/(r.Cost=s.Cost/\¬ltB s.Cells r.Cells)
theorem CA (r:Af):¬klr r r:=by
 rintro (h|⟨_,h⟩)
 ·omega
 ·exact C2 _ h
theorem E5 {r s u:Af} (h:klr r s) (h':klr s u):klr r u:=by
 rcases h with h|⟨h,h1⟩<;>rcases h' with h'|⟨h',h1'⟩
 ·exact .inl (by omega)
 ·exact .inl (by omega)
 ·exact .inl (by omega)
 ·exact .inr ⟨by omega,Kd h1 h1'⟩
theorem F5 {r s:Af} (h:klr r s):¬klr s r:=λ h'=>CA r (E5 h h')
theorem F6 (r s:Af):klr r s\/klr s r\/(r.Cost=s.Cost/\r.Text=s.Text):=by
 rcases Int.lt_trichotomy r.Cost s.Cost with h|h|h
 ·exact .inl (.inl h)
 ·rcases Ke r.Text s.Text with h1|h1|h1
  ·exact .inr (.inr ⟨h,h1⟩)
  ·exact .inl (.inr ⟨h,h1⟩)
  ·exact .inr (.inl (.inr ⟨h.symm,h1⟩))
 ·exact .inr (.inl (.inl h))
theorem P2 {r s u:Af} (h:¬klr r s) (h':¬klr s u):¬klr r u:=by
 intro hk;rcases F6 r s with h1|h1|⟨h1,h2⟩
 ·exact h h1
 ·exact h' (E5 h1 hk)
 ·apply h';rcases hk with hk|⟨hk,hk2⟩
  ·exact .inl (by omega)
  ·exact .inr ⟨by omega,by rw[← h2];exact hk2⟩
theorem UA (r:Af):le2 r r:=.inr ⟨rfl,C2 _⟩
theorem Rp {r s u:Af} (h:le2 r s) (h':le2 s u):le2 r u:=by
 rcases h with h|⟨h,h1⟩<;>rcases h' with h'|⟨h',h1'⟩
 ·exact .inl (by omega)
 ·exact .inl (by omega)
 ·exact .inl (by omega)
 ·refine .inr ⟨by omega,λ hl=>?_⟩;rcases Ke s.Cells r.Cells with e|e|e
  ·rw[e]at h1';exact h1' hl
  ·exact h1 e
  ·exact h1' (Kd hl e)
theorem P3 {r s:Af} (h:le2 r s) (h':le2 s r) (ht:r.Text=s.Text):r=s:=by
 rcases h with h|⟨h,h1⟩<;>rcases h' with h'|⟨h',h1'⟩
 ·omega
 ·omega
 ·omega
 ·have:r.Cells=s.Cells:=by
   rcases Ke r.Cells s.Cells with e|e|e
   ·exact e
   ·exact absurd e h1'
   ·exact absurd e h1
  cases r;cases s;simp only at *;subst h;subst ht;subst this;rfl
structure Bst (T:Af->Prop) (B:Int) (M:Nat) (l:List Af):Prop where
 snd:∀ r∈l,T r/\r.Cost<=B
 srt:l.Pairwise klr
 dst:∀ r∈l,∀ s∈l,r.Text=s.Text->r=s
 cov:∀ r,T r->r.Cost<=B->(∃ s∈l,s.Text=r.Text/\le2 s r)\/(l.length=M/\∀ s∈l,klr s r)
 len:l.length<=M
theorem Bst.mem {T:Af->Prop} {B:Int} {M M':Nat} {l l':List Af} (h:Bst T B M l) (h':Bst T B M' l') {r:Af} (hr:r∈l):r∈l'\/(l'.length=M'/\∀ s∈l',klr s r):=by
 obtain⟨h1,h2⟩:=h.snd r hr;rcases h'.cov r h1 h2 with⟨s,hs,ht,hle⟩|h3
 ·left;obtain⟨h3,h4⟩:=h'.snd s hs;rcases h.cov s h3 h4 with⟨u,hu,hut,hule⟩|⟨_,h5⟩
  ·have e:=h.dst u hu r hr (hut.trans ht);subst e;rw[P3 hule hle ht.symm];exact hs
  ·rcases h5 r hr with h6|⟨h6,h7⟩
   ·rcases hle with hle|⟨hle,_⟩<;>omega
   ·rw[ht]at h7;exact absurd h7 (C2 _)
 ·exact .inr h3
theorem VY {α:Type} {R:α->α->Prop} (hi:∀ a,¬R a a) (ha:∀ a b,R a b->¬R b a):∀ {l l':List α},l.Pairwise R->l'.Pairwise R->(∀ r∈l,r∈l')->(∀ r∈l',r∈l\/∀ s∈l,R s r)->∃ u,l'=l++u
 | [],l',_,_,_,_=>⟨l',rfl⟩
 | a::l,[],_,_,h,_=>by have:=h a (by simp);simp at this
 | a::l,b::l',p1,p2,h1,h2=>by
  rw[List.pairwise_cons]at p1 p2;have e:a=b:=by
   rcases List.mem_cons.1 (h1 a (by simp))with e|hm
   ·exact e
   ·have hba:=p2.1 a hm;rcases h2 b (by simp)with hb|hb
    ·rcases List.mem_cons.1 hb with e|hb
     ·exact e.symm
     ·exact absurd (p1.1 b hb) (ha _ _ hba)
    ·exact absurd (hb a (by simp)) (ha _ _ hba)
  subst e;obtain⟨u,rfl⟩:=VY hi ha p1.2 p2.2 (λ r hr=>by
   rcases List.mem_cons.1 (h1 r (by simp[hr]))with e|hm
   ·subst e;exact absurd (p1.1 _ hr) (hi _)
   ·exact hm) λ r hr=>by
   rcases h2 r (by simp[hr])with hm|hm
   ·rcases List.mem_cons.1 hm with e|hm
    ·subst e;exact absurd (p2.1 _ hr) (hi _)
    ·exact .inl hm
   ·exact .inr λ s hs=>hm s (by simp[hs])
  exact⟨u,rfl⟩
theorem Bst.nodup {T:Af->Prop} {B:Int} {M:Nat} {l:List Af} (h:Bst T B M l):l.Nodup:=h.srt.imp λ hk e=>by subst e;exact CA _ hk
theorem Bst.take {T:Af->Prop} {B:Int} {M M':Nat} {l l':List Af} (h:Bst T B M l) (h':Bst T B M' l') (hM:M<=M'):l=l'.take M:=by
 by_cases hall:∀ r∈l,r∈l'
 ·obtain⟨u,hu⟩:=VY CA (λ _ _=>F5) h.srt h'.srt hall λ r hr=>by
   rcases h'.mem h hr with h1|⟨_,h1⟩
   ·exact .inl h1
   ·exact .inr h1
  cases u with
  | nil=>rw[List.append_nil]at hu;subst hu;exact(List.take_of_length_le h.len).symm
  | cons x u=>
   have hx:x∈l':=by rw[hu];simp
   have hxl:x ∉ l:=λ hx'=>by
    have:=h'.srt;rw[hu,List.pairwise_append]at this;exact CA x (this.2.2 x hx' x (by simp))
   rcases h'.mem h hx with h1|⟨h1,_⟩
   ·exact absurd h1 hxl
   ·rw[hu,← h1,List.take_left'];rfl
 ·exfalso;obtain⟨r,hr⟩:=Classical.not_forall.1 hall;obtain⟨hr,hr'⟩:=Classical.not_imp.1 hr;rcases h.mem h' hr with h1|⟨h1,h2⟩
  ·exact hr' h1
  ·have hsub:∀ s∈r::l',s∈l:=λ s hs=>by
    rcases List.mem_cons.1 hs with rfl|hs
    ·exact hr
    ·rcases h'.mem h hs with h3|⟨_,h3⟩
     ·exact h3
     ·exact absurd (h3 r hr) (F5 (h2 s hs))
   have hnd:(r::l').Nodup:=List.nodup_cons.2 ⟨hr',h'.nodup⟩;have:=F4 hnd hsub;have:=h.len;simp at *;omega
theorem Bst.has {T:Af->Prop} {B:Int} {M:Nat} {l:List Af} (h:Bst T B M l) (hl:l.length<M) {r:Af} (hr:T r) (hb:r.Cost<=B):∃ s∈l,s.Text=r.Text/\le2 s r:=by
 rcases h.cov r hr hb with h1|⟨h1,_⟩
 ·exact h1
 ·omega
theorem Bst.ne {T:Af->Prop} {B:Int} {M:Nat} {l:List Af} (h:Bst T B M l) (hM:1<=M) {r:Af} (hr:T r) (hb:r.Cost<=B):∃ s u,l=s::u/\¬klr r s:=by
 cases hl:l with
 | nil=>
  rw[hl]at h;rcases h.cov r hr hb with⟨s,hs,_⟩|⟨h1,_⟩
  ·simp at hs
  ·simp at h1;omega
 | cons s u=>
  rw[hl]at h;refine⟨s,u,rfl,λ hk=>?_⟩;rcases h.cov r hr hb with⟨v,hv,ht,hle⟩|⟨_,h1⟩
  ·have hvr:¬klr r v:=by
    rintro (h2|⟨h2,h3⟩)
    ·rcases hle with hle|⟨hle,_⟩<;>omega
    ·rw[ht]at h3;exact C2 _ h3
   rcases List.mem_cons.1 hv with rfl|hv
   ·exact hvr hk
   ·exact hvr (E5 hk ((List.pairwise_cons.1 h.srt).1 v hv))
  ·exact F5 hk (h1 s (by simp))
theorem Bst.congr {T T':Af->Prop} {B:Int} {M:Nat} {l:List Af} (h:Bst T B M l) (e:∀ r,r.Cost<=B->(T r↔T' r)):Bst T' B M l:=
 ⟨λ r hr=>⟨(e r (h.snd r hr).2).1 (h.snd r hr).1,(h.snd r hr).2⟩,h.srt,h.dst,λ r hr hb=>h.cov r ((e r hb).2 hr) hb,h.len⟩
theorem Bst.grow {T:Af->Prop} {B B':Int} {M:Nat} {l l':List Af} (h:Bst T B M l) (h':Bst T B' M l') (hB:B<=B'):(l'.length<M->l.length<M/\∃ u,l'=l++u):=by
 intro hl';have hll:∀ r∈l,∃ s∈l',s.Text=r.Text/\le2 s r:=λ r hr=>h'.has hl' (h.snd r hr).1 (by have:=(h.snd r hr).2;omega);have hinj:l.length<=l'.length:=by
  have hnd:(l.map (·.Text)).Nodup:=by
   rw[List.Nodup,List.pairwise_map];exact(List.pairwise_iff_forall_sublist.2 λ {a b} hs=>by
    have hab:=List.pairwise_iff_forall_sublist.1 h.srt hs;intro e;have ha:a∈l:=hs.subset (by simp);have hb:b∈l:=hs.subset (by simp);have:=h.dst a ha b hb e;subst this;exact CA _ hab)
  have hsub:∀ x∈l.map (·.Text),x∈l'.map (·.Text):=λ x hx=>by
   obtain⟨r,hr,rfl⟩:=JjP.1 hx;obtain⟨s,hs,ht,_⟩:=hll r hr;exact JjP.2 ⟨s,hs,ht⟩
  have:=F4 hnd hsub;simpa using this
 have hlt:l.length<M:=by omega
 refine⟨hlt,VY CA (λ _ _=>F5) h.srt h'.srt (λ r hr=>?_) λ r hr=>?_⟩
 ·obtain⟨s,hs,ht,hle⟩:=hll r hr;have hsB:s.Cost<=B:=by have:=(h.snd r hr).2;rcases hle with hle|⟨hle,_⟩<;>omega
  obtain⟨u,hu,hut,hule⟩:=h.has hlt (h'.snd s hs).1 hsB;have e:=h.dst u hu r hr (hut.trans ht);subst e;rw[P3 hule hle ht.symm];exact hs
 ·by_cases hrB:r.Cost<=B
  ·left;obtain⟨s,hs,ht,hle⟩:=h.has hlt (h'.snd r hr).1 hrB;obtain⟨u,hu,hut,hule⟩:=hll s hs;have e:=h'.dst u hu r hr (hut.trans ht);subst e;rw[P3 hule hle ht.symm];exact hs
  ·exact .inr λ s hs=>.inl (by have:=(h.snd s hs).2;omega)
end Go.AI
end
section
namespace Go.AI
open Go.Lib
theorem UB:∀ (a b:List UInt8),compareBytes a b<0↔ltB a b
 | [],[]=>by simp[compareBytes,ltB,Op.bytesLess]
 | [],_::_=>by simp[compareBytes,ltB,Op.bytesLess]
 | _::_,[]=>by simp[compareBytes,ltB,Op.bytesLess]
 | a::x,b::y=>by
  rw[HZ,compareBytes];split
  ·rename_i h;simp[h]
  ·rename_i h;split
   ·rename_i h2;have:a≠b:=λ e=>by subst e;exact h h2
    simp[h,this]
   ·rename_i h2;have e:a=b:=by
     rw[← UInt8.toNat_inj];rw[UInt8.lt_iff_toNat_lt]at h h2;omega
    subst e;rw[UB x y];simp
theorem Rq:∀ (a b:List UInt8),compareBytes a b=0↔a=b
 | [],[]=>by simp[compareBytes]
 | [],_::_=>by simp[compareBytes]
 | _::_,[]=>by simp[compareBytes]
 | a::x,b::y=>by
  rw[compareBytes];split
  ·rename_i h;have:a≠b:=λ e=>by subst e;rw[UInt8.lt_iff_toNat_lt]at h;omega
   simp[this]
  ·rename_i h;split
   ·rename_i h2;have:a≠b:=λ e=>by subst e;exact h h2
    simp[this]
   ·rename_i h2;have e:a=b:=by
     rw[← UInt8.toNat_inj];rw[UInt8.lt_iff_toNat_lt]at h h2;omega
    subst e;rw[Rq x y];simp
def UC (r s:Af):Int:=if r.Cost<s.Cost then -1 else if s.Cost<r.Cost then 1 else compareBytes r.Text s.Text
theorem P4 (r s:Af):UC r s<0↔klr r s:=by
 unfold UC klr;split
 ·rename_i h;simp[h]
 ·rename_i h;split
  ·rename_i h2;simp[h];omega
  ·rename_i h2;rw[UB];constructor
   ·intro h3;exact .inr ⟨by omega,h3⟩
   ·rintro (h3|⟨_,h3⟩)
    ·omega
    ·exact h3
theorem Rr (r s:Af):UC r s=0↔r.Cost=s.Cost/\r.Text=s.Text:=by
 unfold UC;split
 ·rename_i h;simp;omega
 ·rename_i h;split
  ·rename_i h2;simp;omega
  ·rename_i h2;rw[Rq];constructor
   ·intro h3;exact⟨by omega,h3⟩
   ·exact λ h3=>h3.2
theorem Jg2 (n:Nat) (a b:Int):GW (n+3) [a,b]=some (if a=0 then b else a):=by
 have h2:¬(AX .i64 1 1<2):=by decide
 have h3:AX .i64 0 1=1:=by decide
 unfold GW;simp only[whl,Gk];by_cases ha:a=0
 ·subst ha;by_cases hb:b=0
  ·subst hb;simp[idx,h3,h2]
  ·simp[idx,h3,hb]
 ·simp[idx,ha]
theorem Oj (n:Nat) (r s:Af):AS (n+3) r s=some (UC r s):=by
 have hc:Dy (n+3) r.Cost s.Cost=some (if r.Cost<s.Cost then -1 else if s.Cost<r.Cost then 1 else 0):=by
  unfold Dy EC;simp only[JjD,bne_self_eq_false,Jj9,if_false,decide_eq_true_eq];split
  ·rfl
  ·split<;>simp[*]
 unfold AS Ju;rw[hc,JjD,JjD,Jg2,JjD];unfold UC;split
 ·rfl
 ·split
  ·rfl
  ·rfl
theorem GB (n:Nat) (r s:Af):ltC (λ x y=>AS (n+3) x y) r s=true↔klr r s:=by
 show decide ((AS (n+3) r s).getD 0<0)=true↔_;rw[Oj,JjI,decide_eq_true_eq,P4]
theorem E6 (n:Nat) (r s:Af):ltC (λ x y=>AS (n+3) x y) r s=false↔¬klr r s:=by
 rw[← GB n,JjL]
theorem P5 (n:Nat):Wx (λ x y=>AS (n+3) x y):={
 tot x y:=by rw[Oj];rfl
 irrefl x:=(E6 n x x).2 (CA x)
 trans x y z h1 h2:=(GB n x z).2 (E5 ((GB n x y).1 h1) ((GB n y z).1 h2))
 ntrans x y z h1 h2:=(E6 n x z).2 (P2 ((E6 n x y).1 h1) ((E6 n y z).1 h2)) }
theorem UD {m:List Af} (hd:∀ r∈m,∀ s∈m,r.Text=s.Text->r=s) (hl:m.length<4611686018427387904):∃ z:List Af,z.Perm m/\z.Pairwise (λ a b=>¬klr b a)/\∀ n,Jv (n+3) m=some z:=by
 have h1:∀ n,Wy (λ x y=>AS (n+3) x y) m:=λ n x hx y hy h1 h2=>by
  rw[E6]at h1 h2;rcases F6 x y with h|h|⟨_,h⟩
  ·exact absurd h h1
  ·exact absurd h h2
  ·exact hd x hx y hy h
 have e:∀ n,ltC (λ x y=>AS (n+3) x y)=ltC (λ x y=>AS (0+3) x y):=λ n=>by
  funext x y;rw[Bool.eq_iff_iff,GB,GB]
 refine⟨KZ (ltC (λ x y=>AS (0+3) x y)) m,GS m,?_,λ n=>?_⟩
 ·refine(Hg (λ x y z h1 h2=>(P5 0).ntrans x y z h1 h2) (λ x y h=>?_) m).imp λ h=>(E6 0 _ _).1 h;rw[GB]at h;exact(E6 0 y x).2 (F5 h)
 ·unfold Jv;rw[Jaa (P5 n) (h1 n) hl,e n]
end Go.AI
end
section
namespace Go.AI
theorem JiE (hs:List Ah) (hl:hs.length<1000000000):Tot (λ n=>LS n hs) (λ r=>(r=-1/\∀ h∈hs,h.List≠[])\/∃ i:Nat,r=(i:Int)/\i<hs.length/\(∀ h∈hs.take i,h.List≠[])/\∃ h,hs[i]?=some h/\h.List=[]):=by
 unfold LS;refine Tot.bind (R:=λ y=>(y=.inl ()/\∀ h∈hs,h.List≠[])\/∃ i:Nat,y=.inr (i:Int)/\i<hs.length/\(∀ h∈hs.take i,h.List≠[])/\∃ h,hs[i]?=some h/\h.List=[]) ?_ ?_
 ·refine Tot.upto (body:=λ n x=>Fx n hs x) hs.length (λ i x=>x=(i:Int)/\∀ h∈hs.take i,h.List≠[]) ?_ ?_ _ ⟨rfl,by simp⟩
  ·rintro i x hi ⟨rfl,hx⟩;unfold Fx;refine Tot.iteT (Gz hi) (Tot.bindC (BY hi) (Jjy (λ n=>rfl) (Tot.ite (λ h=>?_) λ h=>?_)))
   ·have he:hs[i].List=[]:=by simpa using h
    exact Jjw (.inr ⟨i,rfl,hi,hx,hs[i],JjX hi,he⟩)
   ·refine Jjw ⟨D0 (by omega),λ g hg=>?_⟩;rw[List.take_add_one,JjX hi]at hg;rcases List.mem_append.1 hg with hg|hg
    ·exact hx g hg
    ·have e:g=hs[i]:=by simpa using hg
     subst e;intro e;rw[e]at h;simp at h
  ·rintro x ⟨rfl,hx⟩;unfold Fx;exact Tot.iteF (IZ _) (Jjw (.inl ⟨rfl,by simpa using hx⟩))
 ·rintro y (⟨rfl,h⟩|⟨i,rfl,h⟩)
  ·exact Jjw (.inl ⟨rfl,h⟩)
  ·exact Jjw (.inr ⟨i,rfl,h⟩)
def neH (h:Ah):Bool:=!h.List.isEmpty
theorem Jg3 (hs:List Ah) (hl:hs.length<1000000000):Tot (λ n=>J7 n hs) (λ r=>r=hs.filter neH):=by
 have hall:∀ l:List Ah,(∀ h∈l,h.List≠[])->l.filter neH=l:=λ l h=>List.filter_eq_self.2 λ a ha=>by
  have:=h a ha;unfold neH;cases e:a.List with
  | nil=>exact absurd e this
  | cons=>rfl
 unfold J7;refine Tot.bind (JiE hs hl) ?_;rintro r (⟨rfl,h⟩|⟨i,rfl,hi,hp,g,hg,hge⟩)
 ·exact Tot.iteT rfl (Jjw (hall hs h).symm)
 refine Tot.iteF (by first|(simp;done)|(simp;omega)) ?_
 rw[D0 (by omega)];refine Tot.bind (R:=λ y=>∃ k:Nat,y.2=(k:Int)/\k<=y.1.length/\y.1.length=hs.length/\y.1.take k=hs.filter neH) ?_ ?_
 ·refine Tot.whl (body:=λ n (x:List Ah×Int×Int)=>FV n x.1 x.2.1 x.2.2) (λ m x=>∃ j k:Nat,x.2.1=(k:Int)/\x.2.2=(j:Int)/\m=hs.length-j/\k<j/\j<=hs.length/\x.1.length=hs.length/\x.1.take k=(hs.take j).filter neH/\x.1.drop j=hs.drop j) ?_ (hs.length-(i+1)) _ ⟨i+1,i,rfl,rfl,rfl,by omega,by omega,rfl,?_,rfl⟩
  ·rintro m ⟨s,_,_⟩ ⟨j,k,rfl,rfl,rfl,hkj,hj,hsl,ht,hd⟩;simp only at *;unfold FV;rcases JjN j hs.length with hlt|hge
   ·have hjs:j<s.length:=by omega
    have hsj:s[j]=hs[j]:=by
     have h1:(s.drop j)[0]?=(hs.drop j)[0]? := by rw[hd]
     rw[JjQ,JjQ,Nat.add_zero,JjX hjs,JjX hlt]at h1;exact Option.some.inj h1
    have hdd:s.drop (j+1)=hs.drop (j+1):=by
     have:=congrArg (List.drop 1) hd;simpa [List.drop_drop]using this
    refine Tot.iteT (by rw[hsl];exact Gz hlt) (Tot.bindC (BY hjs) (Jjy (λ n=>rfl) (Tot.ite (λ h=>?_) λ h=>?_)))
    ·have hne:neH hs[j]=true:=by
      rw[hsj]at h;unfold neH;cases e:hs[j].List with
      | nil=>rw[e]at h;simp at h
      | cons=>rfl
     refine Tot.bindC (BY (by omega:k<s.length)) (Tot.bindC (SL (by omega)) (Jjw ⟨hs.length-(j+1),by omega,j+1,k+1,D0 (by omega),D0 (by omega),rfl,by omega,by omega,by simpa using hsl,?_,?_⟩))
     ·rw[List.take_add_one (l:=hs),JjX hlt,List.filter_append,← ht,List.take_add_one,Jj8 (by omega),List.take_set_of_le (JjM _),hsj];simp[hne]
     ·rw[List.drop_set_of_lt (by omega)];exact hdd
    ·have hne:neH hs[j]=false:=by
      rw[hsj]at h;unfold neH;cases e:hs[j].List with
      | nil=>rfl
      | cons=>rw[e]at h;simp at h;omega
     refine Jjw ⟨hs.length-(j+1),by omega,j+1,k,rfl,D0 (by omega),rfl,by omega,by omega,hsl,?_,hdd⟩;rw[List.take_add_one (l:=hs),JjX hlt,List.filter_append,← ht];simp[hne]
   ·have:j=hs.length:=by omega
    subst this;refine Tot.iteF (by rw[hsl];exact IZ _) (Jjw ⟨k,rfl,(show k<=s.length by omega),hsl,?_⟩);simpa using ht
  ·rw[List.take_add_one,hg,List.filter_append,hall _ hp];have:neH g=false:=by unfold neH;rw[hge];rfl
   simp[this]
 ·rintro⟨s,_⟩ ⟨k,rfl,hk,hsl,ht⟩;simp only at *;refine Tot.bindC (WC (by omega) (by omega) (by omega)) ?_;have hclr:Vx s (0+Int.toNat (k:Int)) (Int.toNat ((s.length:Nat):Int)-Int.toNat (k:Int)) (⟨⟨[],[],0⟩,0,[],⟨0,[],[]⟩⟩:Ah)=some (s.take k++List.replicate (s.length-k) ⟨⟨[],[],0⟩,0,[],⟨0,[],[]⟩⟩):=by
   unfold Vx spl;rw[if_pos (by simp;omega)];congr 1;simp;omega
  refine Tot.bindC hclr (Tot.bindC (WC (Int.le_refl 0) (by omega) (by simp;omega)) (Jjw ?_));rw[← ht];simp only[Jj6,Int.toNat_zero,List.drop_zero];exact List.take_left' (by simp;omega)
theorem Jdj (hs:List Ah) (h0:hs≠[]) (hl:hs.length<1000000000):Tot (λ n=>Iq n hs) (λ m=>m∈hs/\∀ h∈hs,¬klr h.First m.First):=by
 have hpos:0<hs.length:=List.length_pos_iff.2 h0;unfold Iq;refine Tot.iteF (by simp;omega) (Tot.bindC (BY (i:=0) hpos) (Tot.bind (R:=λ m=>m∈hs/\∀ h∈hs,¬klr h.First m.First) ?_ λ m hm=>Jjw hm));refine Tot.whl (body:=λ n (x:Ah×Int)=>Fh n hs x.1 x.2) (λ k x=>∃ i:Nat,x.2=(i:Int)/\k=hs.length-i/\i<=hs.length/\x.1∈hs/\∀ h∈hs.take i,¬klr h.First x.1.First) ?_ (hs.length-1) _ ⟨1,rfl,rfl,by omega,JjJ hpos,?_⟩
 ·rintro k ⟨m,_⟩ ⟨i,rfl,rfl,hi,hm,hx⟩;simp only at *;unfold Fh;rcases JjN i hs.length with hlt|hge
  ·refine Tot.iteT (Gz hlt) (Tot.bindC (BY hlt) ?_);have hcmp:Ev (λ n=>ED n hs[i] m) (UC hs[i].First m.First):=⟨3,λ n hn=>by
    obtain⟨q,rfl⟩:∃ q,n=q+3:=⟨n-3,by omega⟩;show(AS (q+3) _ _).bind _=_;rw[Oj];rfl⟩
   have nx:∀ m',m'∈hs->(∀ h∈hs.take i,¬klr h.First m'.First)->¬klr hs[i].First m'.First->Tot (λ n=>Fg n (i:Int) m') (Rd2 (λ y=>∃ j,j<hs.length-i/\∃ i:Nat,y.2=(i:Int)/\j=hs.length-i/\i<=hs.length/\y.1∈hs/\∀ h∈hs.take i,¬klr h.First y.1.First) (λ m=>m∈hs/\∀ h∈hs,¬klr h.First m.First)):=λ m' h1 h2 h3=>by
    refine Jjw ⟨hs.length-(i+1),by omega,i+1,D0 (by omega),rfl,by omega,h1,λ g hg=>?_⟩;rw[List.take_add_one,JjX hlt]at hg;rcases List.mem_append.1 hg with hg|hg
    ·exact h2 g hg
    ·have e:g=hs[i]:=by simpa using hg
     subst e;exact h3
   refine Jjx hcmp (Tot.ite (λ h=>?_) λ h=>?_)
   ·have hk:klr hs[i].First m.First:=(P4 _ _).1 (by simpa using h);refine Tot.bindC (BY hlt) (nx _ (JjJ hlt) (λ g hg hgk=>hx g hg (E5 hgk hk)) (CA _))
   ·exact nx _ hm hx λ hk=>by have:=(P4 _ _).2 hk;simp at h;omega
  ·have:i=hs.length:=by omega
   subst this;exact Tot.iteF (IZ _) (Jjw ⟨hm,by simpa using hx⟩)
 ·intro h hh;rw[List.take_one]at hh;cases hs with
  | nil=>exact absurd rfl h0
  | cons a r=>simp at hh;subst hh;exact CA _
theorem Jdk (hs:List Ah) (m:Ah) (hm:m∈hs) (hl:hs.length<1000000000):Tot (λ n=>GX n m hs) (λ r=>∃ (i:Nat) (h:Ah),r=(i:Int)/\hs[i]?=some h/\h.First.Cost=m.First.Cost/\h.First.Text=m.First.Text):=by
 unfold GX;refine Tot.bind (R:=λ y=>∃ (i:Nat) (h:Ah),y=.inr (i:Int)/\hs[i]?=some h/\h.First.Cost=m.First.Cost/\h.First.Text=m.First.Text) ?_ ?_
 ·refine Tot.upto (body:=λ n x=>EE n m hs x) hs.length (λ i x=>x=(i:Int)/\∀ h∈hs.take i,¬(h.First.Cost=m.First.Cost/\h.First.Text=m.First.Text)) ?_ ?_ _ ⟨rfl,by simp⟩
  ·rintro i x hi ⟨rfl,hx⟩;unfold EE;have hcmp:Ev (λ n=>D8 n hs[i] m) (UC hs[i].First m.First==0):=⟨3,λ n hn=>by
    obtain⟨q,rfl⟩:∃ q,n=q+3:=⟨n-3,by omega⟩;show((AS (q+3) _ _).bind _).bind _=_;rw[Oj];rfl⟩
   refine Tot.iteT (Gz hi) (Tot.bindC (BY hi) (Jjx hcmp (Tot.ite (λ h=>?_) λ h=>?_)))
   ·exact Jjw ⟨i,hs[i],rfl,JjX hi,(Rr _ _).1 (by simpa using h)⟩
   ·refine Jjw ⟨D0 (by omega),λ g hg=>?_⟩;rw[List.take_add_one,JjX hi]at hg;rcases List.mem_append.1 hg with hg|hg
    ·exact hx g hg
    ·have e:g=hs[i]:=by simpa using hg
     subst e;intro hc;have:=(Rr _ _).2 hc;rw[this]at h;simp at h
  ·rintro x ⟨rfl,hx⟩;exact absurd ⟨rfl,rfl⟩ (hx m (by simpa using hm))
 ·rintro y ⟨i,h,rfl,h1⟩;exact Jjw ⟨i,h,rfl,h1⟩
def mpR (h:Ah) (r:Af):Af:=⟨h.More+r.Cost,h.Arc.Print++r.Text,h.Arc.Cells++r.Cells⟩
def ldH (h:Ah):Ah:=match h.List with
 | []=>h
 | r::_=>{ h with First:=⟨h.More+r.Cost,h.Arc.Print++r.Text,[]⟩ }
structure SmR (r:Af):Prop where
 c0:0<=r.Cost
 c1:r.Cost<=1000000
 tx:r.Text.length<=1000000
 cl:r.Cells.length<=1000000
structure SmH (h:Ah):Prop where
 m0:0<=h.More
 m1:h.More<=1000000
 pr:h.Arc.Print.length<=1000000
 cl:h.Arc.Cells.length<=1000000
 rs:∀ r∈h.List,SmR r
theorem WQ {hs:List Ah} {i:Nat} {h:Ah} (hi:hs[i]?=some h) (hs1:SmH h) (hne:h.List≠[]) (n:Nat):DO n (i:Int) hs=some (hs.set i (ldH h)):=by
 unfold DO;have e:=C0 hi;have hlt:=AA hi;cases hL:h.List with
 | nil=>exact absurd hL hne
 | cons r l=>
  have hr:SmR r:=hs1.rs r (by rw[hL];simp);have e0:idx h.List 0=some r:=by rw[hL];rfl
  have e1:AX .i64 h.More r.Cost=h.More+r.Cost:=KO (by have:=hs1.m0;have:=hr.c0;omega) (by have:=hs1.m1;have:=hr.c1;omega);simp only[e,JjD,e0,SM (show h.Arc.Print.length+r.Text.length<=9223372036854775807 by have:=hs1.pr;have:=hr.tx;omega),e1,SL hlt];unfold ldH;rw[hL]
end Go.AI
end
section
namespace Go.AI
def gam (h:Ah):List Af:=h.List.map (mpR h)
def Ld8 (h:Ah):Prop:=∃ r l,h.List=r::l/\h.First=⟨h.More+r.Cost,h.Arc.Print++r.Text,[]⟩
theorem JbJ {h:Ah} (hne:h.List≠[]):Ld8 (ldH h):=by
 unfold Ld8 ldH;split
 ·rename_i e;exact absurd e hne
 ·rename_i r l e;exact⟨r,l,e,rfl⟩
theorem P6 (h:Ah):(ldH h).List=h.List:=by unfold ldH;split<;>rfl
theorem SQ (h:Ah):(ldH h).Arc=h.Arc:=by unfold ldH;split<;>rfl
theorem P7 (h:Ah):(ldH h).More=h.More:=by unfold ldH;split<;>rfl
theorem Kf (h:Ah):gam (ldH h)=gam h:=by
 unfold gam;rw[P6];exact JjV λ r _=>by unfold mpR;rw[SQ,P7]
theorem JbK {h:Ah} (hs:SmH h):SmH (ldH h):=⟨by rw[P7];exact hs.m0,by rw[P7];exact hs.m1,by rw[SQ];exact hs.pr,by rw[SQ];exact hs.cl,by rw[P6];exact hs.rs⟩
theorem JbL {α:Type} {l:List α} {i:Nat} {x:α} (h:l[i]?=some x):∃ u v,l=u++x::v/\u.length=i:=by
 have hl:=AA h;refine⟨l.take i,l.drop (i+1),?_,by simp;omega⟩;have e:l[i]=x:=by rw[JjX hl]at h;exact Option.some.inj h
 rw[← e,← List.drop_eq_getElem_cons hl,List.take_append_drop]
theorem Ok {α:Type} (u v:List α) (x y:α):(u++x::v).set u.length y=u++y::v:=by simp
def mes (hs:List Ah):Nat:=(hs.map λ h=>h.List.length).sum
theorem JbM {hs:List Ah} (h1:∀ h∈hs,SmH h/\h.List≠[]) (hl:hs.length<1000000000) (p:Int) (s:Aa):Tot (λ n=>whl (λ (x:List Ah×Int)=>BT n p s hs x.1 x.2) n (hs,0)) (λ r=>r=hs.map ldH):=by
 refine Tot.upto (body:=λ n (x:List Ah×Int)=>BT n p s hs x.1 x.2) hs.length (λ i x=>x.2=(i:Int)/\x.1=(hs.take i).map ldH++hs.drop i) ?_ ?_ _ ⟨rfl,by simp⟩
 ·rintro i ⟨x,_⟩ hi ⟨rfl,hx⟩;simp only at hx;subst hx;unfold BT;have e:((hs.take i).map ldH++hs.drop i)=(hs.take i).map ldH++hs[i]::hs.drop (i+1):=by rw[List.drop_eq_getElem_cons hi]
  have hlen:((hs.take i).map ldH).length=i:=by simp;omega
  have hat:((hs.take i).map ldH++hs.drop i)[i]?=some hs[i]:=by
   rw[e,Jkf (by omega),hlen];simp
  obtain⟨g1,g2⟩:=h1 _ (JjJ hi);have e2:((hs.take i).map ldH++hs.drop i).set i (ldH hs[i])=(hs.take (i+1)).map ldH++hs.drop (i+1):=by
   rw[e];have:=Ok ((hs.take i).map ldH) (hs.drop (i+1)) hs[i] (ldH hs[i]);rw[hlen]at this;rw[this,List.take_add_one,JjX hi];simp only[Option.toList_some,List.map_append,JjT,List.map_nil,List.append_assoc,List.singleton_append]
  refine Tot.iteT (Gz hi) (Tot.bindC (C0 hat) (Jjy (λ n=>WQ hat g1 g2 n) (Tot.bindC (Cd (by simp)) (Jjw ⟨D0 (by omega),e2⟩))))
 ·rintro⟨x,_⟩ ⟨rfl,hx⟩;unfold BT;refine Tot.iteF (IZ _) (Jjw ?_);simp only at hx;subst hx;show _=_;simp
theorem Jdl {hs:List Ah} {u v:List Ah} {h:Ah} {r:Af} {l:List Af} (he:hs=u++h::v) (hL:h.List=r::l) (hsm:SmH h) (hl:hs.length<1000000000) (f:List (List UInt8×Af)) :
  Tot (λ n=>BU n hs (u.length:Int) f) (Rd2 (λ y=>y.2=f/\((l≠[]/\y.1=u++ldH { h with List:=l }::v)\/(l=[]/\y.1=u++v))) (λ _=>False)):=by
 subst he;unfold BU;have hat:(u++h::v)[u.length]?=some h:=by simp
 have hsub:sub h.List 1 ((h.List.length:Nat):Int)=some l:=by rw[hL,WC (by omega) (by simp;omega) (by omega)];simp
 have hll:u.length<(u++h::v).length:=by simp
 refine Tot.bindC (C0 hat) (Tot.bindC hsub (Tot.bindC (C0 hat) (Tot.bindC (SL hll) ?_)));rw[Ok];have hat2:(u++{ Arc:=h.Arc,More:=h.More,List:=l,First:=h.First }::v:List Ah)[u.length]?=some { Arc:=h.Arc,More:=h.More,List:=l,First:=h.First }:=by simp
 refine Tot.bindC (C0 hat2) (Tot.ite (λ hc=>?_) λ hc=>?_)
 ·have hne:l≠[]:=λ e=>by subst e;simp at hc
  have hsm2:SmH { Arc:=h.Arc,More:=h.More,List:=l,First:=h.First }:=⟨hsm.m0,hsm.m1,hsm.pr,hsm.cl,λ q hq=>hsm.rs q (by rw[hL];simp[hq])⟩;refine Jjy (λ n=>WQ hat2 hsm2 hne n) (Tot.bindC (Cd (by simp)) (Jjw ⟨rfl,.inl ⟨hne,?_⟩⟩));exact Ok _ _ _ _
 ·have hne:l=[]:=by
   cases l with
   | nil=>rfl
   | cons=>simp at hc<;>omega
  have hd:Sr 0 (u.length:Int) (AX .i64 (u.length:Int) 1) (u++{ Arc:=h.Arc,More:=h.More,List:=l,First:=h.First }::v)=some (u++v):=by
   unfold Sr Jdb;rw[D0 (by simp at hl;omega),if_pos ⟨by omega,by omega,by simp;omega⟩];simp
  exact Tot.bindC hd (Jjw ⟨rfl,.inr ⟨hne,rfl⟩⟩)
structure MI (All:Af->Prop) (B:Int) (M:Nat) (hs:List Ah) (f:List (List UInt8×Af)) (dn:Af->Prop):Prop where
 ld:∀ h∈hs,Ld8 h/\SmH h/\(gam h).Pairwise klr
 rem:∀ h∈hs,∀ c∈gam h,∀ d,dn d->¬klr c d
 tot:∀ c,All c->dn c\/∃ h∈hs,c∈gam h
 snd:∀ d,dn d->All d/\d.Cost<=B
 sndh:∀ h∈hs,∀ c∈gam h,All c
 key:∀ x r,AN x f=some r->r.Text=x/\dn r
 fnd:∀ d,dn d->∃ r,AN d.Text f=some r/\le2 r d
 nd:(f.map Prod.fst).Nodup
 len:f.length<=M
def WR (All:Af->Prop) (B:Int) (M:Nat) (f:List (List UInt8×Af)):Prop:=
 ∃ hs dn,MI All B M hs f dn/\(hs=[]\/∃ f0:Af,(∃ h∈hs,f0∈gam h)/\(∀ h∈hs,∀ c∈gam h,¬klr c f0)/\(B<f0.Cost\/(AN f0.Text f=none/\f.length=M)))
theorem M9 {α:Type} (k:List UInt8) (v:α):∀ m:List (List UInt8×α),(BJ k v m).map Prod.fst=if k∈m.map Prod.fst then m.map Prod.fst else m.map Prod.fst++[k]
 | []=>by simp[BJ]
 | p::m=>by
  unfold BJ;by_cases e:k=p.1
  ·rw[if_pos e];simp[e]
  ·rw[if_neg e,JjT,M9 k v m];by_cases hm:k∈m.map Prod.fst
   ·rw[if_pos hm,if_pos (by simp only[JjT,List.mem_cons];exact .inr hm)];rfl
   ·rw[if_neg hm,if_neg (by simp only[JjT,List.mem_cons,not_or];exact⟨e,hm⟩)];rfl
theorem Na {α:Type} (k:List UInt8):∀ m:List (List UInt8×α),k∈m.map Prod.fst↔(AN k m).isSome=true
 | []=>by simp[AN]
 | p::m=>by
  unfold AN;by_cases e:k=p.1
  ·rw[if_pos e];simp[e]
  ·rw[if_neg e,JjT,List.mem_cons,Na k m];simp[e]
theorem Yq {α:Type} (k:List UInt8) (v:α) (m:List (List UInt8×α)):(BJ k v m).length=if(AN k m).isSome=true then m.length else m.length+1:=by
 have:=congrArg List.length (M9 k v m);rw[JjS]at this;rw[this];by_cases h:k∈m.map Prod.fst
 ·rw[if_pos h,if_pos ((Na k m).1 h)];simp
 ·rw[if_neg h,if_neg λ h'=>h ((Na k m).2 h')];simp
theorem JbN {α:Type} (k:List UInt8) (v:α) (m:List (List UInt8×α)) (h:(m.map Prod.fst).Nodup):((BJ k v m).map Prod.fst).Nodup:=by
 rw[M9];split
 ·exact h
 ·rename_i hk;rw[List.nodup_append];refine⟨h,by simp,λ a ha b hb=>?_⟩;simp at hb;subst hb;intro e;subst e;exact hk ha
theorem MI.step {All:Af->Prop} {B:Int} {M:Nat} {u v:List Ah} {h:Ah} {r:Af} {l:List Af} {f f':List (List UInt8×Af)} {dn:Af->Prop} {hs':List Ah}
  (hI:MI All B M (u++h::v) f dn) (hL:h.List=r::l) (hmin:∀ g∈u++h::v,∀ c∈gam g,¬klr c (mpR h r)) (hc:(mpR h r).Cost<=B)
  (hhs:(l≠[]/\hs'=u++ldH { h with List:=l }::v)\/(l=[]/\hs'=u++v))
  (hf:(f'=BJ (mpR h r).Text (mpR h r) f/\((AN (mpR h r).Text f=none/\f.length<M)\/∃ o,AN (mpR h r).Text f=some o/\o.Cost=(mpR h r).Cost/\ltB (mpR h r).Cells o.Cells)) \/
   (f'=f/\∃ o,AN (mpR h r).Text f=some o/\¬(o.Cost=(mpR h r).Cost/\ltB (mpR h r).Cells o.Cells))) :
  MI All B M hs' f' (λ d=>dn d\/d=mpR h r):=by
 have hg:gam h=mpR h r::gam { h with List:=l }:=by unfold gam;rw[hL];rfl
 have hmem:∀ g∈hs',g∈u++h::v\/(l≠[]/\g=ldH { h with List:=l }):=λ g hg'=>by
  rcases hhs with⟨h1,rfl⟩|⟨h1,rfl⟩
  ·simp only[List.mem_append,List.mem_cons]at hg'⊢;rcases hg' with h2|h2|h2
   ·exact .inl (.inl h2)
   ·exact .inr ⟨h1,h2⟩
   ·exact .inl (.inr (.inr h2))
  ·simp only[List.mem_append,List.mem_cons]at hg'⊢;rcases hg' with h2|h2
   ·exact .inl (.inl h2)
   ·exact .inl (.inr (.inr h2))
 have hh:h∈u++h::v:=by simp
 obtain⟨_,hsm,hpw⟩:=hI.ld h hh;rw[hg,List.pairwise_cons]at hpw;have hgam:∀ g∈hs',∀ c∈gam g,∃ g0∈u++h::v,c∈gam g0:=λ g hg' c hc'=>by
  rcases hmem g hg' with h1|⟨_,rfl⟩
  ·exact⟨g,h1,hc'⟩
  ·exact⟨h,hh,by rw[Kf]at hc';rw[hg];exact List.mem_cons_of_mem _ hc'⟩
 have hold:∀ d,dn d->d.Text=(mpR h r).Text->d.Cost<=(mpR h r).Cost:=λ d hd ht=>by
  have:=hI.rem h hh (mpR h r) (by rw[hg];simp) d hd;rcases Int.lt_or_le (mpR h r).Cost d.Cost with h1|h1
  ·exact absurd (.inl h1) this
  ·exact h1
 refine⟨λ g hg'=>?_,λ g hg' c hc' d hd=>?_,λ c hc'=>?_,λ d hd=>?_,λ g hg' c hc'=>?_,λ x q hq=>?_,λ d hd=>?_,?_,?_⟩
 ·rcases hmem g hg' with h1|⟨h1,rfl⟩
  ·exact hI.ld g h1
  ·refine⟨JbJ h1,JbK ⟨hsm.m0,hsm.m1,hsm.pr,hsm.cl,λ q hq=>hsm.rs q (by rw[hL];exact List.mem_cons_of_mem _ hq)⟩,?_⟩;rw[Kf];exact hpw.2
 ·obtain⟨g0,hg0,hc0⟩:=hgam g hg' c hc';rcases hd with hd|rfl
  ·exact hI.rem g0 hg0 c hc0 d hd
  ·exact hmin g0 hg0 c hc0
 ·rcases hI.tot c hc' with h1|⟨g,hg',hc''⟩
  ·exact .inl (.inl h1)
  ·by_cases e:g=h
   ·subst e;rw[hg]at hc'';rcases List.mem_cons.1 hc'' with h1|h1
    ·exact .inl (.inr h1)
    ·right;rcases hhs with⟨h2,rfl⟩|⟨h2,rfl⟩
     ·exact⟨ldH { g with List:=l },by simp,by rw[Kf];exact h1⟩
     ·subst h2;simp[gam]at h1
   ·right;refine⟨g,?_,hc''⟩;simp only[List.mem_append,List.mem_cons]at hg';rcases hhs with⟨h2,rfl⟩|⟨h2,rfl⟩
    ·simp only[List.mem_append,List.mem_cons];rcases hg' with h3|h3|h3
     ·exact .inl h3
     ·exact absurd h3 e
     ·exact .inr (.inr h3)
    ·simp only[List.mem_append];rcases hg' with h3|h3|h3
     ·exact .inl h3
     ·exact absurd h3 e
     ·exact .inr h3
 ·rcases hd with hd|rfl
  ·exact hI.snd d hd
  ·exact⟨hI.sndh h hh (mpR h r) (by rw[hg];simp),hc⟩
 ·obtain⟨g0,hg0,hc0⟩:=hgam g hg' c hc';exact hI.sndh g0 hg0 c hc0
 ·rcases hf with⟨rfl,_⟩|⟨rfl,_⟩
  ·rw[HX]at hq;split at hq
   ·rename_i e;cases hq;exact⟨e.symm,.inr rfl⟩
   ·obtain⟨h1,h2⟩:=hI.key x q hq;exact⟨h1,.inl h2⟩
  ·obtain⟨h1,h2⟩:=hI.key x q hq;exact⟨h1,.inl h2⟩
 ·rcases hf with⟨rfl,h3⟩|⟨rfl,o,ho,h3⟩
  ·rcases hd with hd|rfl
   ·obtain⟨q,hq,hle⟩:=hI.fnd d hd;rw[HX];split
    ·rename_i e;refine⟨_,rfl,?_⟩;rcases h3 with⟨h3,_⟩|⟨o,ho,h4,h5⟩
     ·rw[e,h3]at hq;cases hq
     ·rw[e,ho]at hq;cases hq;exact Rp (.inr ⟨h4.symm,λ h6=>Ro h5 h6⟩) hle
    ·exact⟨q,hq,hle⟩
   ·exact⟨_,by rw[HX,if_pos rfl],UA _⟩
  ·rcases hd with hd|rfl
   ·exact hI.fnd d hd
   ·refine⟨o,ho,?_⟩;obtain⟨h4,h5⟩:=hI.key _ _ ho;have h6:=hold o h5 h4;rcases Int.lt_or_eq_of_le h6 with h7|h7
    ·exact .inl h7
    ·exact .inr ⟨h7,λ h8=>h3 ⟨h7,h8⟩⟩
 ·rcases hf with⟨rfl,_⟩|⟨rfl,_⟩
  ·exact JbN _ _ _ hI.nd
  ·exact hI.nd
 ·rcases hf with⟨rfl,h3⟩|⟨rfl,_⟩
  ·rw[Yq];rcases h3 with⟨h3,h4⟩|⟨o,h3,_⟩
   ·rw[h3,if_neg (by simp)];omega
   ·rw[h3];simpa using hI.len
  ·exact hI.len
end Go.AI
end
section
namespace Go.AI
theorem Nb {a b c d:Af} (h1:a.Cost=b.Cost) (h2:a.Text=b.Text) (h3:c.Cost=d.Cost) (h4:c.Text=d.Text):klr a c↔klr b d:=by unfold klr;rw[h1,h2,h3,h4]
theorem Jdm {u v:List Ah} {h:Ah}:mes (u++h::v)=mes (u++v)+h.List.length:=by simp[mes];omega
theorem Jdn {u v:List Ah} {h g:Ah}:mes (u++h::v)+g.List.length=mes (u++g::v)+h.List.length:=by simp[mes];omega
theorem JbO {All:Af->Prop} {B:Int} {M:Nat} {s:Aa} (hM:s.Most=(M:Int)) {hs:List Ah} (hI:MI All B M hs [] (λ _=>False)) (hl:hs.length<1000000000) :
  Tot (λ n=>whl (λ (x:List Ah×List (List UInt8×Af))=>Ch n B s x.1 x.2) n (hs,[])) (WR All B M):=by
 refine Tot.whl (body:=λ n (x:List Ah×List (List UInt8×Af))=>Ch n B s x.1 x.2) (λ k x=>∃ dn,MI All B M x.1 x.2 dn/\k=mes x.1/\x.1.length<1000000000) ?_ (mes hs) _ ⟨_,hI,rfl,hl⟩;rintro k ⟨hs,f⟩ ⟨dn,hI,rfl,hl⟩;simp only at *;unfold Ch;by_cases h0:hs=[]
 ·subst h0;exact Tot.iteF (by simp) (Jjw ⟨[],dn,hI,.inl rfl⟩)
 have hpos:0<hs.length:=List.length_pos_iff.2 h0;refine Tot.iteT (by simp;omega) (Tot.bind (Jdj hs h0 hl) λ m ⟨hm,hmin⟩=>Tot.bind (Jdk hs m hm hl) ?_);rintro _ ⟨i,h,rfl,hi,e1,e2⟩;obtain⟨u,v,he,hul⟩:=JbL hi;have hh:h∈hs:=JjZ hi;obtain⟨⟨r,l,hL,hF⟩,hsm,hpw⟩:=hI.ld h hh;have hFc:h.First.Cost=(mpR h r).Cost:=by rw[hF];rfl
 have hFt:h.First.Text=(mpR h r).Text:=by rw[hF];rfl
 have hle:∀ g∈hs,∀ c∈gam g,¬klr c (mpR h r):=λ g hg c hc hk=>by
  obtain⟨⟨r',l',hL',hF'⟩,_,hpw'⟩:=hI.ld g hg;have h3:¬klr g.First m.First:=hmin g hg;rw[Nb (b:=mpR g r') (d:=mpR h r) (by rw[hF'];rfl) (by rw[hF'];rfl) (by rw[← e1,hFc]) (by rw[← e2,hFt])]at h3;have hg':gam g=mpR g r'::l'.map (mpR g):=by unfold gam;rw[hL'];rfl
  rw[hg']at hc hpw';rcases List.mem_cons.1 hc with rfl|hc
  ·exact h3 hk
  ·exact h3 (E5 ((List.pairwise_cons.1 hpw').1 c hc) hk)
 refine Tot.bindC (C0 hi) (Tot.ite (λ hc=>?_) λ hc=>?_)
 ·refine Jjw ⟨hs,dn,hI,.inr ⟨mpR h r,⟨h,hh,by unfold gam;rw[hL];simp⟩,hle,?_⟩⟩;rw[← hFc,← hFt];simp only[Jkg,decide_eq_true_eq,JjY,Bool.not_eq_true',Option.isSome_eq_false_iff,Option.isNone_iff_eq_none,beq_iff_eq,hM]at hc;rcases hc with hc|⟨hc,hc2⟩
  ·exact .inl (by omega)
  ·exact .inr ⟨hc,by omega⟩
 ·simp only[JjW,decide_eq_false_iff_not,hM]at hc;obtain⟨hc1,hc2⟩:=hc;have hcB:(mpR h r).Cost<=B:=by rw[← hFc];omega
  have h00:idx h.List 0=some r:=by rw[hL];rfl
  have hr:=hsm.rs r (by rw[hL];simp);refine Tot.bindC h00 (Tot.bindC (SM (by have:=hsm.cl;have:=hr.cl;omega)) ?_);have nx:∀ f',((f'=BJ (mpR h r).Text (mpR h r) f/\((AN (mpR h r).Text f=none/\f.length<M)\/∃ o,AN (mpR h r).Text f=some o/\o.Cost=(mpR h r).Cost/\ltB (mpR h r).Cells o.Cells)) \/
   (f'=f/\∃ o,AN (mpR h r).Text f=some o/\¬(o.Cost=(mpR h r).Cost/\ltB (mpR h r).Cells o.Cells))) ->
   Tot (λ n=>BU n hs (i:Int) f') (Rd2 (λ y=>∃ j,j<mes hs/\∃ dn,MI All B M y.1 y.2 dn/\j=mes y.1/\y.1.length<1000000000) (WR All B M)):=λ f' hf'=>by
   rw[← hul];refine(Jdl he hL hsm hl f').mono λ z hz=>?_;cases z with
   | inr z=>exact hz.elim
   | inl z=>
    obtain⟨hz1,hz2⟩:=hz;rw[he]at hI hle;have hst:=hI.step hL hle hcB hz2 hf';refine⟨mes z.1,?_,_,by rw[hz1];exact hst,rfl,?_⟩
    ·rw[he];rcases hz2 with⟨_,e⟩|⟨_,e⟩
     ·rw[e];have:=Jdn (u:=u) (v:=v) (h:=h) (g:=ldH { h with List:=l });rw[P6,hL]at this;simp only[List.length_cons]at this;omega
     ·rw[e,Jdm,hL];simp
    ·rw[he]at hl;rcases hz2 with⟨_,e⟩|⟨_,e⟩<;>rw[e]<;>simp at hl⊢<;>omega
  rw[hFt,hFc]at *;refine Tot.ite (λ hd=>?_) λ hd=>?_
  ·refine nx _ (.inl ⟨rfl,?_⟩);cases hg:AN (mpR h r).Text f with
   | none=>
    rw[hg]at hc2;left;refine⟨rfl,?_⟩;have:=hI.len;simp at hc2;omega
   | some o=>
    right;rw[hg]at hd;simp only[Option.isSome_some,JjK,Bool.false_or,JjI,JjY,beq_iff_eq]at hd;exact⟨o,rfl,hd.1,hd.2⟩
  ·refine nx _ (.inr ⟨rfl,?_⟩);cases hg:AN (mpR h r).Text f with
   | none=>rw[hg]at hd;simp at hd
   | some o=>
    rw[hg]at hd;refine⟨o,rfl,λ hx=>?_⟩;have h2:Op.bytesLess (h.Arc.Cells++r.Cells) o.Cells=true:=hx.2;simp[hx.1,h2]at hd
theorem JV {α:Type} {p:List UInt8×α}:∀ {f:List (List UInt8×α)},p∈f->(f.map Prod.fst).Nodup->AN p.1 f=some p.2
 | q::f,hp,hnd=>by
  unfold AN;rw[JjT,List.nodup_cons]at hnd;rcases List.mem_cons.1 hp with rfl|hp
  ·rw[if_pos rfl]
  ·rw[if_neg (λ e=>hnd.1 (by rw[← e];exact List.mem_map_of_mem hp))];exact JV hp hnd.2
theorem WS {α:Type} {x:List UInt8} {r:α}:∀ {f:List (List UInt8×α)},AN x f=some r->(x,r)∈f
 | q::f,hx=>by
  unfold AN at hx;split at hx
  ·rename_i e;cases hx;subst e;simp
  ·exact List.mem_cons_of_mem _ (WS hx)
theorem WR.bst {All T:Af->Prop} {B:Int} {M:Nat} {f:List (List UInt8×Af)} (h:WR All B M f) {l:List Af} (hp:l.Perm (f.map Prod.snd)) (hs:l.Pairwise λ a b=>¬klr b a)
  (hsnd:∀ c,All c->T c) (hcov:∀ r,T r->r.Cost<=B->(∃ c,All c/\c.Text=r.Text/\le2 c r)\/∃ cs:List Af,cs.length=M/\cs.Pairwise (λ a b=>a.Text≠b.Text)/\∀ c∈cs,All c/\klr c r):Bst T B M l:=by
 obtain⟨hs',dn,hI,hend⟩:=h;have hml:∀ r∈l,AN r.Text f=some r/\dn r:=λ r hr=>by
  obtain⟨p,hp,rfl⟩:=JjP.1 (hp.mem_iff.1 hr);have hm:=JV hp hI.nd;obtain⟨h1,h2⟩:=hI.key _ _ hm;exact⟨by rw[h1];exact hm,h2⟩
 have hin:∀ x r,AN x f=some r->r∈l:=λ x r hx=>by
  rw[hp.mem_iff];exact JjP.2 ⟨_,WS hx,rfl⟩
 have hlen:l.length=f.length:=by rw[hp.length_eq,JjS]
 have hdst:∀ r∈l,∀ s∈l,r.Text=s.Text->r=s:=λ r hr s hs2 e=>by
  have h1:=(hml r hr).1;rw[e,(hml s hs2).1]at h1;exact(Option.some.inj h1).symm
 have hnd:l.Nodup:=by
  rw[hp.nodup_iff];have h1:=hI.nd;rw[List.Nodup,List.pairwise_map]at h1⊢;refine List.Pairwise.imp_of_mem (λ {a b} ha hb hab e=>hab ?_) h1;rw[← (hI.key _ _ (JV ha hI.nd)).1,← (hI.key _ _ (JV hb hI.nd)).1,e]
 have hsrt:l.Pairwise klr:=by
  refine List.Pairwise.imp_of_mem (λ {a b} ha hb hab=>?_) (hs.and hnd);obtain⟨h1,h2⟩:=hab;rcases F6 a b with h3|h3|⟨_,h3⟩
  ·exact h3
  ·exact absurd h3 h1
  ·exact absurd (hdst a ha b hb h3) h2
 refine⟨λ r hr=>⟨hsnd r (hI.snd r (hml r hr).2).1,(hI.snd r (hml r hr).2).2⟩,hsrt,hdst,λ r hr hrB=>?_,by rw[hlen];exact hI.len⟩;have hdone:∀ c,dn c->∃ s∈l,s.Text=c.Text/\le2 s c:=λ c hc=>by
  obtain⟨s,h1,h2⟩:=hI.fnd c hc;exact⟨s,hin _ _ h1,(hI.key _ _ h1).1,h2⟩
 have hrest:∀ c,All c->c.Cost<=B->¬dn c->l.length=M/\∃ f0:Af,¬klr c f0/\AN f0.Text f=none/\∀ s∈l,klr s f0:=λ c hc hcB hnd=>by
  rcases hI.tot c hc with h1|⟨g,hg,hcg⟩
  ·exact absurd h1 hnd
  ·rcases hend with rfl|⟨f0,⟨g0,hg0,hf0⟩,h1,h2⟩
   ·simp at hg
   ·have h3:=h1 g hg c hcg;rcases h2 with h2|⟨h2,h4⟩
    ·exact absurd (.inl (by omega)) h3
    ·refine⟨by rw[hlen];exact h4,f0,h3,h2,λ s hs2=>?_⟩;obtain⟨h5,h6⟩:=hml s hs2;have h7:=hI.rem g0 hg0 f0 hf0 s h6;rcases F6 s f0 with h8|h8|⟨_,h8⟩
     ·exact h8
     ·exact absurd h8 h7
     ·rw[h8,h2]at h5;cases h5
 have hbehind:∀ c,All c->c.Cost<=B->¬dn c->∀ r:Af,¬klr r c->l.length=M/\∀ s∈l,klr s r:=λ c hc hcB hnd r hrc=>by
  obtain⟨h1,f0,h2,_,h4⟩:=hrest c hc hcB hnd;refine⟨h1,λ s hs2=>?_⟩;have h5:¬klr r f0:=P2 hrc h2;rcases F6 s r with h6|h6|⟨h6,h7⟩
  ·exact h6
  ·exact absurd (E5 h6 (h4 s hs2)) h5
  ·exact absurd ((Nb h6 h7 rfl rfl).1 (h4 s hs2)) h5
 rcases hcov r hr hrB with⟨c,hc,hct,hcle⟩|⟨cs,hcl,hcd,hcs⟩
 ·have hcB:c.Cost<=B:=by rcases hcle with h1|⟨h1,_⟩<;>omega
  by_cases hd:dn c
  ·left;obtain⟨s,hs2,hst,hsle⟩:=hdone c hd;exact⟨s,hs2,hst.trans hct,Rp hsle hcle⟩
  ·right;refine hbehind c hc hcB hd r λ hk=>?_;rcases hk with hk|⟨_,hk⟩
   ·rcases hcle with h1|⟨h1,_⟩<;>omega
   ·rw[hct]at hk;exact C2 _ hk
 ·right;by_cases hall:∀ c∈cs,dn c
  ·
   have hcB:∀ c∈cs,∃ s∈l,s.Text=c.Text/\le2 s c:=λ c hc=>hdone c (hall c hc);have htx:∀ x∈cs.map (·.Text),x∈l.map (·.Text):=λ x hx=>by
    obtain⟨c,hc,rfl⟩:=JjP.1 hx;obtain⟨s,h1,h2,_⟩:=hcB c hc;exact JjP.2 ⟨s,h1,h2⟩
   have hcn:(cs.map (·.Text)).Nodup:=by rw[List.Nodup,List.pairwise_map];exact hcd
   have hle:=F4 hcn htx;simp only[JjS,hcl]at hle;have hlM:l.length=M:=by have:=hI.len;omega
   refine⟨hlM,λ s hs2=>?_⟩;have hsub:∀ x∈l.map (·.Text),x∈cs.map (·.Text):=by
    intro x hx;by_cases hxc:x∈cs.map (·.Text)
    ·exact hxc
    ·exfalso;have h1:(x::cs.map (·.Text)).Nodup:=List.nodup_cons.2 ⟨hxc,hcn⟩;have h2:=F4 h1 (m:=l.map (·.Text)) λ y hy=>by
      rcases List.mem_cons.1 hy with rfl|hy
      ·exact hx
      ·exact htx y hy
     simp[hcl,hlM]at h2;omega
   obtain⟨c,hc,hct⟩:=JjP.1 (hsub s.Text (List.mem_map_of_mem hs2));obtain⟨s',hs3,hst,hsle⟩:=hcB c hc;have:=hdst s' hs3 s hs2 (hst.trans hct);subst this;have h3:=(hcs c hc).2;rcases hsle with h4|⟨h4,_⟩
   ·rcases h3 with h3|⟨h3,_⟩
    ·exact .inl (by omega)
    ·exact .inl (by omega)
   ·exact(Nb h4 hst rfl rfl).2 h3
  ·obtain⟨c,hc⟩:=Classical.not_forall.1 hall;obtain⟨hc,hnd2⟩:=Classical.not_imp.1 hc;obtain⟨h1,h2⟩:=hcs c hc;exact hbehind c h1 (by rcases h2 with h2|⟨h2,_⟩<;>omega) hnd2 r (F5 h2)
end Go.AI
end
section
namespace Go.AI
theorem Rs {α:Type}:∀ l:List α,∃ L:List (List α),∀ o:List α,o.Perm l->o∈L
 | []=>⟨[[]],λ o ho=>by rw[ho.eq_nil];simp⟩
 | a::l=>by
  obtain⟨L,hL⟩:=Rs l;refine⟨L.flatMap λ u=>(List.range (u.length+1)).map λ i=>u.take i++a::u.drop i,λ o ho=>?_⟩;obtain⟨x,y,rfl⟩:=List.append_of_mem (ho.mem_iff.2 (List.mem_cons_self));have h1:(x++y).Perm l:=(List.perm_middle.symm.trans ho).cons_inv;rw[List.mem_flatMap];refine⟨x++y,hL _ h1,JjP.2 ⟨x.length,List.mem_range.2 (by simp;omega),by simp⟩⟩
theorem Ev.demP {ε ζ:Type} {k:Nat->List ε->Option ζ} {m:List ε} {z:ζ} (h:∀ o:List ε,o.Perm m->Ev (λ n=>k n o) z):Ev (λ n=>dem (λ o:List ε=>List.Perm o m) (k n)) z:=by
 obtain⟨L,hL⟩:=Rs m;have:∀ L:List (List ε),∃ N,∀ o∈L,o.Perm m->∀ n,N<=n->k n o=some z:=by
  intro L;induction L with
  | nil=>exact⟨0,λ o ho=>by simp at ho⟩
  | cons a L ih=>
   obtain⟨N,hN⟩:=ih;by_cases hp:a.Perm m
   ·obtain⟨N2,h2⟩:=h a hp;refine⟨max N N2,λ o ho hop n hn=>?_⟩;rcases List.mem_cons.1 ho with rfl|ho
    ·exact h2 n (by omega)
    ·exact hN o ho hop n (by omega)
   ·refine⟨N,λ o ho hop n hn=>?_⟩;rcases List.mem_cons.1 ho with rfl|ho
    ·exact absurd hop hp
    ·exact hN o ho hop n hn
 obtain⟨N,hN⟩:=this L;exact⟨N,λ n hn=>ZN ⟨m,List.Perm.refl m⟩ λ o ho=>hN o (hL o ho) ho n hn⟩
theorem Tot.demP {ε ζ:Type} {P:ζ->Prop} {k:Nat->List ε->Option ζ} {m:List ε} (z:ζ) (h:∀ o:List ε,o.Perm m->Tot (λ n=>k n o) (λ y=>y=z)) (hp:P z):Tot (λ n=>dem (λ o:List ε=>List.Perm o m) (k n)) P:=
 (Ev.demP λ o ho=>(h o ho).ev).tot hp
theorem Tot.mapW {ε σ:Type} {F:Nat->ε->σ->Option (σ⊕Empty)} {o:List ε} (I:List ε->σ->Prop) (step:∀ u e v x,o=u++e::v->I u x->Tot (λ n=>F n e x) (Rd2 (I (u++[e])) (λ _=>True))) {x:σ} (h0:I [] x):Tot (λ n=>Go.AI.mapW (F n) o x) (Rd2 (I o) (λ _=>True)):=by
 have key:∀ (v u:List ε) (x:σ),o=u++v->I u x->Tot (λ n=>Go.AI.mapW (F n) v x) (Rd2 (I o) (λ _=>True)):=by
  intro v;induction v with
  | nil=>intro u x ho hx;rw[List.append_nil]at ho;subst ho;exact Jjw hx
  | cons e v ih=>
   intro u x ho hx;obtain⟨z,hz,N1,h1⟩:=step u e v x ho hx;cases z with
   | inr z=>exact nomatch z
   | inl y=>
    obtain⟨w,hw,N2,h2⟩:=ih (u++[e]) y (by rw[ho];simp) hz;refine⟨w,hw,max N1 N2,λ n hn=>?_⟩;have e1:=h1 n (by omega);have e2:=h2 n (by omega);simp only at e1 e2;simp only[Go.AI.mapW,e1];exact e2
 exact key o [] x rfl h0
theorem JbP {T:Af->Prop} {B:Int} {M:Nat} {s:Aa} (hM:s.Most=(M:Int)) (hM1:M<=1000) {hs:List Ah} (hl:hs.length<1000000000) (hsm:∀ h∈hs,SmH h)
  (hsnd:∀ h∈hs,∀ c∈gam h,T c) (hsrt:∀ h∈hs,(gam h).Pairwise klr) (hdst:∀ h∈hs,(gam h).Pairwise λ a b=>a.Text≠b.Text)
  (hcov:∀ r,T r->r.Cost<=B->∃ h∈hs,h.List≠[]/\((∃ c∈gam h,c.Text=r.Text/\le2 c r)\/((gam h).length=M/\∀ c∈gam h,klr c r))):Tot (λ n=>CI n B s hs) (Bst T B M):=by
 unfold CI;refine Tot.bind (Jg3 hs hl) ?_;rintro _ rfl;have hne:∀ h∈hs.filter neH,h∈hs/\h.List≠[]:=λ h hh=>by
  rw[List.mem_filter]at hh;refine⟨hh.1,λ e=>?_⟩;have:=hh.2;unfold neH at this;rw[e]at this;simp at this
 have hnf:∀ h∈hs,h.List≠[]->h∈hs.filter neH:=λ h h1 h2=>by
  rw[List.mem_filter];refine⟨h1,?_⟩;unfold neH;cases e:h.List with
  | nil=>exact absurd e h2
  | cons=>rfl
 have hlf:(hs.filter neH).length<1000000000:=by have:=List.length_filter_le neH hs;omega
 refine Tot.bind (JbM (λ h hh=>⟨hsm h (hne h hh).1,(hne h hh).2⟩) hlf B s) ?_;rintro _ rfl;let All:Af->Prop:=λ c=>∃ h∈hs.filter neH,c∈gam h;have hI:MI All B M ((hs.filter neH).map ldH) [] (λ _=>False):=by
  refine⟨λ h hh=>?_,λ _ _ _ _ _ hd=>hd.elim,λ c hc=>?_,λ _ hd=>hd.elim,λ h hh c hc=>?_,λ x r hx=>(by cases hx),λ _ hd=>hd.elim,by simp,by simp⟩
  ·obtain⟨g,hg,rfl⟩:=JjP.1 hh;obtain⟨h1,h2⟩:=hne g hg;exact⟨JbJ h2,JbK (hsm g h1),by rw[Kf];exact hsrt g h1⟩
  ·obtain⟨h,hh,hc⟩:=hc;exact .inr ⟨ldH h,List.mem_map_of_mem hh,by rw[Kf];exact hc⟩
  ·obtain⟨g,hg,rfl⟩:=JjP.1 hh;rw[Kf]at hc;exact⟨g,hg,hc⟩
 refine Tot.bind (JbO hM hI (by simpa using hlf)) λ f hf=>?_;have hfl:f.length<=M:=by obtain⟨_,_,h,_⟩:=hf;exact h.len
 have hfd:∀ r∈f.map Prod.snd,∀ s∈f.map Prod.snd,r.Text=s.Text->r=s:=by
  obtain⟨_,dn,hI,_⟩:=hf;have hml:∀ r∈f.map Prod.snd,AN r.Text f=some r:=λ r hr=>by
   obtain⟨p,hp,rfl⟩:=JjP.1 hr;have hm:=JV hp hI.nd;rw[(hI.key _ _ hm).1];exact hm
  intro r hr s hs e;have h1:=hml r hr;rw[e,hml s hs]at h1;exact(Option.some.inj h1).symm
 obtain⟨z,hzp,hzs,hz⟩:=UD hfd (by simp;omega);refine Tot.demP z (λ o ho=>?_) ?_
 ·have hmw:Tot (λ n=>mapW (λ (e:List UInt8×Af) (x:List Af)=>Bv n e x) o ([]:List Af)) (Rd2 (λ x=>x=o.map Prod.snd) (λ _=>True)):=by
   refine Tot.mapW (F:=λ n e x=>Bv n e x) (λ u x=>x=u.map Prod.snd) (λ u e v x hu hx=>?_) rfl;subst hx;unfold Bv;have:u.length<=f.length:=by rw[← ho.length_eq,hu];simp
   exact Tot.bindC (Gx (by simp;omega)) (Jjw (by show _=_;simp))
  refine Tot.bind hmw ?_;rintro (y|y) hy
  ·have hy:y=o.map Prod.snd:=hy;subst hy;have hpo:(o.map Prod.snd).Perm (f.map Prod.snd):=ho.map _;obtain⟨z',hzp',hzs',hz'⟩:=UD (m:=o.map Prod.snd) (λ r hr s hs e=>hfd r (hpo.mem_iff.1 hr) s (hpo.mem_iff.1 hs) e) (by rw[hpo.length_eq];simp;omega);have ezz:z'=z:=by
    refine List.Perm.eq_of_pairwise (le:=λ a b=>¬klr b a) (λ a b ha hb h1 h2=>?_) hzs' hzs (hzp'.trans (hpo.trans hzp.symm));rcases F6 a b with h3|h3|⟨_,h3⟩
    ·exact absurd h3 h2
    ·exact absurd h3 h1
    ·exact hfd a (hpo.mem_iff.1 (hzp'.mem_iff.1 ha)) b (hzp.mem_iff.1 hb) h3
   subst ezz;have hev:Ev (λ n=>Jv n (o.map Prod.snd)) z':=⟨3,λ n hn=>by
    obtain⟨q,rfl⟩:∃ q,n=q+3:=⟨n-3,by omega⟩;exact hz' q⟩
   exact Jjx hev (Tot.bindC (Cd (by rw[hzp'.length_eq];simp)) (Jjw rfl))
  ·exact nomatch y
 ·refine hf.bst hzp hzs (λ c hc=>?_) λ r hr hrB=>?_
  ·obtain⟨h,hh,hc⟩:=hc;exact hsnd h (hne h hh).1 c hc
  ·obtain⟨h,hh,hn,h1⟩:=hcov r hr hrB;rcases h1 with⟨c,hc,h2,h3⟩|⟨h2,h3⟩
   ·exact .inl ⟨c,⟨h,hnf h hh hn,hc⟩,h2,h3⟩
   ·exact .inr ⟨gam h,h2,hdst h hh,λ c hc=>⟨⟨h,hnf h hh hn,hc⟩,h3 c hc⟩⟩
end Go.AI
end
section
namespace Go.AI
def clb (t:Ab) (k:Nat):List UInt8:=(cls t k).map λ c=>UInt8.ofNat c.toNat
structure JbQ (t:Ab) (st:List Ae) (i m:Nat) (l:List Hh):Prop where
 len:l.length<=m
 snd:∀ a∈l,∃ j k:Nat,Edge t st i k j/\a=⟨prt t k,clb t k,(j:Int)⟩
 cov:∀ k j:Nat,k<m->Edge t st i k j->(⟨prt t k,clb t k,(j:Int)⟩:Hh)∈l
structure SrK (t:Ab) (fl:List Ao) (bu mo:Int) (s:Aa):Prop where
 felt:s.Felt=fl
 bud:s.Budget=bu
 most:s.Most=mo
 len:s.Arcs.length=(AK t).length
 acc:∀ (i:Nat) q,(AK t)[i]?=some q->s.Accepts[i]?=some (Bf t q)
 arcs:∀ (i:Nat) l,s.Arcs[i]?=some l->JbQ t (AK t) i t.Rules.length l
structure SJ (t:Ab) (fl:List Ao) (bu mo:Int) (i m c:Nat) (s:Aa):Prop where
 felt:s.Felt=fl
 bud:s.Budget=bu
 most:s.Most=mo
 len:s.Arcs.length=(AK t).length
 aln:s.Accepts.length=(AK t).length
 acc:∀ (j:Nat) q,j<c->(AK t)[j]?=some q->s.Accepts[j]?=some (Bf t q)
 arcs:∀ (j:Nat) l,s.Arcs[j]?=some l->(j<i->JbQ t (AK t) j t.Rules.length l)/\(j=i->JbQ t (AK t) i m l)/\(i<j->l=[])
theorem JbQ.nil (t:Ab) (st:List Ae) (i:Nat):JbQ t st i 0 []:=⟨JjM _,λ a h=>by simp at h,λ k j h=>by omega⟩
theorem VZ {t:Ab} (ht:TbK t) {fl:List Ao} {bu mo:Int} {nb:List (Ae×Int)} (hN:IY (AK t) nb) {i:Nat} {q:Ae} (hi:(AK t)[i]?=some q) {s:Aa} (hs:SJ t fl bu mo i 0 (i+1) s) :
  Tot (λ n=>whl (λ (x:Aa×Int)=>Ck n t (AK t) nb (i:Int) q x.1 x.2) n (s,0)) (SJ t fl bu mo (i+1) 0 (i+1)):=by
 obtain⟨hF,hD⟩:=Eo ht.tab;have hil:=AA hi;have h768:=hF.len;have hr:=ht.tab.1;refine Tot.upto (body:=λ n (x:Aa×Int)=>Ck n t (AK t) nb (i:Int) q x.1 x.2) t.Rules.length (λ m x=>x.2=(m:Int)/\SJ t fl bu mo i m (i+1) x.1) ?_ ?_ _ ⟨rfl,hs⟩
 ·rintro m ⟨s,_⟩ hm ⟨rfl,hs⟩;unfold Ck;refine Tot.iteT (by simp;omega) (Tot.bindC (PX (k:=(m:Int)) (by omega) (by omega)) (Jjy (λ n=>Og ht.tab.short n q (m:Nat)) ?_));have nxt:∀ s',SJ t fl bu mo i (m+1) (i+1) s'->Tot (λ n=>Dz n (m:Int) s') (Rd2 (λ x=>x.2=((m+1:Nat):Int)/\SJ t fl bu mo i (m+1) (i+1) x.1) (SJ t fl bu mo (i+1) 0 (i+1))):=λ s' hs'=>Jjw ⟨D0 (by omega),hs'⟩;by_cases hst:(Bo t q (m:Nat)).2=true
  ·have hmem:=hD (i+1) i q (by omega) hi m hm hst;obtain⟨j,hjl,hj⟩:=List.mem_iff_getElem.1 hmem;have hj':(AK t)[j]?=some (Bo t q (m:Nat)).1:=by rw[JjX hjl,hj]
   have hE:Edge t (AK t) i m j:=⟨q,_,hi,hm,hj',by rw[← hst]⟩;have hnum:Option.getD (AN (Bo t q (m:Nat)).1 nb) 0=(j:Int):=by rw[hN,CZ hF.nodup hj'];rfl
   refine Tot.iteF (by rw[hst];rfl) ?_;obtain⟨_,c4,_,c63⟩:=FM ht hm;have hcells:Tot (λ n=>whl (λ (x:List Int×Int)=>Cj n t (AK t) nb (i:Int) q s (m:Int) (EK t (m:Int)) (Bo t q (m:Nat)) x.1 x.2) n (([]:List Int),0)) (λ r=>r=cls t m):=by
    refine Tot.upto (body:=λ n (x:List Int×Int)=>Cj n t (AK t) nb (i:Int) q s (m:Int) (EK t (m:Int)) (Bo t q (m:Nat)) x.1 x.2) (cls t m).length (λ a x=>x.2=(a:Int)/\x.1=(cls t m).take a) ?_ ?_ _ ⟨rfl,rfl⟩
    ·rintro a ⟨x,_⟩ ha ⟨rfl,hx⟩;simp only at hx;subst hx;unfold Cj;refine Tot.iteT (Gz ha) (Tot.bindC (BY ha) (Tot.bindC (Gx (by simp;omega)) (Jjw ⟨D0 (by omega),?_⟩)));show _=_;rw[List.take_add_one,JjX ha];rfl
    ·rintro⟨x,_⟩ ⟨rfl,hx⟩;simp only at hx;subst hx;unfold Cj;exact Tot.iteF (IZ _) (Jjw (List.take_length))
   refine Tot.bind hcells ?_;rintro _ rfl;have hial:i<s.Arcs.length:=by rw[hs.len];exact hil
   have hai:=JjX hial;obtain⟨_,hA,_⟩:=hs.arcs i _ hai;have hA:=hA rfl;have hb:TL (cls t m)=some (clb t m):=by
    unfold TL;rw[if_pos]
    ·rfl
    ·rw[JjH];intro c hc;have:=c63 c hc;simp;omega
   refine Tot.bindC (BY hial) (Tot.bindC hb (Tot.bindC (Gx (by have:=hA.len;simp;omega)) (nxt _ ?_)));refine⟨hs.felt,hs.bud,hs.most,by simpa using hs.len,hs.aln,hs.acc,λ j' l hl=>?_⟩;rw[hnum,Jj6,List.getElem?_set]at hl;split at hl
   ·rename_i e;subst e
    try rw[if_pos hial]at hl
    cases hl;refine⟨λ h=>absurd h (Nat.lt_irrefl _),λ _=>⟨by have:=hA.len;simp;omega,λ a ha=>?_,λ k j2 hk hE2=>?_⟩,λ h=>absurd h (Nat.lt_irrefl _)⟩
    ·rcases List.mem_append.1 ha with h|h
     ·exact hA.snd a h
     ·simp only[List.mem_singleton]at h;subst h;exact⟨j,m,hE,rfl⟩
    ·by_cases e:k=m
     ·subst e;obtain⟨s1,s2,k1,_,k3,k4⟩:=hE2;rw[hi]at k1;cases k1;have:j2=j:=WI hF.nodup (s:=s2) k3 (by rw[hj'];rw[k4]);subst this;exact List.mem_append_right _ (List.mem_singleton.2 rfl)
     ·exact List.mem_append_left _ (hA.cov k j2 (by omega) hE2)
   ·rename_i e;obtain⟨h1,h2,h3⟩:=hs.arcs j' l hl;exact⟨h1,λ h=>absurd h.symm e,h3⟩
  ·have hs':(Bo t q (m:Nat)).2=false:=by simpa using hst
   refine Tot.iteT (by rw[hs'];rfl) (nxt _ ⟨hs.felt,hs.bud,hs.most,hs.len,hs.aln,hs.acc,λ j l hl=>?_⟩);obtain⟨h1,h2,h3⟩:=hs.arcs j l hl;refine⟨h1,λ e=>?_,h3⟩;obtain⟨q1,q2,q3⟩:=h2 e;refine⟨by omega,q2,λ k j hk hE=>?_⟩;by_cases e:k=m
   ·subst e;obtain⟨s1,s2,k1,_,k3,k4⟩:=hE;rw[hi]at k1;cases k1;rw[k4]at hs';cases hs'
   ·exact q3 k j (by omega) hE
 ·rintro⟨s,_⟩ ⟨rfl,hs⟩;unfold Ck;refine Tot.iteF (by simp) (Jjw ⟨hs.felt,hs.bud,hs.most,hs.len,hs.aln,hs.acc,λ j l hl=>?_⟩);obtain⟨h1,h2,h3⟩:=hs.arcs j l hl;refine⟨λ h=>?_,λ h=>?_,λ h=>h3 (by omega)⟩
  ·by_cases e:j=i
   ·subst e;exact h2 rfl
   ·exact h1 (by omega)
  ·have:=h3 (by omega);subst this;exact .nil _ _ _
theorem SR {t:Ab} (ht:TbK t) (fl:List Ao) (bu mo:Int):Tot (λ n=>Ff n t fl bu mo) (SrK t fl bu mo):=by
 obtain⟨hF,hD⟩:=Eo ht.tab;have h768:=hF.len;unfold Ff;refine Jjx (VT ht.tab) (Tot.bind (R:=IY (AK t)) ?_ λ nb hN=>Tot.bindC (Jbp (by omega) (by omega)) (Tot.bindC (Jbp (by omega) (by omega)) ?_))
 ·refine Tot.upto (body:=λ n (x:(List (Ae×Int))×Int)=>CG n t fl bu mo (AK t) x.1 x.2) (AK t).length (λ i x=>x.2=(i:Int)/\IY ((AK t).take i) x.1) ?_ ?_ _ ⟨rfl,λ s=>rfl⟩
  ·rintro i ⟨nb,_⟩ hi ⟨rfl,hN⟩;unfold CG;refine Tot.iteT (by simp;omega) (Tot.bindC (BY hi) (Jjw ⟨D0 (by omega),?_⟩));rw[List.take_add_one,JjX hi,Option.toList_some];have:=hN.snoc (p:=(AK t)[i]) (hF.nodup.sublist (List.take_sublist _ _)) (λ h=>by
    obtain⟨j,hj,e⟩:=List.mem_iff_getElem.1 h;rw[List.getElem_take]at e;have hj':j<i:=by rw[List.length_take]at hj;omega
    have:=WI hF.nodup (i:=i) (j:=j) (JjX hi) (by rw[JjX (show j<(AK t).length by omega),e]);omega)
   rw[List.length_take,Nat.min_eq_left (by omega)]at this;exact this
  ·rintro⟨nb,_⟩ ⟨rfl,hN⟩;unfold CG;refine Tot.iteF (by simp) (Jjw ?_);rw[List.take_length]at hN;exact hN
 ·refine Tot.bind (R:=SrK t fl bu mo) ?_ λ s hs=>Jjw hs;refine Tot.upto (body:=λ n (x:Aa×Int)=>CH n t (AK t) nb x.1 x.2) (AK t).length (λ i x=>x.2=(i:Int)/\SJ t fl bu mo i 0 i x.1) ?_ ?_ _ ⟨rfl,rfl,rfl,rfl,by simp,by simp,λ j s h=>by omega,λ j l hl=>?_⟩
  ·rintro i ⟨s,_⟩ hi ⟨rfl,hs⟩;have hia:i<s.Accepts.length:=by rw[hs.aln];exact hi
   have hsi:=JjX hi;unfold CH;refine Tot.iteT (by simp;omega) (Tot.bindC (BY hi) (Jjy (λ n=>VQ n t _) (Tot.bindC (BY hia) (Tot.bindC (SL hia) (Tot.bind (VZ ht hN hsi ?_) λ s' hs'=>Jjw ⟨D0 (by omega),hs'⟩)))));refine⟨hs.felt,hs.bud,hs.most,hs.len,by simpa using hs.aln,λ j q hj hq=>?_,hs.arcs⟩;rw[List.getElem?_set];split
   ·rename_i e;subst e;rw[hsi]at hq;cases hq
    first|rfl|rw[if_pos hia]
   ·exact hs.acc j q (by omega) hq
  ·rintro⟨s,_⟩ ⟨rfl,hs⟩;unfold CH;exact Tot.iteF (by simp) (Jjw ⟨hs.felt,hs.bud,hs.most,hs.len,λ i q hq=>hs.acc i q (AA hq) hq,λ i l hl=>(hs.arcs i l hl).1 (by have:=AA hl;rw[hs.len]at this;exact this)⟩)
  ·have:l=[]:=List.eq_of_mem_replicate (JjZ hl);subst this;exact⟨λ h=>by omega,λ h=>by subst h;exact .nil _ _ _,λ _=>rfl⟩
end Go.AI
end
section
namespace Go.AI
def KM {α:Type} (m:List (Int×α)):Prop:=m.Pairwise λ a b=>a.1<b.1
theorem KM.nd {α:Type} {m:List (Int×α)} (h:KM m):(m.map Prod.fst).Nodup:=by
 rw[List.Nodup,List.pairwise_map];exact h.imp λ h=>by omega
theorem JbR {α:Type} {p:Int×α}:∀ {f:List (Int×α)},p∈f->(f.map Prod.fst).Nodup->AN p.1 f=some p.2
 | q::f,hp,hnd=>by
  unfold AN;rw[JjT,List.nodup_cons]at hnd;rcases List.mem_cons.1 hp with rfl|hp
  ·rw[if_pos rfl]
  ·rw[if_neg (λ e=>hnd.1 (by rw[← e];exact List.mem_map_of_mem hp))];exact JbR hp hnd.2
theorem gin {α:Type} {x:Int} {r:α}:∀ {f:List (Int×α)},AN x f=some r->(x,r)∈f
 | q::f,hx=>by
  unfold AN at hx;split at hx
  ·rename_i e;cases hx;subst e;simp
  ·exact List.mem_cons_of_mem _ (gin hx)
theorem KM.mem {α:Type} {m:List (Int×α)} (h:KM m) (k:Int) (v:α):(k,v)∈m↔AN k m=some v:=⟨λ hm=>JbR hm h.nd,gin⟩
theorem KM.ext {α:Type} {m m':List (Int×α)} (h:KM m) (h':KM m') (e:∀ k,AN k m=AN k m'):m=m':=by
 refine Rg ?_ h.nd (h.imp λ h=>by omega) (h'.imp λ h=>by omega);have n1:m.Nodup:=h.imp λ h e=>by subst e;omega
 have n2:m'.Nodup:=h'.imp λ h e=>by subst e;omega
 rw[List.perm_ext_iff_of_nodup n1 n2];rintro⟨k,v⟩;rw[h.mem,h'.mem,e]
theorem P8 {α:Type} (k:Int) (v:α):∀ m:List (Int×α),(BJ k v m).map Prod.fst=if k∈m.map Prod.fst then m.map Prod.fst else m.map Prod.fst++[k]
 | []=>by simp[BJ]
 | p::m=>by
  unfold BJ;by_cases e:k=p.1
  ·rw[if_pos e];simp[e]
  ·rw[if_neg e,JjT,P8 k v m];by_cases hm:k∈m.map Prod.fst
   ·rw[if_pos hm,if_pos (by simp only[JjT,List.mem_cons];exact .inr hm)];rfl
   ·rw[if_neg hm,if_neg (by simp only[JjT,List.mem_cons,not_or];exact⟨e,hm⟩)];rfl
theorem UE {α:Type} (k:Int) (v:α) (m:List (Int×α)) (h:(m.map Prod.fst).Nodup):((BJ k v m).map Prod.fst).Nodup:=by
 rw[P8];split
 ·exact h
 ·rename_i hk;rw[List.nodup_append];refine⟨h,by simp,λ a ha b hb=>?_⟩;simp at hb;subst hb;intro e;subst e;exact hk ha
theorem UF {α:Type} {m:List (Int×α)} (h:(m.map Prod.fst).Nodup):KM (B6 m):=by
 have h2:((B6 m).map Prod.fst).Nodup:=(((D7 m).map _).nodup_iff).2 h;rw[List.Nodup,List.pairwise_map]at h2;exact((Ps m).and h2).imp λ⟨h3,h4⟩=>by omega
theorem Yr {α:Type} {m:List (Int×α)} (h:(m.map Prod.fst).Nodup) (k:Int):AN k (B6 m)=AN k m:=by
 have hk:=UF h;cases hg:AN k m with
 | some v=>rw[← hk.mem];exact(D7 m).mem_iff.2 (gin hg)
 | none=>
  cases hg':AN k (B6 m)with
  | none=>rfl
  | some v=>
   have:=JbR ((D7 m).mem_iff.1 (gin hg')) h;simp only at this;rw[hg]at this;cases this
theorem WT {α:Type} {m:List (Int×α)} (h:KM m) (k:Int) (v:α):KM (B6 (BJ k v m)):=UF (UE k v m h.nd)
theorem Mi {α:Type} {m:List (Int×α)} (h:KM m) (k k':Int) (v:α):AN k' (B6 (BJ k v m))=if k'=k then some v else AN k' m:=by
 rw[Yr (UE k v m h.nd),HX]
structure I7 (C:Int->Int->Prop) (m:List (Int×Int)):Prop where
 km:KM m
 lst:∀ k v,AN k m=some v->C k v/\∀ w,C k w->v<=w
 non:∀ k,AN k m=none->∀ v,¬C k v
theorem I7.ext {C:Int->Int->Prop} {m m':List (Int×Int)} (h:I7 C m) (h':I7 C m'):m=m':=by
 refine h.km.ext h'.km λ k=>?_;cases e:AN k m with
 | none=>
  cases e':AN k m' with
  | none=>rfl
  | some v=>exact absurd (h'.lst k v e').1 (h.non k e v)
 | some v=>
  cases e':AN k m' with
  | none=>exact absurd (h.lst k v e).1 (h'.non k e' v)
  | some w=>
   have h1:=(h.lst k v e).2 w (h'.lst k w e').1;have h2:=(h'.lst k w e').2 v (h.lst k v e).1;congr 1;omega
theorem I7.congr {C C':Int->Int->Prop} {m:List (Int×Int)} (h:I7 C m) (e:∀ k v,C k v↔C' k v):I7 C' m:=by
 have:C=C':=by funext k v;exact propext (e k v)
 subst this;exact h
theorem I7.has {C:Int->Int->Prop} {m:List (Int×Int)} (h:I7 C m) {k v:Int} (hc:C k v):∃ w,AN k m=some w/\w<=v:=by
 cases e:AN k m with
 | none=>exact absurd hc (h.non k e v)
 | some w=>exact⟨w,rfl,(h.lst k w e).2 v hc⟩
def JbS (k v:Int) (m:List (Int×Int)):List (Int×Int):=if((!(Option.isSome (AN k m)))||(decide (v<Option.getD (AN k m) (0:Int))))=true then B6 (BJ k v m)else m
theorem I7.upd {C:Int->Int->Prop} {m:List (Int×Int)} (h:I7 C m) (k v:Int):I7 (λ k' v'=>C k' v'\/(k'=k/\v'=v)) (JbS k v m):=by
 unfold JbS;split
 ·rename_i hc;refine⟨WT h.km k v,λ k' w hw=>?_,λ k' hn w=>?_⟩
  ·rw[Mi h.km]at hw;split at hw
   ·rename_i e;cases hw;subst e;refine⟨.inr ⟨rfl,rfl⟩,λ w' hw'=>?_⟩;rcases hw' with hw'|⟨_,rfl⟩
    ·obtain⟨x,hx,hxw⟩:=h.has hw';rw[hx]at hc;simp at hc;omega
    ·exact Int.le_refl _
   ·rename_i e;obtain⟨h1,h2⟩:=h.lst k' w hw;refine⟨.inl h1,λ w' hw'=>?_⟩;rcases hw' with hw'|⟨e',_⟩
    ·exact h2 w' hw'
    ·exact absurd e' e
  ·rw[Mi h.km]at hn;split at hn
   ·cases hn
   ·rename_i e;rintro (h1|⟨e',_⟩)
    ·exact h.non k' hn w h1
    ·exact e e'
 ·rename_i hc;refine⟨h.km,λ k' w hw=>?_,λ k' hn w=>?_⟩
  ·obtain⟨h1,h2⟩:=h.lst k' w hw;refine⟨.inl h1,λ w' hw'=>?_⟩;rcases hw' with hw'|⟨rfl,rfl⟩
   ·exact h2 w' hw'
   ·rw[hw]at hc;simp at hc;omega
  ·rintro (h1|⟨rfl,rfl⟩)
   ·exact h.non k' hn w h1
   ·rw[hn]at hc;simp at hc
abbrev Rws:=List (Option (Bool×List (Int×Int)))
structure RKr (L fl:Nat) (C:Nat->Int->Int->Prop) (rows:Rws):Prop where
 len:rows.length=L+1
 row:∀ p,p<=L->∃ m,rows[p]?=some (some (decide (p<fl),m))/\I7 (C p) m
theorem RKr.ext {L fl:Nat} {C:Nat->Int->Int->Prop} {a b:Rws} (h:RKr L fl C a) (h':RKr L fl C b):a=b:=by
 apply List.ext_getElem?;intro p;rcases JjN L p with h1|h1
 ·rw[Jki (by rw[h.len];omega),Jki (by rw[h'.len];omega)]
 ·obtain⟨m,e,hm⟩:=h.row p h1;obtain⟨m',e',hm'⟩:=h'.row p h1;rw[e,e',hm.ext hm']
theorem RKr.congr {L fl:Nat} {C C':Nat->Int->Int->Prop} {a:Rws} (h:RKr L fl C a) (e:∀ p k v,C p k v↔C' p k v):RKr L fl C' a:=by
 have:C=C':=by funext p k v;exact propext (e p k v)
 subst this;exact h
theorem RKr.rowM {L fl p:Nat} {C:Nat->Int->Int->Prop} {a:Rws} (h:RKr L fl C a) (h1:fl<=p) (h2:p<=L):∃ m,Go.AI.rowM a (p:Int)=some m/\I7 (C p) m:=by
 obtain⟨m,e,hm⟩:=h.row p h2;refine⟨m,?_,hm⟩;unfold Go.AI.rowM;rw[C0 e,show decide (p<fl)=false from by simpa using h1];rfl
theorem RKr.rowA {L fl p:Nat} {C:Nat->Int->Int->Prop} {a:Rws} (h:RKr L fl C a) (h2:p<=L):∃ m,Go.AI.rowA a (p:Int)=some (decide (p<fl),m)/\I7 (C p) m:=by
 obtain⟨m,e,hm⟩:=h.row p h2;refine⟨m,?_,hm⟩;unfold Go.AI.rowA;rw[C0 e];rfl
theorem RKr.frz {L fl:Nat} {C:Nat->Int->Int->Prop} {a:Rws} (h:RKr L fl C a) {m:List (Int×Int)} (hm:I7 (C fl) m):RKr L (fl+1) C (a.set fl (some (true,m))):=by
 refine⟨by rw[Jke];exact h.len,λ p hp=>?_⟩;by_cases e:fl=p
 ·subst e;exact⟨m,by rw[Jj8 (by rw[h.len];omega)];simp,hm⟩
 ·obtain⟨m',e',hm'⟩:=h.row p hp;refine⟨m',?_,hm'⟩;rw[Jkd e,e'];congr 3;rw[decide_eq_decide];omega
theorem RKr.upd {L fl p:Nat} {C:Nat->Int->Int->Prop} {a:Rws} (h:RKr L fl C a) (h1:fl<=p) (h2:p<=L) {m:List (Int×Int)} (hm:I7 (C p) m) (k v:Int) :
  RKr L fl (λ p' k' v'=>C p' k' v'\/(p'=p/\k'=k/\v'=v)) (a.set p (some (false,JbS k v m))):=by
 refine⟨by rw[Jke];exact h.len,λ p' hp=>?_⟩;by_cases e:p=p'
 ·subst e;refine⟨JbS k v m,by rw[Jj8 (by rw[h.len];omega),show decide (p<fl)=false from by simpa using h1],(hm.upd k v).congr λ k' v'=>?_⟩;simp
 ·obtain⟨m',e',hm'⟩:=h.row p' hp;refine⟨m',by rw[Jkd e,e'],hm'.congr λ k' v'=>?_⟩;constructor
  ·exact .inl
  ·rintro (h3|⟨h3,_⟩)
   ·exact h3
   ·exact absurd h3.symm e
end Go.AI
end
section
namespace Go.AI
def KP (f:Ao) (c:Int):Int:=(Gj 0 f c).getD 0
theorem Jg4 {s:List UInt8} (h:s.all (λ b=>decide (b.toNat<=8))=true) (i:Nat):(s[i]?.getD 0).toNat<=8:=by
 cases e:s[i]? with
 | none=>simp
 | some b=>simpa using JjH.1 h b (JjZ e)
theorem JbT {s:List UInt8} (hl:Nat.beq s.length 256=true) (ha:s.all (λ b=>decide (b.toNat<=8))=true) {x:Int} (h:0<=x) (h':x<256):∃ v,((I0 s x).bind λ b=>some (IntKind.i64.wrap b))=some v/\0<=v/\v<=8:=by
 have hl:=Jj4 hl;have:=Jg4 ha x.toNat;unfold I0;rw[if_pos ⟨h,by omega⟩,JjD,w64 (by omega) (by omega)];exact⟨_,rfl,by omega,by omega⟩
theorem Jdo {x:Int} (h:0<=x) (h':x<256):∃ v,(∀ n,CF n x=some v)/\0<=v/\v<=8:=by
 obtain⟨v,h1,h2⟩:∃ v,CF 0 x=some v/\0<=v/\v<=8:=JbT (by kernel_rfl) (by kernel_rfl) h h';exact⟨v,λ n=>h1,h2⟩
theorem P9 (f:Ao) (c:Int):(∀ n,Gj n f c=some (KP f c))/\0<=KP f c/\KP f c<=8:=by
 have hr:0<=GQ .u8 (R5 .u8 f.Up c) f.Maybe/\GQ .u8 (R5 .u8 f.Up c) f.Maybe<256:=Jbo _;obtain⟨v,h1,h2,h3⟩:=Jdo hr.1 hr.2;have e:∀ n,Gj n f c=some v:=λ n=>by unfold Gj;rw[h1];rfl
 have:KP f c=v:=by unfold KP;rw[e];rfl
 rw[this];exact⟨e,h2,h3⟩
def BK:List Ao->List UInt8->Int
 | f::fl,c::w=>KP f (c.toNat:Int)+BK fl w
 | _,_=>0
theorem Ep:∀ (fl:List Ao) (w:List UInt8),0<=BK fl w/\BK fl w<=8*w.length
 | [],w=>by cases w<;>simp[BK]<;>omega
 | f::fl,[]=>by simp[BK]
 | f::fl,c::w=>by
  have h1:=(P9 f (c.toNat:Int)).2;have h2:=Ep fl w;simp only[BK,List.length_cons];omega
theorem Nc:∀ (fl:List Ao) (w v:List UInt8),w.length<=fl.length->BK fl (w++v)=BK fl w+BK (fl.drop w.length) v
 | fl,[],v,_=>by cases fl<;>simp[BK]
 | [],_::_,_,h=>by simp at h
 | f::fl,c::w,v,h=>by
  simp only[List.cons_append,BK,List.length_cons,List.drop_succ_cons];rw[Nc fl w v (by simpa using h)];omega
theorem Qa (fl:List Ao) (w:List UInt8) (c:UInt8) (f:Ao) (h:fl[w.length]?=some f):BK fl (w++[c])=BK fl w+KP f (c.toNat:Int):=by
 have hl:=AA h;rw[Nc fl w [c] (by omega)];have:fl.drop w.length=f::fl.drop (w.length+1):=by
  rw[List.drop_eq_getElem_cons hl];rw[JjX hl]at h;rw[Option.some.inj h]
 rw[this];simp[BK]
theorem UG {s:Aa} {q:Nat} {w:List UInt8} (hL:s.Felt.length<=1000000) (hq:q<=s.Felt.length) :
  Tot (λ n=>C6 n (q:Int) w s) (λ r=>r=if q+w.length<=s.Felt.length then(BK (s.Felt.drop q) w,true)else(0,false)):=by
 unfold C6;rw[Un (by omega) (by omega)];by_cases h:q+w.length<=s.Felt.length
 ·refine Tot.iteF (by simp;omega) (Tot.bind (R:=λ y=>y=BK (s.Felt.drop q) w) ?_ ?_)
  ·refine Tot.upto (body:=λ n (x:Int×Int)=>Co n (q:Int) w s x.1 x.2) w.length (λ i x=>x.2=(i:Int)/\x.1=BK (s.Felt.drop q) (w.take i)) ?_ ?_ _ ⟨rfl,by cases s.Felt.drop q<;>rfl⟩
   ·rintro i ⟨x,_⟩ hi ⟨rfl,hx⟩;simp only at hx;subst hx;unfold Co;have hlt:q+i<s.Felt.length:=by omega
    have hf:s.Felt[q+i]?=some s.Felt[q+i]:=JjX hlt;have e1:AX .i64 (q:Int) (i:Int)=((q+i:Nat):Int):=by rw[KO (by omega) (by omega)];simp
    obtain⟨c1,c2,c3⟩:=P9 s.Felt[q+i] ((w[i].toNat:Nat):Int);have hr:=Ep (s.Felt.drop q) (w.take i);have hlt2:(w.take i).length<=1000000:=by rw[List.length_take];omega
    refine Tot.iteT (Gz hi) (Tot.bindC (by rw[e1];exact BY hlt) (Tot.bindC (JQ (JjX hi)) (Jjy c1 (Jjw ⟨D0 (by omega),?_⟩))));show AX .i64 _ _=_;rw[KO (by omega) (by omega),List.take_add_one,JjX hi,Option.toList_some,Qa _ _ _ s.Felt[q+i] (by rw[List.length_take,Nat.min_eq_left (by omega),JjQ];exact hf)]
   ·rintro⟨x,_⟩ ⟨rfl,hx⟩;simp only at hx;subst hx;unfold Co;exact Tot.iteF (IZ _) (Jjw (by show _=_;rw[List.take_length]))
  ·rintro _ rfl;exact Jjw (by rw[if_pos h])
 ·exact Tot.iteT (by simp;omega) (Jjw (by rw[if_neg h]))
end Go.AI
end
section
namespace Go.AI
def wb (s:Aa) (b:Rws):Aa:={ Felt:=s.Felt,Budget:=s.Budget,Most:=s.Most,Arcs:=s.Arcs,Accepts:=s.Accepts,Before:=b }
theorem SrK.wb {t:Ab} {fl:List Ao} {bu mo:Int} {s:Aa} (h:SrK t fl bu mo s) (b:Rws):SrK t fl bu mo (wb s b):=⟨h.felt,h.bud,h.most,h.len,h.acc,h.arcs⟩
def SS (s:Aa) (q:Nat) (e:Int×Int) (p:Nat) (k v:Int):Prop:=
 ∃ l a,idx s.Arcs e.1=some l/\a∈l/\p=q+a.Cells.length/\p<=s.Felt.length/\k=a.To/\v=e.2+BK (s.Felt.drop q) a.Cells/\v<=s.Budget
structure SmS (t:Ab) (s:Aa):Prop where
 tb:TbK t
 sr:SrK t s.Felt s.Budget s.Most s
 fl:s.Felt.length<=100000
 b0:0<=s.Budget
 b1:s.Budget<=100000
theorem SmS.wb {t:Ab} {s:Aa} (h:SmS t s) (b:Rws):SmS t (wb s b):=⟨h.tb,h.sr.wb b,h.fl,h.b0,h.b1⟩
theorem SmS.arc {t:Ab} {s:Aa} (h:SmS t s) {k:Int} {l:List Hh} (hl:idx s.Arcs k=some l) {a:Hh} (ha:a∈l):1<=a.Cells.length/\a.Cells.length<=4/\a.Print.length<=4/\∃ j:Nat,a.To=(j:Int)/\j<(AK t).length:=by
 obtain⟨_,_,h2⟩:=Cy hl;obtain⟨j,m,hE,rfl⟩:=(h.sr.arcs _ _ h2).snd a ha;obtain⟨_,_,_,hm,hj,_⟩:=hE;obtain⟨c1,c2,c3,_⟩:=FM h.tb hm;have:(clb t m).length=(cls t m).length:=by unfold clb;simp
 exact⟨by simp only;omega,by simp only;omega,c3,j,rfl,AA hj⟩
theorem Jdp {t:Ab} {s:Aa} (hs:SmS t s) {q:Nat} (hq:q<=s.Felt.length) {e:Int×Int} (he0:0<=e.2) (he1:e.2<=s.Budget) {l:List Hh} (hl:idx s.Arcs e.1=some l) (hll:l.length<=1000) {C:Nat->Int->Int->Prop} {rows:Rws} (hr:RKr s.Felt.length (q+1) C rows) (y:Aa) (m:List (Int×Int)) :
  Tot (λ n=>whl (λ (x:Aa×Int)=>Bz n y m (q:Int) e l x.1 x.2) n (wb s rows,0)) (λ r=>∃ rows',r=wb s rows'/\RKr s.Felt.length (q+1) (λ p k v=>C p k v\/SS s q e p k v) rows'):=by
 refine Tot.upto (body:=λ n (x:Aa×Int)=>Bz n y m (q:Int) e l x.1 x.2) l.length (λ i x=>x.2=(i:Int)/\∃ rows',x.1=wb s rows'/\RKr s.Felt.length (q+1) (λ p k v=>C p k v\/∃ a∈l.take i,p=q+a.Cells.length/\p<=s.Felt.length/\k=a.To/\v=e.2+BK (s.Felt.drop q) a.Cells/\v<=s.Budget) rows') ?_ ?_ _ ⟨rfl,rows,rfl,hr.congr λ p k v=>by simp⟩
 ·rintro i ⟨x,_⟩ hi ⟨rfl,rows',hx,hr'⟩;simp only at hx;subst hx;unfold Bz;obtain⟨a1,a4,_,j,hj,hjl⟩:=hs.arc hl (JjJ hi);have htk:∀ a,a∈l.take (i+1)↔a∈l.take i\/a=l[i]:=λ a=>by rw[List.take_add_one,JjX hi,Option.toList_some,List.mem_append,List.mem_singleton]
  refine Tot.iteT (Gz hi) (Tot.bindC (BY hi) (Tot.bind (UG (s:=wb s rows') (w:=l[i].Cells) (by have:=hs.fl;show s.Felt.length<=_;omega) hq) ?_));rintro r rfl;show Tot _ _;have hfl:(wb s rows').Felt=s.Felt:=rfl;rw[hfl];have hcr:=Ep (s.Felt.drop q) l[i].Cells;have hb1:=hs.b1;have nx:∀ rows'',RKr s.Felt.length (q+1) (λ p k v=>C p k v\/∃ a∈l.take (i+1),p=q+a.Cells.length/\p<=s.Felt.length/\k=a.To/\v=e.2+BK (s.Felt.drop q) a.Cells/\v<=s.Budget) rows'' ->
    Tot (λ n=>B2 n (i:Int) (wb s rows'')) (Rd2 (λ x=>x.2=((i+1:Nat):Int)/\∃ rows',x.1=wb s rows'/\RKr s.Felt.length (q+1) (λ p k v=>C p k v\/∃ a∈l.take (i+1),p=q+a.Cells.length/\p<=s.Felt.length/\k=a.To/\v=e.2+BK (s.Felt.drop q) a.Cells/\v<=s.Budget) rows') (λ r=>∃ rows',r=wb s rows'/\RKr s.Felt.length (q+1) (λ p k v=>C p k v\/SS s q e p k v) rows')):=λ rows'' h=>Jjw ⟨D0 (by omega),rows'',rfl,h⟩
  have same:¬(q+l[i].Cells.length<=s.Felt.length/\e.2+BK (s.Felt.drop q) l[i].Cells<=s.Budget)->RKr s.Felt.length (q+1) (λ p k v=>C p k v\/∃ a∈l.take (i+1),p=q+a.Cells.length/\p<=s.Felt.length/\k=a.To/\v=e.2+BK (s.Felt.drop q) a.Cells/\v<=s.Budget) rows':=λ hn=>hr'.congr λ p k v=>by
   constructor
   ·rintro (h|⟨a,ha,h⟩)
    ·exact .inl h
    ·exact .inr ⟨a,(htk a).2 (.inl ha),h⟩
   ·rintro (h|⟨a,ha,h⟩)
    ·exact .inl h
    ·rcases (htk a).1 ha with ha|rfl
     ·exact .inr ⟨a,ha,h⟩
     ·obtain⟨rfl,h1,_,rfl,h2⟩:=h;exact absurd ⟨h1,h2⟩ hn
  by_cases hfit:q+l[i].Cells.length<=s.Felt.length
  ·rw[if_pos hfit];have hadd:AX .i64 e.2 (BK (s.Felt.drop q) l[i].Cells)=e.2+BK (s.Felt.drop q) l[i].Cells:=KO (by omega) (by omega);have hadd2:AX .i64 (q:Int) ((List.length l[i].Cells:Nat):Int)=((q+l[i].Cells.length:Nat):Int):=by rw[KO (by have:=hs.fl;omega) (by have:=hs.fl;omega)];simp
   simp only[hadd,hadd2,JjK,Bool.false_or];by_cases hbu:e.2+BK (s.Felt.drop q) l[i].Cells<=s.Budget
   ·refine Tot.iteF (by simp;exact hbu) ?_;obtain⟨m3,hm3,hrow⟩:=hr'.rowM (p:=q+l[i].Cells.length) (by omega) hfit;refine Tot.bindC hm3 ?_;have hu:=hr'.upd (p:=q+l[i].Cells.length) (by omega) hfit hrow l[i].To (e.2+BK (s.Felt.drop q) l[i].Cells);have hu2:=hu.congr (C':=λ p k v=>C p k v\/∃ a∈l.take (i+1),p=q+a.Cells.length/\p<=s.Felt.length/\k=a.To/\v=e.2+BK (s.Felt.drop q) a.Cells/\v<=s.Budget) λ p k v=>by
     constructor
     ·rintro ((h|⟨a,ha,h⟩)|⟨rfl,rfl,rfl⟩)
      ·exact .inl h
      ·exact .inr ⟨a,(htk a).2 (.inl ha),h⟩
      ·exact .inr ⟨l[i],(htk _).2 (.inr rfl),rfl,hfit,rfl,rfl,hbu⟩
     ·rintro (h|⟨a,ha,h⟩)
      ·exact .inl (.inl h)
      ·rcases (htk a).1 ha with ha|rfl
       ·exact .inl (.inr ⟨a,ha,h⟩)
       ·obtain⟨rfl,_,rfl,rfl,_⟩:=h;exact .inr ⟨rfl,rfl,rfl⟩
    unfold JbS at hu2;rw[Jj6];refine Tot.ite (λ hc=>?_) λ hc=>?_
    ·rw[if_pos hc]at hu2;exact nx _ hu2
    ·rw[if_neg (by rw[hc];simp)]at hu2;exact nx _ hu2
   ·exact Tot.iteT (by simp;show s.Budget<_;omega) (nx _ (same λ h=>hbu h.2))
  ·rw[if_neg hfit];exact Tot.iteT rfl (nx _ (same λ h=>hfit h.1))
 ·rintro⟨x,_⟩ ⟨rfl,rows',hx,hr'⟩;simp only at hx;subst hx;unfold Bz;refine Tot.iteF (IZ _) (Jjw ⟨rows',rfl,hr'.congr λ p k v=>?_⟩);rw[List.take_length];constructor
  ·rintro (h|⟨a,ha,h⟩)
   ·exact .inl h
   ·exact .inr ⟨l,a,hl,ha,h⟩
  ·rintro (h|⟨l',a,hl',ha,h⟩)
   ·exact .inl h
   ·rw[hl]at hl';cases hl';exact .inr ⟨a,ha,h⟩
theorem Jdq {t:Ab} {s:Aa} (hs:SmS t s) {q:Nat} (hq:q<=s.Felt.length) {e:Int×Int} (he0:0<=e.2) (he1:e.2<=s.Budget) (hk:∃ i:Nat,e.1=(i:Int)/\i<(AK t).length) {C:Nat->Int->Int->Prop} {rows:Rws} (hr:RKr s.Felt.length (q+1) C rows) (y:Aa) (m:List (Int×Int)) :
  Tot (λ n=>Ba n y m (q:Int) e (wb s rows)) (Rd2 (λ r=>∃ rows',r=wb s rows'/\RKr s.Felt.length (q+1) (λ p k v=>C p k v\/SS s q e p k v) rows') (λ _=>True)):=by
 obtain⟨i,hi,hil⟩:=hk;have hlt:i<s.Arcs.length:=by rw[hs.sr.len];exact hil
 have hl:idx s.Arcs e.1=some s.Arcs[i]:=by rw[hi];exact BY hlt
 have hA:=hs.sr.arcs i _ (JjX hlt);have hr11:=hs.tb.tab.1;unfold Ba;refine Tot.bindC (show idx (wb s rows).Arcs e.1=some s.Arcs[i]from hl) (Tot.bind (Jdp hs hq he0 he1 hl (by have:=hA.len;omega) hr y m) λ r h=>Jjw h)
structure CV (t:Ab) (s:Aa) (q:Nat) (C:Nat->Int->Int->Prop) (rows:Rws):Prop where
 rk:RKr s.Felt.length q C rows
 val:∀ p k v,C p k v->(∃ i:Nat,k=(i:Int)/\i<(AK t).length)/\0<=v/\v<=s.Budget
 rt:C 0 0 0/\∀ v,C 0 0 v->v=0
 clo:∀ p,p<q->∀ m,rows[p]?=some (some (true,m))->∀ e∈m,∀ P K V,SS s p e P K V->C P K V
theorem Qb {t:Ab} {s:Aa} (hs:SmS t s) {q:Nat} {e:Int×Int} {P:Nat} {K V:Int} (h:SS s q e P K V):q<P/\(∃ i:Nat,K=(i:Int)/\i<(AK t).length)/\e.2<=V/\V<=s.Budget:=by
 obtain⟨l,a,hl,ha,rfl,_,rfl,rfl,h4⟩:=h;obtain⟨a1,_,_,j,hj,hjl⟩:=hs.arc hl ha;have:=Ep (s.Felt.drop q) a.Cells;exact⟨by omega,⟨j,hj,hjl⟩,by omega,h4⟩
theorem Jdr {t:Ab} {s:Aa} (hs:SmS t s) {q:Nat} (hq:q<=s.Felt.length) {C:Nat->Int->Int->Prop} {rows:Rws} (hc:CV t s q C rows) (y:Aa) (hy:y.Before.length=s.Felt.length+1) (m:List (Int×Int)) :
  Tot (λ n=>BA n y m (wb s rows) (q:Int)) (Rd2 (λ x=>x.2=((q+1:Nat):Int)/\∃ C' rows',x.1=wb s rows'/\CV t s (q+1) C' rows') (λ _=>False)):=by
 have hfl:=hs.fl;obtain⟨m2,hm2,hrow⟩:=hc.rk.rowA hq;have hfz:RKr s.Felt.length (q+1) C (rows.set q (some (true,m2))):=hc.rk.frz hrow;have hent:∀ e∈m2,(∃ i:Nat,e.1=(i:Int)/\i<(AK t).length)/\0<=e.2/\e.2<=s.Budget:=λ e he=>hc.val q e.1 e.2 (hrow.lst e.1 e.2 ((hrow.km.mem e.1 e.2).1 he)).1;unfold BA;refine Tot.iteT (by simp[hy];omega) ?_;refine Tot.bindC hm2 ?_;have pass:∀ o:List (Int×Int),o.Perm m2->Tot (λ n=>mapW (λ (e:Int×Int) (x:Aa)=>Ba n y m (q:Int) e x) o (wb s (rows.set q (some (true,m2))))) (Rd2 (λ r=>∃ rows',r=wb s rows'/\RKr s.Felt.length (q+1) (λ p k v=>C p k v\/∃ e∈m2,SS s q e p k v) rows') (λ _=>True)):=λ o ho=>by
  refine(Tot.mapW (F:=λ n e x=>Ba n y m (q:Int) e x) (λ u r=>∃ rows',r=wb s rows'/\RKr s.Felt.length (q+1) (λ p k v=>C p k v\/∃ e∈u,SS s q e p k v) rows') (λ u e v x hu hx=>?_) ⟨_,rfl,hfz.congr λ p k v=>by simp⟩).mono λ z hz=>?_
  ·obtain⟨rows',rfl,hr'⟩:=hx;have hem:e∈m2:=ho.mem_iff.1 (by rw[hu];simp);obtain⟨h1,h2,h3⟩:=hent e hem;refine(Jdq hs hq h2 h3 h1 hr' y m).mono λ z hz=>?_;cases z with
   | inr z=>exact trivial
   | inl z=>
    obtain⟨rows'',e1,h4⟩:=hz;refine⟨rows'',e1,h4.congr λ p k v=>?_⟩;constructor
    ·rintro ((h|⟨e',he',h⟩)|h)
     ·exact .inl h
     ·exact .inr ⟨e',by simp[he'],h⟩
     ·exact .inr ⟨e,by simp,h⟩
    ·rintro (h|⟨e',he',h⟩)
     ·exact .inl (.inl h)
     ·rcases List.mem_append.1 he' with he'|he'
      ·exact .inl (.inr ⟨e',he',h⟩)
      ·simp only[List.mem_singleton]at he';subst he';exact .inr h
  ·cases z with
   | inr z=>exact trivial
   | inl z=>
    obtain⟨rows',e1,h4⟩:=hz;refine⟨rows',e1,h4.congr λ p k v=>?_⟩;constructor
    ·rintro (h|⟨e',he',h⟩)
     ·exact .inl h
     ·exact .inr ⟨e',ho.mem_iff.1 he',h⟩
    ·rintro (h|⟨e',he',h⟩)
     ·exact .inl h
     ·exact .inr ⟨e',ho.mem_iff.2 he',h⟩
 obtain⟨z0,hz0,_⟩:=pass m2 (List.Perm.refl _);cases z0 with
 | inr z=>exact nomatch z
 | inl z0=>
  obtain⟨rows0,rfl,h0⟩:=hz0;refine Tot.demP (.inl (wb s rows0,((q+1:Nat):Int))) (λ o ho=>?_) ⟨rfl,_,rows0,rfl,h0,?_,?_,?_⟩
  ·refine Tot.bind (pass o ho) ?_;rintro (z|z) hz
   ·obtain⟨rows',rfl,h'⟩:=hz;have:=h'.ext h0;subst this;exact Jjw (by rw[D0 (by omega)])
   ·exact nomatch z
  ·rintro p k v (h|⟨e,he,h⟩)
   ·exact hc.val p k v h
   ·obtain⟨h1,h2,h3,h4⟩:=Qb hs h;exact⟨h2,by have:=(hent e he).2.1;omega,h4⟩
  ·refine⟨.inl hc.rt.1,λ v hv=>?_⟩;rcases hv with h|⟨e,he,h⟩
   ·exact hc.rt.2 v h
   ·have:=(Qb hs h).1;omega
  ·intro p hp m' hm' e he P K V hx;have hsame:∀ k v,(C p k v\/∃ e∈m2,SS s q e p k v)↔C p k v:=λ k v=>by
    constructor
    ·rintro (h|⟨e,_,h⟩)
     ·exact h
     ·have:=(Qb hs h).1;omega
    ·exact .inl
   obtain⟨m'',e'',hm''⟩:=h0.row p (by omega);rw[e'',decide_eq_true (show p<q+1 by omega)]at hm';cases hm';have hm3:=hm''.congr hsame;rcases JjN p q with h1|h1
   ·obtain⟨m4,e4,hm4⟩:=hc.rk.row p (by omega);rw[hm4.ext hm3,decide_eq_true h1]at e4;exact .inl (hc.clo p h1 _ e4 e he P K V hx)
   ·have:p=q:=by omega
    subst this;rw[hm3.ext hrow]at he;exact .inr ⟨e,he,hx⟩
structure FwK (t:Ab) (s:Aa) (rows:Rws):Prop where
 cv:∃ C,CV t s (s.Felt.length+1) C rows
theorem V0 {t:Ab} {s:Aa} (hs:SmS t s):Tot (λ n=>CW n s) (λ r=>∃ rows,r=wb s rows/\FwK t s rows):=by
 have hfl:=hs.fl;have hadd:AX .i64 ((s.Felt.length:Nat):Int) 1=((s.Felt.length+1:Nat):Int):=D0 (by omega);unfold CW;rw[hadd];refine Tot.bindC (Jbp (by omega) (by rw[Jj6];omega)) ?_;rw[Jj6];refine Tot.bind (R:=λ y=>y=wb s (List.replicate (s.Felt.length+1) (some (false,[])))) ?_ ?_
 ·refine Tot.upto (body:=λ n (x:Aa×Int)=>B1 n (List.replicate (s.Felt.length+1) none) x.1 x.2) (s.Felt.length+1) (λ i x=>x.2=(i:Int)/\x.1=wb s (List.replicate i (some (false,[]))++List.replicate (s.Felt.length+1-i) none)) ?_ ?_ _ ⟨rfl,rfl⟩
  ·rintro i ⟨x,_⟩ hi ⟨rfl,hx⟩;simp only at hx;subst hx;unfold B1;have hlt:i<(wb s (List.replicate i (some (false,[]))++List.replicate (s.Felt.length+1-i) none)).Before.length:=by show i<(List.replicate i _++List.replicate _ _).length;simp;omega
   refine Tot.iteT (by simp;omega) (Tot.bindC (BY hlt) (Jjw ⟨D0 (by omega),?_⟩));show wb s _=wb s _;congr 1;rw[Jj6];obtain⟨d,hd⟩:∃ d,s.Felt.length+1-i=d+1:=⟨s.Felt.length-i,by omega⟩;rw[show s.Felt.length+1-(i+1)=d by omega];show(List.replicate i _++List.replicate (s.Felt.length+1-i) none).set i _=_;rw[hd,List.replicate_succ];have:=Ok (List.replicate i (some (false,([]:List (Int×Int))))) (List.replicate d none) none (some (false,[]));rw[List.length_replicate]at this;rw[this,List.replicate_succ'];simp
  ·rintro⟨x,_⟩ ⟨rfl,hx⟩;simp only at hx;subst hx;unfold B1;refine Tot.iteF (by simp) (Jjw ?_);show wb s _=wb s _;simp
 ·rintro _ rfl;have hrow0:rowM (wb s (List.replicate (s.Felt.length+1) (some (false,([]:List (Int×Int)))))).Before 0=some []:=by
   unfold rowM;rw[show idx (wb s (List.replicate (s.Felt.length+1) (some (false,([]:List (Int×Int)))))).Before 0=some (some (false,[]))from rfl];rfl
  refine Tot.bindC hrow0 (Tot.bind (R:=λ r=>∃ rows,r=wb s rows/\FwK t s rows) ?_ λ r hr=>Jjw hr);refine Tot.upto (body:=λ n (x:Aa×Int)=>BA n (wb s (List.replicate (s.Felt.length+1) (some (false,[])))) [] x.1 x.2) (s.Felt.length+1) (λ i x=>x.2=(i:Int)/\∃ C rows,x.1=wb s rows/\CV t s i C rows) ?_ ?_ _ ⟨rfl,λ p k v=>p=0/\k=0/\v=0,(List.replicate (s.Felt.length+1) (some (false,[]))).set 0 (some (false,[(0,0)])),rfl,?_,?_,?_,λ p hp=>by omega⟩
  ·rintro i ⟨x,_⟩ hi ⟨rfl,C,rows,hx,hc⟩;simp only at hx;subst hx;refine(Jdr hs (by omega) hc _ (by show(List.replicate _ _).length=_;simp) []).mono λ z hz=>?_;cases z with
   | inl z=>exact hz
   | inr z=>exact hz.elim
  ·rintro⟨x,_⟩ ⟨rfl,C,rows,hx,hc⟩;simp only at hx;subst hx;unfold BA;refine Tot.iteF (by show decide (_<((List.length ((List.replicate _ _).set _ _):Nat):Int))=false;simp) (Jjw ⟨rows,rfl,⟨C,hc⟩⟩)
  ·refine⟨by simp,λ p hp=>?_⟩;by_cases e:p=0
   ·subst e;refine⟨[(0,0)],by simp,List.pairwise_singleton _ _,λ k v h=>?_,λ k h v hh=>?_⟩
    ·simp only[AN]at h;split at h
     ·cases h;rename_i e;subst e;exact⟨⟨rfl,rfl,rfl⟩,λ w hw=>by rw[hw.2.2];exact Int.le_refl _⟩
     ·cases h
    ·simp only[AN]at h;rw[if_pos hh.2.1]at h;cases h
   ·refine⟨[],?_,List.Pairwise.nil,λ k v h=>(by cases h),λ k _ v h=>e h.1⟩;rw[Jkd (Ne.symm e),List.getElem?_replicate,if_pos (by omega)];rfl
  ·rintro p k v ⟨rfl,rfl,rfl⟩;exact⟨⟨0,rfl,by have:=(Eo hs.tb.tab).1.first;exact AA this⟩,Int.le_refl _,hs.b0⟩
  ·exact⟨⟨rfl,rfl,rfl⟩,λ v h=>h.2.2⟩
end Go.AI
end
section
namespace Go.AI
inductive Rdg (t:Ab):Nat->List Ao->Af->Prop
 | nil (i:Nat) (q:Ae) (h:(AK t)[i]?=some q) (ha:Bf t q=true):Rdg t i [] ⟨0,[],[]⟩
 | arc (i k j:Nat) (fl:List Ao) (r:Af) (h:Edge t (AK t) i k j) (hl:(clb t k).length<=fl.length) (hr:Rdg t j (fl.drop (clb t k).length) r):Rdg t i fl ⟨BK fl (clb t k)+r.Cost,prt t k++r.Text,clb t k++r.Cells⟩
theorem E7 (t:Ab) (k:Nat):(clb t k).length=(cls t k).length:=by unfold clb;simp
theorem Rdg.len {t:Ab} (ht:TbK t) {i:Nat} {fl:List Ao} {r:Af} (h:Rdg t i fl r):r.Cells.length=fl.length/\r.Text.length<=4*fl.length/\0<=r.Cost:=by
 induction h with
 | nil=>simp
 | arc i k j fl r h hl hr ih=>
  obtain⟨_,_,_,hk,_,_⟩:=h;obtain⟨c1,c2,c3,_⟩:=FM ht hk;have h1:=Ep fl (clb t k);rw[List.length_drop]at ih;rw[E7]at hl ih;simp only[List.length_append,E7];omega
abbrev Lws:=List (Option (Bool×List (Int×List Af)))
def Nd (ls:Lws) (p:Nat):List (Int×List Af):=match ls[p % 5]? with
 | some (some (_,m))=>m
 | _=>[]
structure II (t:Ab) (s:Aa) (M:Nat) (u:List (Int×Int)) (p:Nat) (mm:List (Int×List Af)):Prop where
 km:KM mm
 som:∀ k l,AN k mm=some l->l≠[]/\∃ (i:Nat) (σ:Int),k=(i:Int)/\(k,σ)∈u/\Bst (Rdg t i (s.Felt.drop p)) (s.Budget-σ) M l
 non:∀ k,AN k mm=none->∀ (i:Nat) (σ:Int),k=(i:Int)->(k,σ)∈u->Bst (Rdg t i (s.Felt.drop p)) (s.Budget-σ) M []
theorem Bst.uniq {T:Af->Prop} {B:Int} {M:Nat} {l l':List Af} (h:Bst T B M l) (h':Bst T B M l'):l=l':=by
 rw[h.take h' (JjM _)];exact List.take_of_length_le h'.len
theorem II.ext {t:Ab} {s:Aa} {M:Nat} {u:List (Int×Int)} {p:Nat} {a b:List (Int×List Af)} (hu:(u.map Prod.fst).Nodup) (h:II t s M u p a) (h':II t s M u p b):a=b:=by
 have one:∀ k σ σ',(k,σ)∈u->(k,σ')∈u->σ=σ':=λ k σ σ' h1 h2=>by
  have e1:=JbR h1 hu;have e2:=JbR h2 hu;simp only at e1 e2;rw[e1]at e2;exact Option.some.inj e2
 refine h.km.ext h'.km λ k=>?_;cases e:AN k a with
 | none=>
  cases e':AN k b with
  | none=>rfl
  | some l=>
   obtain⟨h1,i,σ,hi,hm,hb⟩:=h'.som k l e';exact absurd (hb.uniq (h.non k e i σ hi hm)) h1
 | some l=>
  obtain⟨h1,i,σ,hi,hm,hb⟩:=h.som k l e;cases e':AN k b with
  | none=>exact absurd (hb.uniq (h'.non k e' i σ hi hm)) h1
  | some l'=>
   obtain⟨_,i',σ',hi',hm',hb'⟩:=h'.som k l' e';have hii:i=i':=by omega
   subst hii;rw[one k σ σ' hm hm']at hb;rw[hb.uniq hb']
theorem II.congr {t:Ab} {s:Aa} {M:Nat} {u u':List (Int×Int)} {p:Nat} {a:List (Int×List Af)} (h:II t s M u p a) (e:∀ x,x∈u↔x∈u'):II t s M u' p a:=
 ⟨h.km,λ k l hl=>by obtain⟨h1,i,σ,h2,h3,h4⟩:=h.som k l hl;exact⟨h1,i,σ,h2,(e _).1 h3,h4⟩,λ k hk i σ hi hm=>h.non k hk i σ hi ((e _).2 hm)⟩
def hdA (s:Aa) (q:Nat) (ls:Lws) (a:Hh):Ah:={ Arc:=a,More:=BK (s.Felt.drop q) a.Cells,List:=Option.getD (AN a.To (Nd ls (q+a.Cells.length))) [],First:=⟨0,[],[]⟩ }
def hdO (s:Aa) (q:Nat) (ls:Lws) (a:Hh):Option Ah:=if q+a.Cells.length<=s.Felt.length then some (hdA s q ls a)else none
structure LK (s:Aa) (q:Nat) (ls:Lws):Prop where
 len:ls.length=5
 row:∀ p,q<=p->p<=s.Felt.length->p<q+5->∃ mm,ls[p % 5]?=some (some (false,mm))
theorem LK.rowM {s:Aa} {q p:Nat} {ls:Lws} (h:LK s q ls) (h1:q<=p) (h2:p<=s.Felt.length) (h3:p<q+5):Go.AI.rowM ls ((p % 5:Nat):Int)=some (Nd ls p)/\ls.set (p % 5) (some (false,Nd ls p))=ls:=by
 obtain⟨mm,e⟩:=h.row p h1 h2 h3;have em:Nd ls p=mm:=by unfold Nd;rw[e]
 rw[em];refine⟨by unfold Go.AI.rowM;rw[C0 e];rfl,?_⟩;apply List.ext_getElem?;intro j;by_cases ej:p % 5=j
 ·subst ej;rw[Jj8 (by rw[h.len];omega),e]
 ·rw[Jkd ej]
theorem UH (p:Nat):Bg (p:Int) 5=((p % 5:Nat):Int):=by
 rw[(M7 (by omega) (by omega)).1];omega
theorem JbU {t:Ab} {s:Aa} (hs:SmS t s) {q:Nat} (hq:q<=s.Felt.length) {ls:Lws} (hls:LK s (q+1) ls) {i:Nat} {l:List Hh} (hl:s.Arcs[i]?=some l) (rows:Rws) (e:Int×Int) (h0:List Ah) (h01:h0.length<=1) :
  Tot (λ n=>whl (λ (x:Lws×List Ah×Int)=>Br n (q:Int) (wb s rows) e l x.1 x.2.1 x.2.2) n (ls,h0,0)) (λ r=>r=(ls,h0++l.filterMap (hdO s q ls))):=by
 have hA:=hs.sr.arcs i _ hl;have hr11:=hs.tb.tab.1;have hfl:=hs.fl;have hll:l.length<=11:=by have:=hA.len;omega
 refine Tot.upto (body:=λ n (x:Lws×List Ah×Int)=>Br n (q:Int) (wb s rows) e l x.1 x.2.1 x.2.2) l.length (λ m x=>x.2.2=(m:Int)/\x.1=ls/\x.2.1=h0++(l.take m).filterMap (hdO s q ls)) ?_ ?_ _ ⟨rfl,rfl,by simp⟩
 ·rintro m ⟨x,hh,_⟩ hm ⟨rfl,hx,hhh⟩;simp only at hx hhh;subst hx;subst hhh;unfold Br;have hidx:idx s.Arcs (i:Int)=some l:=C0 hl;obtain⟨a1,a4,_,j,hj,hjl⟩:=hs.arc hidx (JjJ hm);refine Tot.iteT (Gz hm) (Tot.bindC (BY hm) (Tot.bind (UG (s:=wb s rows) (w:=l[m].Cells) (by show s.Felt.length<=_;omega) hq) ?_));rintro r rfl;have hfl2:(wb s rows).Felt=s.Felt:=rfl;rw[hfl2];have htk:(l.take (m+1)).filterMap (hdO s q x)=(l.take m).filterMap (hdO s q x)++(hdO s q x l[m]).toList:=by
   rw[List.take_add_one,JjX hm,Option.toList_some,List.filterMap_append];congr 1
  have hlen:(h0++(l.take m).filterMap (hdO s q x)).length<=1+11:=by
   have:=List.length_filterMap_le (hdO s q x) (l.take m);simp only[List.length_append,List.length_take]at this⊢;omega
  by_cases hfit:q+l[m].Cells.length<=s.Felt.length
  ·rw[if_pos hfit];have hadd2:AX .i64 (q:Int) ((List.length l[m].Cells:Nat):Int)=((q+l[m].Cells.length:Nat):Int):=by rw[KO (by omega) (by omega)];simp
   refine Tot.iteT rfl ?_;simp only[hadd2,UH];obtain⟨e1,e2⟩:=hls.rowM (p:=q+l[m].Cells.length) (by omega) hfit (by omega);refine Tot.bindC e1 (Tot.bindC (Cd (by simp;omega)) (Tot.bindC (Gx (by simp only[List.length_cons,List.length_nil];omega)) ?_));rw[Jj6,e2];refine Jjw ⟨D0 (by omega),rfl,?_⟩;rw[htk];unfold hdO;rw[if_pos hfit];simp[hdA]
  ·rw[if_neg hfit];refine Tot.iteF rfl (Jjw ⟨D0 (by omega),rfl,?_⟩);rw[htk];unfold hdO;rw[if_neg hfit];simp
 ·rintro⟨x,hh,_⟩ ⟨rfl,hx,hhh⟩;simp only at hx hhh;subst hx;subst hhh;unfold Br;refine Tot.iteF (IZ _) (Jjw (by show _=_;rw[List.take_length]))
end Go.AI
end
section
namespace Go.AI
theorem Jds {h:Ah} (hp:h.List.Pairwise klr):(gam h).Pairwise klr:=by
 unfold gam;rw[List.pairwise_map];refine hp.imp λ {a b} hk=>?_;rcases hk with hk|⟨hk,h2⟩
 ·exact .inl (by show h.More+a.Cost<h.More+b.Cost;omega)
 ·exact .inr ⟨by show h.More+a.Cost=h.More+b.Cost;omega,(SP _).2 h2⟩
theorem Jdt {h:Ah} (hp:h.List.Pairwise λ a b=>a.Text≠b.Text):(gam h).Pairwise λ a b=>a.Text≠b.Text:=by
 unfold gam;rw[List.pairwise_map];exact hp.imp λ {a b} hk e=>hk (List.append_cancel_left e)
theorem Bst.tx {T:Af->Prop} {B:Int} {M:Nat} {l:List Af} (h:Bst T B M l):l.Pairwise λ a b=>a.Text≠b.Text:=
 List.Pairwise.imp_of_mem (λ {a b} ha hb hab e=>by
  have:=h.dst a ha b hb e;subst this;exact CA _ hab) h.srt
theorem Jg5 {h:Ah} {a b:Af} (hl:le2 a b):le2 (mpR h a) (mpR h b):=by
 rcases hl with hl|⟨hl,h2⟩
 ·exact .inl (by show h.More+a.Cost<h.More+b.Cost;omega)
 ·exact .inr ⟨by show h.More+a.Cost=h.More+b.Cost;omega,λ h3=>h2 ((SP _).1 h3)⟩
theorem Jg6 {h:Ah} {a b:Af} (hl:klr a b):klr (mpR h a) (mpR h b):=by
 rcases hl with hk|⟨hk,h2⟩
 ·exact .inl (by show h.More+a.Cost<h.More+b.Cost;omega)
 ·exact .inr ⟨by show h.More+a.Cost=h.More+b.Cost;omega,(SP _).2 h2⟩
def hd0:Ah:={ Arc:=⟨[],[],0⟩,More:=0,List:=[⟨0,[],[]⟩],First:=⟨0,[],[]⟩ }
def LV (t:Ab) (s:Aa) (M:Nat) (rows:Rws) (q:Nat) (ls:Lws):Prop:=
 ls.length=5/\∀ p m,q<p->p<=s.Felt.length->p<q+5->rows[p]?=some (some (true,m))->∃ mm,ls[p % 5]?=some (some (false,mm))/\II t s M m p mm
theorem LV.set {t:Ab} {s:Aa} {M:Nat} {rows:Rws} {q:Nat} {ls:Lws} (h:LV t s M rows q ls) (x:Option (Bool×List (Int×List Af))):LV t s M rows q (ls.set (q % 5) x):=by
 refine⟨by rw[Jke];exact h.1,λ p m h1 h2 h3 h4=>?_⟩;obtain⟨mm,e,hm⟩:=h.2 p m h1 h2 h3 h4;exact⟨mm,by rw[Jkd (by omega)];exact e,hm⟩
theorem RKr.at {L fl p:Nat} {C:Nat->Int->Int->Prop} {a:Rws} (h:RKr L fl C a) (h1:p<fl) (h2:p<=L):∃ m,a[p]?=some (some (true,m))/\I7 (C p) m:=by
 obtain⟨m,e,hm⟩:=h.row p h2;rw[decide_eq_true h1]at e;exact⟨m,e,hm⟩
theorem Ys {t:Ab} {s:Aa} (hs:SmS t s) {M:Nat} (hM:s.Most=(M:Int)) (hM0:1<=M) (hM1:M<=1000) {C:Nat->Int->Int->Prop} {rows:Rws} (hc:CV t s (s.Felt.length+1) C rows) {q:Nat} (hq:q<=s.Felt.length) {m:List (Int×Int)} (hm:rows[q]?=some (some (true,m)))
  {i:Nat} {σ:Int} (he:((i:Int),σ)∈m) {g:Ae} (hg:(AK t)[i]?=some g) {l:List Hh} (hl:s.Arcs[i]?=some l) {ls:Lws} (hls:LV t s M rows q ls) (rows':Rws) :
  Tot (λ n=>CI n (s.Budget-σ) (wb s rows') ((if q=s.Felt.length/\Bf t g=true then [hd0]else [])++l.filterMap (hdO s q ls))) (Bst (Rdg t i (s.Felt.drop q)) (s.Budget-σ) M):=by
 have hA:=hs.sr.arcs i _ hl;have hr11:=hs.tb.tab.1;have hfl:=hs.fl;have hb0:=hs.b0;have hb1:=hs.b1;have hhd:∀ h∈(if q=s.Felt.length/\Bf t g=true then [hd0]else [])++l.filterMap (hdO s q ls),(h=hd0/\q=s.Felt.length/\Bf t g=true) \/
   ∃ k j:Nat,Edge t (AK t) i k j/\q+(clb t k).length<=s.Felt.length/\h.Arc=⟨prt t k,clb t k,(j:Int)⟩/\h.More=BK (s.Felt.drop q) (clb t k)/\(h.List=[]\/∃ σ',0<=σ'/\Bst (Rdg t j (s.Felt.drop (q+(clb t k).length))) (s.Budget-σ') M h.List):=λ h hh=>by
  rcases List.mem_append.1 hh with hh|hh
  ·split at hh
   ·rename_i hx;simp only[List.mem_singleton]at hh;exact .inl ⟨hh,hx.1,hx.2⟩
   ·simp at hh
  ·right;obtain⟨a,ha,e⟩:=List.mem_filterMap.1 hh;unfold hdO at e;split at e
   ·rename_i hfit;cases e;obtain⟨j,k,hE,rfl⟩:=hA.snd a ha;have hk4:=FM hs.tb hE.choose_spec.choose_spec.2.1;simp only at hfit;refine⟨k,j,hE,hfit,rfl,rfl,?_⟩;obtain⟨mp,emp,hrp⟩:=hc.rk.at (p:=q+(clb t k).length) (by omega) hfit;obtain⟨mm,emm,hmm⟩:=hls.2 (q+(clb t k).length) mp (by rw[E7];omega) hfit (by rw[E7];omega) emp;have:Nd ls (q+(clb t k).length)=mm:=by unfold Nd;rw[emm]
    show Option.getD (AN (j:Int) (Nd ls (q+(clb t k).length))) []=[]\/_;rw[this];cases e3:AN (j:Int) mm with
    | none=>exact .inl rfl
    | some x=>
     right;obtain⟨_,j',σ',hj',hmem,hb⟩:=hmm.som _ _ e3;have:j=j':=by omega
     subst this;have hv:=hc.val _ _ _ (hrp.lst _ _ ((hrp.km.mem _ _).1 hmem)).1;refine⟨σ',hv.2.1,?_⟩;show Bst _ _ _ (Option.getD (AN (j:Int) (Nd ls (q+(clb t k).length))) []);rw[‹Nd ls _=mm›,e3];exact hb
   ·cases e
 have hlen:((if q=s.Felt.length/\Bf t g=true then [hd0]else [])++l.filterMap (hdO s q ls)).length<=12:=by
  have h1:=List.length_filterMap_le (hdO s q ls) l;have h2:=hA.len;rw[List.length_append];split<;>simp<;>omega
 have hBst:∀ h∈(if q=s.Felt.length/\Bf t g=true then [hd0]else [])++l.filterMap (hdO s q ls),h.List.Pairwise klr/\h.List.Pairwise λ a b=>a.Text≠b.Text:=λ h hh=>by
  rcases hhd h hh with⟨rfl,_⟩|⟨k,j,_,_,_,_,e|⟨σ',_,hb⟩⟩
  ·exact⟨List.pairwise_singleton _ _,List.pairwise_singleton _ _⟩
  ·rw[e];exact⟨List.Pairwise.nil,List.Pairwise.nil⟩
  ·exact⟨hb.srt,hb.tx⟩
 refine JbP (s:=wb s rows') hM hM1 (by omega) (λ h hh=>?_) (λ h hh c hc'=>?_) (λ h hh=>Jds (hBst h hh).1) (λ h hh=>Jdt (hBst h hh).2) λ r hr hrB=>?_
 ·rcases hhd h hh with⟨rfl,_⟩|⟨k,j,hE,hfit,ea,em,hl'⟩
  ·exact⟨Int.le_refl _,by decide,by decide,by decide,λ r hr=>by
    have:r=⟨0,[],[]⟩:=by simpa [hd0]using hr
    subst this;exact⟨Int.le_refl _,by decide,by decide,by decide⟩⟩
  ·obtain⟨_,_,_,hk,_,_⟩:=hE;obtain⟨c1,c2,c3,_⟩:=FM hs.tb hk;have h1:=Ep (s.Felt.drop q) (clb t k);rw[E7]at h1;refine⟨by rw[em];omega,by rw[em];omega,by rw[ea];show(prt t k).length<=_;omega,by rw[ea];show(clb t k).length<=_;rw[E7];omega,λ r hr=>?_⟩;rcases hl' with e|⟨σ',h0,hb⟩
   ·rw[e]at hr;simp at hr
   ·obtain⟨h2,h3⟩:=hb.snd r hr;obtain⟨h4,h5,h6⟩:=h2.len hs.tb;rw[List.length_drop]at h4 h5;exact⟨h6,by omega,by omega,by omega⟩
 ·obtain⟨r,hr,rfl⟩:=JjP.1 hc';rcases hhd h hh with⟨rfl,e1,e2⟩|⟨k,j,hE,hfit,ea,em,hl'⟩
  ·have:r=⟨0,[],[]⟩:=by simpa [hd0]using hr
   subst this;rw[e1,List.drop_length];exact .nil i g hg e2
  ·rcases hl' with e|⟨σ',h0,hb⟩
   ·rw[e]at hr;simp at hr
   ·obtain⟨h2,_⟩:=hb.snd r hr;have:=Rdg.arc i k j (s.Felt.drop q) r hE (by rw[List.length_drop];omega) (by rw[List.drop_drop];exact h2);unfold mpR;rw[ea,em];exact this
 ·generalize hfd:s.Felt.drop q=fd at hr;cases hr with
  | nil _ g' hg' ha=>
   have e1:q=s.Felt.length:=by have:=congrArg List.length hfd;simp at this;omega
   rw[hg]at hg';cases hg';refine⟨hd0,by rw[if_pos ⟨e1,ha⟩];simp,by simp[hd0],.inl ⟨⟨0,[],[]⟩,by simp[gam,hd0,mpR],rfl,UA _⟩⟩
  | arc _ k j _ r' hE hl2 hr'=>
   subst hfd;rw[List.length_drop]at hl2;rw[List.drop_drop]at hr';have hfit:q+(clb t k).length<=s.Felt.length:=by
    have:=(FM hs.tb hE.choose_spec.choose_spec.2.1).1;rw[← E7]at this;omega
   have hk4:=FM hs.tb hE.choose_spec.choose_spec.2.1;have hmem:(⟨prt t k,clb t k,(j:Int)⟩:Hh)∈l:=hA.cov k j hE.choose_spec.choose_spec.2.1 hE;have hhm:hdA s q ls ⟨prt t k,clb t k,(j:Int)⟩∈(if q=s.Felt.length/\Bf t g=true then [hd0]else [])++l.filterMap (hdO s q ls):=by
    refine List.mem_append_right _ (List.mem_filterMap.2 ⟨_,hmem,?_⟩);unfold hdO;rw[if_pos hfit]
   have hr0:=(hr'.len hs.tb).2.2;simp only at hrB;have hx:SS s q ((i:Int),σ) (q+(clb t k).length) (j:Int) (σ+BK (s.Felt.drop q) (clb t k)):=⟨l,_,C0 hl,hmem,rfl,hfit,rfl,rfl,by omega⟩;have hC:=hc.clo q (by omega) m hm _ he _ _ _ hx;obtain⟨mp,emp,hrp⟩:=hc.rk.at (p:=q+(clb t k).length) (by omega) hfit;obtain⟨w,hw,hwle⟩:=hrp.has hC;obtain⟨mm,emm,hmm⟩:=hls.2 (q+(clb t k).length) mp (by rw[E7];omega) hfit (by rw[E7];omega) emp;have emA:Nd ls (q+(clb t k).length)=mm:=by unfold Nd;rw[emm]
   have hwm:=(hrp.km.mem _ _).2 hw;have hlst:(hdA s q ls ⟨prt t k,clb t k,(j:Int)⟩).List=Option.getD (AN (j:Int) mm) []:=by
    show Option.getD (AN (j:Int) (Nd ls (q+(clb t k).length))) []=_;rw[emA]
   have hmp:∀ x,mpR (hdA s q ls ⟨prt t k,clb t k,(j:Int)⟩) x=⟨BK (s.Felt.drop q) (clb t k)+x.Cost,prt t k++x.Text,clb t k++x.Cells⟩:=λ x=>rfl;cases e3:AN (j:Int) mm with
   | none=>
    have hb:=hmm.non _ e3 j w rfl hwm;rcases hb.cov r' hr' (by omega)with⟨x,hx',_⟩|⟨h2,_⟩
    ·simp at hx'
    ·simp at h2;omega
   | some x=>
    obtain⟨hne,j',σ',hj',hmem',hb⟩:=hmm.som _ _ e3;have:j=j':=by omega
    subst this;have hσ:σ'=w:=by
     have:=(hrp.km.mem _ _).1 hmem';rw[hw]at this;exact(Option.some.inj this).symm
    subst hσ;rw[e3,JjI]at hlst;refine⟨_,hhm,by rw[hlst];exact hne,?_⟩;rw[← hmp r'];rcases hb.cov r' hr' (by omega)with⟨y,hy,hyt,hyle⟩|⟨h2,h3⟩
    ·exact .inl ⟨mpR _ y,by unfold gam;rw[hlst];exact List.mem_map_of_mem hy,by show prt t k++y.Text=prt t k++r'.Text;rw[hyt],Jg5 hyle⟩
    ·refine .inr ⟨by unfold gam;rw[hlst,JjS];exact h2,λ c hc'=>?_⟩;unfold gam at hc';rw[hlst]at hc';obtain⟨y,hy,rfl⟩:=JjP.1 hc';exact Jg6 (h3 y hy)
end Go.AI
end
section
namespace Go.AI
theorem II.put {t:Ab} {s:Aa} {M:Nat} {u:List (Int×Int)} {q:Nat} {mm:List (Int×List Af)} (h:II t s M u q mm) {i:Nat} {σ:Int} {l:List Af} (hb:Bst (Rdg t i (s.Felt.drop q)) (s.Budget-σ) M l) (hu:((u++[((i:Int),σ)]).map Prod.fst).Nodup) :
  II t s M (u++[((i:Int),σ)]) q (if l=[]then mm else B6 (BJ (i:Int) l mm)):=by
 have hnew:∀ σ',((i:Int),σ') ∉ u:=λ σ' hm=>by
  rw[List.map_append,List.nodup_append]at hu;exact hu.2.2 (i:Int) (JjP.2 ⟨_,hm,rfl⟩) (i:Int) (by simp) rfl
 split
 ·rename_i hl;subst hl;refine⟨h.km,λ k l hl=>?_,λ k hk j τ hj hm=>?_⟩
  ·obtain⟨h1,j,τ,h2,h3,h4⟩:=h.som k l hl;exact⟨h1,j,τ,h2,List.mem_append_left _ h3,h4⟩
  ·rcases List.mem_append.1 hm with hm|hm
   ·exact h.non k hk j τ hj hm
   ·simp only[List.mem_singleton,Prod.mk.injEq]at hm;obtain⟨rfl,rfl⟩:=hm;have:i=j:=by omega
    subst this;exact hb
 ·rename_i hl;refine⟨WT h.km _ _,λ k l' hl'=>?_,λ k hk j τ hj hm=>?_⟩
  ·rw[Mi h.km]at hl';split at hl'
   ·rename_i e;cases hl';subst e;exact⟨hl,i,σ,rfl,by simp,hb⟩
   ·obtain⟨h1,j,τ,h2,h3,h4⟩:=h.som k l' hl';exact⟨h1,j,τ,h2,List.mem_append_left _ h3,h4⟩
  ·rw[Mi h.km]at hk;split at hk
   ·cases hk
   ·rename_i e;rcases List.mem_append.1 hm with hm|hm
    ·exact h.non k hk j τ hj hm
    ·simp only[List.mem_singleton,Prod.mk.injEq]at hm;exact absurd hm.1 e
theorem Jdu {t:Ab} {s:Aa} (hs:SmS t s) {M:Nat} (hM:s.Most=(M:Int)) (hM0:1<=M) (hM1:M<=1000) {C:Nat->Int->Int->Prop} {rows:Rws} (hc:CV t s (s.Felt.length+1) C rows) {q:Nat} (hq:q<=s.Felt.length) {m:List (Int×Int)} (hm:rows[q]?=some (some (true,m))) (hrow:I7 (C q) m)
  {u:List (Int×Int)} {e:Int×Int} (he:e∈m) (hu:((u++[e]).map Prod.fst).Nodup) {ls:Lws} (hls:LV t s M rows q ls) {mm:List (Int×List Af)} (hmm:II t s M u q mm) :
  Tot (λ n=>A6 n (q:Int) e (wb s rows) (ls.set (q % 5) (some (false,mm)))) (Rd2 (λ r=>∃ mm',r=(wb s rows,ls.set (q % 5) (some (false,mm')))/\II t s M (u++[e]) q mm') (λ _=>True)):=by
 obtain⟨k,σ⟩:=e;obtain⟨⟨i,rfl,hil⟩,h0,h1⟩:=hc.val q k σ (hrow.lst k σ ((hrow.km.mem k σ).1 he)).1;obtain⟨g,hg⟩:∃ g,(AK t)[i]?=some g:=⟨_,JjX hil⟩;have hal:i<s.Arcs.length:=by rw[hs.sr.len];exact hil
 have hl:=JjX hal;have hfl:=hs.fl;have hb1:=hs.b1;have hls2:=hls.set (some (false,mm));have hlk:LK s (q+1) (ls.set (q % 5) (some (false,mm))):=by
  refine⟨hls2.1,λ p h2 h3 h4=>?_⟩;by_cases e5:p=q+5
  ·subst e5;rw[show(q+5) % 5=q % 5 by omega];exact⟨mm,by rw[Jj8 (by rw[hls.1];omega)]⟩
  ·obtain⟨mp,emp,_⟩:=hc.rk.at (p:=p) (by omega) h3;obtain⟨x,hx,_⟩:=hls2.2 p mp (by omega) h3 (by omega) emp;exact⟨x,hx⟩
 have main:∀ h0:List Ah,h0=(if q=s.Felt.length/\Bf t g=true then [hd0]else [])->Tot (λ n=>BQ n (q:Int) (wb s rows) (ls.set (q % 5) (some (false,mm))) ((i:Int),σ) h0) (Rd2 (λ r=>∃ mm',r=(wb s rows,ls.set (q % 5) (some (false,mm')))/\II t s M (u++[((i:Int),σ)]) q mm') (λ _=>True)):=λ h0' hh0=>by
  unfold BQ;refine Tot.bindC (show idx (wb s rows).Arcs (i:Int)=some s.Arcs[i]from C0 hl) (Tot.bind (JbU hs hq hlk hl rows _ h0' (by rw[hh0];split<;>simp)) ?_);rintro _ rfl;have hmg:=Ys hs hM hM0 hM1 hc hq hm he hg hl hls2 rows;rw[← hh0]at hmg;have hsub:KW .i64 (wb s rows).Budget σ=s.Budget-σ:=Un (by show _<=s.Budget-σ;omega) (by show s.Budget-σ<_;omega);show Tot _ _;simp only[hsub];refine Tot.bind hmg λ r hr=>?_;have hput:=hmm.put hr hu;refine Tot.ite (λ hx=>?_) λ hx=>?_
  ·have hne:r≠[]:=λ e=>by subst e;simp at hx
   rw[if_neg hne]at hput;have hrm:rowM (ls.set (q % 5) (some (false,mm))) (Bg (q:Int) 5)=some mm:=by
    rw[UH];unfold rowM;rw[C0 (Jj8 (by rw[hls.1];omega))];rfl
   refine Tot.bindC hrm (Tot.bindC (Cd (by rw[UH];simp;omega)) (Jjw ⟨_,?_,hput⟩));rw[UH,Jj6,List.set_set]
  ·have hne:r=[]:=by
    cases r with
    | nil=>rfl
    | cons=>(first|(simp at hx;done)|(simp at hx;omega))
   rw[if_pos hne]at hput;exact Jjw ⟨mm,rfl,hput⟩
 unfold A6;have hacc:idx (wb s rows).Accepts (i:Int)=some (Bf t g):=C0 (hs.sr.acc i g hg);have hfw:(wb s rows).Felt=s.Felt:=rfl;rw[hfw];by_cases hqe:q=s.Felt.length
 ·refine Tot.bindC (y:=Bf t g) (by rw[if_pos (by simp[hqe])];exact hacc) (Tot.ite (λ hx=>?_) λ hx=>?_)
  ·have ha:Bf t g=true:=by simpa [hqe]using hx
   refine Tot.bindC (Gx (by simp)) (main _ ?_);rw[if_pos ⟨hqe,ha⟩];rfl
  ·have ha:¬Bf t g=true:=by simpa [hqe]using hx
   exact main _ (by rw[if_neg λ h=>ha h.2])
 ·refine Tot.bindC (y:=default) (by rw[if_neg (by first|(simp;done)|(simp;omega))]) (Tot.iteF (by first|(simp;done)|(simp;omega)) (main _ (by rw[if_neg λ h=>hqe h.1])))
theorem Yt {rows:Rws} {q:Nat} {x:Option (Bool×List (Int×Int))} (h:rows[q]?=some x):rows.set q x=rows:=by
 apply List.ext_getElem?;intro j;by_cases e:q=j
 ·subst e;rw[Jj8 (AA h),h]
 ·rw[Jkd e]
theorem Jdv {t:Ab} {s:Aa} (hs:SmS t s) {M:Nat} (hM:s.Most=(M:Int)) (hM0:1<=M) (hM1:M<=1000) {C:Nat->Int->Int->Prop} {rows:Rws} (hc:CV t s (s.Felt.length+1) C rows) {q:Nat} (hq:q<=s.Felt.length) {ls:Lws} (hls:LV t s M rows q ls) :
  Tot (λ n=>Bs n (wb s rows) ls (q:Int)) (Rd2 (λ r=>∃ m mm,rows[q]?=some (some (true,m))/\II t s M m q mm/\r=(wb s rows,ls.set (q % 5) (some (false,mm)),(q:Int)-1)) (λ _=>False)):=by
 have hfl:=hs.fl;obtain⟨m,hm,hrow⟩:=hc.rk.at (p:=q) (by omega) hq;unfold Bs;have hidx:(q % 5)<ls.length:=by rw[hls.1];omega
 have hra:rowA (wb s rows).Before (q:Int)=some (true,m):=by
  unfold rowA;rw[show idx (wb s rows).Before (q:Int)=some (some (true,m))from C0 hm];rfl
 simp only[UH];refine Tot.iteT (by simp) (Tot.bindC (BY hidx) (Tot.bindC (Cd (by simp;omega)) (Tot.bindC hra ?_)));have hsame:({ Felt:=(wb s rows).Felt,Budget:=(wb s rows).Budget,Most:=(wb s rows).Most,Arcs:=(wb s rows).Arcs,Accepts:=(wb s rows).Accepts,Before:=List.set (wb s rows).Before q (some (true,m)) }:Aa)=wb s rows:=by
  show wb s (rows.set q (some (true,m)))=_;rw[Yt hm]
 simp only[Jj6];simp only[hsame];have pass:∀ o:List (Int×Int),o.Perm m->Tot (λ n=>mapW (λ (e:Int×Int) (x:Aa×Lws)=>A6 n (q:Int) e x.1 x.2) o (wb s rows,ls.set (q % 5) (some (false,[])))) (Rd2 (λ r=>∃ mm,r=(wb s rows,ls.set (q % 5) (some (false,mm)))/\II t s M m q mm) (λ _=>True)):=λ o ho=>by
  refine(Tot.mapW (F:=λ n (e:Int×Int) (x:Aa×Lws)=>A6 n (q:Int) e x.1 x.2) (λ u r=>∃ mm,r=(wb s rows,ls.set (q % 5) (some (false,mm)))/\II t s M u q mm) (λ u e v x hu hx=>?_) ⟨[],rfl,List.Pairwise.nil,λ k l h=>(by cases h),λ k _ i σ _ h=>by simp at h⟩).mono λ z hz=>?_
  ·obtain⟨mm,rfl,hmm⟩:=hx;refine Jdu hs hM hM0 hM1 hc hq hm hrow (ho.mem_iff.1 (by rw[hu];simp)) ?_ hls hmm;have h1:(o.map Prod.fst).Nodup:=((ho.map Prod.fst).nodup_iff).2 hrow.km.nd;rw[hu,show u++e::v=(u++[e])++v by simp,List.map_append,List.nodup_append]at h1;exact h1.1
  ·cases z with
   | inr z=>exact trivial
   | inl z=>
    obtain⟨mm,e1,h2⟩:=hz;exact⟨mm,e1,h2.congr λ x=>ho.mem_iff⟩
 obtain⟨z0,hz0,_⟩:=pass m (List.Perm.refl _);cases z0 with
 | inr z=>exact nomatch z
 | inl z0=>
  obtain⟨mm0,rfl,h0⟩:=hz0;refine Tot.demP (.inl (wb s rows,ls.set (q % 5) (some (false,mm0)),(q:Int)-1)) (λ o ho=>?_) ⟨m,mm0,hm,h0,rfl⟩;refine Tot.bind (pass o ho) ?_;rintro (z|z) hz
  ·obtain⟨mm,rfl,h'⟩:=hz;have:=II.ext hrow.km.nd h' h0;subst this;exact Jjw (by rw[Un (by omega) (by omega)])
  ·exact nomatch z
theorem UI {t:Ab} {s:Aa} (hs:SmS t s) {M:Nat} (hM:s.Most=(M:Int)) (hM0:1<=M) (hM1:M<=1000) {rows:Rws} (hf:FwK t s rows):Tot (λ n=>CB n (wb s rows)) (λ r=>Bst (Rdg t 0 s.Felt) s.Budget M r.2):=by
 obtain⟨C,hc⟩:=hf.cv;have hfl:=hs.fl;unfold CB;refine Tot.bind (R:=λ y=>y.2.length=5/\∃ m mm,rows[0]?=some (some (true,m))/\II t s M m 0 mm/\y.2[0]?=some (some (false,mm))) ?_ ?_
 ·refine Tot.whl (body:=λ n (x:Aa×Lws×Int)=>Bs n x.1 x.2.1 x.2.2) (λ k x=>x.1=wb s rows/\x.2.2=(k:Int)-1/\k<=s.Felt.length+1/\x.2.1.length=5/\∀ p m,k<=p->p<=s.Felt.length->p<k+5->rows[p]?=some (some (true,m))->∃ mm,x.2.1[p % 5]?=some (some (false,mm))/\II t s M m p mm) ?_ (s.Felt.length+1) _ ⟨rfl,by show((s.Felt.length:Nat):Int)=_;omega,JjM _,by simp,λ p m h1 h2=>by omega⟩
  ·rintro k ⟨x,ls,_⟩ ⟨hx,rfl,hk,hl5,hr⟩;simp only at hx hl5 hr;subst hx;cases k with
   | zero=>
    unfold Bs;obtain⟨m,hm,hrow⟩:=hc.rk.at (p:=0) (by omega) (by omega);obtain⟨mm,h1,h2⟩:=hr 0 m (by omega) (by omega) (by omega) hm;exact Tot.iteF (by simp) (Jjw ⟨hl5,m,mm,hm,h2,h1⟩)
   | succ q=>
    have hq:q<=s.Felt.length:=by omega
    have e1:((q+1:Nat):Int)-1=(q:Int):=by omega
    simp only[e1];have hlv:LV t s M rows q ls:=⟨hl5,λ p m h1 h2 h3 h4=>hr p m h1 h2 (by omega) h4⟩;refine(Jdv hs hM hM0 hM1 hc hq hlv).mono λ z hz=>?_;cases z with
    | inr z=>exact hz.elim
    | inl z=>
     obtain⟨m,mm,hm,hmm,rfl⟩:=hz;refine⟨q,by omega,rfl,rfl,by omega,by simpa using hl5,λ p m' h1 h2 h3 h4=>?_⟩;by_cases e:p=q
     ·subst e;rw[hm]at h4;cases h4;exact⟨mm,Jj8 (by omega),hmm⟩
     ·obtain⟨mm',h5,h6⟩:=hr p m' (by omega) h2 (by omega) h4;exact⟨mm',by rw[Jkd (by omega)];exact h5,h6⟩
 ·rintro⟨x,ls⟩ ⟨hl5,m,mm,hm,hmm,h0⟩;simp only at hl5 h0;have hrm:rowM ls 0=some mm:=by
   unfold rowM;rw[show idx ls 0=some (some (false,mm))from C0 (i:=0) h0];rfl
  refine Tot.bindC hrm (Tot.bindC rfl (Jjw ?_));obtain⟨m',hm',hrow⟩:=hc.rk.at (p:=0) (by omega) (by omega);rw[hm]at hm';cases hm';obtain⟨w,hw,_⟩:=hrow.has hc.rt.1;have hw0:w=0:=hc.rt.2 w (hrow.lst _ _ hw).1;subst hw0;have hwm:=(hrow.km.mem _ _).2 hw;show Bst _ _ _ (Option.getD (AN 0 mm) []);cases e3:AN (0:Int) mm with
  | none=>
   have:=hmm.non 0 e3 0 0 rfl hwm;rw[List.drop_zero,Int.sub_zero]at this;exact this
  | some l=>
   obtain⟨_,i,σ,hi,hmem,hb⟩:=hmm.som 0 l e3;have:i=0:=by omega
   subst this;have hσ:σ=0:=by
    have:=(hrow.km.mem _ _).1 hmem;rw[hw]at this;exact(Option.some.inj this).symm
   subst hσ;rw[List.drop_zero,Int.sub_zero]at hb;exact hb
end Go.AI
end
section
namespace Go.AI
def gs (r:Af):AQ:={ Text:=r.Text,Cells:=BD r.Cells,Cost:=r.Cost }
theorem WU {t:Ab} (ht:TbK t) {fl:List Ao} (hf:fl.length<=100000) {B:Int} (h0:0<=B) (h1:B<=100000) {M:Nat} (hM0:1<=M) (hM1:M<=1000):Tot (λ n=>Jw n t fl B (M:Int)) (λ r=>∃ l,Bst (Rdg t 0 fl) B M l/\r=l.map gs):=by
 have hv:=Yl ht.small;rw[ht.valid]at hv;unfold Jw;refine Jjx hv (Tot.iteF rfl (Tot.bind (SR ht fl B (M:Int)) λ s hs=>?_));have hS:SmS t s:=⟨ht,by rw[hs.felt,hs.bud,hs.most];exact hs,by rw[hs.felt];exact hf,by rw[hs.bud];exact h0,by rw[hs.bud];exact h1⟩;refine Tot.bind (V0 hS) ?_;rintro _ ⟨rows,rfl,hF⟩;refine Tot.bind (UI hS hs.most hM0 hM1 hF) λ r hb=>?_;rw[hs.felt,hs.bud]at hb;have hl:=hb.len;refine Tot.bind (R:=λ y=>y=r.2.map gs) ?_ λ y hy=>Jjw ⟨r.2,hb,hy⟩;refine Tot.upto (body:=λ n (x:(List AQ)×Int)=>Fy n r x.1 x.2) r.2.length (λ i x=>x.2=(i:Int)/\x.1=(r.2.take i).map gs) ?_ ?_ _ ⟨rfl,rfl⟩
 ·rintro i ⟨x,_⟩ hi ⟨rfl,hx⟩;simp only at hx;subst hx;unfold Fy;refine Tot.iteT (Gz hi) (Tot.bindC (BY hi) (Tot.bindC (M6 (by simp;omega)) (Jjw ⟨D0 (by omega),?_⟩)));show _=_;rw[List.take_add_one,JjX hi,List.map_append];rfl
 ·rintro⟨x,_⟩ ⟨rfl,hx⟩;simp only at hx;subst hx;unfold Fy;exact Tot.iteF (IZ _) (Jjw (by show _=_;rw[List.take_length]))
theorem Lc {t:Ab} (ht:TbK t) {fl:List Ao} (hf:fl.length<=100000) {B:Int} (h0:0<=B) (h1:B<=100000):Tot (λ n=>Bx n t fl B) (λ r=>∃ l,Bst (Rdg t 0 fl) B 17 l/\r=if l.length>16 then([],2)else(l.map gs,0)):=by
 unfold Bx;refine Tot.iteF (by simp;omega) (Tot.bind (WU ht hf h0 h1 (M:=17) (by omega) (by omega)) ?_);rintro _ ⟨l,hl,rfl⟩;refine Tot.ite (λ h=>Jjw ⟨l,hl,?_⟩) λ h=>Jjw ⟨l,hl,?_⟩
 ·rw[if_pos (by simp at h;omega)]
 ·rw[if_neg (by simp at h;omega)]
theorem Qc {t:Ab} (ht:TbK t) {fl:List Ao} (hf:fl.length<=100000) {B:Int} (h0:0<=B) (h1:B<=100000):Tot (λ n=>Fz n t fl B) (λ r=>(r=(⟨[],[],0⟩,false)/\Bst (Rdg t 0 fl) B 1 [])\/∃ x,r=(gs x,true)/\Bst (Rdg t 0 fl) B 1 [x]):=by
 unfold Fz;refine Tot.iteF (by simp;omega) (Tot.bind (WU ht hf h0 h1 (M:=1) (by omega) (by omega)) ?_);rintro _ ⟨l,hl,rfl⟩;have:=hl.len
 match l,hl,this with
 | [],hl,_=>exact Tot.iteT rfl (Jjw (.inl ⟨rfl,hl⟩))
 | [x],hl,_=>exact Tot.iteF (by simp) (Tot.bindC rfl (Jjw (.inr ⟨x,rfl,hl⟩)))
 | _::_::_,_,h=>simp at h
theorem UJ (n:Nat) (t:Ab) (fl:List Ao) {B:Int} (h:B<0):Bx n t fl B=some ([],1):=by
 unfold Bx;rw[if_pos (by simpa using h)]
def ofI (l:List Int):List UInt8:=l.map λ c=>UInt8.ofNat c.toNat
theorem UK {l:List Int} (h:∀ c∈l,0<=c/\c<256):BD (ofI l)=l:=by
 unfold ofI BD;rw[List.map_map]
 conv=>rhs;rw[← List.map_id l]
 exact JjV λ c hc=>by
  have:=h c hc;have h2:c.toNat<256:=by omega
  simp only[Function.comp,UInt8.toNat_ofNat',id];omega
theorem Jdw (a b:List Int):ofI (a++b)=ofI a++ofI b:=by unfold ofI;simp
theorem NM (a:List UInt8):(BD a).length=a.length:=by unfold BD;simp
theorem UL {t:Ab} (ht:TbK t):∀ {p:List Int} {s s':Ae} {i:Nat} {fl:List Ao},(AK t)[i]?=some s->JU t s p s'->Bf t s'=true->(cellsOf t p).length=fl.length->Rdg t i fl ⟨BK fl (ofI (cellsOf t p)),La t p,ofI (cellsOf t p)⟩
 | [],s,s',i,fl,hi,hgo,ha,hl=>by
  unfold JU at hgo;subst hgo;have:fl=[]:=List.eq_nil_of_length_eq_zero (by simpa [cellsOf]using hl.symm);subst this;exact .nil i s hi ha
 | k::p,s,s',i,fl,hi,hgo,ha,hl=>by
  obtain⟨hF,hD⟩:=Eo ht.tab;obtain⟨h1,h2⟩:=hgo;obtain⟨k0,k1⟩:=Mf h1;obtain⟨kn,rfl⟩:∃ kn:Nat,k=(kn:Int):=⟨k.toNat,by omega⟩;have hm:=hD (i+1) i s (by omega) hi kn (by omega) h1;obtain⟨j,hj,hje⟩:=List.mem_iff_getElem.1 hm;have hjg:(AK t)[j]?=some (Bo t s (kn:Int)).1:=by rw[JjX hj,hje]
  have hE:Edge t (AK t) i kn j:=⟨s,_,hi,by omega,hjg,by rw[← h1]⟩;rw[IH,List.length_append]at hl;have hcl:(clb t kn).length=(EK t (kn:Int)).Cells.length:=E7 t kn;have:=UL ht (fl:=fl.drop (clb t kn).length) hjg h2 ha (by rw[List.length_drop];omega);have h3:=Rdg.arc i kn j fl _ hE (by omega) this;rw[IH,Uy,Jdw];have e:ofI (EK t (kn:Int)).Cells=clb t kn:=rfl;rw[e,Nc _ _ _ (by omega)];exact h3
theorem Jg7 {t:Ab} (ht:TbK t) {fl:List Ao} {w:List Int} {x:List UInt8} (h:WrT t w x) (hl:w.length=fl.length):Rdg t 0 fl ⟨BK fl (ofI w),x,ofI w⟩:=by
 obtain⟨p,s',p1,p2,rfl,rfl⟩:=h;exact UL ht (Eo ht.tab).1.first p1 p2 hl
theorem JbV {t:Ab} (ht:TbK t) {w:List Int} {x:List UInt8} (h:WrT t w x):∀ c∈w,0<=c/\c<63:=by
 obtain⟨p,s',p1,p2,rfl,rfl⟩:=h;clear p2;have key:∀ {p:List Int} {s:Ae},JU t s p s'->∀ c∈cellsOf t p,0<=c/\c<63:=by
  intro p;induction p with
  | nil=>intro s _ c hc;simp[cellsOf]at hc
  | cons k p ih=>
   intro s hg c hc;obtain⟨h1,h2⟩:=hg;obtain⟨k0,k1⟩:=Mf h1;rw[IH]at hc;rcases List.mem_append.1 hc with hc|hc
   ·have:=(FM ht (k:=k.toNat) (by omega)).2.2.2 c;unfold cls at this;rw[Int.toNat_of_nonneg k0]at this;exact this hc
   ·exact ih h2 c hc
 exact key p1
end Go.AI
end
section
namespace Go.AI
def E8 (x:Int) (k:Nat):Bool:=B8 .u8 (XF .u8 x (k:Int)) 1==1
def I8 (f:Nat->Bool):Nat->Int
 | 0=>0
 | k+1=>I8 f k+if f k=true then 1 else 0
theorem UM (f:Nat->Bool):∀ k:Nat,0<=I8 f k/\I8 f k<=(k:Int)
 | 0=>by simp[I8]
 | k+1=>by
  have:=UM f k;unfold I8;split<;>omega
theorem Qd {f g:Nat->Bool}:∀ {k:Nat},(∀ i,i<k->f i=g i)->I8 f k=I8 g k
 | 0,_=>rfl
 | k+1,h=>by
  unfold I8;rw[Qd λ i hi=>h i (by omega),h k (by omega)]
def Qe (p:Nat->Bool):Bool:=(List.range 64).all p
theorem H1 {p:Nat->Bool} (h:Qe p=true) {x:Int} (h0:0<=x) (h1:x<64):p x.toNat=true:=JjH.1 h _ (List.mem_range.2 (by omega))
theorem Mj {p:Nat->Bool} (h:(List.range 6).all p=true) {k:Nat} (hk:k<6):p k=true:=JjH.1 h _ (List.mem_range.2 hk)
def U6 (x:Int):Prop:=0<=x/\x<64
theorem JbW:Qe (λ v=>CF 0 (v:Int)==some (I8 (E8 (v:Int)) 6))=true:=by kernel_rfl
theorem Jdx:Qe (λ a=>Qe λ b=>decide (0<=R5 .u8 (a:Int) (b:Int))&&decide (R5 .u8 (a:Int) (b:Int)<64)&&(List.range 6).all λ k=>E8 (R5 .u8 (a:Int) (b:Int)) k==(E8 a k != E8 b k))=true:=by kernel_rfl
theorem Jdy:Qe (λ a=>Qe λ b=>decide (0<=GQ .u8 (a:Int) (b:Int))&&decide (GQ .u8 (a:Int) (b:Int)<64)&&(List.range 6).all λ k=>E8 (GQ .u8 (a:Int) (b:Int)) k==(E8 a k&&!E8 b k))=true:=by kernel_rfl
theorem Jg8:Qe (λ a=>(List.range 6).all λ e=>decide (0<=ior .u8 (a:Int) (Hc .u8 1 (e:Int)))&&decide (ior .u8 (a:Int) (Hc .u8 1 (e:Int))<64)&&(List.range 6).all λ k=>!E8 a k||E8 (ior .u8 (a:Int) (Hc .u8 1 (e:Int))) k)=true:=by kernel_rfl
theorem Jdz:(List.range 6).all (λ e=>decide (0<=Hc .u8 1 (e:Int))&&decide (Hc .u8 1 (e:Int)<64))=true:=by kernel_rfl
theorem JbX {a b:Int} (ha:U6 a) (hb:U6 b):U6 (R5 .u8 a b)/\∀ k,k<6->E8 (R5 .u8 a b) k=(E8 a k != E8 b k):=by
 have:=H1 (H1 Jdx ha.1 ha.2) hb.1 hb.2;rw[Int.toNat_of_nonneg ha.1,Int.toNat_of_nonneg hb.1]at this;simp only[JjY,decide_eq_true_eq]at this;exact⟨this.1,λ k hk=>by have:=Mj this.2 hk;simpa using this⟩
theorem Jg9 {a b:Int} (ha:U6 a) (hb:U6 b):U6 (GQ .u8 a b)/\∀ k,k<6->E8 (GQ .u8 a b) k=(E8 a k&&!E8 b k):=by
 have:=H1 (H1 Jdy ha.1 ha.2) hb.1 hb.2;rw[Int.toNat_of_nonneg ha.1,Int.toNat_of_nonneg hb.1]at this;simp only[JjY,decide_eq_true_eq]at this;exact⟨this.1,λ k hk=>by have:=Mj this.2 hk;simpa using this⟩
theorem JiF {a:Int} (ha:U6 a) {e:Int} (h0:0<=e) (h1:e<6):U6 (ior .u8 a (Hc .u8 1 e))/\∀ k,k<6->E8 a k=true->E8 (ior .u8 a (Hc .u8 1 e)) k=true:=by
 have:=Mj (H1 Jg8 ha.1 ha.2) (k:=e.toNat) (by omega);rw[Int.toNat_of_nonneg ha.1,Int.toNat_of_nonneg h0]at this;simp only[JjY,decide_eq_true_eq]at this;exact⟨this.1,λ k hk h=>by have:=Mj this.2 hk;rw[h]at this;simpa using this⟩
theorem Jha {e:Int} (h0:0<=e) (h1:e<6):U6 (Hc .u8 1 e):=by
 have:=Mj Jdz (k:=e.toNat) (by omega);rw[Int.toNat_of_nonneg h0]at this;simpa [U6]using this
def NN (f:Ao):Prop:=U6 f.Up/\U6 f.Maybe
def Ld (f:Ao) (c:Int) (k:Nat):Bool:=!E8 f.Maybe k&&(E8 f.Up k != E8 c k)
theorem Yu {f:Ao} (hf:NN f) {c:Int} (hc:U6 c):KP f c=I8 (Ld f c) 6:=by
 obtain⟨h1,h2⟩:=JbX hf.1 hc;obtain⟨h3,h4⟩:=Jg9 h1 hf.2;have h5:=H1 JbW h3.1 h3.2;rw[Int.toNat_of_nonneg h3.1]at h5;have h5:=eq_of_beq h5;unfold KP Gj;rw[h5];show I8 _ 6=_;refine Qd λ i hi=>?_;rw[h4 i hi,h2 i hi];unfold Ld;cases E8 f.Maybe i<;>simp
theorem ST (n:Nat) (x:Int) (k:Nat) (hk:k<100):Ka n x ((k+1:Nat):Int)=some (E8 x k):=by
 unfold Ka E8;have e:KW .i64 ((k+1:Nat):Int) 1=(k:Int):=by rw[Un (by omega) (by omega)];omega
 rw[e,Cd (by simp)];rfl
theorem JbY {f:Ao} (hf:NN f) {c:Int} (hc:U6 c):Ev (λ n=>LW n f c) (KP f c):=by
 rw[Yu hf hc];refine Tot.ev ?_;unfold LW;refine Tot.bind (R:=λ y=>y=I8 (Ld f c) 6) ?_ λ y hy=>Jjw hy;refine Tot.upto (body:=λ n (x:Int×Int)=>FB n f c x.1 x.2) 6 (λ i x=>x.2=((i+1:Nat):Int)/\x.1=I8 (Ld f c) i) ?_ ?_ _ ⟨rfl,rfl⟩
 ·rintro i ⟨x,_⟩ hi ⟨rfl,hx⟩;simp only at hx;subst hx;have hr:=UM (Ld f c) i;unfold FB G0;refine Tot.iteT (by simp;omega) (Jjy (λ n=>ST n _ i (by omega)) ?_);refine Tot.guard (R:=λ r=>r=E8 f.Up i) (λ _=>Tot.all (λ n=>ST n _ i (by omega)) rfl) λ r1 h1=>?_;refine Tot.guard (R:=λ r=>r=E8 c i) (λ _=>Tot.all (λ n=>ST n _ i (by omega)) rfl) λ r2 h2=>?_;have hb:(!E8 f.Maybe i&&!(r1==r2))=Ld f c i:=by
   unfold Ld;cases e:E8 f.Maybe i with
   | true=>rfl
   | false=>rw[h1 (by rw[e];rfl),h2 (by rw[e];rfl)];rfl
  rw[hb];refine Tot.ite (λ h=>Jjw ⟨B3 (by omega),?_⟩) λ h=>Jjw ⟨B3 (by omega),?_⟩
  ·show AX .i64 _ 1=I8 _ (i+1);rw[KO (by omega) (by omega),I8,if_pos h]
  ·show I8 _ i=I8 _ (i+1);rw[I8,if_neg (by rw[h];simp)];omega
 ·rintro⟨x,_⟩ ⟨rfl,hx⟩;unfold FB;exact Tot.iteF (by simp) (Jjw hx)
end Go.AI
end
section
namespace Go.AI
def rds (t:Ab):Nat->Ae->List Ao->Int->List Af
 | 0,s,fl,_=>if fl.isEmpty&&Bf t s then [⟨0,[],[]⟩]else []
 | n+1,s,fl,B=>(if fl.isEmpty&&Bf t s then [⟨0,[],[]⟩]else [])++(List.range t.Rules.length).flatMap λ (k:Nat)=>
   if(Bo t s (k:Int)).2&&decide ((clb t k).length<=fl.length)&&decide (BK fl (clb t k)<=B)then
    (rds t n (Bo t s (k:Int)).1 (fl.drop (clb t k).length) (B-BK fl (clb t k))).map λ r=>⟨BK fl (clb t k)+r.Cost,prt t k++r.Text,clb t k++r.Cells⟩
   else []
theorem Ol {t:Ab} (ht:TbK t):∀ (n:Nat) {i:Nat} {s:Ae} {fl:List Ao} {B:Int} {r:Af},(AK t)[i]?=some s->fl.length<=n->0<=B->(r∈rds t n s fl B↔Rdg t i fl r/\r.Cost<=B)
 | 0,i,s,fl,B,r,hi,hn,hB=>by
  have:fl=[]:=List.eq_nil_of_length_eq_zero (by omega);subst this;unfold rds;constructor
  ·intro h;split at h
   ·rename_i e;simp only[List.mem_singleton]at h;subst h;exact⟨.nil i s hi (by simpa using e),hB⟩
   ·simp at h
  ·rintro⟨h,_⟩;generalize hf:([]:List Ao)=fl at h;cases h with
   | nil _ q h ha=>rw[hi]at h;cases h;rw[if_pos (by simpa using ha)];simp
   | arc _ k j _ r hE hl hr=>
    have:=(FM ht hE.choose_spec.choose_spec.2.1).1;rw[← E7]at this;subst hf;simp at hl;rw[hl]at this;simp at this
 | n+1,i,s,fl,B,r,hi,hn,hB=>by
  obtain⟨hF,hD⟩:=Eo ht.tab;unfold rds;rw[List.mem_append,List.mem_flatMap];constructor
  ·rintro (h|⟨k,hk,h⟩)
   ·split at h
    ·rename_i e;simp only[List.mem_singleton]at h;subst h;simp only[JjY]at e;have:fl=[]:=by simpa using e.1
     subst this;exact⟨.nil i s hi e.2,hB⟩
    ·simp at h
   ·split at h
    ·rename_i e;simp only[JjY,decide_eq_true_eq]at e;obtain⟨⟨e1,e2⟩,e3⟩:=e;obtain⟨r',hr',rfl⟩:=JjP.1 h;have hk:=List.mem_range.1 hk;have hm:=hD (i+1) i s (by omega) hi k hk e1;obtain⟨j,hj,hje⟩:=List.mem_iff_getElem.1 hm;have hjg:(AK t)[j]?=some (Bo t s (k:Int)).1:=by rw[JjX hj,hje]
     have h1:=(FM ht hk).1;rw[← E7]at h1;obtain⟨h2,h3⟩:=(Ol ht n hjg (by rw[List.length_drop];omega) (by omega)).1 hr';exact⟨.arc i k j fl r' ⟨s,_,hi,hk,hjg,by rw[← e1]⟩ e2 h2,by show _+_<=B;omega⟩
    ·simp at h
  ·rintro⟨h,hb⟩;cases h with
   | nil _ q h ha=>rw[hi]at h;cases h;exact .inl (by rw[if_pos (by simpa using ha)];simp)
   | arc _ k j _ r' hE hl hr=>
    right;obtain⟨s0,s1,e1,hk,e3,e4⟩:=hE;rw[hi]at e1;cases e1;have h1:=(FM ht hk).1;rw[← E7]at h1;have h0:=(hr.len ht).2.2;simp only at hb;refine⟨k,List.mem_range.2 hk,?_⟩;rw[if_pos (by rw[e4];simp;omega),e4];exact JjP.2 ⟨r',(Ol ht n e3 (by rw[List.length_drop];omega) (by omega)).2 ⟨hr,by omega⟩,rfl⟩
def JdA (r s:Af):Bool:=decide (r.Cost<s.Cost)||(decide (r.Cost=s.Cost)&&Op.bytesLess r.Text s.Text)
def Jhb (r s:Af):Bool:=decide (r.Cost<s.Cost)||(decide (r.Cost=s.Cost)&&!Op.bytesLess s.Cells r.Cells)
theorem UN (r s:Af):JdA r s=true↔klr r s:=by unfold JdA klr ltB;simp
theorem JbZ (r s:Af):Jhb r s=true↔le2 r s:=by unfold Jhb le2 ltB;simp
def eqR (r s:Af):Bool:=decide (r.Cost=s.Cost)&&r.Text==s.Text&&r.Cells==s.Cells
theorem WV (r s:Af):eqR r s=true↔r=s:=by
 unfold eqR;cases r;cases s;simp[and_assoc]
def JdB:List Af->Bool
 | []=>true
 | a::l=>l.all (JdA a)&&JdB l
theorem WW:∀ {l:List Af},JdB l=true->l.Pairwise klr
 | [],_=>.nil
 | a::l,h=>by
  unfold JdB at h;simp only[JjY,JjH]at h;exact .cons (λ b hb=>(UN a b).1 (h.1 b hb)) (WW h.2)
def Qf (E:List Af) (M:Nat) (l:List Af):Bool:=
 l.all (λ r=>E.any (eqR r))&&JdB l&&l.all (λ r=>l.all λ s=>!(r.Text==s.Text)||eqR r s) &&
 E.all (λ r=>l.any (λ s=>s.Text==r.Text&&Jhb s r)||(decide (l.length=M)&&l.all λ s=>JdA s r))&&decide (l.length<=M)
theorem SU {t:Ab} (ht:TbK t) {fl:List Ao} {B:Int} (hB:0<=B) {M:Nat} {l:List Af} (h:Qf (rds t fl.length BX fl B) M l=true):Bst (Rdg t 0 fl) B M l:=by
 have h0:=(Eo ht.tab).1.first;have hm:∀ r,r∈rds t fl.length BX fl B↔Rdg t 0 fl r/\r.Cost<=B:=λ r=>Ol ht _ h0 (JjM _) hB;unfold Qf at h;simp only[JjY,JjH,decide_eq_true_eq]at h;obtain⟨⟨⟨⟨h1,h2⟩,h3⟩,h4⟩,h5⟩:=h;refine⟨λ r hr=>?_,WW h2,λ r hr s hs e=>?_,λ r hr hb=>?_,h5⟩
 ·obtain⟨x,hx,e⟩:=List.any_eq_true.1 (h1 r hr);rw[(WV _ _).1 e];exact(hm x).1 hx
 ·have:=h3 r hr s hs;rw[e]at this;exact(WV _ _).1 (by simpa using this)
 ·have:=h4 r ((hm r).2 ⟨hr,hb⟩);simp only[Jkg,JjY,decide_eq_true_eq,List.any_eq_true,JjH]at this;rcases this with⟨s,hs,e1,e2⟩|⟨e1,e2⟩
  ·exact .inl ⟨s,hs,by simpa using e1,(JbZ _ _).1 e2⟩
  ·exact .inr ⟨e1,λ s hs=>(UN _ _).1 (e2 s hs)⟩
end Go.AI
end
section
namespace Go.AI
theorem Jb0 (a b:AQ) (ha:a.Cells.length<9223372036854775807):Ev (λ n=>LT n a b) (decide (a=b)):=by
 refine Tot.ev ?_;unfold LT;refine Tot.guard (R:=λ r=>r=decide (a.Cells=b.Cells)) (λ _=>(Mb a.Cells b.Cells ha).tot rfl) λ r hr=>Jjw ?_;cases a with
 | mk t1 c1 k1=>cases b with
  | mk t2 c2 k2=>
   simp only[AQ.mk.injEq]at hr⊢;cases h:(t1==t2)&&(k1==k2)with
   | false=>
    simp only[Bool.false_and];symm;rw[decide_eq_false_iff_not];rintro⟨rfl,rfl,rfl⟩;simp at h
   | true=>
    rw[hr h];simp only[JjY,beq_iff_eq]at h;obtain⟨rfl,rfl⟩:=h;simp
theorem JW (a b:List AQ) (ha:∀ g∈a,g.Cells.length<9223372036854775807) (hl:a.length<=1000000000):Ev (λ n=>Ee n a b) (decide (a=b)):=by
 refine Tot.ev ?_;unfold Ee;refine Tot.ite (λ h=>Jjw ?_) λ h=>?_
 ·symm;rw[decide_eq_false_iff_not];rintro rfl;simp at h
 have hlen:a.length=b.length:=by simp at h;omega
 refine Tot.bind (R:=λ y=>(y=.inl ()/\a=b)\/(y=.inr false/\a≠b)) ?_ ?_
 ·refine Tot.upto (body:=λ n x=>Dr n a b x) a.length (λ i x=>x=(i:Int)/\a.take i=b.take i) ?_ ?_ _ ⟨rfl,rfl⟩
  ·rintro i x hi ⟨rfl,hx⟩;unfold Dr;have hb:i<b.length:=by omega
   refine Tot.iteT (Gz hi) (Tot.bindC (BY hi) (Tot.bindC (BY hb) (Jjx (Jb0 _ _ (ha _ (JjJ hi))) (Tot.ite (λ h=>?_) λ h=>?_))))
   ·refine Jjw (.inr ⟨rfl,λ e=>?_⟩);subst e;simp at h
   ·refine Jjw ⟨B3 (by omega),?_⟩;have:a[i]=b[i]:=by simpa using h
    rw[List.take_add_one,List.take_add_one,hx,JjX hi,JjX hb,this]
  ·rintro x ⟨rfl,hx⟩;unfold Dr;refine Tot.iteF (IZ _) (Jjw (.inl ⟨rfl,?_⟩));rw[List.take_length,hlen,List.take_length]at hx;exact hx
 ·rintro y (⟨rfl,h⟩|⟨rfl,h⟩)
  ·exact Jjw (by simp[h])
  ·exact Jjw (by simp[h])
theorem Mk {t:Ab} (ht:TbK t) {fl:List Ao} (hf:fl.length<=100000) {B:Int} (h0:0<=B) (h1:B<=100000) (l:List Af) (h:Qf (rds t fl.length BX fl B) 17 l=true) (hl:l.length<=16):Ev (λ n=>Bx n t fl B) (l.map gs,0):=by
 refine Tot.ev ((Lc ht hf h0 h1).mono ?_);rintro _ ⟨l',hb,rfl⟩;rw[hb.uniq (SU ht h0 h),if_neg (by omega)]
theorem Jb1 {t:Ab} (ht:TbK t) {fl:List Ao} (hf:fl.length<=100000) {B:Int} (h0:0<=B) (h1:B<=100000) (hn:((rds t fl.length BX fl B).map (·.Text)).Nodup) (hl:17<=(rds t fl.length BX fl B).length):Ev (λ n=>Bx n t fl B) ([],2):=by
 refine Tot.ev ((Lc ht hf h0 h1).mono ?_);rintro _ ⟨l,hb,rfl⟩;rw[if_pos];rcases JjN 16 l.length with h|h
 ·exact h
 ·exfalso;have h00:=(Eo ht.tab).1.first;have:=F4 (m:=l.map (·.Text)) hn λ x hx=>by
   obtain⟨r,hr,rfl⟩:=JjP.1 hx;obtain⟨h2,h3⟩:=(Ol ht _ h00 (JjM _) h0).1 hr;obtain⟨s,hs,e,_⟩:=hb.has (by omega) h2 h3;exact JjP.2 ⟨s,hs,e⟩
  simp only[JjS]at this;omega
theorem Jb2 {t:Ab} (ht:TbK t) {fl:List Ao} (hf:fl.length<=100000) {B:Int} (h0:0<=B) (h1:B<=100000) (x:Af) (h:Qf (rds t fl.length BX fl B) 1 [x]=true):Ev (λ n=>Fz n t fl B) (gs x,true):=by
 refine Tot.ev ((Qc ht hf h0 h1).mono ?_);have hx:=SU ht h0 h;rintro _ (⟨rfl,hb⟩|⟨y,rfl,hb⟩)
 ·cases hb.uniq hx
 ·have:=hb.uniq hx;cases this;rfl
theorem Yv {t:Ab} (ht:TbK t) {fl:List Ao} (hf:fl.length<=100000) {B:Int} (h0:0<=B) (h1:B<=100000) (h:Qf (rds t fl.length BX fl B) 1 []=true):Ev (λ n=>Fz n t fl B) (⟨[],[],0⟩,false):=by
 refine Tot.ev ((Qc ht hf h0 h1).mono ?_);have hx:=SU ht h0 h;rintro _ (⟨rfl,hb⟩|⟨y,rfl,hb⟩)
 ·rfl
 ·cases hb.uniq hx
theorem tb0:TbK (ES 0):=by
 have h:=WF (r:=0) (by omega) (by omega);unfold Oi at h;simp only[JjY,decide_eq_true_eq,JjH]at h;obtain⟨⟨⟨⟨h1,h2⟩,h3⟩,h4⟩,h5⟩:=h;exact⟨⟨by omega,λ r hr=>PW (h2 r hr)⟩,h5,Uz (by omega) (by omega)⟩
def ndT:List (List UInt8)->Bool
 | []=>true
 | a::l=>l.all (λ b=>!(a==b))&&ndT l
theorem Jb3:∀ {l:List (List UInt8)},ndT l=true->l.Nodup
 | [],_=>List.nodup_nil
 | a::l,h=>by
  unfold ndT at h;simp only[JjY,JjH]at h;exact List.nodup_cons.2 ⟨λ hm=>by have:=h.1 a hm;simp at this,Jb3 h.2⟩
def fl5:List Ao:=List.replicate 5 ⟨1,2⟩
theorem JdC:ndT ((rds (ES 0) fl5.length BX fl5 0).map (·.Text))=true:=by kernel_rfl
def JiG (l:List Af):Bool:=Nat.ble 17 l.length
theorem JdD {l:List Af} (h:JiG l=true):17<=l.length:=Jkc h
theorem JdE:JiG (rds (ES 0) fl5.length BX fl5 0)=true:=by kernel_rfl
theorem ex1:Qf (rds (ES 0) 1 BX [⟨3,0⟩] 0) 17 [⟨0,[98],[3]⟩]=true:=by kernel_rfl
theorem ex2:Qf (rds (ES 0) 1 BX [⟨3,0⟩] 1) 17 [⟨0,[98],[3]⟩,⟨1,[97],[1]⟩]=true:=by kernel_rfl
theorem ex3:Qf (rds (ES 0) 1 BX [⟨1,10⟩] 0) 17 [⟨0,[97],[1]⟩,⟨0,[98],[3]⟩,⟨0,[99],[9]⟩]=true:=by kernel_rfl
theorem ex4:Qf (rds (ES 0) fl5.length BX fl5 0) 1 [⟨0,[97,97,97,97,97],[1,1,1,1,1]⟩]=true:=by kernel_rfl
theorem ex5:Qf (rds (ES 0) 1 BX [⟨62,0⟩] 0) 1 []=true:=by kernel_rfl
theorem ex6:Qf (rds (ES 0) 0 BX [] 3) 17 [⟨0,[],[]⟩]=true:=by kernel_rfl
theorem V1:Ev (λ n=>Ir n) true:=by
 refine Tot.ev ?_;have e0:Bg 0 8=0:=by decide
 have hb:∀ n,Fw n 0=some (ES 0):=λ n=>by
  have:=(Md n 0 (by omega)).1;rw[e0]at this;exact this
 unfold Ir;refine Jjy hb (Tot.bind (R:=λ y=>y=fl5) ?_ ?_)
 ·refine Tot.upto (body:=λ n (x:(List Ao)×Int)=>DQ n (ES 0) x.1 x.2) 5 (λ i x=>x.2=(i:Int)/\x.1=List.replicate i ⟨1,2⟩) ?_ ?_ _ ⟨rfl,rfl⟩
  ·rintro i ⟨x,_⟩ hi ⟨rfl,hx⟩;simp only at hx;subst hx;unfold DQ;refine Tot.iteT (by simp;omega) (Tot.bindC (M6 (by simp;omega)) (Jjw ⟨B3 (by omega),?_⟩));show _=_;rw[List.replicate_succ']
  ·rintro⟨x,_⟩ ⟨rfl,hx⟩;unfold DQ;exact Tot.iteF (by simp) (Jjw hx)
 ·rintro _ rfl;refine Jjx (Mk tb0 (by simp) (by omega) (by omega) _ ex1 (by simp)) ?_;refine Jjx (Mk tb0 (by simp) (by omega) (by omega) _ ex2 (by simp)) ?_;refine Jjx (Mk tb0 (by simp) (by omega) (by omega) _ ex3 (by simp)) ?_;refine Jjx (Jb1 tb0 (by simp[fl5]) (by omega) (by omega) (Jb3 JdC) (JdD JdE)) ?_;refine Jjy (λ n=>UJ n _ _ (by omega)) ?_;refine Jjx (Jb2 tb0 (by simp[fl5]) (by omega) (by omega) _ ex4) ?_;refine Jjx (Yv tb0 (by simp) (by omega) (by omega) ex5) ?_;refine Jjx (Mk tb0 (by simp) (by omega) (by omega) _ ex6 (by simp)) ?_;refine Jjz rfl (JW _ _ (by simp[gs,BD]) (by simp)) ?_;refine Jjz (by decide) (JW _ _ (by simp[gs,BD]) (by simp)) ?_;refine Jjz (by decide) (JW _ _ (by simp[gs,BD]) (by simp)) ?_;exact Jjw (by decide)
end Go.AI
end
section
namespace Go.AI
theorem Jb4 {t:Ab} (ht:MK t) {l:List Int} (hl:∀ a∈l,U8 a):Tot (λ n=>LX n t l 5) (λ r=>(r.2.2=true->WrT t r.1 r.2.1)/\r.1.length<=52):=by
 have hsh:=ht.tk.tab.short;have h10:=ht.hi;have h38:AX .i64 5 8=13:=by decide
 unfold LX;refine Jjy (y:=BX) (λ n=>rfl) (Tot.bind (R:=λ y=>match y with
  | .inl _=>True
  | .inr r=>(r.2.2=true->WrT t r.1 r.2.1)/\r.1.length<=52) ?_ λ y hy=>?_)
 ·refine Tot.upto (body:=λ n (x:Ae×(List Int)×(List UInt8)×Int)=>FE n t l 5 x.1 x.2.1 x.2.2.1 x.2.2.2) 13 (λ i x=>x.2.2.2=(i:Int)/\∃ p,JU t BX p x.1/\cellsOf t p=x.2.1/\La t p=x.2.2.1/\x.2.1.length<=4*i/\x.2.2.1.length<=4*i) ?_ ?_ _ ⟨rfl,[],rfl,rfl,rfl,by simp,by simp⟩
  ·rintro i ⟨s,cells,text,_⟩ hi ⟨rfl,p,h1,h2,h3,h4,h5⟩;simp only at h1 h2 h3 h4 h5;unfold FE;rw[h38];refine Tot.iteT (by simp;omega) ?_;refine Tot.guard (R:=λ r=>r=Bf t s) (λ _=>(Ev.all λ n=>Uj n t s).tot rfl) λ r166 hr=>?_;refine Tot.ite (λ h=>Jjw ⟨λ _=>?_,?_⟩) λ h=>?_
   ·simp only[JjY]at h;have:=hr h.1;rw[this]at h;exact⟨p,s,h1,h.2,h2,h3⟩
   ·show cells.length<=52;omega
   ·refine Tot.bind (R:=λ y=>y.length<=10/\∀ k∈y,(Bo t s k).2=true) ?_ λ y hy=>?_
    ·refine Tot.upto (body:=λ n (x:List Int×Int)=>FC n t l 5 s cells text (i:Int) x.1 x.2) t.Rules.length (λ k x=>x.2=(k:Int)/\x.1.length<=k/\∀ q∈x.1,(Bo t s q).2=true) ?_ ?_ _ ⟨rfl,by simp,by simp⟩
     ·rintro k ⟨y,_⟩ hk ⟨rfl,c1,c2⟩;simp only at c1 c2;unfold FC G1;refine Tot.iteT (by simp;omega) (Jjy (λ n=>Ui hsh n s (k:Nat)) (Tot.ite (λ hs=>?_) λ hs=>Jjw ⟨B3 (by omega),by show y.length<=_;omega,c2⟩));refine Tot.bindC (Gx (by simp;omega)) (Jjw ⟨B3 (by omega),by simp;omega,λ q hq=>?_⟩);rcases List.mem_append.1 hq with hq|hq
      ·exact c2 q hq
      ·simp only[List.mem_singleton]at hq;rw[hq];exact hs
     ·rintro⟨y,_⟩ ⟨rfl,c1,c2⟩;unfold FC;exact Tot.iteF (by simp) (Jjw ⟨by show y.length<=10;have:y.length<=t.Rules.length:=c1;omega,c2⟩)
    ·obtain⟨y1,y2⟩:=hy;refine Tot.ite (λ _=>Jjw ⟨λ h=>(by cases h),by simp⟩) λ hne=>?_;have hpos:0<y.length:=by
      cases y with
      | nil=>simp at hne
      | cons a y=>simp
     have main:∀ m:Int,0<=m->Tot (λ n=>FD n t s cells text (i:Int) y m) (Rd2 (λ x=>x.2.2.2=((i+1:Nat):Int)/\∃ p,JU t BX p x.1/\cellsOf t p=x.2.1/\La t p=x.2.2.1/\x.2.1.length<=4*(i+1)/\x.2.2.1.length<=4*(i+1)) (λ y=>match y with
       | .inl _=>True
       | .inr r=>(r.2.2=true->WrT t r.1 r.2.1)/\r.1.length<=52)):=λ m hm=>by
      unfold FD;obtain⟨_,q1,q2⟩:=M7 (a:=m) (m:=((y.length:Nat):Int)) hm (by omega);obtain⟨k,hk,hke⟩:=JR q1 q2;have hks:=y2 k hk;obtain⟨k0,k1⟩:=Mf hks;have hm:=PY k0 k1;have hlen:=GA (ht.tk.sound _ hm);refine Tot.bindC (Cd (by rw[beq_eq_false_iff_ne.2 (show((y.length:Nat):Int)≠0 by omega)];rfl)) (Tot.bindC hke (Jjy (λ n=>Ui hsh n s k) (Tot.bindC (PX k0 k1) (Tot.bindC (Gx (by simp;omega)) (Tot.bindC (PX k0 k1) (Tot.bindC (SM (by omega)) (Jjw ⟨B3 (by omega),p++[k],JbI h1 hks,?_,?_,by simp;omega,by simp;omega⟩)))))))
      ·simp only[cellsOf,List.flatMap_append]at h2⊢;rw[h2];simp
      ·simp only[La,List.flatMap_append]at h3⊢;rw[h3];simp
     refine Tot.ite (λ hlt=>?_) λ _=>main _ (by show(0:Int)<=(i:Int);omega);have hlt:i<l.length:=by simpa using hlt
     have hu:=hl _ (JjJ hlt);refine Tot.bindC (BY hlt) (main _ ?_);rw[w64 (by have:=hu.1;omega) (by have:=hu.2;omega)];exact hu.1
  ·rintro⟨s,cells,text,_⟩ ⟨rfl,_⟩;unfold FE;rw[h38];exact Tot.iteF (by simp) (Jjw trivial)
 ·cases y with
  | inl _=>exact Jjw ⟨λ h=>(by cases h),by simp⟩
  | inr r=>exact Jjw hy
theorem Jb5 (l:List Af) (hl:l.length<=1000) (x:List UInt8):Tot (λ n=>LY n (l.map gs) x) (λ r=>(∃ s∈l,s.Text=x/\r=(gs s,true))\/((∀ s∈l,s.Text≠x)/\r.2=false)):=by
 unfold LY;refine Tot.bind (R:=λ y=>(∃ s∈l,s.Text=x/\y=.inr (gs s,true))\/((∀ s∈l,s.Text≠x)/\y=.inl ())) ?_ ?_
 ·refine Tot.upto (body:=λ n y=>FF n (l.map gs) x y) l.length (λ i y=>y=(i:Int)/\∀ s∈l.take i,s.Text≠x) ?_ ?_ _ ⟨rfl,by simp⟩
  ·rintro i y hi ⟨rfl,hy⟩;have hg:idx (l.map gs) (i:Int)=some (gs l[i]):=C0 (by rw[Jj1,JjX hi];rfl);unfold FF;refine Tot.iteT (by simp;omega) (Tot.bindC hg (Tot.ite (λ h=>?_) λ h=>?_))
   ·exact Tot.bindC hg (Jjw (.inl ⟨_,JjJ hi,by simpa [gs]using h,rfl⟩))
   ·refine Jjw ⟨B3 (by omega),λ s hs=>?_⟩;rw[List.take_add_one,JjX hi]at hs;rcases List.mem_append.1 hs with hs|hs
    ·exact hy s hs
    ·have e:s=l[i]:=by simpa using hs
     subst e;simpa [gs]using h
  ·rintro y ⟨rfl,hy⟩;unfold FF;exact Tot.iteF (by simp) (Jjw (.inr ⟨by simpa using hy,rfl⟩))
 ·rintro y (⟨s,hs,e,rfl⟩|⟨h,rfl⟩)
  ·exact Jjw (.inl ⟨s,hs,e,rfl⟩)
  ·exact Jjw (.inr ⟨h,rfl⟩)
theorem V2 (w:List Int) (hl:w.length<=1000000):Tot (λ n=>G2 n w) (λ r=>r=w.map λ c=>⟨c,0⟩):=by
 unfold G2
 refine Tot.bind (R:=λ r=>r=w.map λ c=>⟨c,0⟩) ?_ λ y hy=>Jjw hy;refine Tot.upto (body:=λ n (x:(List Ao)×Int)=>Du n w x.1 x.2) w.length (λ i x=>x.2=(i:Int)/\x.1=(w.take i).map λ c=>⟨c,0⟩) ?_ ?_ _ ⟨rfl,rfl⟩
 ·rintro i ⟨x,_⟩ hi ⟨rfl,hx⟩;simp only at hx;subst hx;unfold Du;refine Tot.iteT (Gz hi) (Tot.bindC (BY hi) (Tot.bindC (M6 (by simp;omega)) (Jjw ⟨B3 (by omega),?_⟩)));show _=_;rw[List.take_add_one,JjX hi,List.map_append];rfl
 ·rintro⟨x,_⟩ ⟨rfl,hx⟩;simp only at hx;subst hx;unfold Du;exact Tot.iteF (IZ _) (Jjw (by show _=_;rw[List.take_length]))
theorem Yw {W:List UInt8} (hW:∀ c∈BD W,U6 c) (hl:W.length<=1000) {v:List (CU Int)} (hv:∀ y∈v,U8 y.a0/\U8 y.a1):Tot (λ n=>Iv n (BD W) v) (λ r=>r.1.length=W.length/\(∀ f∈r.1,NN f)/\r.2=BK r.1 W):=by
 have hbl:=NM W;unfold Iv;refine Tot.bind (V2 _ (by omega)) ?_;rintro _ rfl;refine Tot.bind (R:=λ y=>y.length=W.length/\∀ f∈y,NN f) ?_ ?_
 ·refine Tot.upto (body:=λ n (x:(List Ao)×Int)=>DR n (BD W) v x.1 x.2) (min v.length 4) (λ i x=>x.2=(i:Int)/\x.1.length=W.length/\∀ f∈x.1,NN f) ?_ ?_ _ ⟨rfl,by simp[hbl],λ f hf=>?_⟩
  ·rintro i ⟨x,_⟩ hi ⟨rfl,h1,h2⟩;simp only at h1 h2;unfold DR Fi;have hiv:i<v.length:=by omega
   obtain⟨u0,u1⟩:=hv _ (JjJ hiv);refine Tot.ite (λ h=>?_) λ h=>Jjw ⟨h1,h2⟩;have hpos:0<x.length:=by simp at h;omega
   have hw:IntKind.i64.wrap v[i].a0=v[i].a0:=w64 (by have:=u0.1;omega) (by have:=u0.2;omega);obtain⟨k0,k1⟩:=C1 (a:=v[i].a0) (m:=((x.length:Nat):Int)) u0.1 (by omega);obtain⟨e0,e1⟩:=C1 (a:=v[i].a1) (m:=6) u1.1 (by omega);obtain⟨f,hf,hfe⟩:=JR k0 k1;have hput:∀ g:Ao,put x (Bg v[i].a0 ((x.length:Nat):Int)) g=some (x.set (Bg v[i].a0 ((x.length:Nat):Int)).toNat g):=λ g=>JiC k0 k1;have nx:∀ (g:Ao) (q:Nat),NN g->Rd2 (λ y:(List Ao)×Int=>y.2=((i+1:Nat):Int)/\y.1.length=W.length/\∀ f∈y.1,NN f) (λ y:List Ao=>y.length=W.length/\∀ f∈y,NN f) (.inl (x.set q g,AX .i64 (i:Int) 1)):=λ g q hg=>by
    refine⟨B3 (by omega),by simpa using h1,λ f' hf'=>?_⟩;rcases List.mem_or_eq_of_mem_set hf' with h'|h'
    ·exact h2 f' h'
    ·subst h';exact hg
   refine Tot.bindC (BY hiv) (Tot.bindC (Cd (by simp;exact List.length_pos_iff.1 hpos)) (Tot.bindC (BY hiv) (Tot.bindC (Cd (by simpa using e0)) (Tot.bindC (BY hiv) ?_))));simp only[hw];refine Tot.ite (λ _=>?_) λ _=>?_
   ·exact Tot.bindC hfe (Tot.bindC hfe (Tot.bindC (hput _) (Jjw (nx _ _ ⟨(JbX (h2 f hf).1 (Jha e0 e1)).1,(h2 f hf).2⟩))))
   ·exact Tot.bindC hfe (Tot.bindC hfe (Tot.bindC (hput _) (Jjw (nx _ _ ⟨(h2 f hf).1,(JiF (h2 f hf).2 e0 e1).1⟩))))
  ·rintro⟨x,_⟩ ⟨rfl,h1,h2⟩;unfold DR;exact Tot.iteF (by simp;omega) (Jjw ⟨h1,h2⟩)
  ·obtain⟨c,hc,rfl⟩:=JjP.1 hf;exact⟨hW c hc,(by omega:(0:Int)<=0),(by omega:(0:Int)<64)⟩
 ·rintro fl ⟨h1,h2⟩;refine Tot.bind (R:=λ y=>y=BK fl W) ?_ λ y hy=>Jjw ⟨h1,h2,hy⟩;refine Tot.upto (body:=λ n (x:Int×Int)=>DS n (BD W) fl x.1 x.2) fl.length (λ i x=>x.2=(i:Int)/\x.1=BK fl (W.take i)) ?_ ?_ _ ⟨rfl,by cases fl<;>rfl⟩
  ·rintro i ⟨x,_⟩ hi ⟨rfl,hx⟩;simp only at hx;subst hx;unfold DS;have hiw:i<W.length:=by omega
   have hg:(BD W)[i]?=some ((W[i].toNat:Nat):Int):=by unfold BD;rw[Jj1,JjX hiw];rfl
   have hc:U6 ((W[i].toNat:Nat):Int):=hW _ (JjZ hg);have h3:=Ep fl (W.take i);have h4:=(P9 fl[i] ((W[i].toNat:Nat):Int)).2;rw[List.length_take]at h3;refine Tot.iteT (Gz hi) (Tot.bindC (BY hi) (Tot.bindC (C0 hg) (Jjx (JbY (h2 _ (JjJ hi)) hc) (Jjw ⟨B3 (by omega),?_⟩))));show AX .i64 _ _=_;rw[KO (by omega) (by omega),List.take_add_one,JjX hiw,Option.toList_some,Qa _ _ _ fl[i] (by rw[List.length_take,Nat.min_eq_left (by omega)];exact JjX hi)]
  ·rintro⟨x,_⟩ ⟨rfl,hx⟩;simp only at hx;subst hx;unfold DS;exact Tot.iteF (IZ _) (Jjw (by show _=_;rw[List.take_of_length_le (by omega)]))
theorem Jb6 {x:I1} (hx:Me x) {l:List Int} (hl:∀ a∈l,U8 a) {v:List (CU Int)} (hv:∀ y∈v,U8 y.a0/\U8 y.a1):Ev (λ n=>EH n x l v) true:=by
 refine Tot.ev ?_;obtain⟨t,ht,he⟩:=JbH hx;unfold EH;refine Jjx V1 (Jjx he (Tot.bind (Jb4 ht hl) ?_));rintro⟨cells,text,okk⟩ ⟨hw,_⟩;refine Tot.ite (λ _=>Jjw rfl) λ hc=>?_;have hwr:WrT t cells text:=hw (by cases okk<;>simp_all);have hlen:cells.length<=12:=by simp at hc;omega
 have hcs:=JbV ht.tk hwr;have hby:BD (ofI cells)=cells:=UK λ c h=>by have:=hcs c h;omega
 have hol:(ofI cells).length=cells.length:=by unfold ofI;simp
 have hsp:=Yw (W:=ofI cells) (by rw[hby];exact λ c h=>⟨(hcs c h).1,by have:=(hcs c h).2;omega⟩) (by omega) hv;rw[hby]at hsp;refine Tot.bind hsp ?_;rintro⟨fl,B⟩ ⟨h1,h2,h3⟩;simp only at h1 h2 h3;have hr:=Ep fl (ofI cells);rw[← h3]at hr;have h0:=Jg7 ht.tk hwr (fl:=fl) (by omega);rw[← h3]at h0;refine Tot.bind (Lc ht.tk (by show fl.length<=_;omega) hr.1 (by omega)) ?_;rintro _ ⟨m,hm,rfl⟩;refine Tot.bind (Qc ht.tk (by show fl.length<=_;omega) hr.1 (by omega)) ?_;rintro _ (⟨rfl,hb⟩|⟨y,rfl,hb⟩)
 ·obtain⟨s,u,e,_⟩:=hb.ne (JjM _) h0 (Int.le_refl _);cases e
 ·obtain⟨y1,y2⟩:=hb.snd y (by simp);have y3:=(y1.len ht.tk).1;refine Tot.iteF ?_ ?_
  ·have c1:decide ((gs y).Cost>B)=false:=by
    show decide (y.Cost>B)=false;simp;omega
   have c2:(((List.length (gs y).Cells:Nat):Int) != ((cells.length:Nat):Int))=false:=by
    show(((List.length (BD y.Cells):Nat):Int) != _)=false;rw[NM,y3,h1,hol];simp
   show((!true||decide ((gs y).Cost>B))||(((List.length (gs y).Cells:Nat):Int) != ((cells.length:Nat):Int)))=false;rw[c1,c2];rfl
  by_cases hbig:m.length>16
  ·rw[if_pos hbig];exact Tot.iteT rfl (Jjw rfl)
  rw[if_neg hbig];refine Tot.iteF rfl (Tot.bind (Jb5 m (by omega) text) ?_);obtain⟨s,hs,hst,_⟩:=hm.has (by omega) h0 (Int.le_refl _);rintro _ (⟨s',hs',e,rfl⟩|⟨h,_⟩)
  ·have:=(hm.snd s' hs').2;refine Jjw ?_;show((true&&true)&&decide (s'.Cost<=B))&&true=true;simpa using this
  ·exact absurd hst (h s hs)
end Go.AI
end
section
namespace Go.AI
theorem Hp {n:Int} (h:okI .u8 n):U8 n:=by
 unfold okI Lit.wf at h;have:IntKind.u8.min=0/\IntKind.u8.max=255:=by decide
 unfold U8;simp only[JjY,decide_eq_true_eq]at h;omega
theorem QI {r:Cz} (h:ID r):WG r:=by
 obtain⟨a,b,c,d,e,f⟩:=h;exact⟨λ y hy=>Hp (a y hy),λ y hy=>Hp (b y hy),Hp c,Hp d,Hp e,Hp f⟩
theorem Yx {x:I1} (h:VO x):Me x:=⟨(Hp h.1).1,λ r hr=>QI (h.2.2 r hr)⟩
theorem JdF {l:List (CU Int)} (h:∀ a∈l,(okI .u8 a.a0/\okI .u8 a.a1)):∀ y∈l,U8 y.a0/\U8 y.a1:=λ y hy=>⟨Hp (h y hy).1,Hp (h y hy).2⟩
theorem Yy:∀ (x:I1) (l:List Int) (p:List (CU Int)),VO x->(∀ a∈l,okI .u8 a)->(∀ a∈p,(okI .u8 a.a0/\okI .u8 a.a1))->∃ n,EH n x l p=some true:=λ _ _ _ h hl hp=>(Jb6 (Yx h) (λ a ha=>Hp (hl a ha)) (JdF hp)).out
end Go.AI
end
section
namespace Go.Proofs.Ytlhfdeoeeenapaa
open Go.AI Go.ChangeShapes Go.WideShapes Go.ChangeAt Go.RowKit
theorem own:ownKnob Try.prog.godebug=none:=by kernel_rfl
set_option maxRecDepth 100000 in
theorem Jhc (os:Os) (started:os.Started) (H:Type) (enc:TypeId×Value->H) :
  ReturnsInHanded {} Try.checked os 5 .any (Rows.doubtFindsSpec.pre6 enc Try.prog Try.f5 Rows.doubtFindsRow.domain false) (Rows.doubtFindsSpec.post enc Try.prog Try.f5 false true false false):=by
 refine returnsInHanded_of_change (C:=Try.checked) own started (by kernel_rfl) Try.func5
  (ChangeSpec.witness6 (enc:=enc) (C:=Try.checked) false ⟨#[],#[.agg #[.int .u8 0,.int .u8 0,.slice none 0 0],.slice none 0 0,.slice none 0 0],[]⟩ 8 (by kernel_rfl) (by kernel_rfl) (by kernel_rfl) (by kernel_rfl)) ?_
 intro W base args ds gs before hval0 hW hcnd _;have hval:∀ (j:Nat) t v,Try.f5.params[j]?=some t->args[j]?=some v->Value.okWide Try.prog W .any base t v:=hval0;have hW':=hW;obtain⟨p,q,hA0,hV,rfl,hfz,hnd⟩:=hW;have hA:DataW.TrodAll enc Try.prog W 0 (λ _=>true) true Try.f5.params.toList args.toList ds p:=hA0;have hlt:=hA.lt;rw[Try.params5]at hA hval;obtain⟨v0,vs0,d0,ds0,p0,q0,hargs,rfl,rfl,h0,r0⟩:=trodAll_cons hA;obtain⟨v1,vs1,d1,ds1,p1,q1,rfl,rfl,rfl,h1,r1⟩:=trodAll_cons r0;obtain⟨v2,vs2,d2,ds2,p2,q2,rfl,rfl,rfl,h2,r2⟩:=trodAll_cons r1;obtain⟨rfl,rfl,rfl⟩:=trodAll_nil r2;obtain rfl:args=#[v0,v1,v2]:=by cases args;simp_all
 obtain⟨rfl,rfl⟩:=trodVars_none hV;obtain⟨cs0,hc0,_⟩:=okWide_struct Try.underlying24 (hval 0 24 v0 rfl rfl);obtain⟨a0,k0,rep0⟩:=Jde hc0 h0 Jjj;obtain⟨x1,y1,z1,hc1⟩:=okWide_slice Try.underlying52 (hval 1 52 v1 rfl rfl);obtain⟨a1,k1,rep1⟩:=Wz (y:=λ a=>.sl (a.map eU8)) (by rw[hc1];rfl) h1 JgU (λ _=>rfl);obtain⟨x2,y2,z2,hc2⟩:=okWide_slice Try.underlying25 (hval 2 25 v2 rfl rfl);obtain⟨a2,k2,rep2⟩:=Wz (y:=λ a=>.sl (a.map (HI eU8))) (by rw[hc2];rfl) h2 Jjk (λ _=>rfl);clear hA0 hval0;simp only[List.append_nil]at hW' hlt;obtain⟨n,hn⟩:=Yy a0 a1 a2 k0 k1 k2;refine(Jbc (L8 hn) (SK rep0 (SK rep1 (SK rep2 JgT)))).mono λ e W' ⟨he,hg,hold⟩=>?_;subst he;exact⟨_,rfl,X8 (pv:=[]) hW' (λ _ _ _=>(trodAll_cons_mk (shut_bool Try.underlying4 _) trodAll_mk0)) (λ sp hsp=>trodAll_cons_mk (Jbd (by kernel_rfl) (by kernel_rfl) (of_decide_eq_true (by kernel_rfl)) h0 (λ p hp=>hlt p (by simp[hp])) (λ p hp=>hsp p (by simp[hp])) hold) (trodAll_cons_mk (Jbd (by kernel_rfl) (by kernel_rfl) (of_decide_eq_true (by kernel_rfl)) h1 (λ p hp=>hlt p (by simp[hp])) (λ p hp=>hsp p (by simp[hp])) hold) (trodAll_cons_mk (Jbd (by kernel_rfl) (by kernel_rfl) (of_decide_eq_true (by kernel_rfl)) h2 (λ p hp=>hlt p (by simp[hp])) (λ p hp=>hsp p (by simp[hp])) hold) trodAll_mk0))) (λ _ _=>rfl) (by simp) (hg _) hold (ok_one (by kernel_rfl) rfl (okWide_bool_mk Try.underlying4 _))⟩
theorem Jjl:Rows.doubtFindsRow.holds Try.pinned (OpenSpec.ofChange Rows.doubtFindsSpec):=
 OpenClaim.holds_of_wide 5 Try.f5 rfl rfl rfl rfl rfl rfl rfl ⟨rfl,rfl,rfl,rfl,rfl⟩ rfl rfl rfl rfl rfl (by kernel_rfl) Try.func5 (by kernel_rfl)
  (of_decide_eq_true (by kernel_rfl)) (by unfold Func.isWrapper;first|(rw[if_pos (by decide +kernel)];kernel_rfl)|(rw[if_neg (by decide +kernel)];exact⟨rfl,rfl⟩))
  (λ os started H enc _=>Jhc os started H enc)
theorem doubtFinds_holds:Rows.DoubtFindsSaid:=Jjl
end Go.Proofs.Ytlhfdeoeeenapaa
end
