/- The theorem: the last one of this text; part 6 of 6 of its proof. It holds with no condition beyond the given statement. -/
import Derived.Test.YtlhfdeoeeenapaaLE
import Derived.KernelRfl
import Derived.Test.YtlhfdeoeeenapaaRows
section
namespace Go.AI
def ldT:List UInt8->List UInt8->Int×List UInt8
 | [],[]=>(0,[])
 | a::x,[]=>(1,a::x)
 | [],b::y=>(2,b::y)
 | a::x,b::y=>if a=b then ldT x y else(3,[])
def Pk (l:Int×List UInt8) (p q:List UInt8):Int×List UInt8:=
 if l.1=1 then ldT (l.2++p) q else if l.1=2 then ldT p (l.2++q)else if l.1=3 then l else ldT p q
def swT (l:Int×List UInt8):Int×List UInt8:=if l.1=1 then(2,l.2)else if l.1=2 then(1,l.2)else l
def TL (l:Int×List UInt8):Prop:=(l.1=0/\l.2=[])\/(l.1=1/\l.2≠[])\/(l.1=2/\l.2≠[])\/(l.1=3/\l.2=[])
theorem JaY:∀ x y,TL (ldT x y)
 | [],[]=>.inl ⟨rfl,rfl⟩
 | a::x,[]=>.inr (.inl ⟨rfl,by simp[ldT]⟩)
 | [],b::y=>.inr (.inr (.inl ⟨rfl,by simp[ldT]⟩))
 | a::x,b::y=>by
  unfold ldT;split
  ·exact JaY x y
  ·exact .inr (.inr (.inr ⟨rfl,rfl⟩))
theorem Jy (a b:UInt8) (x y:List UInt8):ldT (a::x) (b::y)=if a=b then ldT x y else(3,[]):=rfl
theorem LF:∀ (x y p q:List UInt8),ldT (x++p) (y++q)=Pk (ldT x y) p q
 | [],[],p,q=>rfl
 | a::x,[],p,q=>rfl
 | [],b::y,p,q=>rfl
 | a::x,b::y,p,q=>by
  show ldT (a::(x++p)) (b::(y++q))=_;rw[Jy,Jy];split
  ·exact LF x y p q
  ·rfl
theorem Jz:∀ x y,ldT y x=swT (ldT x y)
 | [],[]=>rfl
 | a::x,[]=>rfl
 | [],b::y=>rfl
 | a::x,b::y=>by
  rw[Jy,Jy];by_cases h:a=b
  ·subst h;rw[if_pos rfl,if_pos rfl];exact Jz x y
  ·rw[if_neg h,if_neg (Ne.symm h)];rfl
theorem Pm:∀ {x y:List UInt8},(ldT x y).1=0↔x=y
 | [],[]=>by simp[ldT]
 | a::x,[]=>by simp[ldT]
 | [],b::y=>by simp[ldT]
 | a::x,b::y=>by
  rw[Jy];split
  ·rename_i h;subst h;rw[Pm];simp
  ·rename_i h;simp[h]
theorem XK {l:Int×List UInt8} (h:TL l) (p q:List UInt8):Pk (swT l) q p=swT (Pk l p q):=by
 obtain⟨s,t⟩:=l;rcases h with⟨h1,h2⟩|⟨h1,h2⟩|⟨h1,h2⟩|⟨h1,h2⟩<;>simp only at h1 h2<;>subst h1
 ·exact Jz p q
 ·exact Jz (t++p) q
 ·exact Jz p (t++q)
 ·rfl
theorem XL {l m:Int×List UInt8} (hl:TL l) (hm:TL m) {p q:List UInt8} (h1:(Pk l p q).1=0) (h2:(Pk m p q).1=0):l=m:=by
 have key:∀ {l:Int×List UInt8},TL l->(Pk l p q).1=0->(l.1=0/\l.2=[]/\p=q)\/(l.1=1/\l.2≠[]/\l.2++p=q)\/(l.1=2/\l.2≠[]/\p=l.2++q):=by
  intro l hl h;obtain⟨s,t⟩:=l;rcases hl with⟨e1,e2⟩|⟨e1,e2⟩|⟨e1,e2⟩|⟨e1,e2⟩<;>simp only at e1 e2<;>subst e1
  ·exact .inl ⟨rfl,e2,Pm.1 h⟩
  ·exact .inr (.inl ⟨rfl,e2,Pm.1 h⟩)
  ·exact .inr (.inr ⟨rfl,e2,Pm.1 h⟩)
  ·exact absurd (show(3:Int)=0 from h) (by decide)
 have hlen:∀ {t:List UInt8},t≠[]->0<t.length:=λ h=>List.length_pos_iff.2 h;rcases key hl h1 with⟨a1,a2,a3⟩|⟨a1,a2,a3⟩|⟨a1,a2,a3⟩<;>rcases key hm h2 with⟨b1,b2,b3⟩|⟨b1,b2,b3⟩|⟨b1,b2,b3⟩
 ·exact Prod.ext (by rw[a1,b1]) (by rw[a2,b2])
 ·have:=hlen b2;have:=congrArg List.length b3;have:=congrArg List.length a3;simp only[List.length_append]at *;omega
 ·have:=hlen b2;have:=congrArg List.length b3;have:=congrArg List.length a3;simp only[List.length_append]at *;omega
 ·have:=hlen a2;have:=congrArg List.length b3;have:=congrArg List.length a3;simp only[List.length_append]at *;omega
 ·exact Prod.ext (by rw[a1,b1]) (List.append_cancel_right (a3.trans b3.symm))
 ·have:=hlen a2;have:=hlen b2;have:=congrArg List.length b3;have:=congrArg List.length a3;simp only[List.length_append]at *;omega
 ·have:=hlen a2;have:=congrArg List.length b3;have:=congrArg List.length a3;simp only[List.length_append]at *;omega
 ·have:=hlen a2;have:=hlen b2;have:=congrArg List.length b3;have:=congrArg List.length a3;simp only[List.length_append]at *;omega
 ·exact Prod.ext (by rw[a1,b1]) (List.append_cancel_right (a3.symm.trans b3))
structure Ac where
 p:List UInt8
 c:List Int
 to:Nat
abbrev Hf:=Nat×List Int
inductive Sp (A:Nat->Ac->Prop):Hf->Int->List UInt8->Hf->Prop
 | rest (k:Nat) (c:Int) (r:List Int):Sp A (k,c::r) c [] (k,r)
 | arc {k:Nat} {a:Ac} {c:Int} {r:List Int} (h:A k a) (hc:a.c=c::r):Sp A (k,[]) c a.p (a.to,r)
inductive Rn (A:Nat->Ac->Prop):Hf->List Int->List UInt8->Hf->Prop
 | nil (h:Hf):Rn A h [] [] h
 | cons {h h' h'':Hf} {c:Int} {w:List Int} {p x:List UInt8} (h1:Sp A h c p h') (h2:Rn A h' w x h''):Rn A h (c::w) (p++x) h''
theorem Rn.one {A:Nat->Ac->Prop} {h h':Hf} {c:Int} {p:List UInt8} (s:Sp A h c p h'):Rn A h [c] p h':=by
 have:=Rn.cons s (Rn.nil (A:=A) h');rwa[List.append_nil]at this
theorem Rn.app {A:Nat->Ac->Prop} {h h' h'':Hf} {w v:List Int} {x y:List UInt8} (h1:Rn A h w x h') (h2:Rn A h' v y h''):Rn A h (w++v) (x++y) h'':=by
 induction h1 with
 | nil h=>exact h2
 | cons s _ ih=>have:=Rn.cons s (ih h2);rwa[← List.append_assoc]at this
theorem Rn.inv {A:Nat->Ac->Prop} {h h':Hf} {x:List UInt8} {c:Int} {w:List Int} (H:Rn A h (c::w) x h'):∃ h1 p y,Sp A h c p h1/\Rn A h1 w y h'/\x=p++y:=by
 cases H with
 | cons s r=>exact⟨_,_,_,s,r,rfl⟩
theorem Rn.inv0 {A:Nat->Ac->Prop} {h h':Hf} {x:List UInt8} (H:Rn A h [] x h'):h'=h/\x=[]:=by
 cases H;exact⟨rfl,rfl⟩
def En (A:Nat->Ac->Prop) (acc:Nat->Prop) (h:Hf) (w:List Int) (x:List UInt8):Prop:=∃ k,Rn A h w x (k,[])/\acc k
def Amb (A:Nat->Ac->Prop) (acc:Nat->Prop) (w:List Int):Prop:=∃ x y,x≠y/\En A acc (0,[]) w x/\En A acc (0,[]) w y
def Rch (A:Nat->Ac->Prop) (w:List Int) (a b:Hf) (l:Int×List UInt8):Prop:=∃ x y,Rn A (0,[]) w x a/\Rn A (0,[]) w y b/\ldT x y=l
theorem Rch.ok {A:Nat->Ac->Prop} {w:List Int} {a b:Hf} {l:Int×List UInt8} (h:Rch A w a b l):TL l:=by obtain⟨x,y,_,_,rfl⟩:=h;exact JaY x y
theorem Rch.swap {A:Nat->Ac->Prop} {w:List Int} {a b:Hf} {l:Int×List UInt8} (h:Rch A w a b l):Rch A w b a (swT l):=by
 obtain⟨x,y,h1,h2,rfl⟩:=h;exact⟨y,x,h2,h1,Jz x y⟩
theorem Rch.step {A:Nat->Ac->Prop} {w:List Int} {a b a' b':Hf} {l:Int×List UInt8} {c:Int} {p q:List UInt8} (h:Rch A w a b l) (h1:Sp A a c p a') (h2:Sp A b c q b'):Rch A (w++[c]) a' b' (Pk l p q):=by
 obtain⟨x,y,g1,g2,rfl⟩:=h;exact⟨x++p,y++q,g1.app (Rn.one h1),g2.app (Rn.one h2),LF x y p q⟩
def Gd (A:Nat->Ac->Prop) (acc:Nat->Prop) (a b:Hf) (l:Int×List UInt8) (v:List Int):Prop:=∃ p q,En A acc a v p/\En A acc b v q/\(Pk l p q).1≠0
theorem Gd.swap {A:Nat->Ac->Prop} {acc:Nat->Prop} {v:List Int} {a b:Hf} {l:Int×List UInt8} (hl:TL l) (g:Gd A acc a b l v):Gd A acc b a (swT l) v:=by
 obtain⟨p,q,g1,g2,g3⟩:=g;refine⟨q,p,g2,g1,?_⟩;rw[XK hl];unfold swT;split
 ·simp
 ·split
  ·simp
  ·exact g3
theorem Amb.gd {A:Nat->Ac->Prop} {acc:Nat->Prop} {w:List Int} (h:Amb A acc w):Gd A acc (0,[]) (0,[]) (0,[]) w:=by
 obtain⟨x,y,h1,h2,h3⟩:=h;exact⟨x,y,h2,h3,λ e=>h1 (Pm.1 e)⟩
theorem Gd.next {A:Nat->Ac->Prop} {acc:Nat->Prop} {a b:Hf} {w:List Int} {l:Int×List UInt8} {c:Int} {v:List Int} (h:Rch A w a b l) (g:Gd A acc a b l (c::v)):∃ p q a' b',Sp A a c p a'/\Sp A b c q b'/\Gd A acc a' b' (Pk l p q) v:=by
 obtain⟨x,y,h1,h2,rfl⟩:=h;obtain⟨p,q,⟨k,g1,g2⟩,⟨k',g3,g4⟩,g5⟩:=g;obtain⟨a',p1,p2,s1,r1,rfl⟩:=g1.inv;obtain⟨b',q1,q2,s2,r2,rfl⟩:=g3.inv;refine⟨p1,q1,a',b',s1,s2,p2,q2,⟨k,r1,g2⟩,⟨k',r2,g4⟩,?_⟩;rw[← LF,← List.append_assoc,← List.append_assoc,LF,LF]at g5;exact g5
def Cov (R:(Int×List UInt8)->Prop) (l:Int×List UInt8):Prop:=R l\/R (3,[])\/∃ m m',R m/\R m'/\m≠m'
theorem Cov.gd {A:Nat->Ac->Prop} {acc:Nat->Prop} {R:(Int×List UInt8)->Prop} {l:Int×List UInt8} (h:Cov R l) (hR:∀ m,R m->TL m) {a b:Hf} {v:List Int} (g:Gd A acc a b l v):∃ m,R m/\Gd A acc a b m v:=by
 rcases h with h|h|⟨m,m',h1,h2,h3⟩
 ·exact⟨l,h,g⟩
 ·obtain⟨p,q,g1,g2,_⟩:=g;exact⟨_,h,p,q,g1,g2,by simp[Pk]⟩
 ·obtain⟨p,q,g1,g2,_⟩:=g;by_cases e:(Pk m p q).1=0
  ·exact⟨m',h2,p,q,g1,g2,λ e'=>h3 (XL (hR m h1) (hR m' h2) e e')⟩
  ·exact⟨m,h1,p,q,g1,g2,e⟩
def ltL:List Int->List Int->Bool
 | [],[]=>false
 | [],_::_=>true
 | _::_,[]=>false
 | a::x,b::y=>decide (a<b)||(a==b&&ltL x y)
def ltW (x y:List Int):Prop:=x.length<y.length\/(x.length=y.length/\ltL x y=true)
theorem V6:∀ {x y:List Int},x.length=y.length->ltL x y=true\/x=y\/ltL y x=true
 | [],[],_=>.inr (.inl rfl)
 | [],_::_,h=>by simp at h
 | _::_,[],h=>by simp at h
 | a::x,b::y,h=>by
  simp only[ltL,Jjh,decide_eq_true_eq,JiZ,beq_iff_eq];rcases Int.lt_trichotomy a b with h1|rfl|h1
  ·exact .inl (.inl h1)
  ·rcases V6 (by simpa using h:x.length=y.length)with h2|rfl|h2
   ·exact .inl (.inr ⟨rfl,h2⟩)
   ·exact .inr (.inl rfl)
   ·exact .inr (.inr (.inr ⟨rfl,h2⟩))
  ·exact .inr (.inr (.inl h1))
theorem V7 (x y:List Int):ltW x y\/x=y\/ltW y x:=by
 rcases Nat.lt_trichotomy x.length y.length with h|h|h
 ·exact .inl (.inl h)
 ·rcases V6 h with h1|h1|h1
  ·exact .inl (.inr ⟨h,h1⟩)
  ·exact .inr (.inl h1)
  ·exact .inr (.inr (.inr ⟨h.symm,h1⟩))
 ·exact .inr (.inr (.inl h))
def Lst (A:Nat->Ac->Prop) (acc:Nat->Prop) (w:List Int):Prop:=Amb A acc w/\∀ u,Amb A acc u->¬ltW u w
theorem Lst.uniq {A:Nat->Ac->Prop} {acc:Nat->Prop} {w u:List Int} (h:Lst A acc w) (h':Lst A acc u):w=u:=by
 rcases V7 w u with h1|h1|h1
 ·exact absurd h1 (h'.2 w h.1)
 ·exact h1
 ·exact absurd h1 (h.2 u h'.1)
end Go.AI
end
section
namespace Go.AI
def prt (t:Ad) (k:Nat):List UInt8:=(EG t (k:Int)).Print
def cls (t:Ad) (k:Nat):List Int:=(EG t (k:Int)).Cells
theorem Sp.inv {A:Nat->Ac->Prop} {h x:Hf} {c:Int} {p:List UInt8} (H:Sp A h c p x):(∃ r,h.2=c::r/\p=[]/\x=(h.1,r))\/(h.2=[]/\∃ a r,A h.1 a/\a.c=c::r/\p=a.p/\x=(a.to,r)):=by
 cases H with
 | rest k c r=>exact .inl ⟨r,rfl,rfl,rfl⟩
 | arc h hc=>exact .inr ⟨rfl,_,_,h,hc,rfl,rfl⟩
theorem Rn.rest {A:Nat->Ac->Prop} (k:Nat) (r:List Int):Rn A (k,r) r [] (k,[]):=by
 induction r with
 | nil=>exact .nil _
 | cons c r ih=>have:=Rn.cons (Sp.rest (A:=A) k c r) ih;simpa using this
theorem Rn.skip {A:Nat->Ac->Prop} {k k':Nat}:∀ {r w:List Int} {x:List UInt8},Rn A (k,r) w x (k',[])->∃ w',w=r++w'/\Rn A (k,[]) w' x (k',[])
 | [],w,x,h=>⟨w,rfl,h⟩
 | c::r,[],x,h=>by have:=h.inv0.1;cases this
 | c::r,c'::w,x,h=>by
  obtain⟨h1,p,y,s,h2,rfl⟩:=h.inv;rcases s.inv with⟨r',e1,rfl,rfl⟩|⟨e1,_⟩
  ·have e1:c::r=c'::r':=e1;cases e1;obtain⟨w',rfl,h3⟩:=Rn.skip h2;exact⟨w',rfl,h3⟩
  ·cases e1
theorem Rn.arc {A:Nat->Ac->Prop} {k:Nat} {a:Ac} (h:A k a) (hc:a.c≠[]):Rn A (k,[]) a.c a.p (a.to,[]):=by
 cases hcc:a.c with
 | nil=>exact absurd hcc hc
 | cons c r=>have:=Rn.cons (Sp.arc h hcc) (Rn.rest (A:=A) a.to r);simpa using this
theorem En.arcs {A:Nat->Ac->Prop} {acc:Nat->Prop} (hA:∀ k a,A k a->a.c≠[]) {k:Nat} {v:List Int} {x:List UInt8}:En A acc (k,[]) v x↔(v=[]/\x=[]/\acc k)\/∃ a v' x',A k a/\v=a.c++v'/\x=a.p++x'/\En A acc (a.to,[]) v' x':=by
 constructor
 ·rintro⟨k',h1,h2⟩;cases v with
  | nil=>
   obtain⟨e1,e2⟩:=h1.inv0;cases e1;exact .inl ⟨rfl,e2,h2⟩
  | cons c v=>
   obtain⟨h,p,y,s,r,rfl⟩:=h1.inv;rcases s.inv with⟨r',e1,_⟩|⟨_,a,r',ha,hc,rfl,rfl⟩
   ·cases e1
   ·obtain⟨w',rfl,h3⟩:=Rn.skip r;exact .inr ⟨a,w',y,ha,by rw[hc];rfl,rfl,k',h3,h2⟩
 ·rintro (⟨rfl,rfl,h⟩|⟨a,v',x',ha,rfl,rfl,k',h1,h2⟩)
  ·exact⟨k,.nil _,h⟩
  ·exact⟨k',(Rn.arc ha (hA k a ha)).app h1,h2⟩
end Go.AI
end
section
namespace Go.AI
def LG (t:Ad) (s:Ae):List Int->Ae->Prop
 | [],s'=>s=s'
 | k::p,s'=>(BK t s k).2=true/\LG t (BK t s k).1 p s'
theorem LG.snoc {t:Ad}:∀ {p:List Int} {s s':Ae} {k:Int},LG t s p s'->(BK t s' k).2=true->LG t s (p++[k]) (BK t s' k).1
 | [],s,s',k,h,h'=>by
  unfold LG at h;subst h;exact⟨h',rfl⟩
 | a::p,s,s',k,h,h'=>⟨h.1,LG.snoc h.2 h'⟩
theorem LG.mem {t:Ad}:∀ {p:List Int} {s s':Ae},LG t s p s'->∀ k∈p,0<=k/\k<t.Rules.length
 | [],_,_,_,k,hk=>by cases hk
 | a::p,s,s',h,k,hk=>by
  rcases List.mem_cons.1 hk with rfl|hk
  ·exact Pi h.1
  ·exact LG.mem h.2 k hk
def Pn (t:Ad) (p:List Int):List UInt8:=p.flatMap λ k=>(EG t k).Print
def cellsOf (t:Ad) (p:List Int):List Int:=p.flatMap λ k=>(EG t k).Cells
end Go.AI
end
section
namespace Go.AI
theorem XM {r:Aw} {m:Int} (h:B2 r m=true):(∀ b∈r.Print,FD b=true)/\(∀ c∈r.Cells,c<63)/\r.Cells.countP (λ c=>c==0)=r.Print.countP CM:=by
 unfold B2 at h;simp only[JiZ,JiI,decide_eq_true_eq]at h;obtain⟨⟨⟨⟨⟨⟨h1,_⟩,_⟩,_⟩,_⟩,h2⟩,h3⟩:=h;refine⟨h1,h2,?_⟩;cases hs:r.Print.any CM with
 | true=>
  rw[hs]at h3;simp only[cond_true,JiZ,decide_eq_true_eq]at h3;obtain⟨⟨a,b⟩,c⟩:=h3;obtain⟨x,hx⟩:=List.length_eq_one_iff.1 a;obtain⟨y,hy⟩:=List.length_eq_one_iff.1 b;rw[hx]at hs⊢;rw[hy]at c⊢;simp only[List.any_cons,List.any_nil,Bool.or_false]at hs c;simp[hs,c]
 | false=>
  rw[hs]at h3;simp only[cond_false,Bool.not_eq_true']at h3;rw[List.any_eq_false]at h3 hs;rw[List.countP_eq_zero.2 h3,List.countP_eq_zero.2 hs]
end Go.AI
end
section
namespace Go.AI
def ltB (a b:List UInt8):Prop:=Op.bytesLess a b=true
theorem R5 (a:List UInt8):¬ltB a []:=by cases a<;>simp[ltB,Op.bytesLess]
theorem HM {a b:UInt8} {x y:List UInt8}:ltB (a::x) (b::y)↔a<b\/(a=b/\ltB x y):=by
 simp[ltB,Op.bytesLess]
theorem Dw:∀ a:List UInt8,¬ltB a a
 | []=>R5 _
 | a::x=>by
  rw[HM];rintro (h|⟨_,h⟩)
  ·exact UInt8.lt_irrefl a h
  ·exact Dw x h
theorem JQ:∀ {a b c:List UInt8},ltB a b->ltB b c->ltB a c
 | a,[],c,h,_=>absurd h (R5 a)
 | _,_::_,[],_,h=>absurd h (R5 _)
 | [],_::_,_::_,_,_=>rfl
 | a::x,b::y,c::z,h,h'=>by
  rw[HM]at *;rcases h with h|⟨rfl,h⟩
  ·rcases h' with h'|⟨rfl,_⟩
   ·exact .inl (UInt8.lt_trans h h')
   ·exact .inl h
  ·rcases h' with h'|⟨rfl,h'⟩
   ·exact .inl h'
   ·exact .inr ⟨rfl,JQ h h'⟩
theorem JR:∀ (a b:List UInt8),a=b\/ltB a b\/ltB b a
 | [],[]=>.inl rfl
 | [],_::_=>.inr (.inl rfl)
 | _::_,[]=>.inr (.inr rfl)
 | a::x,b::y=>by
  rw[HM,HM];by_cases h:a=b
  ·subst h;rcases JR x y with rfl|h|h
   ·exact .inl rfl
   ·exact .inr (.inl (.inr ⟨rfl,h⟩))
   ·exact .inr (.inr (.inr ⟨rfl,h⟩))
  ·rcases Nat.lt_or_gt_of_ne (λ e=>h (UInt8.toNat_inj.1 e))with h1|h1
   ·exact .inr (.inl (.inl (UInt8.lt_iff_toNat_lt.2 h1)))
   ·exact .inr (.inr (.inl (UInt8.lt_iff_toNat_lt.2 h1)))
theorem QB {a b:List UInt8} (h:ltB a b):¬ltB b a:=λ h'=>Dw a (JQ h h')
theorem R6 (c:List UInt8) {a b:List UInt8}:ltB (c++a) (c++b)↔ltB a b:=by
 induction c with
 | nil=>rfl
 | cons x c ih=>
  rw[List.cons_append,List.cons_append,HM,ih];exact⟨λ h=>h.elim (λ h=>absurd h (UInt8.lt_irrefl x)) λ h=>h.2,λ h=>.inr ⟨rfl,h⟩⟩
def V8 (l:List (List UInt8)):Prop:=l.Pairwise ltB
theorem V8.ext:∀ {l m:List (List UInt8)},V8 l->V8 m->(∀ x,x∈l↔x∈m)->l=m
 | [],[],_,_,_=>rfl
 | [],b::m,_,_,h=>by have:=(h b).2 (by simp);cases this
 | a::l,[],_,_,h=>by have:=(h a).1 (by simp);cases this
 | a::l,b::m,hl,hm,h=>by
  have h1:=List.pairwise_cons.1 hl;have h2:=List.pairwise_cons.1 hm;have e:a=b:=by
   rcases List.mem_cons.1 ((h a).1 (by simp))with e|e
   ·exact e
   ·rcases List.mem_cons.1 ((h b).2 (by simp))with e'|e'
    ·exact e'.symm
    ·exact absurd (h1.1 b e') (QB (h2.1 a e))
  subst e;congr 1;refine V8.ext h1.2 h2.2 λ x=>⟨λ hx=>?_,λ hx=>?_⟩
  ·rcases List.mem_cons.1 ((h x).1 (by simp[hx]))with e|e
   ·subst e;exact absurd (h1.1 x hx) (Dw x)
   ·exact e
  ·rcases List.mem_cons.1 ((h x).2 (by simp[hx]))with e|e
   ·subst e;exact absurd (h2.1 x hx) (Dw x)
   ·exact e
end Go.AI
end
section
namespace Go.AI
def WrT (t:Ad) (w:List Int) (x:List UInt8):Prop:=∃ p s,LG t Ca p s/\Bj t s=true/\cellsOf t p=w/\Pn t p=x
def JaZ (t:Ad) (w:List Int):Prop:=∃ x y,x≠y/\WrT t w x/\WrT t w y
def JfV (t:Ad) (w:List Int):Prop:=JaZ t w/\∀ u,JaZ t u->¬ltW u w
structure TbK (t:Ad):Prop where
 tab:HI t
 valid:DM t=true
 pos:∀ r∈t.Rules,∀ c∈r.Cells,0<=c
theorem TbK.sound {t:Ad} (h:TbK t):∀ r∈t.Rules,B2 r t.Modes=true:=Is h.valid
theorem TbK.small {t:Ad} (h:TbK t):EY t:=QA h.tab.1 λ r hr=>⟨h.tab.2 r hr,(Iu (h.sound r hr)).2.2⟩
theorem FM (t:Ad) (k:Int) (p:List Int):cellsOf t (k::p)=(EG t k).Cells++cellsOf t p:=rfl
theorem M9 (t:Ad) (k:Int) (p:List Int):Pn t (k::p)=(EG t k).Print++Pn t p:=rfl
end Go.AI
end
section
namespace Go.AI
theorem LH {σ ρ:Type} {body:σ->Option (σ⊕ρ)} (I:σ->Prop) (P:ρ->Prop) (h1:∀ x y,I x->body x=some (.inl y)->I y) (h2:∀ x r,I x->body x=some (.inr r)->P r):∀ (n:Nat) (x:σ) (r:ρ),I x->whl body n x=some r->P r
 | 0,_,_,_,h=>by cases h
 | n+1,x,r,hI,h=>by
  unfold whl at h;cases hb:body x with
  | none=>rw[hb]at h;cases h
  | some y=>
   rw[hb]at h;cases y with
   | inl y=>exact LH I P h1 h2 n y r (h1 x y hI hb) h
   | inr z=>cases h;exact h2 x _ hI hb
def Nn (r:Aw):Prop:=∀ c∈r.Cells,0<=c
theorem V9 {α:Type} {l:List α} {i:Int} {x:α} (h:idx l i=some x):x∈l:=Ji0 (Cn h).2.2
theorem Wa {i x:Int} (h:idx ([1,3,9,5,7,32,44,60]:List Int) i=some x):0<=x:=by
 have:=V9 h;simp only[List.mem_cons,List.not_mem_nil,or_false]at this;omega
theorem Ja0 {n:Nat} {x:Cz} {m:Int} {r:Aw} (h:Hw n x m=some r):Nn r:=by
 unfold Hw at h;obtain⟨a,_,h⟩:=bind_some h;obtain⟨b,_,h⟩:=bind_some h;obtain⟨_,_,h⟩:=bind_some h;obtain⟨_,_,h⟩:=bind_some h;obtain⟨y,_,h⟩:=bind_some h;obtain⟨c,hc,h⟩:=bind_some h;obtain⟨z,hz,h⟩:=bind_some h;cases h;refine LH (λ y=>Nn y.1) Nn (λ x' y hI hb=>?_) (λ x' r hI hb=>?_) n _ _ ?_ hz
 ·unfold CQ at hb;rcases Dp hb with⟨_,hb⟩|⟨_,hb⟩
  ·obtain⟨a,_,hb⟩:=bind_some hb;obtain⟨c,hc,hb⟩:=bind_some hb;obtain⟨l,hl,hb⟩:=bind_some hb;cases hb;obtain⟨_,rfl⟩:=Hn hl;intro d hd;rcases List.mem_append.1 hd with hd|hd
   ·exact hI d hd
   ·simp only[List.mem_singleton]at hd;rw[hd];exact Wa hc
  ·cases hb
 ·unfold CQ at hb;rcases Dp hb with⟨_,hb⟩|⟨_,hb⟩
  ·obtain⟨a,_,hb⟩:=bind_some hb;obtain⟨c,hc,hb⟩:=bind_some hb;obtain⟨l,hl,hb⟩:=bind_some hb;cases hb
  ·cases hb;exact hI
 ·intro d hd;simp only[List.mem_singleton]at hd;rw[hd];exact Wa hc
theorem TM {r:Int} (h:0<=r) (h':r<8):∀ x∈(EN r).Rules,Nn x:=by
 have:∀ k:Nat,k<8->((EN (k:Int)).Rules.all λ x=>x.Cells.all λ c=>decide (0<=c))=true:=by decide +kernel
 have e:=this r.toNat (by omega);rw[Int.toNat_of_nonneg h]at e;intro x hx c hc;have h1:=JiI.1 (JiI.1 e x hx) c hc;simpa using h1
theorem Ja1 {n:Nat} {x:IJ} (hx:0<=x.Base) {t:Ad} (h:Fn n x=some t):∀ r∈t.Rules,Nn r:=by
 unfold Fn at h;obtain⟨b,hb,h⟩:=bind_some h;obtain⟨t1,h1,h⟩:=bind_some h;obtain⟨t2,h2,h⟩:=bind_some h;obtain⟨e1,e2,e3⟩:=LD n x.Base hx;rw[e1]at hb;cases hb;have hbp:=TM e2 e3;have ht1:∀ r∈t1.Rules,Nn r:=by
  refine LH (λ y=>∀ r∈y.1.Rules,Nn r) (λ y=>∀ r∈y.Rules,Nn r) (λ x' y hI hb=>?_) (λ x' r hI hb=>?_) n _ _ (by simp) h1
  ·unfold CS Dt at hb;rcases Dp hb with⟨_,hb⟩|⟨_,hb⟩
   ·obtain⟨_,_,hb⟩:=bind_some hb;rcases Dp hb with⟨_,hb⟩|⟨_,hb⟩
    ·obtain⟨a,ha,hb⟩:=bind_some hb;obtain⟨l,hl,hb⟩:=bind_some hb;cases hb;obtain⟨_,rfl⟩:=Hn hl;intro r hr;rcases List.mem_append.1 hr with hr|hr
     ·exact hI r hr
     ·simp only[List.mem_singleton]at hr;rw[hr];exact hbp a (V9 ha)
    ·cases hb;exact hI
   ·cases hb
  ·unfold CS Dt at hb;rcases Dp hb with⟨_,hb⟩|⟨_,hb⟩
   ·obtain⟨_,_,hb⟩:=bind_some hb;rcases Dp hb with⟨_,hb⟩|⟨_,hb⟩
    ·obtain⟨a,ha,hb⟩:=bind_some hb;obtain⟨l,hl,hb⟩:=bind_some hb;cases hb
    ·cases hb
   ·cases hb;exact hI
 have ht2:∀ r∈t2.Rules,Nn r:=by
  refine LH (λ y=>∀ r∈y.1.Rules,Nn r) (λ y=>∀ r∈y.Rules,Nn r) (λ x' y hI hb=>?_) (λ x' r hI hb=>?_) n _ _ ht1 h2
  ·unfold CT Du at hb;rcases Dp hb with⟨_,hb⟩|⟨_,hb⟩
   ·obtain⟨a,_,hb⟩:=bind_some hb;obtain⟨r1,hr1,hb⟩:=bind_some hb;obtain⟨l,hl,hb⟩:=bind_some hb;obtain⟨v,_,hb⟩:=bind_some hb;obtain⟨_,rfl⟩:=Hn hl;have hall:∀ r∈x'.1.Rules++[r1],Nn r:=λ r hr=>by
     rcases List.mem_append.1 hr with hr|hr
     ·exact hI r hr
     ·simp only[List.mem_singleton]at hr;rw[hr];exact Ja0 hr1
    rcases Dp hb with⟨_,hb⟩|⟨_,hb⟩
    ·obtain⟨l2,hl2,hb⟩:=bind_some hb;cases hb;intro r hr;unfold sub at hl2;split at hl2
     ·cases hl2;exact hall r (List.mem_of_mem_take (List.mem_of_mem_drop hr))
     ·cases hl2
    ·cases hb;exact hall
   ·cases hb
  ·unfold CT Du at hb;rcases Dp hb with⟨_,hb⟩|⟨_,hb⟩
   ·obtain⟨a,_,hb⟩:=bind_some hb;obtain⟨r1,hr1,hb⟩:=bind_some hb;obtain⟨l,hl,hb⟩:=bind_some hb;obtain⟨v,_,hb⟩:=bind_some hb;rcases Dp hb with⟨_,hb⟩|⟨_,hb⟩
    ·obtain⟨l2,hl2,hb⟩:=bind_some hb;cases hb
    ·cases hb
   ·cases hb;exact hI
 unfold Eb at h;rcases Dp h with⟨_,h⟩|⟨_,h⟩
 ·cases h;exact hbp
 ·cases h;exact ht2
theorem Ev.any {α:Type} {f:Nat->Option α} {z:α} (h:Ev f z):∃ n,f n=some z:=by
 obtain⟨N,h⟩:=h;exact⟨N,h N (JiN _)⟩
structure MK (t:Ad):Prop where
 made:KK t
 tk:TbK t
 lo:1<=t.Rules.length
 hi:t.Rules.length<=10
theorem Ja2 {x:IJ} (hx:LE x):∃ t,MK t/\Ev (λ n=>Fn n x) t:=by
 obtain⟨t,⟨h1,h2,h3⟩,h4⟩:=XJ hx;obtain⟨n,hn⟩:=h4.any;exact⟨t,⟨h1,⟨h1.tab,h1.valid,Ja1 hx.1 hn⟩,h2,h3⟩,h4⟩
theorem JfV.uniq {t u:Ad} (h:∀ w x,WrT t w x↔WrT u w x) {w v:List Int} (hw:JfV t w) (hv:JfV u v):w=v:=by
 have ha:∀ z,JaZ t z↔JaZ u z:=λ z=>by unfold JaZ;simp only[h]
 rcases V7 w v with h1|h1|h1
 ·exact absurd h1 (hv.2 w ((ha w).1 hw.1))
 ·exact h1
 ·exact absurd h1 (hw.2 v ((ha v).2 hv.1))
end Go.AI
end
section
namespace Go.AI
def At5 (t:Ad) (i:Nat) (a:Ac):Prop:=∃ k j,Edge t (AH t) i k j/\a=⟨prt t k,cls t k,j⟩
theorem Fy {t:Ad} (ht:TbK t) {k:Nat} (hk:k<t.Rules.length):1<=(cls t k).length/\(cls t k).length<=4/\(prt t k).length<=4/\∀ c∈cls t k,0<=c/\c<63:=by
 have hm:EG t (k:Int)∈t.Rules:=Vk (by omega) (by omega);have h1:=Iu (ht.sound _ hm);exact⟨h1.2.1,h1.2.2,h1.1,λ c hc=>⟨ht.pos _ hm c hc,(XM (ht.sound _ hm)).2.1 c hc⟩⟩
theorem Rn.snoc {A:Nat->Ac->Prop} {h h1 h':Hf} {w:List Int} {c:Int} {x p:List UInt8} (H:Rn A h w x h1) (s:Sp A h1 c p h'):Rn A h (w++[c]) (x++p) h':=H.app (Rn.one s)
def WfP (t:Ad) (p:F8):Prop:=p.Rule=-1\/∃ k a:Nat,p.Rule=(k:Int)/\k<t.Rules.length/\p.At=(a:Int)/\1<=a/\a<(cls t k).length
def Wb (t:Ad) (p:F8):List Int:=if p.Rule<0 then []else(cls t p.Rule.toNat).drop p.At.toNat
theorem WfP.rest {t:Ad} {p:F8} (h:WfP t p):Wb t p=[]↔p.Rule<0:=by
 unfold Wb;rcases h with h|⟨k,a,h1,h2,h3,h4,h5⟩
 ·rw[if_pos (by omega)];simp;omega
 ·rw[if_neg (by omega),h1,h3];simp only[Ji7];constructor
  ·intro h;have:=congrArg List.length h;simp at this;omega
  ·intro h;omega
end Go.AI
end
section
namespace Go.AI
def JfW (t:Ad) (c:Int) (p:F8) (out:List F8):Prop:=∀ i,(AH t)[i]?=some p.S->∀ q h',Sp (At5 t) (i,Wb t p) c q h'->∃ y∈out,(AH t)[h'.1]?=some y.S/\y.Text=p.Text++q/\Wb t y=h'.2
theorem JfW.mono {t:Ad} {c:Int} {p:F8} {out out':List F8} (h:JfW t c p out) (hs:∀ y∈out,y∈out'):JfW t c p out':=λ i hi q h' hs'=>by
 obtain⟨y,h1,h2⟩:=h i hi q h' hs';exact⟨y,hs y h1,h2⟩
end Go.AI
end
section
namespace Go.AI
theorem FR {α:Type}:∀ {l m:List α},l.Nodup->(∀ x∈l,x∈m)->l.length<=m.length
 | [],_,_,_=>Nat.zero_le _
 | a::l,m,h,hs=>by
  rw[List.nodup_cons]at h;obtain⟨u,v,rfl⟩:=List.append_of_mem (hs a (by simp));have:=FR (m:=u++v) h.2 λ x hx=>by
   have h1:=hs x (by simp[hx]);simp only[List.mem_append,List.mem_cons]at h1⊢;rcases h1 with h1|h1|h1
   ·exact .inl h1
   ·subst h1;exact absurd hx h.1
   ·exact .inr h1
  simp at *;omega
def klr (r s:Af):Prop:=r.Cost<s.Cost\/(r.Cost=s.Cost/\ltB r.Text s.Text)
def le2 (r s:Af):Prop:=r.Cost<s.Cost\/(r.Cost=s.Cost/\¬ltB s.Cells r.Cells)
theorem CB (r:Af):¬klr r r:=by
 rintro (h|⟨_,h⟩)
 ·omega
 ·exact Dw _ h
theorem FS {r s u:Af} (h:klr r s) (h':klr s u):klr r u:=by
 rcases h with h|⟨h,h1⟩<;>rcases h' with h'|⟨h',h1'⟩
 ·exact .inl (by omega)
 ·exact .inl (by omega)
 ·exact .inl (by omega)
 ·exact .inr ⟨by omega,JQ h1 h1'⟩
theorem HN {r s:Af} (h:klr r s):¬klr s r:=λ h'=>CB r (FS h h')
theorem FT (r s:Af):klr r s\/klr s r\/(r.Cost=s.Cost/\r.Text=s.Text):=by
 rcases Int.lt_trichotomy r.Cost s.Cost with h|h|h
 ·exact .inl (.inl h)
 ·rcases JR r.Text s.Text with h1|h1|h1
  ·exact .inr (.inr ⟨h,h1⟩)
  ·exact .inl (.inr ⟨h,h1⟩)
  ·exact .inr (.inl (.inr ⟨h.symm,h1⟩))
 ·exact .inr (.inl (.inl h))
theorem Po {r s u:Af} (h:¬klr r s) (h':¬klr s u):¬klr r u:=by
 intro hk;rcases FT r s with h1|h1|⟨h1,h2⟩
 ·exact h h1
 ·exact h' (FS h1 hk)
 ·apply h';rcases hk with hk|⟨hk,hk2⟩
  ·exact .inl (by omega)
  ·exact .inr ⟨by omega,by rw[← h2];exact hk2⟩
theorem TN (r:Af):le2 r r:=.inr ⟨rfl,Dw _⟩
theorem QC {r s u:Af} (h:le2 r s) (h':le2 s u):le2 r u:=by
 rcases h with h|⟨h,h1⟩<;>rcases h' with h'|⟨h',h1'⟩
 ·exact .inl (by omega)
 ·exact .inl (by omega)
 ·exact .inl (by omega)
 ·refine .inr ⟨by omega,λ hl=>?_⟩;rcases JR s.Cells r.Cells with e|e|e
  ·rw[e]at h1';exact h1' hl
  ·exact h1 e
  ·exact h1' (JQ hl e)
theorem Pp {r s:Af} (h:le2 r s) (h':le2 s r) (ht:r.Text=s.Text):r=s:=by
 rcases h with h|⟨h,h1⟩<;>rcases h' with h'|⟨h',h1'⟩
 ·omega
 ·omega
 ·omega
 ·have:r.Cells=s.Cells:=by
   rcases JR r.Cells s.Cells with e|e|e
   ·exact e
   ·exact absurd e h1'
   ·exact absurd e h1
  cases r;cases s;simp only at *;subst h;subst ht;subst this;rfl
structure Bst (T:Af->Prop) (B:Int) (M:Nat) (l:List Af):Prop where
 snd:∀ r∈l,T r/\r.Cost<=B
 srt:l.Pairwise klr
 dst:∀ r∈l,∀ s∈l,r.Text=s.Text->r=s
 cov:∀ r,T r->r.Cost<=B->(∃ s∈l,s.Text=r.Text/\le2 s r)\/(l.length=M/\∀ s∈l,klr s r)
 len:l.length<=M
theorem Bst.mem {T:Af->Prop} {B:Int} {M M':Nat} {l l':List Af} (h:Bst T B M l) (h':Bst T B M' l') {r:Af} (hr:r∈l):r∈l'\/(l'.length=M'/\∀ s∈l',klr s r):=by
 obtain⟨h1,h2⟩:=h.snd r hr;rcases h'.cov r h1 h2 with⟨s,hs,ht,hle⟩|h3
 ·left;obtain⟨h3,h4⟩:=h'.snd s hs;rcases h.cov s h3 h4 with⟨u,hu,hut,hule⟩|⟨_,h5⟩
  ·have e:=h.dst u hu r hr (hut.trans ht);subst e;rw[Pp hule hle ht.symm];exact hs
  ·rcases h5 r hr with h6|⟨h6,h7⟩
   ·rcases hle with hle|⟨hle,_⟩<;>omega
   ·rw[ht]at h7;exact absurd h7 (Dw _)
 ·exact .inr h3
theorem Vl {α:Type} {R:α->α->Prop} (hi:∀ a,¬R a a) (ha:∀ a b,R a b->¬R b a):∀ {l l':List α},l.Pairwise R->l'.Pairwise R->(∀ r∈l,r∈l')->(∀ r∈l',r∈l\/∀ s∈l,R s r)->∃ u,l'=l++u
 | [],l',_,_,_,_=>⟨l',rfl⟩
 | a::l,[],_,_,h,_=>by have:=h a (by simp);simp at this
 | a::l,b::l',p1,p2,h1,h2=>by
  rw[List.pairwise_cons]at p1 p2;have e:a=b:=by
   rcases List.mem_cons.1 (h1 a (by simp))with e|hm
   ·exact e
   ·have hba:=p2.1 a hm;rcases h2 b (by simp)with hb|hb
    ·rcases List.mem_cons.1 hb with e|hb
     ·exact e.symm
     ·exact absurd (p1.1 b hb) (ha _ _ hba)
    ·exact absurd (hb a (by simp)) (ha _ _ hba)
  subst e;obtain⟨u,rfl⟩:=Vl hi ha p1.2 p2.2 (λ r hr=>by
   rcases List.mem_cons.1 (h1 r (by simp[hr]))with e|hm
   ·subst e;exact absurd (p1.1 _ hr) (hi _)
   ·exact hm) λ r hr=>by
   rcases h2 r (by simp[hr])with hm|hm
   ·rcases List.mem_cons.1 hm with e|hm
    ·subst e;exact absurd (p2.1 _ hr) (hi _)
    ·exact .inl hm
   ·exact .inr λ s hs=>hm s (by simp[hs])
  exact⟨u,rfl⟩
theorem Bst.nodup {T:Af->Prop} {B:Int} {M:Nat} {l:List Af} (h:Bst T B M l):l.Nodup:=h.srt.imp λ hk e=>by subst e;exact CB _ hk
theorem Bst.take {T:Af->Prop} {B:Int} {M M':Nat} {l l':List Af} (h:Bst T B M l) (h':Bst T B M' l') (hM:M<=M'):l=l'.take M:=by
 by_cases hall:∀ r∈l,r∈l'
 ·obtain⟨u,hu⟩:=Vl CB (λ _ _=>HN) h.srt h'.srt hall λ r hr=>by
   rcases h'.mem h hr with h1|⟨_,h1⟩
   ·exact .inl h1
   ·exact .inr h1
  cases u with
  | nil=>rw[List.append_nil]at hu;subst hu;exact(List.take_of_length_le h.len).symm
  | cons x u=>
   have hx:x∈l':=by rw[hu];simp
   have hxl:x ∉ l:=λ hx'=>by
    have:=h'.srt;rw[hu,List.pairwise_append]at this;exact CB x (this.2.2 x hx' x (by simp))
   rcases h'.mem h hx with h1|⟨h1,_⟩
   ·exact absurd h1 hxl
   ·rw[hu,← h1,List.take_left'];rfl
 ·exfalso;obtain⟨r,hr⟩:=Classical.not_forall.1 hall;obtain⟨hr,hr'⟩:=Classical.not_imp.1 hr;rcases h.mem h' hr with h1|⟨h1,h2⟩
  ·exact hr' h1
  ·have hsub:∀ s∈r::l',s∈l:=λ s hs=>by
    rcases List.mem_cons.1 hs with rfl|hs
    ·exact hr
    ·rcases h'.mem h hs with h3|⟨_,h3⟩
     ·exact h3
     ·exact absurd (h3 r hr) (HN (h2 s hs))
   have hnd:(r::l').Nodup:=List.nodup_cons.2 ⟨hr',h'.nodup⟩;have:=FR hnd hsub;have:=h.len;simp at *;omega
theorem Bst.has {T:Af->Prop} {B:Int} {M:Nat} {l:List Af} (h:Bst T B M l) (hl:l.length<M) {r:Af} (hr:T r) (hb:r.Cost<=B):∃ s∈l,s.Text=r.Text/\le2 s r:=by
 rcases h.cov r hr hb with h1|⟨h1,_⟩
 ·exact h1
 ·omega
theorem Bst.congr {T T':Af->Prop} {B:Int} {M:Nat} {l:List Af} (h:Bst T B M l) (e:∀ r,r.Cost<=B->(T r↔T' r)):Bst T' B M l:=
 ⟨λ r hr=>⟨(e r (h.snd r hr).2).1 (h.snd r hr).1,(h.snd r hr).2⟩,h.srt,h.dst,λ r hr hb=>h.cov r ((e r hb).2 hr) hb,h.len⟩
theorem Bst.grow {T:Af->Prop} {B B':Int} {M:Nat} {l l':List Af} (h:Bst T B M l) (h':Bst T B' M l') (hB:B<=B'):(l'.length<M->l.length<M/\∃ u,l'=l++u):=by
 intro hl';have hll:∀ r∈l,∃ s∈l',s.Text=r.Text/\le2 s r:=λ r hr=>h'.has hl' (h.snd r hr).1 (by have:=(h.snd r hr).2;omega);have hinj:l.length<=l'.length:=by
  have hnd:(l.map (·.Text)).Nodup:=by
   rw[List.Nodup,List.pairwise_map];exact(List.pairwise_iff_forall_sublist.2 λ {a b} hs=>by
    have hab:=List.pairwise_iff_forall_sublist.1 h.srt hs;intro e;have ha:a∈l:=hs.subset (by simp);have hb:b∈l:=hs.subset (by simp);have:=h.dst a ha b hb e;subst this;exact CB _ hab)
  have hsub:∀ x∈l.map (·.Text),x∈l'.map (·.Text):=λ x hx=>by
   obtain⟨r,hr,rfl⟩:=JiQ.1 hx;obtain⟨s,hs,ht,_⟩:=hll r hr;exact JiQ.2 ⟨s,hs,ht⟩
  have:=FR hnd hsub;simpa using this
 have hlt:l.length<M:=by omega
 refine⟨hlt,Vl CB (λ _ _=>HN) h.srt h'.srt (λ r hr=>?_) λ r hr=>?_⟩
 ·obtain⟨s,hs,ht,hle⟩:=hll r hr;have hsB:s.Cost<=B:=by have:=(h.snd r hr).2;rcases hle with hle|⟨hle,_⟩<;>omega
  obtain⟨u,hu,hut,hule⟩:=h.has hlt (h'.snd s hs).1 hsB;have e:=h.dst u hu r hr (hut.trans ht);subst e;rw[Pp hule hle ht.symm];exact hs
 ·by_cases hrB:r.Cost<=B
  ·left;obtain⟨s,hs,ht,hle⟩:=h.has hlt (h'.snd r hr).1 hrB;obtain⟨u,hu,hut,hule⟩:=hll s hs;have e:=h'.dst u hu r hr (hut.trans ht);subst e;rw[Pp hule hle ht.symm];exact hs
  ·exact .inr λ s hs=>.inl (by have:=(h.snd s hs).2;omega)
end Go.AI
end
section
namespace Go.AI
open Go.Lib
theorem TO:∀ (a b:List UInt8),compareBytes a b<0↔ltB a b
 | [],[]=>by simp[compareBytes,ltB,Op.bytesLess]
 | [],_::_=>by simp[compareBytes,ltB,Op.bytesLess]
 | _::_,[]=>by simp[compareBytes,ltB,Op.bytesLess]
 | a::x,b::y=>by
  rw[HM,compareBytes];split
  ·rename_i h;simp[h]
  ·rename_i h;split
   ·rename_i h2;have:a≠b:=λ e=>by subst e;exact h h2
    simp[h,this]
   ·rename_i h2;have e:a=b:=by
     rw[← UInt8.toNat_inj];rw[UInt8.lt_iff_toNat_lt]at h h2;omega
    subst e;rw[TO x y];simp
theorem QE:∀ (a b:List UInt8),compareBytes a b=0↔a=b
 | [],[]=>by simp[compareBytes]
 | [],_::_=>by simp[compareBytes]
 | _::_,[]=>by simp[compareBytes]
 | a::x,b::y=>by
  rw[compareBytes];split
  ·rename_i h;have:a≠b:=λ e=>by subst e;rw[UInt8.lt_iff_toNat_lt]at h;omega
   simp[this]
  ·rename_i h;split
   ·rename_i h2;have:a≠b:=λ e=>by subst e;exact h h2
    simp[this]
   ·rename_i h2;have e:a=b:=by
     rw[← UInt8.toNat_inj];rw[UInt8.lt_iff_toNat_lt]at h h2;omega
    subst e;rw[QE x y];simp
def TP (r s:Af):Int:=if r.Cost<s.Cost then -1 else if s.Cost<r.Cost then 1 else compareBytes r.Text s.Text
theorem Pq (r s:Af):TP r s<0↔klr r s:=by
 unfold TP klr;split
 ·rename_i h;simp[h]
 ·rename_i h;split
  ·rename_i h2;simp[h];omega
  ·rename_i h2;rw[TO];constructor
   ·intro h3;exact .inr ⟨by omega,h3⟩
   ·rintro (h3|⟨_,h3⟩)
    ·omega
    ·exact h3
theorem QF (r s:Af):TP r s=0↔r.Cost=s.Cost/\r.Text=s.Text:=by
 unfold TP;split
 ·rename_i h;simp;omega
 ·rename_i h;split
  ·rename_i h2;simp;omega
  ·rename_i h2;rw[QE];constructor
   ·intro h3;exact⟨by omega,h3⟩
   ·exact λ h3=>h3.2
theorem JfX (n:Nat) (a b:Int):GN (n+3) [a,b]=some (if a=0 then b else a):=by
 have h2:¬(A0 .i64 1 1<2):=by decide
 have h3:A0 .i64 0 1=1:=by decide
 unfold GN;simp only[whl,Ga];by_cases ha:a=0
 ·subst ha;by_cases hb:b=0
  ·subst hb;simp[idx,h3,h2]
  ·simp[idx,h3,hb]
 ·simp[idx,ha]
theorem NE (n:Nat) (r s:Af):AQ (n+3) r s=some (TP r s):=by
 have hc:Dy (n+3) r.Cost s.Cost=some (if r.Cost<s.Cost then -1 else if s.Cost<r.Cost then 1 else 0):=by
  unfold Dy Ew;simp only[JiE,bne_self_eq_false,Jja,if_false,decide_eq_true_eq];split
  ·rfl
  ·split<;>simp[*]
 unfold AQ Jc;rw[hc,JiE,JiE,JfX,JiE];unfold TP;split
 ·rfl
 ·split
  ·rfl
  ·rfl
theorem Gq (n:Nat) (r s:Af):ltC (λ x y=>AQ (n+3) x y) r s=true↔klr r s:=by
 show decide ((AQ (n+3) r s).getD 0<0)=true↔_;rw[NE,JiJ,decide_eq_true_eq,Pq]
theorem EZ (n:Nat) (r s:Af):ltC (λ x y=>AQ (n+3) x y) r s=false↔¬klr r s:=by
 rw[← Gq n,JiM]
theorem Pr (n:Nat):VV (λ x y=>AQ (n+3) x y):={
 tot x y:=by rw[NE];rfl
 irrefl x:=(EZ n x x).2 (CB x)
 trans x y z h1 h2:=(Gq n x z).2 (FS ((Gq n x y).1 h1) ((Gq n y z).1 h2))
 ntrans x y z h1 h2:=(EZ n x z).2 (Po ((EZ n x y).1 h1) ((EZ n y z).1 h2)) }
theorem TQ {m:List Af} (hd:∀ r∈m,∀ s∈m,r.Text=s.Text->r=s) (hl:m.length<4611686018427387904):∃ z:List Af,z.Perm m/\z.Pairwise (λ a b=>¬klr b a)/\∀ n,Jd (n+3) m=some z:=by
 have h1:∀ n,VW (λ x y=>AQ (n+3) x y) m:=λ n x hx y hy h1 h2=>by
  rw[EZ]at h1 h2;rcases FT x y with h|h|⟨_,h⟩
  ·exact absurd h h1
  ·exact absurd h h2
  ·exact hd x hx y hy h
 have e:∀ n,ltC (λ x y=>AQ (n+3) x y)=ltC (λ x y=>AQ (0+3) x y):=λ n=>by
  funext x y;rw[Bool.eq_iff_iff,Gq,Gq]
 refine⟨Kz (ltC (λ x y=>AQ (0+3) x y)) m,GJ m,?_,λ n=>?_⟩
 ·refine(G3 (λ x y z h1 h2=>(Pr 0).ntrans x y z h1 h2) (λ x y h=>?_) m).imp λ h=>(EZ 0 _ _).1 h;rw[Gq]at h;exact(EZ 0 y x).2 (HN h)
 ·unfold Jd;rw[Zu (Pr n) (h1 n) hl,e n]
end Go.AI
end
section
namespace Go.AI
theorem JhE (hs:List Ah) (hl:hs.length<1000000000):Tot (λ n=>Lp n hs) (λ r=>(r=-1/\∀ h∈hs,h.List≠[])\/∃ i:Nat,r=(i:Int)/\i<hs.length/\(∀ h∈hs.take i,h.List≠[])/\∃ h,hs[i]?=some h/\h.List=[]):=by
 unfold Lp;refine Tot.bind (R:=λ y=>(y=.inl ()/\∀ h∈hs,h.List≠[])\/∃ i:Nat,y=.inr (i:Int)/\i<hs.length/\(∀ h∈hs.take i,h.List≠[])/\∃ h,hs[i]?=some h/\h.List=[]) ?_ ?_
 ·refine Tot.upto (body:=λ n x=>Fl n hs x) hs.length (λ i x=>x=(i:Int)/\∀ h∈hs.take i,h.List≠[]) ?_ ?_ _ ⟨rfl,by simp⟩
  ·rintro i x hi ⟨rfl,hx⟩;unfold Fl;refine Tot.iteT (Hc hi) (Tot.bindC (Cg hi) (Jiz (λ n=>rfl) (Tot.ite (λ h=>?_) λ h=>?_)))
   ·have he:hs[i].List=[]:=by simpa using h
    exact Jix (.inr ⟨i,rfl,hi,hx,hs[i],JiY hi,he⟩)
   ·refine Jix ⟨DW (by omega),λ g hg=>?_⟩;rw[List.take_add_one,JiY hi]at hg;rcases List.mem_append.1 hg with hg|hg
    ·exact hx g hg
    ·have e:g=hs[i]:=by simpa using hg
     subst e;intro e;rw[e]at h;simp at h
  ·rintro x ⟨rfl,hx⟩;unfold Fl;exact Tot.iteF (Kq _) (Jix (.inl ⟨rfl,by simpa using hx⟩))
 ·rintro y (⟨rfl,h⟩|⟨i,rfl,h⟩)
  ·exact Jix (.inl ⟨rfl,h⟩)
  ·exact Jix (.inr ⟨i,rfl,h⟩)
def neH (h:Ah):Bool:=!h.List.isEmpty
theorem JfY (hs:List Ah) (hl:hs.length<1000000000):Tot (λ n=>JL n hs) (λ r=>r=hs.filter neH):=by
 have hall:∀ l:List Ah,(∀ h∈l,h.List≠[])->l.filter neH=l:=λ l h=>List.filter_eq_self.2 λ a ha=>by
  have:=h a ha;unfold neH;cases e:a.List with
  | nil=>exact absurd e this
  | cons=>rfl
 unfold JL;refine Tot.bind (JhE hs hl) ?_;rintro r (⟨rfl,h⟩|⟨i,rfl,hi,hp,g,hg,hge⟩)
 ·exact Tot.iteT rfl (Jix (hall hs h).symm)
 refine Tot.iteF (by first|(simp;done)|(simp;omega)) ?_
 rw[DW (by omega)];refine Tot.bind (R:=λ y=>∃ k:Nat,y.2=(k:Int)/\k<=y.1.length/\y.1.length=hs.length/\y.1.take k=hs.filter neH) ?_ ?_
 ·refine Tot.whl (body:=λ n (x:List Ah×Int×Int)=>FK n x.1 x.2.1 x.2.2) (λ m x=>∃ j k:Nat,x.2.1=(k:Int)/\x.2.2=(j:Int)/\m=hs.length-j/\k<j/\j<=hs.length/\x.1.length=hs.length/\x.1.take k=(hs.take j).filter neH/\x.1.drop j=hs.drop j) ?_ (hs.length-(i+1)) _ ⟨i+1,i,rfl,rfl,rfl,by omega,by omega,rfl,?_,rfl⟩
  ·rintro m ⟨s,_,_⟩ ⟨j,k,rfl,rfl,rfl,hkj,hj,hsl,ht,hd⟩;simp only at *;unfold FK;rcases JiO j hs.length with hlt|hge
   ·have hjs:j<s.length:=by omega
    have hsj:s[j]=hs[j]:=by
     have h1:(s.drop j)[0]?=(hs.drop j)[0]? := by rw[hd]
     rw[JiR,JiR,Nat.add_zero,JiY hjs,JiY hlt]at h1;exact Option.some.inj h1
    have hdd:s.drop (j+1)=hs.drop (j+1):=by
     have:=congrArg (List.drop 1) hd;simpa [List.drop_drop]using this
    refine Tot.iteT (by rw[hsl];exact Hc hlt) (Tot.bindC (Cg hjs) (Jiz (λ n=>rfl) (Tot.ite (λ h=>?_) λ h=>?_)))
    ·have hne:neH hs[j]=true:=by
      rw[hsj]at h;unfold neH;cases e:hs[j].List with
      | nil=>rw[e]at h;simp at h
      | cons=>rfl
     refine Tot.bindC (Cg (by omega:k<s.length)) (Tot.bindC (R2 (by omega)) (Jix ⟨hs.length-(j+1),by omega,j+1,k+1,DW (by omega),DW (by omega),rfl,by omega,by omega,by simpa using hsl,?_,?_⟩))
     ·rw[List.take_add_one (l:=hs),JiY hlt,List.filter_append,← ht,List.take_add_one,Ji9 (by omega),List.take_set_of_le (JiN _),hsj];simp[hne]
     ·rw[List.drop_set_of_lt (by omega)];exact hdd
    ·have hne:neH hs[j]=false:=by
      rw[hsj]at h;unfold neH;cases e:hs[j].List with
      | nil=>rfl
      | cons=>rw[e]at h;simp at h;omega
     refine Jix ⟨hs.length-(j+1),by omega,j+1,k,rfl,DW (by omega),rfl,by omega,by omega,hsl,?_,hdd⟩;rw[List.take_add_one (l:=hs),JiY hlt,List.filter_append,← ht];simp[hne]
   ·have:j=hs.length:=by omega
    subst this;refine Tot.iteF (by rw[hsl];exact Kq _) (Jix ⟨k,rfl,(show k<=s.length by omega),hsl,?_⟩);simpa using ht
  ·rw[List.take_add_one,hg,List.filter_append,hall _ hp];have:neH g=false:=by unfold neH;rw[hge];rfl
   simp[this]
 ·rintro⟨s,_⟩ ⟨k,rfl,hk,hsl,ht⟩;simp only at *;refine Tot.bindC (V0 (by omega) (by omega) (by omega)) ?_;have hclr:UR s (0+Int.toNat (k:Int)) (Int.toNat ((s.length:Nat):Int)-Int.toNat (k:Int)) (⟨⟨[],[],0⟩,0,[],⟨0,[],[]⟩⟩:Ah)=some (s.take k++List.replicate (s.length-k) ⟨⟨[],[],0⟩,0,[],⟨0,[],[]⟩⟩):=by
   unfold UR spl;rw[if_pos (by simp;omega)];congr 1;simp;omega
  refine Tot.bindC hclr (Tot.bindC (V0 (Int.le_refl 0) (by omega) (by simp;omega)) (Jix ?_));rw[← ht];simp only[Ji7,Int.toNat_zero,List.drop_zero];exact List.take_left' (by simp;omega)
theorem JcD (hs:List Ah) (h0:hs≠[]) (hl:hs.length<1000000000):Tot (λ n=>Ie n hs) (λ m=>m∈hs/\∀ h∈hs,¬klr h.First m.First):=by
 have hpos:0<hs.length:=List.length_pos_iff.2 h0;unfold Ie;refine Tot.iteF (by simp;omega) (Tot.bindC (Cg (i:=0) hpos) (Tot.bind (R:=λ m=>m∈hs/\∀ h∈hs,¬klr h.First m.First) ?_ λ m hm=>Jix hm));refine Tot.whl (body:=λ n (x:Ah×Int)=>E8 n hs x.1 x.2) (λ k x=>∃ i:Nat,x.2=(i:Int)/\k=hs.length-i/\i<=hs.length/\x.1∈hs/\∀ h∈hs.take i,¬klr h.First x.1.First) ?_ (hs.length-1) _ ⟨1,rfl,rfl,by omega,JiK hpos,?_⟩
 ·rintro k ⟨m,_⟩ ⟨i,rfl,rfl,hi,hm,hx⟩;simp only at *;unfold E8;rcases JiO i hs.length with hlt|hge
  ·refine Tot.iteT (Hc hlt) (Tot.bindC (Cg hlt) ?_);have hcmp:Ev (λ n=>Ey n hs[i] m) (TP hs[i].First m.First):=⟨3,λ n hn=>by
    obtain⟨q,rfl⟩:∃ q,n=q+3:=⟨n-3,by omega⟩;show(AQ (q+3) _ _).bind _=_;rw[NE];rfl⟩
   have nx:∀ m',m'∈hs->(∀ h∈hs.take i,¬klr h.First m'.First)->¬klr hs[i].First m'.First->Tot (λ n=>E7 n (i:Int) m') (Rd2 (λ y=>∃ j,j<hs.length-i/\∃ i:Nat,y.2=(i:Int)/\j=hs.length-i/\i<=hs.length/\y.1∈hs/\∀ h∈hs.take i,¬klr h.First y.1.First) (λ m=>m∈hs/\∀ h∈hs,¬klr h.First m.First)):=λ m' h1 h2 h3=>by
    refine Jix ⟨hs.length-(i+1),by omega,i+1,DW (by omega),rfl,by omega,h1,λ g hg=>?_⟩;rw[List.take_add_one,JiY hlt]at hg;rcases List.mem_append.1 hg with hg|hg
    ·exact h2 g hg
    ·have e:g=hs[i]:=by simpa using hg
     subst e;exact h3
   refine Jiy hcmp (Tot.ite (λ h=>?_) λ h=>?_)
   ·have hk:klr hs[i].First m.First:=(Pq _ _).1 (by simpa using h);refine Tot.bindC (Cg hlt) (nx _ (JiK hlt) (λ g hg hgk=>hx g hg (FS hgk hk)) (CB _))
   ·exact nx _ hm hx λ hk=>by have:=(Pq _ _).2 hk;simp at h;omega
  ·have:i=hs.length:=by omega
   subst this;exact Tot.iteF (Kq _) (Jix ⟨hm,by simpa using hx⟩)
 ·intro h hh;rw[List.take_one]at hh;cases hs with
  | nil=>exact absurd rfl h0
  | cons a r=>simp at hh;subst hh;exact CB _
theorem JcE (hs:List Ah) (m:Ah) (hm:m∈hs) (hl:hs.length<1000000000):Tot (λ n=>GO n m hs) (λ r=>∃ (i:Nat) (h:Ah),r=(i:Int)/\hs[i]?=some h/\h.First.Cost=m.First.Cost/\h.First.Text=m.First.Text):=by
 unfold GO;refine Tot.bind (R:=λ y=>∃ (i:Nat) (h:Ah),y=.inr (i:Int)/\hs[i]?=some h/\h.First.Cost=m.First.Cost/\h.First.Text=m.First.Text) ?_ ?_
 ·refine Tot.upto (body:=λ n x=>Ez n m hs x) hs.length (λ i x=>x=(i:Int)/\∀ h∈hs.take i,¬(h.First.Cost=m.First.Cost/\h.First.Text=m.First.Text)) ?_ ?_ _ ⟨rfl,by simp⟩
  ·rintro i x hi ⟨rfl,hx⟩;unfold Ez;have hcmp:Ev (λ n=>D5 n hs[i] m) (TP hs[i].First m.First==0):=⟨3,λ n hn=>by
    obtain⟨q,rfl⟩:∃ q,n=q+3:=⟨n-3,by omega⟩;show((AQ (q+3) _ _).bind _).bind _=_;rw[NE];rfl⟩
   refine Tot.iteT (Hc hi) (Tot.bindC (Cg hi) (Jiy hcmp (Tot.ite (λ h=>?_) λ h=>?_)))
   ·exact Jix ⟨i,hs[i],rfl,JiY hi,(QF _ _).1 (by simpa using h)⟩
   ·refine Jix ⟨DW (by omega),λ g hg=>?_⟩;rw[List.take_add_one,JiY hi]at hg;rcases List.mem_append.1 hg with hg|hg
    ·exact hx g hg
    ·have e:g=hs[i]:=by simpa using hg
     subst e;intro hc;have:=(QF _ _).2 hc;rw[this]at h;simp at h
  ·rintro x ⟨rfl,hx⟩;exact absurd ⟨rfl,rfl⟩ (hx m (by simpa using hm))
 ·rintro y ⟨i,h,rfl,h1⟩;exact Jix ⟨i,h,rfl,h1⟩
def mpR (h:Ah) (r:Af):Af:=⟨h.More+r.Cost,h.Arc.Print++r.Text,h.Arc.Cells++r.Cells⟩
def ldH (h:Ah):Ah:=match h.List with
 | []=>h
 | r::_=>{ h with First:=⟨h.More+r.Cost,h.Arc.Print++r.Text,[]⟩ }
structure SmR (r:Af):Prop where
 c0:0<=r.Cost
 c1:r.Cost<=1000000
 tx:r.Text.length<=1000000
 cl:r.Cells.length<=1000000
structure SmH (h:Ah):Prop where
 m0:0<=h.More
 m1:h.More<=1000000
 pr:h.Arc.Print.length<=1000000
 cl:h.Arc.Cells.length<=1000000
 rs:∀ r∈h.List,SmR r
theorem Wc {hs:List Ah} {i:Nat} {h:Ah} (hi:hs[i]?=some h) (hs1:SmH h) (hne:h.List≠[]) (n:Nat):DO n (i:Int) hs=some (hs.set i (ldH h)):=by
 unfold DO;have e:=C3 hi;have hlt:=Az hi;cases hL:h.List with
 | nil=>exact absurd hL hne
 | cons r l=>
  have hr:SmR r:=hs1.rs r (by rw[hL];simp);have e0:idx h.List 0=some r:=by rw[hL];rfl
  have e1:A0 .i64 h.More r.Cost=h.More+r.Cost:=Lz (by have:=hs1.m0;have:=hr.c0;omega) (by have:=hs1.m1;have:=hr.c1;omega);simp only[e,JiE,e0,Vf (show h.Arc.Print.length+r.Text.length<=9223372036854775807 by have:=hs1.pr;have:=hr.tx;omega),e1,R2 hlt];unfold ldH;rw[hL]
end Go.AI
end
section
namespace Go.AI
def gam (h:Ah):List Af:=h.List.map (mpR h)
def Ld8 (h:Ah):Prop:=∃ r l,h.List=r::l/\h.First=⟨h.More+r.Cost,h.Arc.Print++r.Text,[]⟩
theorem Ja3 {h:Ah} (hne:h.List≠[]):Ld8 (ldH h):=by
 unfold Ld8 ldH;split
 ·rename_i e;exact absurd e hne
 ·rename_i r l e;exact⟨r,l,e,rfl⟩
theorem Ps (h:Ah):(ldH h).List=h.List:=by unfold ldH;split<;>rfl
theorem R7 (h:Ah):(ldH h).Arc=h.Arc:=by unfold ldH;split<;>rfl
theorem Pt (h:Ah):(ldH h).More=h.More:=by unfold ldH;split<;>rfl
theorem JS (h:Ah):gam (ldH h)=gam h:=by
 unfold gam;rw[Ps];exact JiW λ r _=>by unfold mpR;rw[R7,Pt]
theorem Ja4 {h:Ah} (hs:SmH h):SmH (ldH h):=⟨by rw[Pt];exact hs.m0,by rw[Pt];exact hs.m1,by rw[R7];exact hs.pr,by rw[R7];exact hs.cl,by rw[Ps];exact hs.rs⟩
theorem Ja5 {α:Type} {l:List α} {i:Nat} {x:α} (h:l[i]?=some x):∃ u v,l=u++x::v/\u.length=i:=by
 have hl:=Az h;refine⟨l.take i,l.drop (i+1),?_,by simp;omega⟩;have e:l[i]=x:=by rw[JiY hl]at h;exact Option.some.inj h
 rw[← e,← List.drop_eq_getElem_cons hl,List.take_append_drop]
theorem NF {α:Type} (u v:List α) (x y:α):(u++x::v).set u.length y=u++y::v:=by simp
def mes (hs:List Ah):Nat:=(hs.map λ h=>h.List.length).sum
theorem Ja6 {hs:List Ah} (h1:∀ h∈hs,SmH h/\h.List≠[]) (hl:hs.length<1000000000) (p:Int) (s:Aa):Tot (λ n=>whl (λ (x:List Ah×Int)=>BT n p s hs x.1 x.2) n (hs,0)) (λ r=>r=hs.map ldH):=by
 refine Tot.upto (body:=λ n (x:List Ah×Int)=>BT n p s hs x.1 x.2) hs.length (λ i x=>x.2=(i:Int)/\x.1=(hs.take i).map ldH++hs.drop i) ?_ ?_ _ ⟨rfl,by simp⟩
 ·rintro i ⟨x,_⟩ hi ⟨rfl,hx⟩;simp only at hx;subst hx;unfold BT;have e:((hs.take i).map ldH++hs.drop i)=(hs.take i).map ldH++hs[i]::hs.drop (i+1):=by rw[List.drop_eq_getElem_cons hi]
  have hlen:((hs.take i).map ldH).length=i:=by simp;omega
  have hat:((hs.take i).map ldH++hs.drop i)[i]?=some hs[i]:=by
   rw[e,Jjg (by omega),hlen];simp
  obtain⟨g1,g2⟩:=h1 _ (JiK hi);have e2:((hs.take i).map ldH++hs.drop i).set i (ldH hs[i])=(hs.take (i+1)).map ldH++hs.drop (i+1):=by
   rw[e];have:=NF ((hs.take i).map ldH) (hs.drop (i+1)) hs[i] (ldH hs[i]);rw[hlen]at this;rw[this,List.take_add_one,JiY hi];simp only[Option.toList_some,List.map_append,JiU,List.map_nil,List.append_assoc,List.singleton_append]
  refine Tot.iteT (Hc hi) (Tot.bindC (C3 hat) (Jiz (λ n=>Wc hat g1 g2 n) (Tot.bindC (Ct (by simp)) (Jix ⟨DW (by omega),e2⟩))))
 ·rintro⟨x,_⟩ ⟨rfl,hx⟩;unfold BT;refine Tot.iteF (Kq _) (Jix ?_);simp only at hx;subst hx;show _=_;simp
theorem JcF {hs:List Ah} {u v:List Ah} {h:Ah} {r:Af} {l:List Af} (he:hs=u++h::v) (hL:h.List=r::l) (hsm:SmH h) (hl:hs.length<1000000000) (f:List (List UInt8×Af)) :
  Tot (λ n=>BU n hs (u.length:Int) f) (Rd2 (λ y=>y.2=f/\((l≠[]/\y.1=u++ldH { h with List:=l }::v)\/(l=[]/\y.1=u++v))) (λ _=>False)):=by
 subst he;unfold BU;have hat:(u++h::v)[u.length]?=some h:=by simp
 have hsub:sub h.List 1 ((h.List.length:Nat):Int)=some l:=by rw[hL,V0 (by omega) (by simp;omega) (by omega)];simp
 have hll:u.length<(u++h::v).length:=by simp
 refine Tot.bindC (C3 hat) (Tot.bindC hsub (Tot.bindC (C3 hat) (Tot.bindC (R2 hll) ?_)));rw[NF];have hat2:(u++{ Arc:=h.Arc,More:=h.More,List:=l,First:=h.First }::v:List Ah)[u.length]?=some { Arc:=h.Arc,More:=h.More,List:=l,First:=h.First }:=by simp
 refine Tot.bindC (C3 hat2) (Tot.ite (λ hc=>?_) λ hc=>?_)
 ·have hne:l≠[]:=λ e=>by subst e;simp at hc
  have hsm2:SmH { Arc:=h.Arc,More:=h.More,List:=l,First:=h.First }:=⟨hsm.m0,hsm.m1,hsm.pr,hsm.cl,λ q hq=>hsm.rs q (by rw[hL];simp[hq])⟩;refine Jiz (λ n=>Wc hat2 hsm2 hne n) (Tot.bindC (Ct (by simp)) (Jix ⟨rfl,.inl ⟨hne,?_⟩⟩));exact NF _ _ _ _
 ·have hne:l=[]:=by
   cases l with
   | nil=>rfl
   | cons=>simp at hc<;>omega
  have hd:RE 0 (u.length:Int) (A0 .i64 (u.length:Int) 1) (u++{ Arc:=h.Arc,More:=h.More,List:=l,First:=h.First }::v)=some (u++v):=by
   unfold RE Jcv;rw[DW (by simp at hl;omega),if_pos ⟨by omega,by omega,by simp;omega⟩];simp
  exact Tot.bindC hd (Jix ⟨rfl,.inr ⟨hne,rfl⟩⟩)
structure MI (All:Af->Prop) (B:Int) (M:Nat) (hs:List Ah) (f:List (List UInt8×Af)) (dn:Af->Prop):Prop where
 ld:∀ h∈hs,Ld8 h/\SmH h/\(gam h).Pairwise klr
 rem:∀ h∈hs,∀ c∈gam h,∀ d,dn d->¬klr c d
 tot:∀ c,All c->dn c\/∃ h∈hs,c∈gam h
 snd:∀ d,dn d->All d/\d.Cost<=B
 sndh:∀ h∈hs,∀ c∈gam h,All c
 key:∀ x r,AO x f=some r->r.Text=x/\dn r
 fnd:∀ d,dn d->∃ r,AO d.Text f=some r/\le2 r d
 nd:(f.map Prod.fst).Nodup
 len:f.length<=M
def Wd (All:Af->Prop) (B:Int) (M:Nat) (f:List (List UInt8×Af)):Prop:=
 ∃ hs dn,MI All B M hs f dn/\(hs=[]\/∃ f0:Af,(∃ h∈hs,f0∈gam h)/\(∀ h∈hs,∀ c∈gam h,¬klr c f0)/\(B<f0.Cost\/(AO f0.Text f=none/\f.length=M)))
theorem Mv {α:Type} (k:List UInt8) (v:α):∀ m:List (List UInt8×α),(BJ k v m).map Prod.fst=if k∈m.map Prod.fst then m.map Prod.fst else m.map Prod.fst++[k]
 | []=>by simp[BJ]
 | p::m=>by
  unfold BJ;by_cases e:k=p.1
  ·rw[if_pos e];simp[e]
  ·rw[if_neg e,JiU,Mv k v m];by_cases hm:k∈m.map Prod.fst
   ·rw[if_pos hm,if_pos (by simp only[JiU,List.mem_cons];exact .inr hm)];rfl
   ·rw[if_neg hm,if_neg (by simp only[JiU,List.mem_cons,not_or];exact⟨e,hm⟩)];rfl
theorem Mw {α:Type} (k:List UInt8):∀ m:List (List UInt8×α),k∈m.map Prod.fst↔(AO k m).isSome=true
 | []=>by simp[AO]
 | p::m=>by
  unfold AO;by_cases e:k=p.1
  ·rw[if_pos e];simp[e]
  ·rw[if_neg e,JiU,List.mem_cons,Mw k m];simp[e]
theorem XN {α:Type} (k:List UInt8) (v:α) (m:List (List UInt8×α)):(BJ k v m).length=if(AO k m).isSome=true then m.length else m.length+1:=by
 have:=congrArg List.length (Mv k v m);rw[JiT]at this;rw[this];by_cases h:k∈m.map Prod.fst
 ·rw[if_pos h,if_pos ((Mw k m).1 h)];simp
 ·rw[if_neg h,if_neg λ h'=>h ((Mw k m).2 h')];simp
theorem Ja7 {α:Type} (k:List UInt8) (v:α) (m:List (List UInt8×α)) (h:(m.map Prod.fst).Nodup):((BJ k v m).map Prod.fst).Nodup:=by
 rw[Mv];split
 ·exact h
 ·rename_i hk;rw[List.nodup_append];refine⟨h,by simp,λ a ha b hb=>?_⟩;simp at hb;subst hb;intro e;subst e;exact hk ha
theorem MI.step {All:Af->Prop} {B:Int} {M:Nat} {u v:List Ah} {h:Ah} {r:Af} {l:List Af} {f f':List (List UInt8×Af)} {dn:Af->Prop} {hs':List Ah}
  (hI:MI All B M (u++h::v) f dn) (hL:h.List=r::l) (hmin:∀ g∈u++h::v,∀ c∈gam g,¬klr c (mpR h r)) (hc:(mpR h r).Cost<=B)
  (hhs:(l≠[]/\hs'=u++ldH { h with List:=l }::v)\/(l=[]/\hs'=u++v))
  (hf:(f'=BJ (mpR h r).Text (mpR h r) f/\((AO (mpR h r).Text f=none/\f.length<M)\/∃ o,AO (mpR h r).Text f=some o/\o.Cost=(mpR h r).Cost/\ltB (mpR h r).Cells o.Cells)) \/
   (f'=f/\∃ o,AO (mpR h r).Text f=some o/\¬(o.Cost=(mpR h r).Cost/\ltB (mpR h r).Cells o.Cells))) :
  MI All B M hs' f' (λ d=>dn d\/d=mpR h r):=by
 have hg:gam h=mpR h r::gam { h with List:=l }:=by unfold gam;rw[hL];rfl
 have hmem:∀ g∈hs',g∈u++h::v\/(l≠[]/\g=ldH { h with List:=l }):=λ g hg'=>by
  rcases hhs with⟨h1,rfl⟩|⟨h1,rfl⟩
  ·simp only[List.mem_append,List.mem_cons]at hg'⊢;rcases hg' with h2|h2|h2
   ·exact .inl (.inl h2)
   ·exact .inr ⟨h1,h2⟩
   ·exact .inl (.inr (.inr h2))
  ·simp only[List.mem_append,List.mem_cons]at hg'⊢;rcases hg' with h2|h2
   ·exact .inl (.inl h2)
   ·exact .inl (.inr (.inr h2))
 have hh:h∈u++h::v:=by simp
 obtain⟨_,hsm,hpw⟩:=hI.ld h hh;rw[hg,List.pairwise_cons]at hpw;have hgam:∀ g∈hs',∀ c∈gam g,∃ g0∈u++h::v,c∈gam g0:=λ g hg' c hc'=>by
  rcases hmem g hg' with h1|⟨_,rfl⟩
  ·exact⟨g,h1,hc'⟩
  ·exact⟨h,hh,by rw[JS]at hc';rw[hg];exact List.mem_cons_of_mem _ hc'⟩
 have hold:∀ d,dn d->d.Text=(mpR h r).Text->d.Cost<=(mpR h r).Cost:=λ d hd ht=>by
  have:=hI.rem h hh (mpR h r) (by rw[hg];simp) d hd;rcases Int.lt_or_le (mpR h r).Cost d.Cost with h1|h1
  ·exact absurd (.inl h1) this
  ·exact h1
 refine⟨λ g hg'=>?_,λ g hg' c hc' d hd=>?_,λ c hc'=>?_,λ d hd=>?_,λ g hg' c hc'=>?_,λ x q hq=>?_,λ d hd=>?_,?_,?_⟩
 ·rcases hmem g hg' with h1|⟨h1,rfl⟩
  ·exact hI.ld g h1
  ·refine⟨Ja3 h1,Ja4 ⟨hsm.m0,hsm.m1,hsm.pr,hsm.cl,λ q hq=>hsm.rs q (by rw[hL];exact List.mem_cons_of_mem _ hq)⟩,?_⟩;rw[JS];exact hpw.2
 ·obtain⟨g0,hg0,hc0⟩:=hgam g hg' c hc';rcases hd with hd|rfl
  ·exact hI.rem g0 hg0 c hc0 d hd
  ·exact hmin g0 hg0 c hc0
 ·rcases hI.tot c hc' with h1|⟨g,hg',hc''⟩
  ·exact .inl (.inl h1)
  ·by_cases e:g=h
   ·subst e;rw[hg]at hc'';rcases List.mem_cons.1 hc'' with h1|h1
    ·exact .inl (.inr h1)
    ·right;rcases hhs with⟨h2,rfl⟩|⟨h2,rfl⟩
     ·exact⟨ldH { g with List:=l },by simp,by rw[JS];exact h1⟩
     ·subst h2;simp[gam]at h1
   ·right;refine⟨g,?_,hc''⟩;simp only[List.mem_append,List.mem_cons]at hg';rcases hhs with⟨h2,rfl⟩|⟨h2,rfl⟩
    ·simp only[List.mem_append,List.mem_cons];rcases hg' with h3|h3|h3
     ·exact .inl h3
     ·exact absurd h3 e
     ·exact .inr (.inr h3)
    ·simp only[List.mem_append];rcases hg' with h3|h3|h3
     ·exact .inl h3
     ·exact absurd h3 e
     ·exact .inr h3
 ·rcases hd with hd|rfl
  ·exact hI.snd d hd
  ·exact⟨hI.sndh h hh (mpR h r) (by rw[hg];simp),hc⟩
 ·obtain⟨g0,hg0,hc0⟩:=hgam g hg' c hc';exact hI.sndh g0 hg0 c hc0
 ·rcases hf with⟨rfl,_⟩|⟨rfl,_⟩
  ·rw[HK]at hq;split at hq
   ·rename_i e;cases hq;exact⟨e.symm,.inr rfl⟩
   ·obtain⟨h1,h2⟩:=hI.key x q hq;exact⟨h1,.inl h2⟩
  ·obtain⟨h1,h2⟩:=hI.key x q hq;exact⟨h1,.inl h2⟩
 ·rcases hf with⟨rfl,h3⟩|⟨rfl,o,ho,h3⟩
  ·rcases hd with hd|rfl
   ·obtain⟨q,hq,hle⟩:=hI.fnd d hd;rw[HK];split
    ·rename_i e;refine⟨_,rfl,?_⟩;rcases h3 with⟨h3,_⟩|⟨o,ho,h4,h5⟩
     ·rw[e,h3]at hq;cases hq
     ·rw[e,ho]at hq;cases hq;exact QC (.inr ⟨h4.symm,λ h6=>QB h5 h6⟩) hle
    ·exact⟨q,hq,hle⟩
   ·exact⟨_,by rw[HK,if_pos rfl],TN _⟩
  ·rcases hd with hd|rfl
   ·exact hI.fnd d hd
   ·refine⟨o,ho,?_⟩;obtain⟨h4,h5⟩:=hI.key _ _ ho;have h6:=hold o h5 h4;rcases Int.lt_or_eq_of_le h6 with h7|h7
    ·exact .inl h7
    ·exact .inr ⟨h7,λ h8=>h3 ⟨h7,h8⟩⟩
 ·rcases hf with⟨rfl,_⟩|⟨rfl,_⟩
  ·exact Ja7 _ _ _ hI.nd
  ·exact hI.nd
 ·rcases hf with⟨rfl,h3⟩|⟨rfl,_⟩
  ·rw[XN];rcases h3 with⟨h3,h4⟩|⟨o,h3,_⟩
   ·rw[h3,if_neg (by simp)];omega
   ·rw[h3];simpa using hI.len
  ·exact hI.len
end Go.AI
end
section
namespace Go.AI
theorem Mx {a b c d:Af} (h1:a.Cost=b.Cost) (h2:a.Text=b.Text) (h3:c.Cost=d.Cost) (h4:c.Text=d.Text):klr a c↔klr b d:=by unfold klr;rw[h1,h2,h3,h4]
theorem JcG {u v:List Ah} {h:Ah}:mes (u++h::v)=mes (u++v)+h.List.length:=by simp[mes];omega
theorem JcH {u v:List Ah} {h g:Ah}:mes (u++h::v)+g.List.length=mes (u++g::v)+h.List.length:=by simp[mes];omega
theorem Ja8 {All:Af->Prop} {B:Int} {M:Nat} {s:Aa} (hM:s.Most=(M:Int)) {hs:List Ah} (hI:MI All B M hs [] (λ _=>False)) (hl:hs.length<1000000000) :
  Tot (λ n=>whl (λ (x:List Ah×List (List UInt8×Af))=>Ce n B s x.1 x.2) n (hs,[])) (Wd All B M):=by
 refine Tot.whl (body:=λ n (x:List Ah×List (List UInt8×Af))=>Ce n B s x.1 x.2) (λ k x=>∃ dn,MI All B M x.1 x.2 dn/\k=mes x.1/\x.1.length<1000000000) ?_ (mes hs) _ ⟨_,hI,rfl,hl⟩;rintro k ⟨hs,f⟩ ⟨dn,hI,rfl,hl⟩;simp only at *;unfold Ce;by_cases h0:hs=[]
 ·subst h0;exact Tot.iteF (by simp) (Jix ⟨[],dn,hI,.inl rfl⟩)
 have hpos:0<hs.length:=List.length_pos_iff.2 h0;refine Tot.iteT (by simp;omega) (Tot.bind (JcD hs h0 hl) λ m ⟨hm,hmin⟩=>Tot.bind (JcE hs m hm hl) ?_);rintro _ ⟨i,h,rfl,hi,e1,e2⟩;obtain⟨u,v,he,hul⟩:=Ja5 hi;have hh:h∈hs:=Ji0 hi;obtain⟨⟨r,l,hL,hF⟩,hsm,hpw⟩:=hI.ld h hh;have hFc:h.First.Cost=(mpR h r).Cost:=by rw[hF];rfl
 have hFt:h.First.Text=(mpR h r).Text:=by rw[hF];rfl
 have hle:∀ g∈hs,∀ c∈gam g,¬klr c (mpR h r):=λ g hg c hc hk=>by
  obtain⟨⟨r',l',hL',hF'⟩,_,hpw'⟩:=hI.ld g hg;have h3:¬klr g.First m.First:=hmin g hg;rw[Mx (b:=mpR g r') (d:=mpR h r) (by rw[hF'];rfl) (by rw[hF'];rfl) (by rw[← e1,hFc]) (by rw[← e2,hFt])]at h3;have hg':gam g=mpR g r'::l'.map (mpR g):=by unfold gam;rw[hL'];rfl
  rw[hg']at hc hpw';rcases List.mem_cons.1 hc with rfl|hc
  ·exact h3 hk
  ·exact h3 (FS ((List.pairwise_cons.1 hpw').1 c hc) hk)
 refine Tot.bindC (C3 hi) (Tot.ite (λ hc=>?_) λ hc=>?_)
 ·refine Jix ⟨hs,dn,hI,.inr ⟨mpR h r,⟨h,hh,by unfold gam;rw[hL];simp⟩,hle,?_⟩⟩;rw[← hFc,← hFt];simp only[Jjh,decide_eq_true_eq,JiZ,Bool.not_eq_true',Option.isSome_eq_false_iff,Option.isNone_iff_eq_none,beq_iff_eq,hM]at hc;rcases hc with hc|⟨hc,hc2⟩
  ·exact .inl (by omega)
  ·exact .inr ⟨hc,by omega⟩
 ·simp only[JiX,decide_eq_false_iff_not,hM]at hc;obtain⟨hc1,hc2⟩:=hc;have hcB:(mpR h r).Cost<=B:=by rw[← hFc];omega
  have h00:idx h.List 0=some r:=by rw[hL];rfl
  have hr:=hsm.rs r (by rw[hL];simp);refine Tot.bindC h00 (Tot.bindC (Vf (by have:=hsm.cl;have:=hr.cl;omega)) ?_);have nx:∀ f',((f'=BJ (mpR h r).Text (mpR h r) f/\((AO (mpR h r).Text f=none/\f.length<M)\/∃ o,AO (mpR h r).Text f=some o/\o.Cost=(mpR h r).Cost/\ltB (mpR h r).Cells o.Cells)) \/
   (f'=f/\∃ o,AO (mpR h r).Text f=some o/\¬(o.Cost=(mpR h r).Cost/\ltB (mpR h r).Cells o.Cells))) ->
   Tot (λ n=>BU n hs (i:Int) f') (Rd2 (λ y=>∃ j,j<mes hs/\∃ dn,MI All B M y.1 y.2 dn/\j=mes y.1/\y.1.length<1000000000) (Wd All B M)):=λ f' hf'=>by
   rw[← hul];refine(JcF he hL hsm hl f').mono λ z hz=>?_;cases z with
   | inr z=>exact hz.elim
   | inl z=>
    obtain⟨hz1,hz2⟩:=hz;rw[he]at hI hle;have hst:=hI.step hL hle hcB hz2 hf';refine⟨mes z.1,?_,_,by rw[hz1];exact hst,rfl,?_⟩
    ·rw[he];rcases hz2 with⟨_,e⟩|⟨_,e⟩
     ·rw[e];have:=JcH (u:=u) (v:=v) (h:=h) (g:=ldH { h with List:=l });rw[Ps,hL]at this;simp only[List.length_cons]at this;omega
     ·rw[e,JcG,hL];simp
    ·rw[he]at hl;rcases hz2 with⟨_,e⟩|⟨_,e⟩<;>rw[e]<;>simp at hl⊢<;>omega
  rw[hFt,hFc]at *;refine Tot.ite (λ hd=>?_) λ hd=>?_
  ·refine nx _ (.inl ⟨rfl,?_⟩);cases hg:AO (mpR h r).Text f with
   | none=>
    rw[hg]at hc2;left;refine⟨rfl,?_⟩;have:=hI.len;simp at hc2;omega
   | some o=>
    right;rw[hg]at hd;simp only[Option.isSome_some,JiL,Bool.false_or,JiJ,JiZ,beq_iff_eq]at hd;exact⟨o,rfl,hd.1,hd.2⟩
  ·refine nx _ (.inr ⟨rfl,?_⟩);cases hg:AO (mpR h r).Text f with
   | none=>rw[hg]at hd;simp at hd
   | some o=>
    rw[hg]at hd;refine⟨o,rfl,λ hx=>?_⟩;have h2:Op.bytesLess (h.Arc.Cells++r.Cells) o.Cells=true:=hx.2;simp[hx.1,h2]at hd
theorem JA {α:Type} {p:List UInt8×α}:∀ {f:List (List UInt8×α)},p∈f->(f.map Prod.fst).Nodup->AO p.1 f=some p.2
 | q::f,hp,hnd=>by
  unfold AO;rw[JiU,List.nodup_cons]at hnd;rcases List.mem_cons.1 hp with rfl|hp
  ·rw[if_pos rfl]
  ·rw[if_neg (λ e=>hnd.1 (by rw[← e];exact List.mem_map_of_mem hp))];exact JA hp hnd.2
theorem We {α:Type} {x:List UInt8} {r:α}:∀ {f:List (List UInt8×α)},AO x f=some r->(x,r)∈f
 | q::f,hx=>by
  unfold AO at hx;split at hx
  ·rename_i e;cases hx;subst e;simp
  ·exact List.mem_cons_of_mem _ (We hx)
theorem Wd.bst {All T:Af->Prop} {B:Int} {M:Nat} {f:List (List UInt8×Af)} (h:Wd All B M f) {l:List Af} (hp:l.Perm (f.map Prod.snd)) (hs:l.Pairwise λ a b=>¬klr b a)
  (hsnd:∀ c,All c->T c) (hcov:∀ r,T r->r.Cost<=B->(∃ c,All c/\c.Text=r.Text/\le2 c r)\/∃ cs:List Af,cs.length=M/\cs.Pairwise (λ a b=>a.Text≠b.Text)/\∀ c∈cs,All c/\klr c r):Bst T B M l:=by
 obtain⟨hs',dn,hI,hend⟩:=h;have hml:∀ r∈l,AO r.Text f=some r/\dn r:=λ r hr=>by
  obtain⟨p,hp,rfl⟩:=JiQ.1 (hp.mem_iff.1 hr);have hm:=JA hp hI.nd;obtain⟨h1,h2⟩:=hI.key _ _ hm;exact⟨by rw[h1];exact hm,h2⟩
 have hin:∀ x r,AO x f=some r->r∈l:=λ x r hx=>by
  rw[hp.mem_iff];exact JiQ.2 ⟨_,We hx,rfl⟩
 have hlen:l.length=f.length:=by rw[hp.length_eq,JiT]
 have hdst:∀ r∈l,∀ s∈l,r.Text=s.Text->r=s:=λ r hr s hs2 e=>by
  have h1:=(hml r hr).1;rw[e,(hml s hs2).1]at h1;exact(Option.some.inj h1).symm
 have hnd:l.Nodup:=by
  rw[hp.nodup_iff];have h1:=hI.nd;rw[List.Nodup,List.pairwise_map]at h1⊢;refine List.Pairwise.imp_of_mem (λ {a b} ha hb hab e=>hab ?_) h1;rw[← (hI.key _ _ (JA ha hI.nd)).1,← (hI.key _ _ (JA hb hI.nd)).1,e]
 have hsrt:l.Pairwise klr:=by
  refine List.Pairwise.imp_of_mem (λ {a b} ha hb hab=>?_) (hs.and hnd);obtain⟨h1,h2⟩:=hab;rcases FT a b with h3|h3|⟨_,h3⟩
  ·exact h3
  ·exact absurd h3 h1
  ·exact absurd (hdst a ha b hb h3) h2
 refine⟨λ r hr=>⟨hsnd r (hI.snd r (hml r hr).2).1,(hI.snd r (hml r hr).2).2⟩,hsrt,hdst,λ r hr hrB=>?_,by rw[hlen];exact hI.len⟩;have hdone:∀ c,dn c->∃ s∈l,s.Text=c.Text/\le2 s c:=λ c hc=>by
  obtain⟨s,h1,h2⟩:=hI.fnd c hc;exact⟨s,hin _ _ h1,(hI.key _ _ h1).1,h2⟩
 have hrest:∀ c,All c->c.Cost<=B->¬dn c->l.length=M/\∃ f0:Af,¬klr c f0/\AO f0.Text f=none/\∀ s∈l,klr s f0:=λ c hc hcB hnd=>by
  rcases hI.tot c hc with h1|⟨g,hg,hcg⟩
  ·exact absurd h1 hnd
  ·rcases hend with rfl|⟨f0,⟨g0,hg0,hf0⟩,h1,h2⟩
   ·simp at hg
   ·have h3:=h1 g hg c hcg;rcases h2 with h2|⟨h2,h4⟩
    ·exact absurd (.inl (by omega)) h3
    ·refine⟨by rw[hlen];exact h4,f0,h3,h2,λ s hs2=>?_⟩;obtain⟨h5,h6⟩:=hml s hs2;have h7:=hI.rem g0 hg0 f0 hf0 s h6;rcases FT s f0 with h8|h8|⟨_,h8⟩
     ·exact h8
     ·exact absurd h8 h7
     ·rw[h8,h2]at h5;cases h5
 have hbehind:∀ c,All c->c.Cost<=B->¬dn c->∀ r:Af,¬klr r c->l.length=M/\∀ s∈l,klr s r:=λ c hc hcB hnd r hrc=>by
  obtain⟨h1,f0,h2,_,h4⟩:=hrest c hc hcB hnd;refine⟨h1,λ s hs2=>?_⟩;have h5:¬klr r f0:=Po hrc h2;rcases FT s r with h6|h6|⟨h6,h7⟩
  ·exact h6
  ·exact absurd (FS h6 (h4 s hs2)) h5
  ·exact absurd ((Mx h6 h7 rfl rfl).1 (h4 s hs2)) h5
 rcases hcov r hr hrB with⟨c,hc,hct,hcle⟩|⟨cs,hcl,hcd,hcs⟩
 ·have hcB:c.Cost<=B:=by rcases hcle with h1|⟨h1,_⟩<;>omega
  by_cases hd:dn c
  ·left;obtain⟨s,hs2,hst,hsle⟩:=hdone c hd;exact⟨s,hs2,hst.trans hct,QC hsle hcle⟩
  ·right;refine hbehind c hc hcB hd r λ hk=>?_;rcases hk with hk|⟨_,hk⟩
   ·rcases hcle with h1|⟨h1,_⟩<;>omega
   ·rw[hct]at hk;exact Dw _ hk
 ·right;by_cases hall:∀ c∈cs,dn c
  ·
   have hcB:∀ c∈cs,∃ s∈l,s.Text=c.Text/\le2 s c:=λ c hc=>hdone c (hall c hc);have htx:∀ x∈cs.map (·.Text),x∈l.map (·.Text):=λ x hx=>by
    obtain⟨c,hc,rfl⟩:=JiQ.1 hx;obtain⟨s,h1,h2,_⟩:=hcB c hc;exact JiQ.2 ⟨s,h1,h2⟩
   have hcn:(cs.map (·.Text)).Nodup:=by rw[List.Nodup,List.pairwise_map];exact hcd
   have hle:=FR hcn htx;simp only[JiT,hcl]at hle;have hlM:l.length=M:=by have:=hI.len;omega
   refine⟨hlM,λ s hs2=>?_⟩;have hsub:∀ x∈l.map (·.Text),x∈cs.map (·.Text):=by
    intro x hx;by_cases hxc:x∈cs.map (·.Text)
    ·exact hxc
    ·exfalso;have h1:(x::cs.map (·.Text)).Nodup:=List.nodup_cons.2 ⟨hxc,hcn⟩;have h2:=FR h1 (m:=l.map (·.Text)) λ y hy=>by
      rcases List.mem_cons.1 hy with rfl|hy
      ·exact hx
      ·exact htx y hy
     simp[hcl,hlM]at h2;omega
   obtain⟨c,hc,hct⟩:=JiQ.1 (hsub s.Text (List.mem_map_of_mem hs2));obtain⟨s',hs3,hst,hsle⟩:=hcB c hc;have:=hdst s' hs3 s hs2 (hst.trans hct);subst this;have h3:=(hcs c hc).2;rcases hsle with h4|⟨h4,_⟩
   ·rcases h3 with h3|⟨h3,_⟩
    ·exact .inl (by omega)
    ·exact .inl (by omega)
   ·exact(Mx h4 hst rfl rfl).2 h3
  ·obtain⟨c,hc⟩:=Classical.not_forall.1 hall;obtain⟨hc,hnd2⟩:=Classical.not_imp.1 hc;obtain⟨h1,h2⟩:=hcs c hc;exact hbehind c h1 (by rcases h2 with h2|⟨h2,_⟩<;>omega) hnd2 r (HN h2)
end Go.AI
end
section
namespace Go.AI
theorem QG {α:Type}:∀ l:List α,∃ L:List (List α),∀ o:List α,o.Perm l->o∈L
 | []=>⟨[[]],λ o ho=>by rw[ho.eq_nil];simp⟩
 | a::l=>by
  obtain⟨L,hL⟩:=QG l;refine⟨L.flatMap λ u=>(List.range (u.length+1)).map λ i=>u.take i++a::u.drop i,λ o ho=>?_⟩;obtain⟨x,y,rfl⟩:=List.append_of_mem (ho.mem_iff.2 (List.mem_cons_self));have h1:(x++y).Perm l:=(List.perm_middle.symm.trans ho).cons_inv;rw[List.mem_flatMap];refine⟨x++y,hL _ h1,JiQ.2 ⟨x.length,List.mem_range.2 (by simp;omega),by simp⟩⟩
theorem Ev.demP {ε ζ:Type} {k:Nat->List ε->Option ζ} {m:List ε} {z:ζ} (h:∀ o:List ε,o.Perm m->Ev (λ n=>k n o) z):Ev (λ n=>dem (λ o:List ε=>List.Perm o m) (k n)) z:=by
 obtain⟨L,hL⟩:=QG m;have:∀ L:List (List ε),∃ N,∀ o∈L,o.Perm m->∀ n,N<=n->k n o=some z:=by
  intro L;induction L with
  | nil=>exact⟨0,λ o ho=>by simp at ho⟩
  | cons a L ih=>
   obtain⟨N,hN⟩:=ih;by_cases hp:a.Perm m
   ·obtain⟨N2,h2⟩:=h a hp;refine⟨max N N2,λ o ho hop n hn=>?_⟩;rcases List.mem_cons.1 ho with rfl|ho
    ·exact h2 n (by omega)
    ·exact hN o ho hop n (by omega)
   ·refine⟨N,λ o ho hop n hn=>?_⟩;rcases List.mem_cons.1 ho with rfl|ho
    ·exact absurd hop hp
    ·exact hN o ho hop n hn
 obtain⟨N,hN⟩:=this L;exact⟨N,λ n hn=>Y7 ⟨m,List.Perm.refl m⟩ λ o ho=>hN o (hL o ho) ho n hn⟩
theorem Tot.demP {ε ζ:Type} {P:ζ->Prop} {k:Nat->List ε->Option ζ} {m:List ε} (z:ζ) (h:∀ o:List ε,o.Perm m->Tot (λ n=>k n o) (λ y=>y=z)) (hp:P z):Tot (λ n=>dem (λ o:List ε=>List.Perm o m) (k n)) P:=
 (Ev.demP λ o ho=>(h o ho).ev).tot hp
theorem Tot.mapW {ε σ:Type} {F:Nat->ε->σ->Option (σ⊕Empty)} {o:List ε} (I:List ε->σ->Prop) (step:∀ u e v x,o=u++e::v->I u x->Tot (λ n=>F n e x) (Rd2 (I (u++[e])) (λ _=>True))) {x:σ} (h0:I [] x):Tot (λ n=>Go.AI.mapW (F n) o x) (Rd2 (I o) (λ _=>True)):=by
 have key:∀ (v u:List ε) (x:σ),o=u++v->I u x->Tot (λ n=>Go.AI.mapW (F n) v x) (Rd2 (I o) (λ _=>True)):=by
  intro v;induction v with
  | nil=>intro u x ho hx;rw[List.append_nil]at ho;subst ho;exact Jix hx
  | cons e v ih=>
   intro u x ho hx;obtain⟨z,hz,N1,h1⟩:=step u e v x ho hx;cases z with
   | inr z=>exact nomatch z
   | inl y=>
    obtain⟨w,hw,N2,h2⟩:=ih (u++[e]) y (by rw[ho];simp) hz;refine⟨w,hw,max N1 N2,λ n hn=>?_⟩;have e1:=h1 n (by omega);have e2:=h2 n (by omega);simp only at e1 e2;simp only[Go.AI.mapW,e1];exact e2
 exact key o [] x rfl h0
theorem Ja9 {T:Af->Prop} {B:Int} {M:Nat} {s:Aa} (hM:s.Most=(M:Int)) (hM1:M<=1000) {hs:List Ah} (hl:hs.length<1000000000) (hsm:∀ h∈hs,SmH h)
  (hsnd:∀ h∈hs,∀ c∈gam h,T c) (hsrt:∀ h∈hs,(gam h).Pairwise klr) (hdst:∀ h∈hs,(gam h).Pairwise λ a b=>a.Text≠b.Text)
  (hcov:∀ r,T r->r.Cost<=B->∃ h∈hs,h.List≠[]/\((∃ c∈gam h,c.Text=r.Text/\le2 c r)\/((gam h).length=M/\∀ c∈gam h,klr c r))):Tot (λ n=>CJ n B s hs) (Bst T B M):=by
 unfold CJ;refine Tot.bind (JfY hs hl) ?_;rintro _ rfl;have hne:∀ h∈hs.filter neH,h∈hs/\h.List≠[]:=λ h hh=>by
  rw[List.mem_filter]at hh;refine⟨hh.1,λ e=>?_⟩;have:=hh.2;unfold neH at this;rw[e]at this;simp at this
 have hnf:∀ h∈hs,h.List≠[]->h∈hs.filter neH:=λ h h1 h2=>by
  rw[List.mem_filter];refine⟨h1,?_⟩;unfold neH;cases e:h.List with
  | nil=>exact absurd e h2
  | cons=>rfl
 have hlf:(hs.filter neH).length<1000000000:=by have:=List.length_filter_le neH hs;omega
 refine Tot.bind (Ja6 (λ h hh=>⟨hsm h (hne h hh).1,(hne h hh).2⟩) hlf B s) ?_;rintro _ rfl;let All:Af->Prop:=λ c=>∃ h∈hs.filter neH,c∈gam h;have hI:MI All B M ((hs.filter neH).map ldH) [] (λ _=>False):=by
  refine⟨λ h hh=>?_,λ _ _ _ _ _ hd=>hd.elim,λ c hc=>?_,λ _ hd=>hd.elim,λ h hh c hc=>?_,λ x r hx=>(by cases hx),λ _ hd=>hd.elim,by simp,by simp⟩
  ·obtain⟨g,hg,rfl⟩:=JiQ.1 hh;obtain⟨h1,h2⟩:=hne g hg;exact⟨Ja3 h2,Ja4 (hsm g h1),by rw[JS];exact hsrt g h1⟩
  ·obtain⟨h,hh,hc⟩:=hc;exact .inr ⟨ldH h,List.mem_map_of_mem hh,by rw[JS];exact hc⟩
  ·obtain⟨g,hg,rfl⟩:=JiQ.1 hh;rw[JS]at hc;exact⟨g,hg,hc⟩
 refine Tot.bind (Ja8 hM hI (by simpa using hlf)) λ f hf=>?_;have hfl:f.length<=M:=by obtain⟨_,_,h,_⟩:=hf;exact h.len
 have hfd:∀ r∈f.map Prod.snd,∀ s∈f.map Prod.snd,r.Text=s.Text->r=s:=by
  obtain⟨_,dn,hI,_⟩:=hf;have hml:∀ r∈f.map Prod.snd,AO r.Text f=some r:=λ r hr=>by
   obtain⟨p,hp,rfl⟩:=JiQ.1 hr;have hm:=JA hp hI.nd;rw[(hI.key _ _ hm).1];exact hm
  intro r hr s hs e;have h1:=hml r hr;rw[e,hml s hs]at h1;exact(Option.some.inj h1).symm
 obtain⟨z,hzp,hzs,hz⟩:=TQ hfd (by simp;omega);refine Tot.demP z (λ o ho=>?_) ?_
 ·have hmw:Tot (λ n=>mapW (λ (e:List UInt8×Af) (x:List Af)=>Bx n e x) o ([]:List Af)) (Rd2 (λ x=>x=o.map Prod.snd) (λ _=>True)):=by
   refine Tot.mapW (F:=λ n e x=>Bx n e x) (λ u x=>x=u.map Prod.snd) (λ u e v x hu hx=>?_) rfl;subst hx;unfold Bx;have:u.length<=f.length:=by rw[← ho.length_eq,hu];simp
   exact Tot.bindC (Ir (by simp;omega)) (Jix (by show _=_;simp))
  refine Tot.bind hmw ?_;rintro (y|y) hy
  ·have hy:y=o.map Prod.snd:=hy;subst hy;have hpo:(o.map Prod.snd).Perm (f.map Prod.snd):=ho.map _;obtain⟨z',hzp',hzs',hz'⟩:=TQ (m:=o.map Prod.snd) (λ r hr s hs e=>hfd r (hpo.mem_iff.1 hr) s (hpo.mem_iff.1 hs) e) (by rw[hpo.length_eq];simp;omega);have ezz:z'=z:=by
    refine List.Perm.eq_of_pairwise (le:=λ a b=>¬klr b a) (λ a b ha hb h1 h2=>?_) hzs' hzs (hzp'.trans (hpo.trans hzp.symm));rcases FT a b with h3|h3|⟨_,h3⟩
    ·exact absurd h3 h2
    ·exact absurd h3 h1
    ·exact hfd a (hpo.mem_iff.1 (hzp'.mem_iff.1 ha)) b (hzp.mem_iff.1 hb) h3
   subst ezz;have hev:Ev (λ n=>Jd n (o.map Prod.snd)) z':=⟨3,λ n hn=>by
    obtain⟨q,rfl⟩:∃ q,n=q+3:=⟨n-3,by omega⟩;exact hz' q⟩
   exact Jiy hev (Tot.bindC (Ct (by rw[hzp'.length_eq];simp)) (Jix rfl))
  ·exact nomatch y
 ·refine hf.bst hzp hzs (λ c hc=>?_) λ r hr hrB=>?_
  ·obtain⟨h,hh,hc⟩:=hc;exact hsnd h (hne h hh).1 c hc
  ·obtain⟨h,hh,hn,h1⟩:=hcov r hr hrB;rcases h1 with⟨c,hc,h2,h3⟩|⟨h2,h3⟩
   ·exact .inl ⟨c,⟨h,hnf h hh hn,hc⟩,h2,h3⟩
   ·exact .inr ⟨gam h,h2,hdst h hh,λ c hc=>⟨⟨h,hnf h hh hn,hc⟩,h3 c hc⟩⟩
end Go.AI
end
section
namespace Go.AI
def clb (t:Ad) (k:Nat):List UInt8:=(cls t k).map λ c=>UInt8.ofNat c.toNat
structure Jba (t:Ad) (st:List Ae) (i m:Nat) (l:List G4):Prop where
 len:l.length<=m
 snd:∀ a∈l,∃ j k:Nat,Edge t st i k j/\a=⟨prt t k,clb t k,(j:Int)⟩
 cov:∀ k j:Nat,k<m->Edge t st i k j->(⟨prt t k,clb t k,(j:Int)⟩:G4)∈l
structure SrK (t:Ad) (fl:List AB) (bu mo:Int) (s:Aa):Prop where
 felt:s.Felt=fl
 bud:s.Budget=bu
 most:s.Most=mo
 len:s.Arcs.length=(AH t).length
 acc:∀ (i:Nat) q,(AH t)[i]?=some q->s.Accepts[i]?=some (Bj t q)
 arcs:∀ (i:Nat) l,s.Arcs[i]?=some l->Jba t (AH t) i t.Rules.length l
structure SJ (t:Ad) (fl:List AB) (bu mo:Int) (i m c:Nat) (s:Aa):Prop where
 felt:s.Felt=fl
 bud:s.Budget=bu
 most:s.Most=mo
 len:s.Arcs.length=(AH t).length
 aln:s.Accepts.length=(AH t).length
 acc:∀ (j:Nat) q,j<c->(AH t)[j]?=some q->s.Accepts[j]?=some (Bj t q)
 arcs:∀ (j:Nat) l,s.Arcs[j]?=some l->(j<i->Jba t (AH t) j t.Rules.length l)/\(j=i->Jba t (AH t) i m l)/\(i<j->l=[])
theorem Jba.nil (t:Ad) (st:List Ae) (i:Nat):Jba t st i 0 []:=⟨JiN _,λ a h=>by simp at h,λ k j h=>by omega⟩
theorem Vm {t:Ad} (ht:TbK t) {fl:List AB} {bu mo:Int} {nb:List (Ae×Int)} (hN:II (AH t) nb) {i:Nat} {q:Ae} (hi:(AH t)[i]?=some q) {s:Aa} (hs:SJ t fl bu mo i 0 (i+1) s) :
  Tot (λ n=>whl (λ (x:Aa×Int)=>Cj n t (AH t) nb (i:Int) q x.1 x.2) n (s,0)) (SJ t fl bu mo (i+1) 0 (i+1)):=by
 obtain⟨hF,hD⟩:=Ei ht.tab;have hil:=Az hi;have h768:=hF.len;have hr:=ht.tab.1;refine Tot.upto (body:=λ n (x:Aa×Int)=>Cj n t (AH t) nb (i:Int) q x.1 x.2) t.Rules.length (λ m x=>x.2=(m:Int)/\SJ t fl bu mo i m (i+1) x.1) ?_ ?_ _ ⟨rfl,hs⟩
 ·rintro m ⟨s,_⟩ hm ⟨rfl,hs⟩;unfold Cj;refine Tot.iteT (by simp;omega) (Tot.bindC (JaW (k:=(m:Int)) (by omega) (by omega)) (Jiz (λ n=>NA ht.tab.short n q (m:Nat)) ?_));have nxt:∀ s',SJ t fl bu mo i (m+1) (i+1) s'->Tot (λ n=>Dz n (m:Int) s') (Rd2 (λ x=>x.2=((m+1:Nat):Int)/\SJ t fl bu mo i (m+1) (i+1) x.1) (SJ t fl bu mo (i+1) 0 (i+1))):=λ s' hs'=>Jix ⟨DW (by omega),hs'⟩;by_cases hst:(BK t q (m:Nat)).2=true
  ·have hmem:=hD (i+1) i q (by omega) hi m hm hst;obtain⟨j,hjl,hj⟩:=List.mem_iff_getElem.1 hmem;have hj':(AH t)[j]?=some (BK t q (m:Nat)).1:=by rw[JiY hjl,hj]
   have hE:Edge t (AH t) i m j:=⟨q,_,hi,hm,hj',by rw[← hst]⟩;have hnum:Option.getD (AO (BK t q (m:Nat)).1 nb) 0=(j:Int):=by rw[hN,C2 hF.nodup hj'];rfl
   refine Tot.iteF (by rw[hst];rfl) ?_;obtain⟨_,c4,_,c63⟩:=Fy ht hm;have hcells:Tot (λ n=>whl (λ (x:List Int×Int)=>Ci n t (AH t) nb (i:Int) q s (m:Int) (EG t (m:Int)) (BK t q (m:Nat)) x.1 x.2) n (([]:List Int),0)) (λ r=>r=cls t m):=by
    refine Tot.upto (body:=λ n (x:List Int×Int)=>Ci n t (AH t) nb (i:Int) q s (m:Int) (EG t (m:Int)) (BK t q (m:Nat)) x.1 x.2) (cls t m).length (λ a x=>x.2=(a:Int)/\x.1=(cls t m).take a) ?_ ?_ _ ⟨rfl,rfl⟩
    ·rintro a ⟨x,_⟩ ha ⟨rfl,hx⟩;simp only at hx;subst hx;unfold Ci;refine Tot.iteT (Hc ha) (Tot.bindC (Cg ha) (Tot.bindC (Ir (by simp;omega)) (Jix ⟨DW (by omega),?_⟩)));show _=_;rw[List.take_add_one,JiY ha];rfl
    ·rintro⟨x,_⟩ ⟨rfl,hx⟩;simp only at hx;subst hx;unfold Ci;exact Tot.iteF (Kq _) (Jix (List.take_length))
   refine Tot.bind hcells ?_;rintro _ rfl;have hial:i<s.Arcs.length:=by rw[hs.len];exact hil
   have hai:=JiY hial;obtain⟨_,hA,_⟩:=hs.arcs i _ hai;have hA:=hA rfl;have hb:S2 (cls t m)=some (clb t m):=by
    unfold S2;rw[if_pos]
    ·rfl
    ·rw[JiI];intro c hc;have:=c63 c hc;simp;omega
   refine Tot.bindC (Cg hial) (Tot.bindC hb (Tot.bindC (Ir (by have:=hA.len;simp;omega)) (nxt _ ?_)));refine⟨hs.felt,hs.bud,hs.most,by simpa using hs.len,hs.aln,hs.acc,λ j' l hl=>?_⟩;rw[hnum,Ji7,List.getElem?_set]at hl;split at hl
   ·rename_i e;subst e
    try rw[if_pos hial]at hl
    cases hl;refine⟨λ h=>absurd h (Nat.lt_irrefl _),λ _=>⟨by have:=hA.len;simp;omega,λ a ha=>?_,λ k j2 hk hE2=>?_⟩,λ h=>absurd h (Nat.lt_irrefl _)⟩
    ·rcases List.mem_append.1 ha with h|h
     ·exact hA.snd a h
     ·simp only[List.mem_singleton]at h;subst h;exact⟨j,m,hE,rfl⟩
    ·by_cases e:k=m
     ·subst e;obtain⟨s1,s2,k1,_,k3,k4⟩:=hE2;rw[hi]at k1;cases k1;have:j2=j:=V5 hF.nodup (s:=s2) k3 (by rw[hj'];rw[k4]);subst this;exact List.mem_append_right _ (List.mem_singleton.2 rfl)
     ·exact List.mem_append_left _ (hA.cov k j2 (by omega) hE2)
   ·rename_i e;obtain⟨h1,h2,h3⟩:=hs.arcs j' l hl;exact⟨h1,λ h=>absurd h.symm e,h3⟩
  ·have hs':(BK t q (m:Nat)).2=false:=by simpa using hst
   refine Tot.iteT (by rw[hs'];rfl) (nxt _ ⟨hs.felt,hs.bud,hs.most,hs.len,hs.aln,hs.acc,λ j l hl=>?_⟩);obtain⟨h1,h2,h3⟩:=hs.arcs j l hl;refine⟨h1,λ e=>?_,h3⟩;obtain⟨q1,q2,q3⟩:=h2 e;refine⟨by omega,q2,λ k j hk hE=>?_⟩;by_cases e:k=m
   ·subst e;obtain⟨s1,s2,k1,_,k3,k4⟩:=hE;rw[hi]at k1;cases k1;rw[k4]at hs';cases hs'
   ·exact q3 k j (by omega) hE
 ·rintro⟨s,_⟩ ⟨rfl,hs⟩;unfold Cj;refine Tot.iteF (by simp) (Jix ⟨hs.felt,hs.bud,hs.most,hs.len,hs.aln,hs.acc,λ j l hl=>?_⟩);obtain⟨h1,h2,h3⟩:=hs.arcs j l hl;refine⟨λ h=>?_,λ h=>?_,λ h=>h3 (by omega)⟩
  ·by_cases e:j=i
   ·subst e;exact h2 rfl
   ·exact h1 (by omega)
  ·have:=h3 (by omega);subst this;exact .nil _ _ _
theorem R8 {t:Ad} (ht:TbK t) (fl:List AB) (bu mo:Int):Tot (λ n=>E6 n t fl bu mo) (SrK t fl bu mo):=by
 obtain⟨hF,hD⟩:=Ei ht.tab;have h768:=hF.len;unfold E6;refine Jiy (Ve ht.tab) (Tot.bind (R:=II (AH t)) ?_ λ nb hN=>Tot.bindC (JaJ (by omega) (by omega)) (Tot.bindC (JaJ (by omega) (by omega)) ?_))
 ·refine Tot.upto (body:=λ n (x:(List (Ae×Int))×Int)=>CH n t fl bu mo (AH t) x.1 x.2) (AH t).length (λ i x=>x.2=(i:Int)/\II ((AH t).take i) x.1) ?_ ?_ _ ⟨rfl,λ s=>rfl⟩
  ·rintro i ⟨nb,_⟩ hi ⟨rfl,hN⟩;unfold CH;refine Tot.iteT (by simp;omega) (Tot.bindC (Cg hi) (Jix ⟨DW (by omega),?_⟩));rw[List.take_add_one,JiY hi,Option.toList_some];have:=hN.snoc (p:=(AH t)[i]) (hF.nodup.sublist (List.take_sublist _ _)) (λ h=>by
    obtain⟨j,hj,e⟩:=List.mem_iff_getElem.1 h;rw[List.getElem_take]at e;have hj':j<i:=by rw[List.length_take]at hj;omega
    have:=V5 hF.nodup (i:=i) (j:=j) (JiY hi) (by rw[JiY (show j<(AH t).length by omega),e]);omega)
   rw[List.length_take,Nat.min_eq_left (by omega)]at this;exact this
  ·rintro⟨nb,_⟩ ⟨rfl,hN⟩;unfold CH;refine Tot.iteF (by simp) (Jix ?_);rw[List.take_length]at hN;exact hN
 ·refine Tot.bind (R:=SrK t fl bu mo) ?_ λ s hs=>Jix hs;refine Tot.upto (body:=λ n (x:Aa×Int)=>CI n t (AH t) nb x.1 x.2) (AH t).length (λ i x=>x.2=(i:Int)/\SJ t fl bu mo i 0 i x.1) ?_ ?_ _ ⟨rfl,rfl,rfl,rfl,by simp,by simp,λ j s h=>by omega,λ j l hl=>?_⟩
  ·rintro i ⟨s,_⟩ hi ⟨rfl,hs⟩;have hia:i<s.Accepts.length:=by rw[hs.aln];exact hi
   have hsi:=JiY hi;unfold CI;refine Tot.iteT (by simp;omega) (Tot.bindC (Cg hi) (Jiz (λ n=>Vb n t _) (Tot.bindC (Cg hia) (Tot.bindC (R2 hia) (Tot.bind (Vm ht hN hsi ?_) λ s' hs'=>Jix ⟨DW (by omega),hs'⟩)))));refine⟨hs.felt,hs.bud,hs.most,hs.len,by simpa using hs.aln,λ j q hj hq=>?_,hs.arcs⟩;rw[List.getElem?_set];split
   ·rename_i e;subst e;rw[hsi]at hq;cases hq
    first|rfl|rw[if_pos hia]
   ·exact hs.acc j q (by omega) hq
  ·rintro⟨s,_⟩ ⟨rfl,hs⟩;unfold CI;exact Tot.iteF (by simp) (Jix ⟨hs.felt,hs.bud,hs.most,hs.len,λ i q hq=>hs.acc i q (Az hq) hq,λ i l hl=>(hs.arcs i l hl).1 (by have:=Az hl;rw[hs.len]at this;exact this)⟩)
  ·have:l=[]:=List.eq_of_mem_replicate (Ji0 hl);subst this;exact⟨λ h=>by omega,λ h=>by subst h;exact .nil _ _ _,λ _=>rfl⟩
end Go.AI
end
section
namespace Go.AI
def KM {α:Type} (m:List (Int×α)):Prop:=m.Pairwise λ a b=>a.1<b.1
theorem KM.nd {α:Type} {m:List (Int×α)} (h:KM m):(m.map Prod.fst).Nodup:=by
 rw[List.Nodup,List.pairwise_map];exact h.imp λ h=>by omega
theorem Jbb {α:Type} {p:Int×α}:∀ {f:List (Int×α)},p∈f->(f.map Prod.fst).Nodup->AO p.1 f=some p.2
 | q::f,hp,hnd=>by
  unfold AO;rw[JiU,List.nodup_cons]at hnd;rcases List.mem_cons.1 hp with rfl|hp
  ·rw[if_pos rfl]
  ·rw[if_neg (λ e=>hnd.1 (by rw[← e];exact List.mem_map_of_mem hp))];exact Jbb hp hnd.2
theorem gin {α:Type} {x:Int} {r:α}:∀ {f:List (Int×α)},AO x f=some r->(x,r)∈f
 | q::f,hx=>by
  unfold AO at hx;split at hx
  ·rename_i e;cases hx;subst e;simp
  ·exact List.mem_cons_of_mem _ (gin hx)
theorem KM.mem {α:Type} {m:List (Int×α)} (h:KM m) (k:Int) (v:α):(k,v)∈m↔AO k m=some v:=⟨λ hm=>Jbb hm h.nd,gin⟩
theorem KM.ext {α:Type} {m m':List (Int×α)} (h:KM m) (h':KM m') (e:∀ k,AO k m=AO k m'):m=m':=by
 refine Qt ?_ h.nd (h.imp λ h=>by omega) (h'.imp λ h=>by omega);have n1:m.Nodup:=h.imp λ h e=>by subst e;omega
 have n2:m'.Nodup:=h'.imp λ h e=>by subst e;omega
 rw[List.perm_ext_iff_of_nodup n1 n2];rintro⟨k,v⟩;rw[h.mem,h'.mem,e]
theorem Pu {α:Type} (k:Int) (v:α):∀ m:List (Int×α),(BJ k v m).map Prod.fst=if k∈m.map Prod.fst then m.map Prod.fst else m.map Prod.fst++[k]
 | []=>by simp[BJ]
 | p::m=>by
  unfold BJ;by_cases e:k=p.1
  ·rw[if_pos e];simp[e]
  ·rw[if_neg e,JiU,Pu k v m];by_cases hm:k∈m.map Prod.fst
   ·rw[if_pos hm,if_pos (by simp only[JiU,List.mem_cons];exact .inr hm)];rfl
   ·rw[if_neg hm,if_neg (by simp only[JiU,List.mem_cons,not_or];exact⟨e,hm⟩)];rfl
theorem TR {α:Type} (k:Int) (v:α) (m:List (Int×α)) (h:(m.map Prod.fst).Nodup):((BJ k v m).map Prod.fst).Nodup:=by
 rw[Pu];split
 ·exact h
 ·rename_i hk;rw[List.nodup_append];refine⟨h,by simp,λ a ha b hb=>?_⟩;simp at hb;subst hb;intro e;subst e;exact hk ha
theorem TT {α:Type} {m:List (Int×α)} (h:(m.map Prod.fst).Nodup):KM (B4 m):=by
 have h2:((B4 m).map Prod.fst).Nodup:=(((D4 m).map _).nodup_iff).2 h;rw[List.Nodup,List.pairwise_map]at h2;exact((ON m).and h2).imp λ⟨h3,h4⟩=>by omega
theorem XO {α:Type} {m:List (Int×α)} (h:(m.map Prod.fst).Nodup) (k:Int):AO k (B4 m)=AO k m:=by
 have hk:=TT h;cases hg:AO k m with
 | some v=>rw[← hk.mem];exact(D4 m).mem_iff.2 (gin hg)
 | none=>
  cases hg':AO k (B4 m)with
  | none=>rfl
  | some v=>
   have:=Jbb ((D4 m).mem_iff.1 (gin hg')) h;simp only at this;rw[hg]at this;cases this
theorem Wf {α:Type} {m:List (Int×α)} (h:KM m) (k:Int) (v:α):KM (B4 (BJ k v m)):=TT (TR k v m h.nd)
theorem LI {α:Type} {m:List (Int×α)} (h:KM m) (k k':Int) (v:α):AO k' (B4 (BJ k v m))=if k'=k then some v else AO k' m:=by
 rw[XO (TR k v m h.nd),HK]
structure IQ (C:Int->Int->Prop) (m:List (Int×Int)):Prop where
 km:KM m
 lst:∀ k v,AO k m=some v->C k v/\∀ w,C k w->v<=w
 non:∀ k,AO k m=none->∀ v,¬C k v
theorem IQ.ext {C:Int->Int->Prop} {m m':List (Int×Int)} (h:IQ C m) (h':IQ C m'):m=m':=by
 refine h.km.ext h'.km λ k=>?_;cases e:AO k m with
 | none=>
  cases e':AO k m' with
  | none=>rfl
  | some v=>exact absurd (h'.lst k v e').1 (h.non k e v)
 | some v=>
  cases e':AO k m' with
  | none=>exact absurd (h.lst k v e).1 (h'.non k e' v)
  | some w=>
   have h1:=(h.lst k v e).2 w (h'.lst k w e').1;have h2:=(h'.lst k w e').2 v (h.lst k v e).1;congr 1;omega
theorem IQ.congr {C C':Int->Int->Prop} {m:List (Int×Int)} (h:IQ C m) (e:∀ k v,C k v↔C' k v):IQ C' m:=by
 have:C=C':=by funext k v;exact propext (e k v)
 subst this;exact h
theorem IQ.has {C:Int->Int->Prop} {m:List (Int×Int)} (h:IQ C m) {k v:Int} (hc:C k v):∃ w,AO k m=some w/\w<=v:=by
 cases e:AO k m with
 | none=>exact absurd hc (h.non k e v)
 | some w=>exact⟨w,rfl,(h.lst k w e).2 v hc⟩
def Jbc (k v:Int) (m:List (Int×Int)):List (Int×Int):=if((!(Option.isSome (AO k m)))||(decide (v<Option.getD (AO k m) (0:Int))))=true then B4 (BJ k v m)else m
theorem IQ.upd {C:Int->Int->Prop} {m:List (Int×Int)} (h:IQ C m) (k v:Int):IQ (λ k' v'=>C k' v'\/(k'=k/\v'=v)) (Jbc k v m):=by
 unfold Jbc;split
 ·rename_i hc;refine⟨Wf h.km k v,λ k' w hw=>?_,λ k' hn w=>?_⟩
  ·rw[LI h.km]at hw;split at hw
   ·rename_i e;cases hw;subst e;refine⟨.inr ⟨rfl,rfl⟩,λ w' hw'=>?_⟩;rcases hw' with hw'|⟨_,rfl⟩
    ·obtain⟨x,hx,hxw⟩:=h.has hw';rw[hx]at hc;simp at hc;omega
    ·exact Int.le_refl _
   ·rename_i e;obtain⟨h1,h2⟩:=h.lst k' w hw;refine⟨.inl h1,λ w' hw'=>?_⟩;rcases hw' with hw'|⟨e',_⟩
    ·exact h2 w' hw'
    ·exact absurd e' e
  ·rw[LI h.km]at hn;split at hn
   ·cases hn
   ·rename_i e;rintro (h1|⟨e',_⟩)
    ·exact h.non k' hn w h1
    ·exact e e'
 ·rename_i hc;refine⟨h.km,λ k' w hw=>?_,λ k' hn w=>?_⟩
  ·obtain⟨h1,h2⟩:=h.lst k' w hw;refine⟨.inl h1,λ w' hw'=>?_⟩;rcases hw' with hw'|⟨rfl,rfl⟩
   ·exact h2 w' hw'
   ·rw[hw]at hc;simp at hc;omega
  ·rintro (h1|⟨rfl,rfl⟩)
   ·exact h.non k' hn w h1
   ·rw[hn]at hc;simp at hc
abbrev Rws:=List (Option (Bool×List (Int×Int)))
structure RKr (L fl:Nat) (C:Nat->Int->Int->Prop) (rows:Rws):Prop where
 len:rows.length=L+1
 row:∀ p,p<=L->∃ m,rows[p]?=some (some (decide (p<fl),m))/\IQ (C p) m
theorem RKr.ext {L fl:Nat} {C:Nat->Int->Int->Prop} {a b:Rws} (h:RKr L fl C a) (h':RKr L fl C b):a=b:=by
 apply List.ext_getElem?;intro p;rcases JiO L p with h1|h1
 ·rw[Jjj (by rw[h.len];omega),Jjj (by rw[h'.len];omega)]
 ·obtain⟨m,e,hm⟩:=h.row p h1;obtain⟨m',e',hm'⟩:=h'.row p h1;rw[e,e',hm.ext hm']
theorem RKr.congr {L fl:Nat} {C C':Nat->Int->Int->Prop} {a:Rws} (h:RKr L fl C a) (e:∀ p k v,C p k v↔C' p k v):RKr L fl C' a:=by
 have:C=C':=by funext p k v;exact propext (e p k v)
 subst this;exact h
theorem RKr.rowM {L fl p:Nat} {C:Nat->Int->Int->Prop} {a:Rws} (h:RKr L fl C a) (h1:fl<=p) (h2:p<=L):∃ m,Go.AI.rowM a (p:Int)=some m/\IQ (C p) m:=by
 obtain⟨m,e,hm⟩:=h.row p h2;refine⟨m,?_,hm⟩;unfold Go.AI.rowM;rw[C3 e,show decide (p<fl)=false from by simpa using h1];rfl
theorem RKr.rowA {L fl p:Nat} {C:Nat->Int->Int->Prop} {a:Rws} (h:RKr L fl C a) (h2:p<=L):∃ m,Go.AI.rowA a (p:Int)=some (decide (p<fl),m)/\IQ (C p) m:=by
 obtain⟨m,e,hm⟩:=h.row p h2;refine⟨m,?_,hm⟩;unfold Go.AI.rowA;rw[C3 e];rfl
theorem RKr.frz {L fl:Nat} {C:Nat->Int->Int->Prop} {a:Rws} (h:RKr L fl C a) {m:List (Int×Int)} (hm:IQ (C fl) m):RKr L (fl+1) C (a.set fl (some (true,m))):=by
 refine⟨by rw[Jjf];exact h.len,λ p hp=>?_⟩;by_cases e:fl=p
 ·subst e;exact⟨m,by rw[Ji9 (by rw[h.len];omega)];simp,hm⟩
 ·obtain⟨m',e',hm'⟩:=h.row p hp;refine⟨m',?_,hm'⟩;rw[Jje e,e'];congr 3;rw[decide_eq_decide];omega
theorem RKr.upd {L fl p:Nat} {C:Nat->Int->Int->Prop} {a:Rws} (h:RKr L fl C a) (h1:fl<=p) (h2:p<=L) {m:List (Int×Int)} (hm:IQ (C p) m) (k v:Int) :
  RKr L fl (λ p' k' v'=>C p' k' v'\/(p'=p/\k'=k/\v'=v)) (a.set p (some (false,Jbc k v m))):=by
 refine⟨by rw[Jjf];exact h.len,λ p' hp=>?_⟩;by_cases e:p=p'
 ·subst e;refine⟨Jbc k v m,by rw[Ji9 (by rw[h.len];omega),show decide (p<fl)=false from by simpa using h1],(hm.upd k v).congr λ k' v'=>?_⟩;simp
 ·obtain⟨m',e',hm'⟩:=h.row p' hp;refine⟨m',by rw[Jje e,e'],hm'.congr λ k' v'=>?_⟩;constructor
  ·exact .inl
  ·rintro (h3|⟨h3,_⟩)
   ·exact h3
   ·exact absurd h3.symm e
end Go.AI
end
section
namespace Go.AI
def HO (f:AB) (c:Int):Int:=(F9 0 f c).getD 0
theorem JfZ {s:List UInt8} (h:s.all (λ b=>decide (b.toNat<=8))=true) (i:Nat):(s[i]?.getD 0).toNat<=8:=by
 cases e:s[i]? with
 | none=>simp
 | some b=>simpa using JiI.1 h b (Ji0 e)
theorem Jbd {s:List UInt8} (hl:Nat.beq s.length 256=true) (ha:s.all (λ b=>decide (b.toNat<=8))=true) {x:Int} (h:0<=x) (h':x<256):∃ v,((JZ s x).bind λ b=>some (IntKind.i64.wrap b))=some v/\0<=v/\v<=8:=by
 have hl:=Ji5 hl;have:=JfZ ha x.toNat;unfold JZ;rw[if_pos ⟨h,by omega⟩,JiE,w64 (by omega) (by omega)];exact⟨_,rfl,by omega,by omega⟩
theorem JcI {x:Int} (h:0<=x) (h':x<256):∃ v,(∀ n,CG n x=some v)/\0<=v/\v<=8:=by
 obtain⟨v,h1,h2⟩:∃ v,CG 0 x=some v/\0<=v/\v<=8:=Jbd (by kernel_rfl) (by kernel_rfl) h h';exact⟨v,λ n=>h1,h2⟩
theorem TU (f:AB) (c:Int):(∀ n,F9 n f c=some (HO f c))/\0<=HO f c/\HO f c<=8:=by
 have hr:0<=GH .u8 (S1 .u8 f.Up c) f.Maybe/\GH .u8 (S1 .u8 f.Up c) f.Maybe<256:=JaI _;obtain⟨v,h1,h2,h3⟩:=JcI hr.1 hr.2;have e:∀ n,F9 n f c=some v:=λ n=>by unfold F9;rw[h1];rfl
 have:HO f c=v:=by unfold HO;rw[e];rfl
 rw[this];exact⟨e,h2,h3⟩
def Bf:List AB->List UInt8->Int
 | f::fl,c::w=>HO f (c.toNat:Int)+Bf fl w
 | _,_=>0
theorem FU:∀ (fl:List AB) (w:List UInt8),0<=Bf fl w/\Bf fl w<=8*w.length
 | [],w=>by cases w<;>simp[Bf]<;>omega
 | f::fl,[]=>by simp[Bf]
 | f::fl,c::w=>by
  have h1:=(TU f (c.toNat:Int)).2;have h2:=FU fl w;simp only[Bf,List.length_cons];omega
theorem JT:∀ (fl:List AB) (w v:List UInt8),w.length<=fl.length->Bf fl (w++v)=Bf fl w+Bf (fl.drop w.length) v
 | fl,[],v,_=>by cases fl<;>simp[Bf]
 | [],_::_,_,h=>by simp at h
 | f::fl,c::w,v,h=>by
  simp only[List.cons_append,Bf,List.length_cons,List.drop_succ_cons];rw[JT fl w v (by simpa using h)];omega
theorem Vn (fl:List AB) (w:List UInt8) (c:UInt8) (f:AB) (h:fl[w.length]?=some f):Bf fl (w++[c])=Bf fl w+HO f (c.toNat:Int):=by
 have hl:=Az h;rw[JT fl w [c] (by omega)];have:fl.drop w.length=f::fl.drop (w.length+1):=by
  rw[List.drop_eq_getElem_cons hl];rw[JiY hl]at h;rw[Option.some.inj h]
 rw[this];simp[Bf]
theorem TV {s:Aa} {q:Nat} {w:List UInt8} (hL:s.Felt.length<=1000000) (hq:q<=s.Felt.length) :
  Tot (λ n=>C7 n (q:Int) w s) (λ r=>r=if q+w.length<=s.Felt.length then(Bf (s.Felt.drop q) w,true)else(0,false)):=by
 unfold C7;rw[VZ (by omega) (by omega)];by_cases h:q+w.length<=s.Felt.length
 ·refine Tot.iteF (by simp;omega) (Tot.bind (R:=λ y=>y=Bf (s.Felt.drop q) w) ?_ ?_)
  ·refine Tot.upto (body:=λ n (x:Int×Int)=>Cp n (q:Int) w s x.1 x.2) w.length (λ i x=>x.2=(i:Int)/\x.1=Bf (s.Felt.drop q) (w.take i)) ?_ ?_ _ ⟨rfl,by cases s.Felt.drop q<;>rfl⟩
   ·rintro i ⟨x,_⟩ hi ⟨rfl,hx⟩;simp only at hx;subst hx;unfold Cp;have hlt:q+i<s.Felt.length:=by omega
    have hf:s.Felt[q+i]?=some s.Felt[q+i]:=JiY hlt;have e1:A0 .i64 (q:Int) (i:Int)=((q+i:Nat):Int):=by rw[Lz (by omega) (by omega)];simp
    obtain⟨c1,c2,c3⟩:=TU s.Felt[q+i] ((w[i].toNat:Nat):Int);have hr:=FU (s.Felt.drop q) (w.take i);have hlt2:(w.take i).length<=1000000:=by rw[List.length_take];omega
    refine Tot.iteT (Hc hi) (Tot.bindC (by rw[e1];exact Cg hlt) (Tot.bindC (Jx (JiY hi)) (Jiz c1 (Jix ⟨DW (by omega),?_⟩))));show A0 .i64 _ _=_;rw[Lz (by omega) (by omega),List.take_add_one,JiY hi,Option.toList_some,Vn _ _ _ s.Felt[q+i] (by rw[List.length_take,Nat.min_eq_left (by omega),JiR];exact hf)]
   ·rintro⟨x,_⟩ ⟨rfl,hx⟩;simp only at hx;subst hx;unfold Cp;exact Tot.iteF (Kq _) (Jix (by show _=_;rw[List.take_length]))
  ·rintro _ rfl;exact Jix (by rw[if_pos h])
 ·exact Tot.iteT (by simp;omega) (Jix (by rw[if_neg h]))
end Go.AI
end
section
namespace Go.AI
def wb (s:Aa) (b:Rws):Aa:={ Felt:=s.Felt,Budget:=s.Budget,Most:=s.Most,Arcs:=s.Arcs,Accepts:=s.Accepts,Before:=b }
theorem SrK.wb {t:Ad} {fl:List AB} {bu mo:Int} {s:Aa} (h:SrK t fl bu mo s) (b:Rws):SrK t fl bu mo (wb s b):=⟨h.felt,h.bud,h.most,h.len,h.acc,h.arcs⟩
def R9 (s:Aa) (q:Nat) (e:Int×Int) (p:Nat) (k v:Int):Prop:=
 ∃ l a,idx s.Arcs e.1=some l/\a∈l/\p=q+a.Cells.length/\p<=s.Felt.length/\k=a.To/\v=e.2+Bf (s.Felt.drop q) a.Cells/\v<=s.Budget
structure SmS (t:Ad) (s:Aa):Prop where
 tb:TbK t
 sr:SrK t s.Felt s.Budget s.Most s
 fl:s.Felt.length<=100000
 b0:0<=s.Budget
 b1:s.Budget<=100000
theorem SmS.wb {t:Ad} {s:Aa} (h:SmS t s) (b:Rws):SmS t (wb s b):=⟨h.tb,h.sr.wb b,h.fl,h.b0,h.b1⟩
theorem SmS.arc {t:Ad} {s:Aa} (h:SmS t s) {k:Int} {l:List G4} (hl:idx s.Arcs k=some l) {a:G4} (ha:a∈l):1<=a.Cells.length/\a.Cells.length<=4/\a.Print.length<=4/\∃ j:Nat,a.To=(j:Int)/\j<(AH t).length:=by
 obtain⟨_,_,h2⟩:=Cn hl;obtain⟨j,m,hE,rfl⟩:=(h.sr.arcs _ _ h2).snd a ha;obtain⟨_,_,_,hm,hj,_⟩:=hE;obtain⟨c1,c2,c3,_⟩:=Fy h.tb hm;have:(clb t m).length=(cls t m).length:=by unfold clb;simp
 exact⟨by simp only;omega,by simp only;omega,c3,j,rfl,Az hj⟩
theorem JcJ {t:Ad} {s:Aa} (hs:SmS t s) {q:Nat} (hq:q<=s.Felt.length) {e:Int×Int} (he0:0<=e.2) (he1:e.2<=s.Budget) {l:List G4} (hl:idx s.Arcs e.1=some l) (hll:l.length<=1000) {C:Nat->Int->Int->Prop} {rows:Rws} (hr:RKr s.Felt.length (q+1) C rows) (y:Aa) (m:List (Int×Int)) :
  Tot (λ n=>whl (λ (x:Aa×Int)=>BA n y m (q:Int) e l x.1 x.2) n (wb s rows,0)) (λ r=>∃ rows',r=wb s rows'/\RKr s.Felt.length (q+1) (λ p k v=>C p k v\/R9 s q e p k v) rows'):=by
 refine Tot.upto (body:=λ n (x:Aa×Int)=>BA n y m (q:Int) e l x.1 x.2) l.length (λ i x=>x.2=(i:Int)/\∃ rows',x.1=wb s rows'/\RKr s.Felt.length (q+1) (λ p k v=>C p k v\/∃ a∈l.take i,p=q+a.Cells.length/\p<=s.Felt.length/\k=a.To/\v=e.2+Bf (s.Felt.drop q) a.Cells/\v<=s.Budget) rows') ?_ ?_ _ ⟨rfl,rows,rfl,hr.congr λ p k v=>by simp⟩
 ·rintro i ⟨x,_⟩ hi ⟨rfl,rows',hx,hr'⟩;simp only at hx;subst hx;unfold BA;obtain⟨a1,a4,_,j,hj,hjl⟩:=hs.arc hl (JiK hi);have htk:∀ a,a∈l.take (i+1)↔a∈l.take i\/a=l[i]:=λ a=>by rw[List.take_add_one,JiY hi,Option.toList_some,List.mem_append,List.mem_singleton]
  refine Tot.iteT (Hc hi) (Tot.bindC (Cg hi) (Tot.bind (TV (s:=wb s rows') (w:=l[i].Cells) (by have:=hs.fl;show s.Felt.length<=_;omega) hq) ?_));rintro r rfl;show Tot _ _;have hfl:(wb s rows').Felt=s.Felt:=rfl;rw[hfl];have hcr:=FU (s.Felt.drop q) l[i].Cells;have hb1:=hs.b1;have nx:∀ rows'',RKr s.Felt.length (q+1) (λ p k v=>C p k v\/∃ a∈l.take (i+1),p=q+a.Cells.length/\p<=s.Felt.length/\k=a.To/\v=e.2+Bf (s.Felt.drop q) a.Cells/\v<=s.Budget) rows'' ->
    Tot (λ n=>B0 n (i:Int) (wb s rows'')) (Rd2 (λ x=>x.2=((i+1:Nat):Int)/\∃ rows',x.1=wb s rows'/\RKr s.Felt.length (q+1) (λ p k v=>C p k v\/∃ a∈l.take (i+1),p=q+a.Cells.length/\p<=s.Felt.length/\k=a.To/\v=e.2+Bf (s.Felt.drop q) a.Cells/\v<=s.Budget) rows') (λ r=>∃ rows',r=wb s rows'/\RKr s.Felt.length (q+1) (λ p k v=>C p k v\/R9 s q e p k v) rows')):=λ rows'' h=>Jix ⟨DW (by omega),rows'',rfl,h⟩
  have same:¬(q+l[i].Cells.length<=s.Felt.length/\e.2+Bf (s.Felt.drop q) l[i].Cells<=s.Budget)->RKr s.Felt.length (q+1) (λ p k v=>C p k v\/∃ a∈l.take (i+1),p=q+a.Cells.length/\p<=s.Felt.length/\k=a.To/\v=e.2+Bf (s.Felt.drop q) a.Cells/\v<=s.Budget) rows':=λ hn=>hr'.congr λ p k v=>by
   constructor
   ·rintro (h|⟨a,ha,h⟩)
    ·exact .inl h
    ·exact .inr ⟨a,(htk a).2 (.inl ha),h⟩
   ·rintro (h|⟨a,ha,h⟩)
    ·exact .inl h
    ·rcases (htk a).1 ha with ha|rfl
     ·exact .inr ⟨a,ha,h⟩
     ·obtain⟨rfl,h1,_,rfl,h2⟩:=h;exact absurd ⟨h1,h2⟩ hn
  by_cases hfit:q+l[i].Cells.length<=s.Felt.length
  ·rw[if_pos hfit];have hadd:A0 .i64 e.2 (Bf (s.Felt.drop q) l[i].Cells)=e.2+Bf (s.Felt.drop q) l[i].Cells:=Lz (by omega) (by omega);have hadd2:A0 .i64 (q:Int) ((List.length l[i].Cells:Nat):Int)=((q+l[i].Cells.length:Nat):Int):=by rw[Lz (by have:=hs.fl;omega) (by have:=hs.fl;omega)];simp
   simp only[hadd,hadd2,JiL,Bool.false_or];by_cases hbu:e.2+Bf (s.Felt.drop q) l[i].Cells<=s.Budget
   ·refine Tot.iteF (by simp;exact hbu) ?_;obtain⟨m3,hm3,hrow⟩:=hr'.rowM (p:=q+l[i].Cells.length) (by omega) hfit;refine Tot.bindC hm3 ?_;have hu:=hr'.upd (p:=q+l[i].Cells.length) (by omega) hfit hrow l[i].To (e.2+Bf (s.Felt.drop q) l[i].Cells);have hu2:=hu.congr (C':=λ p k v=>C p k v\/∃ a∈l.take (i+1),p=q+a.Cells.length/\p<=s.Felt.length/\k=a.To/\v=e.2+Bf (s.Felt.drop q) a.Cells/\v<=s.Budget) λ p k v=>by
     constructor
     ·rintro ((h|⟨a,ha,h⟩)|⟨rfl,rfl,rfl⟩)
      ·exact .inl h
      ·exact .inr ⟨a,(htk a).2 (.inl ha),h⟩
      ·exact .inr ⟨l[i],(htk _).2 (.inr rfl),rfl,hfit,rfl,rfl,hbu⟩
     ·rintro (h|⟨a,ha,h⟩)
      ·exact .inl (.inl h)
      ·rcases (htk a).1 ha with ha|rfl
       ·exact .inl (.inr ⟨a,ha,h⟩)
       ·obtain⟨rfl,_,rfl,rfl,_⟩:=h;exact .inr ⟨rfl,rfl,rfl⟩
    unfold Jbc at hu2;rw[Ji7];refine Tot.ite (λ hc=>?_) λ hc=>?_
    ·rw[if_pos hc]at hu2;exact nx _ hu2
    ·rw[if_neg (by rw[hc];simp)]at hu2;exact nx _ hu2
   ·exact Tot.iteT (by simp;show s.Budget<_;omega) (nx _ (same λ h=>hbu h.2))
  ·rw[if_neg hfit];exact Tot.iteT rfl (nx _ (same λ h=>hfit h.1))
 ·rintro⟨x,_⟩ ⟨rfl,rows',hx,hr'⟩;simp only at hx;subst hx;unfold BA;refine Tot.iteF (Kq _) (Jix ⟨rows',rfl,hr'.congr λ p k v=>?_⟩);rw[List.take_length];constructor
  ·rintro (h|⟨a,ha,h⟩)
   ·exact .inl h
   ·exact .inr ⟨l,a,hl,ha,h⟩
  ·rintro (h|⟨l',a,hl',ha,h⟩)
   ·exact .inl h
   ·rw[hl]at hl';cases hl';exact .inr ⟨a,ha,h⟩
theorem JcK {t:Ad} {s:Aa} (hs:SmS t s) {q:Nat} (hq:q<=s.Felt.length) {e:Int×Int} (he0:0<=e.2) (he1:e.2<=s.Budget) (hk:∃ i:Nat,e.1=(i:Int)/\i<(AH t).length) {C:Nat->Int->Int->Prop} {rows:Rws} (hr:RKr s.Felt.length (q+1) C rows) (y:Aa) (m:List (Int×Int)) :
  Tot (λ n=>Bb n y m (q:Int) e (wb s rows)) (Rd2 (λ r=>∃ rows',r=wb s rows'/\RKr s.Felt.length (q+1) (λ p k v=>C p k v\/R9 s q e p k v) rows') (λ _=>True)):=by
 obtain⟨i,hi,hil⟩:=hk;have hlt:i<s.Arcs.length:=by rw[hs.sr.len];exact hil
 have hl:idx s.Arcs e.1=some s.Arcs[i]:=by rw[hi];exact Cg hlt
 have hA:=hs.sr.arcs i _ (JiY hlt);have hr11:=hs.tb.tab.1;unfold Bb;refine Tot.bindC (show idx (wb s rows).Arcs e.1=some s.Arcs[i]from hl) (Tot.bind (JcJ hs hq he0 he1 hl (by have:=hA.len;omega) hr y m) λ r h=>Jix h)
structure CV (t:Ad) (s:Aa) (q:Nat) (C:Nat->Int->Int->Prop) (rows:Rws):Prop where
 rk:RKr s.Felt.length q C rows
 val:∀ p k v,C p k v->(∃ i:Nat,k=(i:Int)/\i<(AH t).length)/\0<=v/\v<=s.Budget
 rt:C 0 0 0/\∀ v,C 0 0 v->v=0
 clo:∀ p,p<q->∀ m,rows[p]?=some (some (true,m))->∀ e∈m,∀ P K V,R9 s p e P K V->C P K V
theorem Pv {t:Ad} {s:Aa} (hs:SmS t s) {q:Nat} {e:Int×Int} {P:Nat} {K V:Int} (h:R9 s q e P K V):q<P/\(∃ i:Nat,K=(i:Int)/\i<(AH t).length)/\e.2<=V/\V<=s.Budget:=by
 obtain⟨l,a,hl,ha,rfl,_,rfl,rfl,h4⟩:=h;obtain⟨a1,_,_,j,hj,hjl⟩:=hs.arc hl ha;have:=FU (s.Felt.drop q) a.Cells;exact⟨by omega,⟨j,hj,hjl⟩,by omega,h4⟩
theorem JcL {t:Ad} {s:Aa} (hs:SmS t s) {q:Nat} (hq:q<=s.Felt.length) {C:Nat->Int->Int->Prop} {rows:Rws} (hc:CV t s q C rows) (y:Aa) (hy:y.Before.length=s.Felt.length+1) (m:List (Int×Int)) :
  Tot (λ n=>BB n y m (wb s rows) (q:Int)) (Rd2 (λ x=>x.2=((q+1:Nat):Int)/\∃ C' rows',x.1=wb s rows'/\CV t s (q+1) C' rows') (λ _=>False)):=by
 have hfl:=hs.fl;obtain⟨m2,hm2,hrow⟩:=hc.rk.rowA hq;have hfz:RKr s.Felt.length (q+1) C (rows.set q (some (true,m2))):=hc.rk.frz hrow;have hent:∀ e∈m2,(∃ i:Nat,e.1=(i:Int)/\i<(AH t).length)/\0<=e.2/\e.2<=s.Budget:=λ e he=>hc.val q e.1 e.2 (hrow.lst e.1 e.2 ((hrow.km.mem e.1 e.2).1 he)).1;unfold BB;refine Tot.iteT (by simp[hy];omega) ?_;refine Tot.bindC hm2 ?_;have pass:∀ o:List (Int×Int),o.Perm m2->Tot (λ n=>mapW (λ (e:Int×Int) (x:Aa)=>Bb n y m (q:Int) e x) o (wb s (rows.set q (some (true,m2))))) (Rd2 (λ r=>∃ rows',r=wb s rows'/\RKr s.Felt.length (q+1) (λ p k v=>C p k v\/∃ e∈m2,R9 s q e p k v) rows') (λ _=>True)):=λ o ho=>by
  refine(Tot.mapW (F:=λ n e x=>Bb n y m (q:Int) e x) (λ u r=>∃ rows',r=wb s rows'/\RKr s.Felt.length (q+1) (λ p k v=>C p k v\/∃ e∈u,R9 s q e p k v) rows') (λ u e v x hu hx=>?_) ⟨_,rfl,hfz.congr λ p k v=>by simp⟩).mono λ z hz=>?_
  ·obtain⟨rows',rfl,hr'⟩:=hx;have hem:e∈m2:=ho.mem_iff.1 (by rw[hu];simp);obtain⟨h1,h2,h3⟩:=hent e hem;refine(JcK hs hq h2 h3 h1 hr' y m).mono λ z hz=>?_;cases z with
   | inr z=>exact trivial
   | inl z=>
    obtain⟨rows'',e1,h4⟩:=hz;refine⟨rows'',e1,h4.congr λ p k v=>?_⟩;constructor
    ·rintro ((h|⟨e',he',h⟩)|h)
     ·exact .inl h
     ·exact .inr ⟨e',by simp[he'],h⟩
     ·exact .inr ⟨e,by simp,h⟩
    ·rintro (h|⟨e',he',h⟩)
     ·exact .inl (.inl h)
     ·rcases List.mem_append.1 he' with he'|he'
      ·exact .inl (.inr ⟨e',he',h⟩)
      ·simp only[List.mem_singleton]at he';subst he';exact .inr h
  ·cases z with
   | inr z=>exact trivial
   | inl z=>
    obtain⟨rows',e1,h4⟩:=hz;refine⟨rows',e1,h4.congr λ p k v=>?_⟩;constructor
    ·rintro (h|⟨e',he',h⟩)
     ·exact .inl h
     ·exact .inr ⟨e',ho.mem_iff.1 he',h⟩
    ·rintro (h|⟨e',he',h⟩)
     ·exact .inl h
     ·exact .inr ⟨e',ho.mem_iff.2 he',h⟩
 obtain⟨z0,hz0,_⟩:=pass m2 (List.Perm.refl _);cases z0 with
 | inr z=>exact nomatch z
 | inl z0=>
  obtain⟨rows0,rfl,h0⟩:=hz0;refine Tot.demP (.inl (wb s rows0,((q+1:Nat):Int))) (λ o ho=>?_) ⟨rfl,_,rows0,rfl,h0,?_,?_,?_⟩
  ·refine Tot.bind (pass o ho) ?_;rintro (z|z) hz
   ·obtain⟨rows',rfl,h'⟩:=hz;have:=h'.ext h0;subst this;exact Jix (by rw[DW (by omega)])
   ·exact nomatch z
  ·rintro p k v (h|⟨e,he,h⟩)
   ·exact hc.val p k v h
   ·obtain⟨h1,h2,h3,h4⟩:=Pv hs h;exact⟨h2,by have:=(hent e he).2.1;omega,h4⟩
  ·refine⟨.inl hc.rt.1,λ v hv=>?_⟩;rcases hv with h|⟨e,he,h⟩
   ·exact hc.rt.2 v h
   ·have:=(Pv hs h).1;omega
  ·intro p hp m' hm' e he P K V hx;have hsame:∀ k v,(C p k v\/∃ e∈m2,R9 s q e p k v)↔C p k v:=λ k v=>by
    constructor
    ·rintro (h|⟨e,_,h⟩)
     ·exact h
     ·have:=(Pv hs h).1;omega
    ·exact .inl
   obtain⟨m'',e'',hm''⟩:=h0.row p (by omega);rw[e'',decide_eq_true (show p<q+1 by omega)]at hm';cases hm';have hm3:=hm''.congr hsame;rcases JiO p q with h1|h1
   ·obtain⟨m4,e4,hm4⟩:=hc.rk.row p (by omega);rw[hm4.ext hm3,decide_eq_true h1]at e4;exact .inl (hc.clo p h1 _ e4 e he P K V hx)
   ·have:p=q:=by omega
    subst this;rw[hm3.ext hrow]at he;exact .inr ⟨e,he,hx⟩
structure FwK (t:Ad) (s:Aa) (rows:Rws):Prop where
 cv:∃ C,CV t s (s.Felt.length+1) C rows
theorem Vo {t:Ad} {s:Aa} (hs:SmS t s):Tot (λ n=>CZ n s) (λ r=>∃ rows,r=wb s rows/\FwK t s rows):=by
 have hfl:=hs.fl;have hadd:A0 .i64 ((s.Felt.length:Nat):Int) 1=((s.Felt.length+1:Nat):Int):=DW (by omega);unfold CZ;rw[hadd];refine Tot.bindC (JaJ (by omega) (by rw[Ji7];omega)) ?_;rw[Ji7];refine Tot.bind (R:=λ y=>y=wb s (List.replicate (s.Felt.length+1) (some (false,[])))) ?_ ?_
 ·refine Tot.upto (body:=λ n (x:Aa×Int)=>BZ n (List.replicate (s.Felt.length+1) none) x.1 x.2) (s.Felt.length+1) (λ i x=>x.2=(i:Int)/\x.1=wb s (List.replicate i (some (false,[]))++List.replicate (s.Felt.length+1-i) none)) ?_ ?_ _ ⟨rfl,rfl⟩
  ·rintro i ⟨x,_⟩ hi ⟨rfl,hx⟩;simp only at hx;subst hx;unfold BZ;have hlt:i<(wb s (List.replicate i (some (false,[]))++List.replicate (s.Felt.length+1-i) none)).Before.length:=by show i<(List.replicate i _++List.replicate _ _).length;simp;omega
   refine Tot.iteT (by simp;omega) (Tot.bindC (Cg hlt) (Jix ⟨DW (by omega),?_⟩));show wb s _=wb s _;congr 1;rw[Ji7];obtain⟨d,hd⟩:∃ d,s.Felt.length+1-i=d+1:=⟨s.Felt.length-i,by omega⟩;rw[show s.Felt.length+1-(i+1)=d by omega];show(List.replicate i _++List.replicate (s.Felt.length+1-i) none).set i _=_;rw[hd,List.replicate_succ];have:=NF (List.replicate i (some (false,([]:List (Int×Int))))) (List.replicate d none) none (some (false,[]));rw[List.length_replicate]at this;rw[this,List.replicate_succ'];simp
  ·rintro⟨x,_⟩ ⟨rfl,hx⟩;simp only at hx;subst hx;unfold BZ;refine Tot.iteF (by simp) (Jix ?_);show wb s _=wb s _;simp
 ·rintro _ rfl;have hrow0:rowM (wb s (List.replicate (s.Felt.length+1) (some (false,([]:List (Int×Int)))))).Before 0=some []:=by
   unfold rowM;rw[show idx (wb s (List.replicate (s.Felt.length+1) (some (false,([]:List (Int×Int)))))).Before 0=some (some (false,[]))from rfl];rfl
  refine Tot.bindC hrow0 (Tot.bind (R:=λ r=>∃ rows,r=wb s rows/\FwK t s rows) ?_ λ r hr=>Jix hr);refine Tot.upto (body:=λ n (x:Aa×Int)=>BB n (wb s (List.replicate (s.Felt.length+1) (some (false,[])))) [] x.1 x.2) (s.Felt.length+1) (λ i x=>x.2=(i:Int)/\∃ C rows,x.1=wb s rows/\CV t s i C rows) ?_ ?_ _ ⟨rfl,λ p k v=>p=0/\k=0/\v=0,(List.replicate (s.Felt.length+1) (some (false,[]))).set 0 (some (false,[(0,0)])),rfl,?_,?_,?_,λ p hp=>by omega⟩
  ·rintro i ⟨x,_⟩ hi ⟨rfl,C,rows,hx,hc⟩;simp only at hx;subst hx;refine(JcL hs (by omega) hc _ (by show(List.replicate _ _).length=_;simp) []).mono λ z hz=>?_;cases z with
   | inl z=>exact hz
   | inr z=>exact hz.elim
  ·rintro⟨x,_⟩ ⟨rfl,C,rows,hx,hc⟩;simp only at hx;subst hx;unfold BB;refine Tot.iteF (by show decide (_<((List.length ((List.replicate _ _).set _ _):Nat):Int))=false;simp) (Jix ⟨rows,rfl,⟨C,hc⟩⟩)
  ·refine⟨by simp,λ p hp=>?_⟩;by_cases e:p=0
   ·subst e;refine⟨[(0,0)],by simp,List.pairwise_singleton _ _,λ k v h=>?_,λ k h v hh=>?_⟩
    ·simp only[AO]at h;split at h
     ·cases h;rename_i e;subst e;exact⟨⟨rfl,rfl,rfl⟩,λ w hw=>by rw[hw.2.2];exact Int.le_refl _⟩
     ·cases h
    ·simp only[AO]at h;rw[if_pos hh.2.1]at h;cases h
   ·refine⟨[],?_,List.Pairwise.nil,λ k v h=>(by cases h),λ k _ v h=>e h.1⟩;rw[Jje (Ne.symm e),List.getElem?_replicate,if_pos (by omega)];rfl
  ·rintro p k v ⟨rfl,rfl,rfl⟩;exact⟨⟨0,rfl,by have:=(Ei hs.tb.tab).1.first;exact Az this⟩,Int.le_refl _,hs.b0⟩
  ·exact⟨⟨rfl,rfl,rfl⟩,λ v h=>h.2.2⟩
end Go.AI
end
section
namespace Go.AI
inductive Rdg (t:Ad):Nat->List AB->Af->Prop
 | nil (i:Nat) (q:Ae) (h:(AH t)[i]?=some q) (ha:Bj t q=true):Rdg t i [] ⟨0,[],[]⟩
 | arc (i k j:Nat) (fl:List AB) (r:Af) (h:Edge t (AH t) i k j) (hl:(clb t k).length<=fl.length) (hr:Rdg t j (fl.drop (clb t k).length) r):Rdg t i fl ⟨Bf fl (clb t k)+r.Cost,prt t k++r.Text,clb t k++r.Cells⟩
theorem E1 (t:Ad) (k:Nat):(clb t k).length=(cls t k).length:=by unfold clb;simp
theorem Rdg.len {t:Ad} (ht:TbK t) {i:Nat} {fl:List AB} {r:Af} (h:Rdg t i fl r):r.Cells.length=fl.length/\r.Text.length<=4*fl.length/\0<=r.Cost:=by
 induction h with
 | nil=>simp
 | arc i k j fl r h hl hr ih=>
  obtain⟨_,_,_,hk,_,_⟩:=h;obtain⟨c1,c2,c3,_⟩:=Fy ht hk;have h1:=FU fl (clb t k);rw[List.length_drop]at ih;rw[E1]at hl ih;simp only[List.length_append,E1];omega
abbrev Lws:=List (Option (Bool×List (Int×List Af)))
def My (ls:Lws) (p:Nat):List (Int×List Af):=match ls[p % 5]? with
 | some (some (_,m))=>m
 | _=>[]
structure Iv (t:Ad) (s:Aa) (M:Nat) (u:List (Int×Int)) (p:Nat) (mm:List (Int×List Af)):Prop where
 km:KM mm
 som:∀ k l,AO k mm=some l->l≠[]/\∃ (i:Nat) (σ:Int),k=(i:Int)/\(k,σ)∈u/\Bst (Rdg t i (s.Felt.drop p)) (s.Budget-σ) M l
 non:∀ k,AO k mm=none->∀ (i:Nat) (σ:Int),k=(i:Int)->(k,σ)∈u->Bst (Rdg t i (s.Felt.drop p)) (s.Budget-σ) M []
theorem Bst.uniq {T:Af->Prop} {B:Int} {M:Nat} {l l':List Af} (h:Bst T B M l) (h':Bst T B M l'):l=l':=by
 rw[h.take h' (JiN _)];exact List.take_of_length_le h'.len
theorem Iv.ext {t:Ad} {s:Aa} {M:Nat} {u:List (Int×Int)} {p:Nat} {a b:List (Int×List Af)} (hu:(u.map Prod.fst).Nodup) (h:Iv t s M u p a) (h':Iv t s M u p b):a=b:=by
 have one:∀ k σ σ',(k,σ)∈u->(k,σ')∈u->σ=σ':=λ k σ σ' h1 h2=>by
  have e1:=Jbb h1 hu;have e2:=Jbb h2 hu;simp only at e1 e2;rw[e1]at e2;exact Option.some.inj e2
 refine h.km.ext h'.km λ k=>?_;cases e:AO k a with
 | none=>
  cases e':AO k b with
  | none=>rfl
  | some l=>
   obtain⟨h1,i,σ,hi,hm,hb⟩:=h'.som k l e';exact absurd (hb.uniq (h.non k e i σ hi hm)) h1
 | some l=>
  obtain⟨h1,i,σ,hi,hm,hb⟩:=h.som k l e;cases e':AO k b with
  | none=>exact absurd (hb.uniq (h'.non k e' i σ hi hm)) h1
  | some l'=>
   obtain⟨_,i',σ',hi',hm',hb'⟩:=h'.som k l' e';have hii:i=i':=by omega
   subst hii;rw[one k σ σ' hm hm']at hb;rw[hb.uniq hb']
theorem Iv.congr {t:Ad} {s:Aa} {M:Nat} {u u':List (Int×Int)} {p:Nat} {a:List (Int×List Af)} (h:Iv t s M u p a) (e:∀ x,x∈u↔x∈u'):Iv t s M u' p a:=
 ⟨h.km,λ k l hl=>by obtain⟨h1,i,σ,h2,h3,h4⟩:=h.som k l hl;exact⟨h1,i,σ,h2,(e _).1 h3,h4⟩,λ k hk i σ hi hm=>h.non k hk i σ hi ((e _).2 hm)⟩
def hdA (s:Aa) (q:Nat) (ls:Lws) (a:G4):Ah:={ Arc:=a,More:=Bf (s.Felt.drop q) a.Cells,List:=Option.getD (AO a.To (My ls (q+a.Cells.length))) [],First:=⟨0,[],[]⟩ }
def hdO (s:Aa) (q:Nat) (ls:Lws) (a:G4):Option Ah:=if q+a.Cells.length<=s.Felt.length then some (hdA s q ls a)else none
structure LK (s:Aa) (q:Nat) (ls:Lws):Prop where
 len:ls.length=5
 row:∀ p,q<=p->p<=s.Felt.length->p<q+5->∃ mm,ls[p % 5]?=some (some (false,mm))
theorem LK.rowM {s:Aa} {q p:Nat} {ls:Lws} (h:LK s q ls) (h1:q<=p) (h2:p<=s.Felt.length) (h3:p<q+5):Go.AI.rowM ls ((p % 5:Nat):Int)=some (My ls p)/\ls.set (p % 5) (some (false,My ls p))=ls:=by
 obtain⟨mm,e⟩:=h.row p h1 h2 h3;have em:My ls p=mm:=by unfold My;rw[e]
 rw[em];refine⟨by unfold Go.AI.rowM;rw[C3 e];rfl,?_⟩;apply List.ext_getElem?;intro j;by_cases ej:p % 5=j
 ·subst ej;rw[Ji9 (by rw[h.len];omega),e]
 ·rw[Jje ej]
theorem TW (p:Nat):A8 (p:Int) 5=((p % 5:Nat):Int):=by
 rw[(Qx (by omega) (by omega)).1];omega
theorem Jbe {t:Ad} {s:Aa} (hs:SmS t s) {q:Nat} (hq:q<=s.Felt.length) {ls:Lws} (hls:LK s (q+1) ls) {i:Nat} {l:List G4} (hl:s.Arcs[i]?=some l) (rows:Rws) (e:Int×Int) (h0:List Ah) (h01:h0.length<=1) :
  Tot (λ n=>whl (λ (x:Lws×List Ah×Int)=>Bs n (q:Int) (wb s rows) e l x.1 x.2.1 x.2.2) n (ls,h0,0)) (λ r=>r=(ls,h0++l.filterMap (hdO s q ls))):=by
 have hA:=hs.sr.arcs i _ hl;have hr11:=hs.tb.tab.1;have hfl:=hs.fl;have hll:l.length<=11:=by have:=hA.len;omega
 refine Tot.upto (body:=λ n (x:Lws×List Ah×Int)=>Bs n (q:Int) (wb s rows) e l x.1 x.2.1 x.2.2) l.length (λ m x=>x.2.2=(m:Int)/\x.1=ls/\x.2.1=h0++(l.take m).filterMap (hdO s q ls)) ?_ ?_ _ ⟨rfl,rfl,by simp⟩
 ·rintro m ⟨x,hh,_⟩ hm ⟨rfl,hx,hhh⟩;simp only at hx hhh;subst hx;subst hhh;unfold Bs;have hidx:idx s.Arcs (i:Int)=some l:=C3 hl;obtain⟨a1,a4,_,j,hj,hjl⟩:=hs.arc hidx (JiK hm);refine Tot.iteT (Hc hm) (Tot.bindC (Cg hm) (Tot.bind (TV (s:=wb s rows) (w:=l[m].Cells) (by show s.Felt.length<=_;omega) hq) ?_));rintro r rfl;have hfl2:(wb s rows).Felt=s.Felt:=rfl;rw[hfl2];have htk:(l.take (m+1)).filterMap (hdO s q x)=(l.take m).filterMap (hdO s q x)++(hdO s q x l[m]).toList:=by
   rw[List.take_add_one,JiY hm,Option.toList_some,List.filterMap_append];congr 1
  have hlen:(h0++(l.take m).filterMap (hdO s q x)).length<=1+11:=by
   have:=List.length_filterMap_le (hdO s q x) (l.take m);simp only[List.length_append,List.length_take]at this⊢;omega
  by_cases hfit:q+l[m].Cells.length<=s.Felt.length
  ·rw[if_pos hfit];have hadd2:A0 .i64 (q:Int) ((List.length l[m].Cells:Nat):Int)=((q+l[m].Cells.length:Nat):Int):=by rw[Lz (by omega) (by omega)];simp
   refine Tot.iteT rfl ?_;simp only[hadd2,TW];obtain⟨e1,e2⟩:=hls.rowM (p:=q+l[m].Cells.length) (by omega) hfit (by omega);refine Tot.bindC e1 (Tot.bindC (Ct (by simp;omega)) (Tot.bindC (Ir (by simp only[List.length_cons,List.length_nil];omega)) ?_));rw[Ji7,e2];refine Jix ⟨DW (by omega),rfl,?_⟩;rw[htk];unfold hdO;rw[if_pos hfit];simp[hdA]
  ·rw[if_neg hfit];refine Tot.iteF rfl (Jix ⟨DW (by omega),rfl,?_⟩);rw[htk];unfold hdO;rw[if_neg hfit];simp
 ·rintro⟨x,hh,_⟩ ⟨rfl,hx,hhh⟩;simp only at hx hhh;subst hx;subst hhh;unfold Bs;refine Tot.iteF (Kq _) (Jix (by show _=_;rw[List.take_length]))
end Go.AI
end
section
namespace Go.AI
theorem JcM {h:Ah} (hp:h.List.Pairwise klr):(gam h).Pairwise klr:=by
 unfold gam;rw[List.pairwise_map];refine hp.imp λ {a b} hk=>?_;rcases hk with hk|⟨hk,h2⟩
 ·exact .inl (by show h.More+a.Cost<h.More+b.Cost;omega)
 ·exact .inr ⟨by show h.More+a.Cost=h.More+b.Cost;omega,(R6 _).2 h2⟩
theorem JcN {h:Ah} (hp:h.List.Pairwise λ a b=>a.Text≠b.Text):(gam h).Pairwise λ a b=>a.Text≠b.Text:=by
 unfold gam;rw[List.pairwise_map];exact hp.imp λ {a b} hk e=>hk (List.append_cancel_left e)
theorem Bst.tx {T:Af->Prop} {B:Int} {M:Nat} {l:List Af} (h:Bst T B M l):l.Pairwise λ a b=>a.Text≠b.Text:=
 List.Pairwise.imp_of_mem (λ {a b} ha hb hab e=>by
  have:=h.dst a ha b hb e;subst this;exact CB _ hab) h.srt
theorem Jf0 {h:Ah} {a b:Af} (hl:le2 a b):le2 (mpR h a) (mpR h b):=by
 rcases hl with hl|⟨hl,h2⟩
 ·exact .inl (by show h.More+a.Cost<h.More+b.Cost;omega)
 ·exact .inr ⟨by show h.More+a.Cost=h.More+b.Cost;omega,λ h3=>h2 ((R6 _).1 h3)⟩
theorem Jf1 {h:Ah} {a b:Af} (hl:klr a b):klr (mpR h a) (mpR h b):=by
 rcases hl with hk|⟨hk,h2⟩
 ·exact .inl (by show h.More+a.Cost<h.More+b.Cost;omega)
 ·exact .inr ⟨by show h.More+a.Cost=h.More+b.Cost;omega,(R6 _).2 h2⟩
def hd0:Ah:={ Arc:=⟨[],[],0⟩,More:=0,List:=[⟨0,[],[]⟩],First:=⟨0,[],[]⟩ }
def LV (t:Ad) (s:Aa) (M:Nat) (rows:Rws) (q:Nat) (ls:Lws):Prop:=
 ls.length=5/\∀ p m,q<p->p<=s.Felt.length->p<q+5->rows[p]?=some (some (true,m))->∃ mm,ls[p % 5]?=some (some (false,mm))/\Iv t s M m p mm
theorem LV.set {t:Ad} {s:Aa} {M:Nat} {rows:Rws} {q:Nat} {ls:Lws} (h:LV t s M rows q ls) (x:Option (Bool×List (Int×List Af))):LV t s M rows q (ls.set (q % 5) x):=by
 refine⟨by rw[Jjf];exact h.1,λ p m h1 h2 h3 h4=>?_⟩;obtain⟨mm,e,hm⟩:=h.2 p m h1 h2 h3 h4;exact⟨mm,by rw[Jje (by omega)];exact e,hm⟩
theorem RKr.at {L fl p:Nat} {C:Nat->Int->Int->Prop} {a:Rws} (h:RKr L fl C a) (h1:p<fl) (h2:p<=L):∃ m,a[p]?=some (some (true,m))/\IQ (C p) m:=by
 obtain⟨m,e,hm⟩:=h.row p h2;rw[decide_eq_true h1]at e;exact⟨m,e,hm⟩
theorem XP {t:Ad} {s:Aa} (hs:SmS t s) {M:Nat} (hM:s.Most=(M:Int)) (hM0:1<=M) (hM1:M<=1000) {C:Nat->Int->Int->Prop} {rows:Rws} (hc:CV t s (s.Felt.length+1) C rows) {q:Nat} (hq:q<=s.Felt.length) {m:List (Int×Int)} (hm:rows[q]?=some (some (true,m)))
  {i:Nat} {σ:Int} (he:((i:Int),σ)∈m) {g:Ae} (hg:(AH t)[i]?=some g) {l:List G4} (hl:s.Arcs[i]?=some l) {ls:Lws} (hls:LV t s M rows q ls) (rows':Rws) :
  Tot (λ n=>CJ n (s.Budget-σ) (wb s rows') ((if q=s.Felt.length/\Bj t g=true then [hd0]else [])++l.filterMap (hdO s q ls))) (Bst (Rdg t i (s.Felt.drop q)) (s.Budget-σ) M):=by
 have hA:=hs.sr.arcs i _ hl;have hr11:=hs.tb.tab.1;have hfl:=hs.fl;have hb0:=hs.b0;have hb1:=hs.b1;have hhd:∀ h∈(if q=s.Felt.length/\Bj t g=true then [hd0]else [])++l.filterMap (hdO s q ls),(h=hd0/\q=s.Felt.length/\Bj t g=true) \/
   ∃ k j:Nat,Edge t (AH t) i k j/\q+(clb t k).length<=s.Felt.length/\h.Arc=⟨prt t k,clb t k,(j:Int)⟩/\h.More=Bf (s.Felt.drop q) (clb t k)/\(h.List=[]\/∃ σ',0<=σ'/\Bst (Rdg t j (s.Felt.drop (q+(clb t k).length))) (s.Budget-σ') M h.List):=λ h hh=>by
  rcases List.mem_append.1 hh with hh|hh
  ·split at hh
   ·rename_i hx;simp only[List.mem_singleton]at hh;exact .inl ⟨hh,hx.1,hx.2⟩
   ·simp at hh
  ·right;obtain⟨a,ha,e⟩:=List.mem_filterMap.1 hh;unfold hdO at e;split at e
   ·rename_i hfit;cases e;obtain⟨j,k,hE,rfl⟩:=hA.snd a ha;have hk4:=Fy hs.tb hE.choose_spec.choose_spec.2.1;simp only at hfit;refine⟨k,j,hE,hfit,rfl,rfl,?_⟩;obtain⟨mp,emp,hrp⟩:=hc.rk.at (p:=q+(clb t k).length) (by omega) hfit;obtain⟨mm,emm,hmm⟩:=hls.2 (q+(clb t k).length) mp (by rw[E1];omega) hfit (by rw[E1];omega) emp;have:My ls (q+(clb t k).length)=mm:=by unfold My;rw[emm]
    show Option.getD (AO (j:Int) (My ls (q+(clb t k).length))) []=[]\/_;rw[this];cases e3:AO (j:Int) mm with
    | none=>exact .inl rfl
    | some x=>
     right;obtain⟨_,j',σ',hj',hmem,hb⟩:=hmm.som _ _ e3;have:j=j':=by omega
     subst this;have hv:=hc.val _ _ _ (hrp.lst _ _ ((hrp.km.mem _ _).1 hmem)).1;refine⟨σ',hv.2.1,?_⟩;show Bst _ _ _ (Option.getD (AO (j:Int) (My ls (q+(clb t k).length))) []);rw[‹My ls _=mm›,e3];exact hb
   ·cases e
 have hlen:((if q=s.Felt.length/\Bj t g=true then [hd0]else [])++l.filterMap (hdO s q ls)).length<=12:=by
  have h1:=List.length_filterMap_le (hdO s q ls) l;have h2:=hA.len;rw[List.length_append];split<;>simp<;>omega
 have hBst:∀ h∈(if q=s.Felt.length/\Bj t g=true then [hd0]else [])++l.filterMap (hdO s q ls),h.List.Pairwise klr/\h.List.Pairwise λ a b=>a.Text≠b.Text:=λ h hh=>by
  rcases hhd h hh with⟨rfl,_⟩|⟨k,j,_,_,_,_,e|⟨σ',_,hb⟩⟩
  ·exact⟨List.pairwise_singleton _ _,List.pairwise_singleton _ _⟩
  ·rw[e];exact⟨List.Pairwise.nil,List.Pairwise.nil⟩
  ·exact⟨hb.srt,hb.tx⟩
 refine Ja9 (s:=wb s rows') hM hM1 (by omega) (λ h hh=>?_) (λ h hh c hc'=>?_) (λ h hh=>JcM (hBst h hh).1) (λ h hh=>JcN (hBst h hh).2) λ r hr hrB=>?_
 ·rcases hhd h hh with⟨rfl,_⟩|⟨k,j,hE,hfit,ea,em,hl'⟩
  ·exact⟨Int.le_refl _,by decide,by decide,by decide,λ r hr=>by
    have:r=⟨0,[],[]⟩:=by simpa [hd0]using hr
    subst this;exact⟨Int.le_refl _,by decide,by decide,by decide⟩⟩
  ·obtain⟨_,_,_,hk,_,_⟩:=hE;obtain⟨c1,c2,c3,_⟩:=Fy hs.tb hk;have h1:=FU (s.Felt.drop q) (clb t k);rw[E1]at h1;refine⟨by rw[em];omega,by rw[em];omega,by rw[ea];show(prt t k).length<=_;omega,by rw[ea];show(clb t k).length<=_;rw[E1];omega,λ r hr=>?_⟩;rcases hl' with e|⟨σ',h0,hb⟩
   ·rw[e]at hr;simp at hr
   ·obtain⟨h2,h3⟩:=hb.snd r hr;obtain⟨h4,h5,h6⟩:=h2.len hs.tb;rw[List.length_drop]at h4 h5;exact⟨h6,by omega,by omega,by omega⟩
 ·obtain⟨r,hr,rfl⟩:=JiQ.1 hc';rcases hhd h hh with⟨rfl,e1,e2⟩|⟨k,j,hE,hfit,ea,em,hl'⟩
  ·have:r=⟨0,[],[]⟩:=by simpa [hd0]using hr
   subst this;rw[e1,List.drop_length];exact .nil i g hg e2
  ·rcases hl' with e|⟨σ',h0,hb⟩
   ·rw[e]at hr;simp at hr
   ·obtain⟨h2,_⟩:=hb.snd r hr;have:=Rdg.arc i k j (s.Felt.drop q) r hE (by rw[List.length_drop];omega) (by rw[List.drop_drop];exact h2);unfold mpR;rw[ea,em];exact this
 ·generalize hfd:s.Felt.drop q=fd at hr;cases hr with
  | nil _ g' hg' ha=>
   have e1:q=s.Felt.length:=by have:=congrArg List.length hfd;simp at this;omega
   rw[hg]at hg';cases hg';refine⟨hd0,by rw[if_pos ⟨e1,ha⟩];simp,by simp[hd0],.inl ⟨⟨0,[],[]⟩,by simp[gam,hd0,mpR],rfl,TN _⟩⟩
  | arc _ k j _ r' hE hl2 hr'=>
   subst hfd;rw[List.length_drop]at hl2;rw[List.drop_drop]at hr';have hfit:q+(clb t k).length<=s.Felt.length:=by
    have:=(Fy hs.tb hE.choose_spec.choose_spec.2.1).1;rw[← E1]at this;omega
   have hk4:=Fy hs.tb hE.choose_spec.choose_spec.2.1;have hmem:(⟨prt t k,clb t k,(j:Int)⟩:G4)∈l:=hA.cov k j hE.choose_spec.choose_spec.2.1 hE;have hhm:hdA s q ls ⟨prt t k,clb t k,(j:Int)⟩∈(if q=s.Felt.length/\Bj t g=true then [hd0]else [])++l.filterMap (hdO s q ls):=by
    refine List.mem_append_right _ (List.mem_filterMap.2 ⟨_,hmem,?_⟩);unfold hdO;rw[if_pos hfit]
   have hr0:=(hr'.len hs.tb).2.2;simp only at hrB;have hx:R9 s q ((i:Int),σ) (q+(clb t k).length) (j:Int) (σ+Bf (s.Felt.drop q) (clb t k)):=⟨l,_,C3 hl,hmem,rfl,hfit,rfl,rfl,by omega⟩;have hC:=hc.clo q (by omega) m hm _ he _ _ _ hx;obtain⟨mp,emp,hrp⟩:=hc.rk.at (p:=q+(clb t k).length) (by omega) hfit;obtain⟨w,hw,hwle⟩:=hrp.has hC;obtain⟨mm,emm,hmm⟩:=hls.2 (q+(clb t k).length) mp (by rw[E1];omega) hfit (by rw[E1];omega) emp;have emA:My ls (q+(clb t k).length)=mm:=by unfold My;rw[emm]
   have hwm:=(hrp.km.mem _ _).2 hw;have hlst:(hdA s q ls ⟨prt t k,clb t k,(j:Int)⟩).List=Option.getD (AO (j:Int) mm) []:=by
    show Option.getD (AO (j:Int) (My ls (q+(clb t k).length))) []=_;rw[emA]
   have hmp:∀ x,mpR (hdA s q ls ⟨prt t k,clb t k,(j:Int)⟩) x=⟨Bf (s.Felt.drop q) (clb t k)+x.Cost,prt t k++x.Text,clb t k++x.Cells⟩:=λ x=>rfl;cases e3:AO (j:Int) mm with
   | none=>
    have hb:=hmm.non _ e3 j w rfl hwm;rcases hb.cov r' hr' (by omega)with⟨x,hx',_⟩|⟨h2,_⟩
    ·simp at hx'
    ·simp at h2;omega
   | some x=>
    obtain⟨hne,j',σ',hj',hmem',hb⟩:=hmm.som _ _ e3;have:j=j':=by omega
    subst this;have hσ:σ'=w:=by
     have:=(hrp.km.mem _ _).1 hmem';rw[hw]at this;exact(Option.some.inj this).symm
    subst hσ;rw[e3,JiJ]at hlst;refine⟨_,hhm,by rw[hlst];exact hne,?_⟩;rw[← hmp r'];rcases hb.cov r' hr' (by omega)with⟨y,hy,hyt,hyle⟩|⟨h2,h3⟩
    ·exact .inl ⟨mpR _ y,by unfold gam;rw[hlst];exact List.mem_map_of_mem hy,by show prt t k++y.Text=prt t k++r'.Text;rw[hyt],Jf0 hyle⟩
    ·refine .inr ⟨by unfold gam;rw[hlst,JiT];exact h2,λ c hc'=>?_⟩;unfold gam at hc';rw[hlst]at hc';obtain⟨y,hy,rfl⟩:=JiQ.1 hc';exact Jf1 (h3 y hy)
end Go.AI
end
section
namespace Go.AI
theorem Iv.put {t:Ad} {s:Aa} {M:Nat} {u:List (Int×Int)} {q:Nat} {mm:List (Int×List Af)} (h:Iv t s M u q mm) {i:Nat} {σ:Int} {l:List Af} (hb:Bst (Rdg t i (s.Felt.drop q)) (s.Budget-σ) M l) (hu:((u++[((i:Int),σ)]).map Prod.fst).Nodup) :
  Iv t s M (u++[((i:Int),σ)]) q (if l=[]then mm else B4 (BJ (i:Int) l mm)):=by
 have hnew:∀ σ',((i:Int),σ') ∉ u:=λ σ' hm=>by
  rw[List.map_append,List.nodup_append]at hu;exact hu.2.2 (i:Int) (JiQ.2 ⟨_,hm,rfl⟩) (i:Int) (by simp) rfl
 split
 ·rename_i hl;subst hl;refine⟨h.km,λ k l hl=>?_,λ k hk j τ hj hm=>?_⟩
  ·obtain⟨h1,j,τ,h2,h3,h4⟩:=h.som k l hl;exact⟨h1,j,τ,h2,List.mem_append_left _ h3,h4⟩
  ·rcases List.mem_append.1 hm with hm|hm
   ·exact h.non k hk j τ hj hm
   ·simp only[List.mem_singleton,Prod.mk.injEq]at hm;obtain⟨rfl,rfl⟩:=hm;have:i=j:=by omega
    subst this;exact hb
 ·rename_i hl;refine⟨Wf h.km _ _,λ k l' hl'=>?_,λ k hk j τ hj hm=>?_⟩
  ·rw[LI h.km]at hl';split at hl'
   ·rename_i e;cases hl';subst e;exact⟨hl,i,σ,rfl,by simp,hb⟩
   ·obtain⟨h1,j,τ,h2,h3,h4⟩:=h.som k l' hl';exact⟨h1,j,τ,h2,List.mem_append_left _ h3,h4⟩
  ·rw[LI h.km]at hk;split at hk
   ·cases hk
   ·rename_i e;rcases List.mem_append.1 hm with hm|hm
    ·exact h.non k hk j τ hj hm
    ·simp only[List.mem_singleton,Prod.mk.injEq]at hm;exact absurd hm.1 e
theorem JcO {t:Ad} {s:Aa} (hs:SmS t s) {M:Nat} (hM:s.Most=(M:Int)) (hM0:1<=M) (hM1:M<=1000) {C:Nat->Int->Int->Prop} {rows:Rws} (hc:CV t s (s.Felt.length+1) C rows) {q:Nat} (hq:q<=s.Felt.length) {m:List (Int×Int)} (hm:rows[q]?=some (some (true,m))) (hrow:IQ (C q) m)
  {u:List (Int×Int)} {e:Int×Int} (he:e∈m) (hu:((u++[e]).map Prod.fst).Nodup) {ls:Lws} (hls:LV t s M rows q ls) {mm:List (Int×List Af)} (hmm:Iv t s M u q mm) :
  Tot (λ n=>A7 n (q:Int) e (wb s rows) (ls.set (q % 5) (some (false,mm)))) (Rd2 (λ r=>∃ mm',r=(wb s rows,ls.set (q % 5) (some (false,mm')))/\Iv t s M (u++[e]) q mm') (λ _=>True)):=by
 obtain⟨k,σ⟩:=e;obtain⟨⟨i,rfl,hil⟩,h0,h1⟩:=hc.val q k σ (hrow.lst k σ ((hrow.km.mem k σ).1 he)).1;obtain⟨g,hg⟩:∃ g,(AH t)[i]?=some g:=⟨_,JiY hil⟩;have hal:i<s.Arcs.length:=by rw[hs.sr.len];exact hil
 have hl:=JiY hal;have hfl:=hs.fl;have hb1:=hs.b1;have hls2:=hls.set (some (false,mm));have hlk:LK s (q+1) (ls.set (q % 5) (some (false,mm))):=by
  refine⟨hls2.1,λ p h2 h3 h4=>?_⟩;by_cases e5:p=q+5
  ·subst e5;rw[show(q+5) % 5=q % 5 by omega];exact⟨mm,by rw[Ji9 (by rw[hls.1];omega)]⟩
  ·obtain⟨mp,emp,_⟩:=hc.rk.at (p:=p) (by omega) h3;obtain⟨x,hx,_⟩:=hls2.2 p mp (by omega) h3 (by omega) emp;exact⟨x,hx⟩
 have main:∀ h0:List Ah,h0=(if q=s.Felt.length/\Bj t g=true then [hd0]else [])->Tot (λ n=>BP n (q:Int) (wb s rows) (ls.set (q % 5) (some (false,mm))) ((i:Int),σ) h0) (Rd2 (λ r=>∃ mm',r=(wb s rows,ls.set (q % 5) (some (false,mm')))/\Iv t s M (u++[((i:Int),σ)]) q mm') (λ _=>True)):=λ h0' hh0=>by
  unfold BP;refine Tot.bindC (show idx (wb s rows).Arcs (i:Int)=some s.Arcs[i]from C3 hl) (Tot.bind (Jbe hs hq hlk hl rows _ h0' (by rw[hh0];split<;>simp)) ?_);rintro _ rfl;have hmg:=XP hs hM hM0 hM1 hc hq hm he hg hl hls2 rows;rw[← hh0]at hmg;have hsub:PE .i64 (wb s rows).Budget σ=s.Budget-σ:=VZ (by show _<=s.Budget-σ;omega) (by show s.Budget-σ<_;omega);show Tot _ _;simp only[hsub];refine Tot.bind hmg λ r hr=>?_;have hput:=hmm.put hr hu;refine Tot.ite (λ hx=>?_) λ hx=>?_
  ·have hne:r≠[]:=λ e=>by subst e;simp at hx
   rw[if_neg hne]at hput;have hrm:rowM (ls.set (q % 5) (some (false,mm))) (A8 (q:Int) 5)=some mm:=by
    rw[TW];unfold rowM;rw[C3 (Ji9 (by rw[hls.1];omega))];rfl
   refine Tot.bindC hrm (Tot.bindC (Ct (by rw[TW];simp;omega)) (Jix ⟨_,?_,hput⟩));rw[TW,Ji7,List.set_set]
  ·have hne:r=[]:=by
    cases r with
    | nil=>rfl
    | cons=>(first|(simp at hx;done)|(simp at hx;omega))
   rw[if_pos hne]at hput;exact Jix ⟨mm,rfl,hput⟩
 unfold A7;have hacc:idx (wb s rows).Accepts (i:Int)=some (Bj t g):=C3 (hs.sr.acc i g hg);have hfw:(wb s rows).Felt=s.Felt:=rfl;rw[hfw];by_cases hqe:q=s.Felt.length
 ·refine Tot.bindC (y:=Bj t g) (by rw[if_pos (by simp[hqe])];exact hacc) (Tot.ite (λ hx=>?_) λ hx=>?_)
  ·have ha:Bj t g=true:=by simpa [hqe]using hx
   refine Tot.bindC (Ir (by simp)) (main _ ?_);rw[if_pos ⟨hqe,ha⟩];rfl
  ·have ha:¬Bj t g=true:=by simpa [hqe]using hx
   exact main _ (by rw[if_neg λ h=>ha h.2])
 ·refine Tot.bindC (y:=default) (by rw[if_neg (by first|(simp;done)|(simp;omega))]) (Tot.iteF (by first|(simp;done)|(simp;omega)) (main _ (by rw[if_neg λ h=>hqe h.1])))
theorem XQ {rows:Rws} {q:Nat} {x:Option (Bool×List (Int×Int))} (h:rows[q]?=some x):rows.set q x=rows:=by
 apply List.ext_getElem?;intro j;by_cases e:q=j
 ·subst e;rw[Ji9 (Az h),h]
 ·rw[Jje e]
theorem JcP {t:Ad} {s:Aa} (hs:SmS t s) {M:Nat} (hM:s.Most=(M:Int)) (hM0:1<=M) (hM1:M<=1000) {C:Nat->Int->Int->Prop} {rows:Rws} (hc:CV t s (s.Felt.length+1) C rows) {q:Nat} (hq:q<=s.Felt.length) {ls:Lws} (hls:LV t s M rows q ls) :
  Tot (λ n=>Bt n (wb s rows) ls (q:Int)) (Rd2 (λ r=>∃ m mm,rows[q]?=some (some (true,m))/\Iv t s M m q mm/\r=(wb s rows,ls.set (q % 5) (some (false,mm)),(q:Int)-1)) (λ _=>False)):=by
 have hfl:=hs.fl;obtain⟨m,hm,hrow⟩:=hc.rk.at (p:=q) (by omega) hq;unfold Bt;have hidx:(q % 5)<ls.length:=by rw[hls.1];omega
 have hra:rowA (wb s rows).Before (q:Int)=some (true,m):=by
  unfold rowA;rw[show idx (wb s rows).Before (q:Int)=some (some (true,m))from C3 hm];rfl
 simp only[TW];refine Tot.iteT (by simp) (Tot.bindC (Cg hidx) (Tot.bindC (Ct (by simp;omega)) (Tot.bindC hra ?_)));have hsame:({ Felt:=(wb s rows).Felt,Budget:=(wb s rows).Budget,Most:=(wb s rows).Most,Arcs:=(wb s rows).Arcs,Accepts:=(wb s rows).Accepts,Before:=List.set (wb s rows).Before q (some (true,m)) }:Aa)=wb s rows:=by
  show wb s (rows.set q (some (true,m)))=_;rw[XQ hm]
 simp only[Ji7];simp only[hsame];have pass:∀ o:List (Int×Int),o.Perm m->Tot (λ n=>mapW (λ (e:Int×Int) (x:Aa×Lws)=>A7 n (q:Int) e x.1 x.2) o (wb s rows,ls.set (q % 5) (some (false,[])))) (Rd2 (λ r=>∃ mm,r=(wb s rows,ls.set (q % 5) (some (false,mm)))/\Iv t s M m q mm) (λ _=>True)):=λ o ho=>by
  refine(Tot.mapW (F:=λ n (e:Int×Int) (x:Aa×Lws)=>A7 n (q:Int) e x.1 x.2) (λ u r=>∃ mm,r=(wb s rows,ls.set (q % 5) (some (false,mm)))/\Iv t s M u q mm) (λ u e v x hu hx=>?_) ⟨[],rfl,List.Pairwise.nil,λ k l h=>(by cases h),λ k _ i σ _ h=>by simp at h⟩).mono λ z hz=>?_
  ·obtain⟨mm,rfl,hmm⟩:=hx;refine JcO hs hM hM0 hM1 hc hq hm hrow (ho.mem_iff.1 (by rw[hu];simp)) ?_ hls hmm;have h1:(o.map Prod.fst).Nodup:=((ho.map Prod.fst).nodup_iff).2 hrow.km.nd;rw[hu,show u++e::v=(u++[e])++v by simp,List.map_append,List.nodup_append]at h1;exact h1.1
  ·cases z with
   | inr z=>exact trivial
   | inl z=>
    obtain⟨mm,e1,h2⟩:=hz;exact⟨mm,e1,h2.congr λ x=>ho.mem_iff⟩
 obtain⟨z0,hz0,_⟩:=pass m (List.Perm.refl _);cases z0 with
 | inr z=>exact nomatch z
 | inl z0=>
  obtain⟨mm0,rfl,h0⟩:=hz0;refine Tot.demP (.inl (wb s rows,ls.set (q % 5) (some (false,mm0)),(q:Int)-1)) (λ o ho=>?_) ⟨m,mm0,hm,h0,rfl⟩;refine Tot.bind (pass o ho) ?_;rintro (z|z) hz
  ·obtain⟨mm,rfl,h'⟩:=hz;have:=Iv.ext hrow.km.nd h' h0;subst this;exact Jix (by rw[VZ (by omega) (by omega)])
  ·exact nomatch z
theorem TX {t:Ad} {s:Aa} (hs:SmS t s) {M:Nat} (hM:s.Most=(M:Int)) (hM0:1<=M) (hM1:M<=1000) {rows:Rws} (hf:FwK t s rows):Tot (λ n=>CC n (wb s rows)) (λ r=>Bst (Rdg t 0 s.Felt) s.Budget M r.2):=by
 obtain⟨C,hc⟩:=hf.cv;have hfl:=hs.fl;unfold CC;refine Tot.bind (R:=λ y=>y.2.length=5/\∃ m mm,rows[0]?=some (some (true,m))/\Iv t s M m 0 mm/\y.2[0]?=some (some (false,mm))) ?_ ?_
 ·refine Tot.whl (body:=λ n (x:Aa×Lws×Int)=>Bt n x.1 x.2.1 x.2.2) (λ k x=>x.1=wb s rows/\x.2.2=(k:Int)-1/\k<=s.Felt.length+1/\x.2.1.length=5/\∀ p m,k<=p->p<=s.Felt.length->p<k+5->rows[p]?=some (some (true,m))->∃ mm,x.2.1[p % 5]?=some (some (false,mm))/\Iv t s M m p mm) ?_ (s.Felt.length+1) _ ⟨rfl,by show((s.Felt.length:Nat):Int)=_;omega,JiN _,by simp,λ p m h1 h2=>by omega⟩
  ·rintro k ⟨x,ls,_⟩ ⟨hx,rfl,hk,hl5,hr⟩;simp only at hx hl5 hr;subst hx;cases k with
   | zero=>
    unfold Bt;obtain⟨m,hm,hrow⟩:=hc.rk.at (p:=0) (by omega) (by omega);obtain⟨mm,h1,h2⟩:=hr 0 m (by omega) (by omega) (by omega) hm;exact Tot.iteF (by simp) (Jix ⟨hl5,m,mm,hm,h2,h1⟩)
   | succ q=>
    have hq:q<=s.Felt.length:=by omega
    have e1:((q+1:Nat):Int)-1=(q:Int):=by omega
    simp only[e1];have hlv:LV t s M rows q ls:=⟨hl5,λ p m h1 h2 h3 h4=>hr p m h1 h2 (by omega) h4⟩;refine(JcP hs hM hM0 hM1 hc hq hlv).mono λ z hz=>?_;cases z with
    | inr z=>exact hz.elim
    | inl z=>
     obtain⟨m,mm,hm,hmm,rfl⟩:=hz;refine⟨q,by omega,rfl,rfl,by omega,by simpa using hl5,λ p m' h1 h2 h3 h4=>?_⟩;by_cases e:p=q
     ·subst e;rw[hm]at h4;cases h4;exact⟨mm,Ji9 (by omega),hmm⟩
     ·obtain⟨mm',h5,h6⟩:=hr p m' (by omega) h2 (by omega) h4;exact⟨mm',by rw[Jje (by omega)];exact h5,h6⟩
 ·rintro⟨x,ls⟩ ⟨hl5,m,mm,hm,hmm,h0⟩;simp only at hl5 h0;have hrm:rowM ls 0=some mm:=by
   unfold rowM;rw[show idx ls 0=some (some (false,mm))from C3 (i:=0) h0];rfl
  refine Tot.bindC hrm (Tot.bindC rfl (Jix ?_));obtain⟨m',hm',hrow⟩:=hc.rk.at (p:=0) (by omega) (by omega);rw[hm]at hm';cases hm';obtain⟨w,hw,_⟩:=hrow.has hc.rt.1;have hw0:w=0:=hc.rt.2 w (hrow.lst _ _ hw).1;subst hw0;have hwm:=(hrow.km.mem _ _).2 hw;show Bst _ _ _ (Option.getD (AO 0 mm) []);cases e3:AO (0:Int) mm with
  | none=>
   have:=hmm.non 0 e3 0 0 rfl hwm;rw[List.drop_zero,Int.sub_zero]at this;exact this
  | some l=>
   obtain⟨_,i,σ,hi,hmem,hb⟩:=hmm.som 0 l e3;have:i=0:=by omega
   subst this;have hσ:σ=0:=by
    have:=(hrow.km.mem _ _).1 hmem;rw[hw]at this;exact(Option.some.inj this).symm
   subst hσ;rw[List.drop_zero,Int.sub_zero]at hb;exact hb
end Go.AI
end
section
namespace Go.AI
def gs (r:Af):AK:={ Text:=r.Text,Cells:=Bq r.Cells,Cost:=r.Cost }
theorem Wg {t:Ad} (ht:TbK t) {fl:List AB} (hf:fl.length<=100000) {B:Int} (h0:0<=B) (h1:B<=100000) {M:Nat} (hM0:1<=M) (hM1:M<=1000):Tot (λ n=>Je n t fl B (M:Int)) (λ r=>∃ l,Bst (Rdg t 0 fl) B M l/\r=l.map gs):=by
 have hv:=XI ht.small;rw[ht.valid]at hv;unfold Je;refine Jiy hv (Tot.iteF rfl (Tot.bind (R8 ht fl B (M:Int)) λ s hs=>?_));have hS:SmS t s:=⟨ht,by rw[hs.felt,hs.bud,hs.most];exact hs,by rw[hs.felt];exact hf,by rw[hs.bud];exact h0,by rw[hs.bud];exact h1⟩;refine Tot.bind (Vo hS) ?_;rintro _ ⟨rows,rfl,hF⟩;refine Tot.bind (TX hS hs.most hM0 hM1 hF) λ r hb=>?_;rw[hs.felt,hs.bud]at hb;have hl:=hb.len;refine Tot.bind (R:=λ y=>y=r.2.map gs) ?_ λ y hy=>Jix ⟨r.2,hb,hy⟩;refine Tot.upto (body:=λ n (x:(List AK)×Int)=>Fm n r x.1 x.2) r.2.length (λ i x=>x.2=(i:Int)/\x.1=(r.2.take i).map gs) ?_ ?_ _ ⟨rfl,rfl⟩
 ·rintro i ⟨x,_⟩ hi ⟨rfl,hx⟩;simp only at hx;subst hx;unfold Fm;refine Tot.iteT (Hc hi) (Tot.bindC (Cg hi) (Tot.bindC (KI (by simp;omega)) (Jix ⟨DW (by omega),?_⟩)));show _=_;rw[List.take_add_one,JiY hi,List.map_append];rfl
 ·rintro⟨x,_⟩ ⟨rfl,hx⟩;simp only at hx;subst hx;unfold Fm;exact Tot.iteF (Kq _) (Jix (by show _=_;rw[List.take_length]))
theorem Gr {t:Ad} (ht:TbK t) {fl:List AB} (hf:fl.length<=100000) {B:Int} (h0:0<=B) (h1:B<=100000):Tot (λ n=>Be n t fl B) (λ r=>∃ l,Bst (Rdg t 0 fl) B 17 l/\r=if l.length>16 then([],2)else(l.map gs,0)):=by
 unfold Be;refine Tot.iteF (by simp;omega) (Tot.bind (Wg ht hf h0 h1 (M:=17) (by omega) (by omega)) ?_);rintro _ ⟨l,hl,rfl⟩;refine Tot.ite (λ h=>Jix ⟨l,hl,?_⟩) λ h=>Jix ⟨l,hl,?_⟩
 ·rw[if_pos (by simp at h;omega)]
 ·rw[if_neg (by simp at h;omega)]
theorem TY {t:Ad} (ht:TbK t) {fl:List AB} (hf:fl.length<=100000) {B:Int} (h0:0<=B) (h1:B<=100000):Tot (λ n=>Gb n t fl B) (λ r=>(r=(⟨[],[],0⟩,false)/\Bst (Rdg t 0 fl) B 1 [])\/∃ x,r=(gs x,true)/\Bst (Rdg t 0 fl) B 1 [x]):=by
 unfold Gb;refine Tot.iteF (by simp;omega) (Tot.bind (Wg ht hf h0 h1 (M:=1) (by omega) (by omega)) ?_);rintro _ ⟨l,hl,rfl⟩;have:=hl.len
 match l,hl,this with
 | [],hl,_=>exact Tot.iteT rfl (Jix (.inl ⟨rfl,hl⟩))
 | [x],hl,_=>exact Tot.iteF (by simp) (Tot.bindC rfl (Jix (.inr ⟨x,rfl,hl⟩)))
 | _::_::_,_,h=>simp at h
theorem TZ (n:Nat) (t:Ad) (fl:List AB) {B:Int} (h:B<0):Be n t fl B=some ([],1):=by
 unfold Be;rw[if_pos (by simpa using h)]
def ofI (l:List Int):List UInt8:=l.map λ c=>UInt8.ofNat c.toNat
theorem T0 (s:List UInt8):ofI (Bq s)=s:=by
 unfold ofI Bq;rw[List.map_map]
 conv=>rhs;rw[← List.map_id s]
 exact JiW λ b _=>by simp
theorem T1 {l:List Int} (h:∀ c∈l,0<=c/\c<256):Bq (ofI l)=l:=by
 unfold ofI Bq;rw[List.map_map]
 conv=>rhs;rw[← List.map_id l]
 exact JiW λ c hc=>by
  have:=h c hc;have h2:c.toNat<256:=by omega
  simp only[Function.comp,UInt8.toNat_ofNat',id];omega
theorem T3 (a b:List UInt8):Bq (a++b)=Bq a++Bq b:=by unfold Bq;simp
theorem JcQ (a b:List Int):ofI (a++b)=ofI a++ofI b:=by unfold ofI;simp
theorem Na (a:List UInt8):(Bq a).length=a.length:=by unfold Bq;simp
theorem Vp {t:Ad} (ht:TbK t) {k:Nat} (hk:k<t.Rules.length):Bq (clb t k)=cls t k:=
 T1 λ c hc=>by have:=(Fy ht hk).2.2.2 c hc;omega
theorem Jbf {t:Ad} (ht:TbK t) {i:Nat} {fl:List AB} {r:Af} (h:Rdg t i fl r):r.Cost=Bf fl r.Cells/\∀ s,(AH t)[i]?=some s->∃ p s',LG t s p s'/\Bj t s'=true/\cellsOf t p=Bq r.Cells/\Pn t p=r.Text:=by
 induction h with
 | nil i q h ha=>exact⟨rfl,λ s hs=>by rw[h]at hs;cases hs;exact⟨[],q,rfl,ha,rfl,rfl⟩⟩
 | arc i k j fl r hE hl hr ih=>
  obtain⟨s0,s1,e1,hk,e3,e4⟩:=hE;obtain⟨h1,h2⟩:=ih;refine⟨?_,λ s hs=>?_⟩
  ·show Bf fl (clb t k)+r.Cost=Bf fl (clb t k++r.Cells);rw[JT _ _ _ hl,h1]
  ·rw[e1]at hs;cases hs;obtain⟨p,s',p1,p2,p3,p4⟩:=h2 s1 e3;refine⟨(k:Int)::p,s',⟨by rw[e4],by rw[e4];exact p1⟩,p2,?_,?_⟩
   ·rw[FM,p3,T3,Vp ht hk];rfl
   ·rw[M9,p4];rfl
theorem T4 {t:Ad} (ht:TbK t):∀ {p:List Int} {s s':Ae} {i:Nat} {fl:List AB},(AH t)[i]?=some s->LG t s p s'->Bj t s'=true->(cellsOf t p).length=fl.length->Rdg t i fl ⟨Bf fl (ofI (cellsOf t p)),Pn t p,ofI (cellsOf t p)⟩
 | [],s,s',i,fl,hi,hgo,ha,hl=>by
  unfold LG at hgo;subst hgo;have:fl=[]:=List.eq_nil_of_length_eq_zero (by simpa [cellsOf]using hl.symm);subst this;exact .nil i s hi ha
 | k::p,s,s',i,fl,hi,hgo,ha,hl=>by
  obtain⟨hF,hD⟩:=Ei ht.tab;obtain⟨h1,h2⟩:=hgo;obtain⟨k0,k1⟩:=Pi h1;obtain⟨kn,rfl⟩:∃ kn:Nat,k=(kn:Int):=⟨k.toNat,by omega⟩;have hm:=hD (i+1) i s (by omega) hi kn (by omega) h1;obtain⟨j,hj,hje⟩:=List.mem_iff_getElem.1 hm;have hjg:(AH t)[j]?=some (BK t s (kn:Int)).1:=by rw[JiY hj,hje]
  have hE:Edge t (AH t) i kn j:=⟨s,_,hi,by omega,hjg,by rw[← h1]⟩;rw[FM,List.length_append]at hl;have hcl:(clb t kn).length=(EG t (kn:Int)).Cells.length:=E1 t kn;have:=T4 ht (fl:=fl.drop (clb t kn).length) hjg h2 ha (by rw[List.length_drop];omega);have h3:=Rdg.arc i kn j fl _ hE (by omega) this;rw[FM,M9,JcQ];have e:ofI (EG t (kn:Int)).Cells=clb t kn:=rfl;rw[e,JT _ _ _ (by omega)];exact h3
theorem Wh {t:Ad} (ht:TbK t) (fl:List AB) (r:Af):Rdg t 0 fl r↔WrT t (Bq r.Cells) r.Text/\r.Cells.length=fl.length/\r.Cost=Bf fl r.Cells:=by
 have h0:=(Ei ht.tab).1.first;constructor
 ·intro h;obtain⟨h1,h2⟩:=Jbf ht h;obtain⟨p,s',p1,p2,p3,p4⟩:=h2 _ h0;exact⟨⟨p,s',p1,p2,p3,p4⟩,(h.len ht).1,h1⟩
 ·rintro⟨⟨p,s',p1,p2,p3,p4⟩,h1,h2⟩;have:=T4 ht (fl:=fl) h0 p1 p2 (by rw[p3,Na];exact h1);rw[p3,p4,T0,← h2]at this;exact this
theorem Jbg {t:Ad} (ht:TbK t) {w:List Int} {x:List UInt8} (h:WrT t w x):∀ c∈w,0<=c/\c<63:=by
 obtain⟨p,s',p1,p2,rfl,rfl⟩:=h;clear p2;have key:∀ {p:List Int} {s:Ae},LG t s p s'->∀ c∈cellsOf t p,0<=c/\c<63:=by
  intro p;induction p with
  | nil=>intro s _ c hc;simp[cellsOf]at hc
  | cons k p ih=>
   intro s hg c hc;obtain⟨h1,h2⟩:=hg;obtain⟨k0,k1⟩:=Pi h1;rw[FM]at hc;rcases List.mem_append.1 hc with hc|hc
   ·have:=(Fy ht (k:=k.toNat) (by omega)).2.2.2 c;unfold cls at this;rw[Int.toNat_of_nonneg k0]at this;exact this hc
   ·exact ih h2 c hc
 exact key p1
end Go.AI
end
section
namespace Go.AI
def Gy (x:Int) (k:Nat):Bool:=CN .u8 (JbM .u8 x (k:Int)) 1==1
def PY (f:Nat->Bool):Nat->Int
 | 0=>0
 | k+1=>PY f k+if f k=true then 1 else 0
theorem Pw {f g:Nat->Bool}:∀ {k:Nat},(∀ i,i<k->f i=g i)->PY f k=PY g k
 | 0,_=>rfl
 | k+1,h=>by
  unfold PY;rw[Pw λ i hi=>h i (by omega),h k (by omega)]
theorem QH {f g:Nat->Bool}:∀ {k:Nat},(∀ i,i<k->f i=true->g i=true)->PY f k<=PY g k
 | 0,_=>Int.le_refl _
 | k+1,h=>by
  unfold PY;have h1:=QH (f:=f) (g:=g) (k:=k) λ i hi=>h i (by omega);have h2:=h k (by omega);split
  ·rename_i e;rw[if_pos (h2 e)];omega
  ·split<;>omega
def Px (p:Nat->Bool):Bool:=(List.range 64).all p
theorem HP {p:Nat->Bool} (h:Px p=true) {x:Int} (h0:0<=x) (h1:x<64):p x.toNat=true:=JiI.1 h _ (List.mem_range.2 (by omega))
theorem NG {p:Nat->Bool} (h:(List.range 6).all p=true) {k:Nat} (hk:k<6):p k=true:=JiI.1 h _ (List.mem_range.2 hk)
def U6 (x:Int):Prop:=0<=x/\x<64
theorem Jbh:Px (λ v=>CG 0 (v:Int)==some (PY (Gy (v:Int)) 6))=true:=by kernel_rfl
theorem JcR:Px (λ a=>Px λ b=>decide (0<=S1 .u8 (a:Int) (b:Int))&&decide (S1 .u8 (a:Int) (b:Int)<64)&&(List.range 6).all λ k=>Gy (S1 .u8 (a:Int) (b:Int)) k==(Gy a k != Gy b k))=true:=by kernel_rfl
theorem JcS:Px (λ a=>Px λ b=>decide (0<=GH .u8 (a:Int) (b:Int))&&decide (GH .u8 (a:Int) (b:Int)<64)&&(List.range 6).all λ k=>Gy (GH .u8 (a:Int) (b:Int)) k==(Gy a k&&!Gy b k))=true:=by kernel_rfl
theorem Jf2:Px (λ a=>(List.range 6).all λ e=>decide (0<=ior .u8 (a:Int) (FF .u8 1 (e:Int)))&&decide (ior .u8 (a:Int) (FF .u8 1 (e:Int))<64)&&(List.range 6).all λ k=>!Gy a k||Gy (ior .u8 (a:Int) (FF .u8 1 (e:Int))) k)=true:=by kernel_rfl
theorem Jf3 {a b:Int} (ha:U6 a) (hb:U6 b):U6 (S1 .u8 a b)/\∀ k,k<6->Gy (S1 .u8 a b) k=(Gy a k != Gy b k):=by
 have:=HP (HP JcR ha.1 ha.2) hb.1 hb.2;rw[Int.toNat_of_nonneg ha.1,Int.toNat_of_nonneg hb.1]at this;simp only[JiZ,decide_eq_true_eq]at this;exact⟨this.1,λ k hk=>by have:=NG this.2 hk;simpa using this⟩
theorem Jf4 {a b:Int} (ha:U6 a) (hb:U6 b):U6 (GH .u8 a b)/\∀ k,k<6->Gy (GH .u8 a b) k=(Gy a k&&!Gy b k):=by
 have:=HP (HP JcS ha.1 ha.2) hb.1 hb.2;rw[Int.toNat_of_nonneg ha.1,Int.toNat_of_nonneg hb.1]at this;simp only[JiZ,decide_eq_true_eq]at this;exact⟨this.1,λ k hk=>by have:=NG this.2 hk;simpa using this⟩
theorem JhF {a:Int} (ha:U6 a) {e:Int} (h0:0<=e) (h1:e<6):U6 (ior .u8 a (FF .u8 1 e))/\∀ k,k<6->Gy a k=true->Gy (ior .u8 a (FF .u8 1 e)) k=true:=by
 have:=NG (HP Jf2 ha.1 ha.2) (k:=e.toNat) (by omega);rw[Int.toNat_of_nonneg ha.1,Int.toNat_of_nonneg h0]at this;simp only[JiZ,decide_eq_true_eq]at this;exact⟨this.1,λ k hk h=>by have:=NG this.2 hk;rw[h]at this;simpa using this⟩
def T5 (f:AB):Prop:=U6 f.Up/\U6 f.Maybe
def Vq (f:AB) (c:Int) (k:Nat):Bool:=!Gy f.Maybe k&&(Gy f.Up k != Gy c k)
theorem QI {f:AB} (hf:T5 f) {c:Int} (hc:U6 c):HO f c=PY (Vq f c) 6:=by
 obtain⟨h1,h2⟩:=Jf3 hf.1 hc;obtain⟨h3,h4⟩:=Jf4 h1 hf.2;have h5:=HP Jbh h3.1 h3.2;rw[Int.toNat_of_nonneg h3.1]at h5;have h5:=eq_of_beq h5;unfold HO F9;rw[h5];show PY _ 6=_;refine Pw λ i hi=>?_;rw[h4 i hi,h2 i hi];unfold Vq;cases Gy f.Maybe i<;>simp
theorem JcT {l:List (CY Int)} (hl:∀ x∈l,U8 x.a0/\U8 x.a1):Tot (λ n=>Ls n l) (λ r=>r.length<=5/\∀ f∈r,T5 f):=by
 unfold Ls;refine Tot.bind (R:=λ r=>r.length<=5/\∀ f∈r,T5 f) ?_ λ y hy=>Jix hy;refine Tot.upto (body:=λ n (x:(List AB)×Int)=>Fp n l x.1 x.2) (min l.length 5) (λ i x=>x.2=(i:Int)/\x.1.length=i/\∀ f∈x.1,T5 f) ?_ ?_ _ ⟨rfl,rfl,by simp⟩
 ·rintro i ⟨x,_⟩ hi ⟨rfl,h1,h2⟩;simp only at h1 h2;unfold Fp;have hil:i<l.length:=by omega
  obtain⟨u1,u2⟩:=hl _ (JiK hil);refine Tot.iteT (by simp;omega) (Tot.bindC (Cg hil) (Tot.bindC (Cg hil) (Tot.bindC (KI (by simp;omega)) (Jix ⟨CA (by omega),by simp[h1],λ f hf=>?_⟩))));rcases List.mem_append.1 hf with hf|hf
  ·exact h2 f hf
  ·simp only[List.mem_singleton]at hf;subst hf;exact⟨Cb u1.1 (by omega),Cb u2.1 (by omega)⟩
 ·rintro⟨x,_⟩ ⟨rfl,h1,h2⟩;simp only at h1 h2;unfold Fp;exact Tot.iteF (by simp;omega) (Jix ⟨by show x.length<=5;omega,h2⟩)
end Go.AI
end
section
namespace Go.AI
def rds (t:Ad):Nat->Ae->List AB->Int->List Af
 | 0,s,fl,_=>if fl.isEmpty&&Bj t s then [⟨0,[],[]⟩]else []
 | n+1,s,fl,B=>(if fl.isEmpty&&Bj t s then [⟨0,[],[]⟩]else [])++(List.range t.Rules.length).flatMap λ (k:Nat)=>
   if(BK t s (k:Int)).2&&decide ((clb t k).length<=fl.length)&&decide (Bf fl (clb t k)<=B)then
    (rds t n (BK t s (k:Int)).1 (fl.drop (clb t k).length) (B-Bf fl (clb t k))).map λ r=>⟨Bf fl (clb t k)+r.Cost,prt t k++r.Text,clb t k++r.Cells⟩
   else []
theorem NH {t:Ad} (ht:TbK t):∀ (n:Nat) {i:Nat} {s:Ae} {fl:List AB} {B:Int} {r:Af},(AH t)[i]?=some s->fl.length<=n->0<=B->(r∈rds t n s fl B↔Rdg t i fl r/\r.Cost<=B)
 | 0,i,s,fl,B,r,hi,hn,hB=>by
  have:fl=[]:=List.eq_nil_of_length_eq_zero (by omega);subst this;unfold rds;constructor
  ·intro h;split at h
   ·rename_i e;simp only[List.mem_singleton]at h;subst h;exact⟨.nil i s hi (by simpa using e),hB⟩
   ·simp at h
  ·rintro⟨h,_⟩;generalize hf:([]:List AB)=fl at h;cases h with
   | nil _ q h ha=>rw[hi]at h;cases h;rw[if_pos (by simpa using ha)];simp
   | arc _ k j _ r hE hl hr=>
    have:=(Fy ht hE.choose_spec.choose_spec.2.1).1;rw[← E1]at this;subst hf;simp at hl;rw[hl]at this;simp at this
 | n+1,i,s,fl,B,r,hi,hn,hB=>by
  obtain⟨hF,hD⟩:=Ei ht.tab;unfold rds;rw[List.mem_append,List.mem_flatMap];constructor
  ·rintro (h|⟨k,hk,h⟩)
   ·split at h
    ·rename_i e;simp only[List.mem_singleton]at h;subst h;simp only[JiZ]at e;have:fl=[]:=by simpa using e.1
     subst this;exact⟨.nil i s hi e.2,hB⟩
    ·simp at h
   ·split at h
    ·rename_i e;simp only[JiZ,decide_eq_true_eq]at e;obtain⟨⟨e1,e2⟩,e3⟩:=e;obtain⟨r',hr',rfl⟩:=JiQ.1 h;have hk:=List.mem_range.1 hk;have hm:=hD (i+1) i s (by omega) hi k hk e1;obtain⟨j,hj,hje⟩:=List.mem_iff_getElem.1 hm;have hjg:(AH t)[j]?=some (BK t s (k:Int)).1:=by rw[JiY hj,hje]
     have h1:=(Fy ht hk).1;rw[← E1]at h1;obtain⟨h2,h3⟩:=(NH ht n hjg (by rw[List.length_drop];omega) (by omega)).1 hr';exact⟨.arc i k j fl r' ⟨s,_,hi,hk,hjg,by rw[← e1]⟩ e2 h2,by show _+_<=B;omega⟩
    ·simp at h
  ·rintro⟨h,hb⟩;cases h with
   | nil _ q h ha=>rw[hi]at h;cases h;exact .inl (by rw[if_pos (by simpa using ha)];simp)
   | arc _ k j _ r' hE hl hr=>
    right;obtain⟨s0,s1,e1,hk,e3,e4⟩:=hE;rw[hi]at e1;cases e1;have h1:=(Fy ht hk).1;rw[← E1]at h1;have h0:=(hr.len ht).2.2;simp only at hb;refine⟨k,List.mem_range.2 hk,?_⟩;rw[if_pos (by rw[e4];simp;omega),e4];exact JiQ.2 ⟨r',(NH ht n e3 (by rw[List.length_drop];omega) (by omega)).2 ⟨hr,by omega⟩,rfl⟩
def JcU (r s:Af):Bool:=decide (r.Cost<s.Cost)||(decide (r.Cost=s.Cost)&&Op.bytesLess r.Text s.Text)
def Jf5 (r s:Af):Bool:=decide (r.Cost<s.Cost)||(decide (r.Cost=s.Cost)&&!Op.bytesLess s.Cells r.Cells)
theorem T6 (r s:Af):JcU r s=true↔klr r s:=by unfold JcU klr ltB;simp
theorem Jbi (r s:Af):Jf5 r s=true↔le2 r s:=by unfold Jf5 le2 ltB;simp
def eqR (r s:Af):Bool:=decide (r.Cost=s.Cost)&&r.Text==s.Text&&r.Cells==s.Cells
theorem Wi (r s:Af):eqR r s=true↔r=s:=by
 unfold eqR;cases r;cases s;simp[and_assoc]
def JcV:List Af->Bool
 | []=>true
 | a::l=>l.all (JcU a)&&JcV l
theorem Wj:∀ {l:List Af},JcV l=true->l.Pairwise klr
 | [],_=>.nil
 | a::l,h=>by
  unfold JcV at h;simp only[JiZ,JiI]at h;exact .cons (λ b hb=>(T6 a b).1 (h.1 b hb)) (Wj h.2)
def Py (E:List Af) (M:Nat) (l:List Af):Bool:=
 l.all (λ r=>E.any (eqR r))&&JcV l&&l.all (λ r=>l.all λ s=>!(r.Text==s.Text)||eqR r s) &&
 E.all (λ r=>l.any (λ s=>s.Text==r.Text&&Jf5 s r)||(decide (l.length=M)&&l.all λ s=>JcU s r))&&decide (l.length<=M)
theorem Sa {t:Ad} (ht:TbK t) {fl:List AB} {B:Int} (hB:0<=B) {M:Nat} {l:List Af} (h:Py (rds t fl.length Ca fl B) M l=true):Bst (Rdg t 0 fl) B M l:=by
 have h0:=(Ei ht.tab).1.first;have hm:∀ r,r∈rds t fl.length Ca fl B↔Rdg t 0 fl r/\r.Cost<=B:=λ r=>NH ht _ h0 (JiN _) hB;unfold Py at h;simp only[JiZ,JiI,decide_eq_true_eq]at h;obtain⟨⟨⟨⟨h1,h2⟩,h3⟩,h4⟩,h5⟩:=h;refine⟨λ r hr=>?_,Wj h2,λ r hr s hs e=>?_,λ r hr hb=>?_,h5⟩
 ·obtain⟨x,hx,e⟩:=List.any_eq_true.1 (h1 r hr);rw[(Wi _ _).1 e];exact(hm x).1 hx
 ·have:=h3 r hr s hs;rw[e]at this;exact(Wi _ _).1 (by simpa using this)
 ·have:=h4 r ((hm r).2 ⟨hr,hb⟩);simp only[Jjh,JiZ,decide_eq_true_eq,List.any_eq_true,JiI]at this;rcases this with⟨s,hs,e1,e2⟩|⟨e1,e2⟩
  ·exact .inl ⟨s,hs,by simpa using e1,(Jbi _ _).1 e2⟩
  ·exact .inr ⟨e1,λ s hs=>(T6 _ _).1 (e2 s hs)⟩
end Go.AI
end
section
namespace Go.AI
theorem Jbj (a b:AK) (ha:a.Cells.length<9223372036854775807):Ev (λ n=>Lq n a b) (decide (a=b)):=by
 refine Tot.ev ?_;unfold Lq;refine Tot.guard (R:=λ r=>r=decide (a.Cells=b.Cells)) (λ _=>(LB a.Cells b.Cells ha).tot rfl) λ r hr=>Jix ?_;cases a with
 | mk t1 c1 k1=>cases b with
  | mk t2 c2 k2=>
   simp only[AK.mk.injEq]at hr⊢;cases h:(t1==t2)&&(k1==k2)with
   | false=>
    simp only[Bool.false_and];symm;rw[decide_eq_false_iff_not];rintro⟨rfl,rfl,rfl⟩;simp at h
   | true=>
    rw[hr h];simp only[JiZ,beq_iff_eq]at h;obtain⟨rfl,rfl⟩:=h;simp
theorem GX (a b:List AK) (ha:∀ g∈a,g.Cells.length<9223372036854775807) (hl:a.length<=1000000000):Ev (λ n=>Ds n a b) (decide (a=b)):=by
 refine Tot.ev ?_;unfold Ds;refine Tot.ite (λ h=>Jix ?_) λ h=>?_
 ·symm;rw[decide_eq_false_iff_not];rintro rfl;simp at h
 have hlen:a.length=b.length:=by simp at h;omega
 refine Tot.bind (R:=λ y=>(y=.inl ()/\a=b)\/(y=.inr false/\a≠b)) ?_ ?_
 ·refine Tot.upto (body:=λ n x=>Dr n a b x) a.length (λ i x=>x=(i:Int)/\a.take i=b.take i) ?_ ?_ _ ⟨rfl,rfl⟩
  ·rintro i x hi ⟨rfl,hx⟩;unfold Dr;have hb:i<b.length:=by omega
   refine Tot.iteT (Hc hi) (Tot.bindC (Cg hi) (Tot.bindC (Cg hb) (Jiy (Jbj _ _ (ha _ (JiK hi))) (Tot.ite (λ h=>?_) λ h=>?_))))
   ·refine Jix (.inr ⟨rfl,λ e=>?_⟩);subst e;simp at h
   ·refine Jix ⟨CA (by omega),?_⟩;have:a[i]=b[i]:=by simpa using h
    rw[List.take_add_one,List.take_add_one,hx,JiY hi,JiY hb,this]
  ·rintro x ⟨rfl,hx⟩;unfold Dr;refine Tot.iteF (Kq _) (Jix (.inl ⟨rfl,?_⟩));rw[List.take_length,hlen,List.take_length]at hx;exact hx
 ·rintro y (⟨rfl,h⟩|⟨rfl,h⟩)
  ·exact Jix (by simp[h])
  ·exact Jix (by simp[h])
theorem LJ {t:Ad} (ht:TbK t) {fl:List AB} (hf:fl.length<=100000) {B:Int} (h0:0<=B) (h1:B<=100000) (l:List Af) (h:Py (rds t fl.length Ca fl B) 17 l=true) (hl:l.length<=16):Ev (λ n=>Be n t fl B) (l.map gs,0):=by
 refine Tot.ev ((Gr ht hf h0 h1).mono ?_);rintro _ ⟨l',hb,rfl⟩;rw[hb.uniq (Sa ht h0 h),if_neg (by omega)]
theorem Jbk {t:Ad} (ht:TbK t) {fl:List AB} (hf:fl.length<=100000) {B:Int} (h0:0<=B) (h1:B<=100000) (hn:((rds t fl.length Ca fl B).map (·.Text)).Nodup) (hl:17<=(rds t fl.length Ca fl B).length):Ev (λ n=>Be n t fl B) ([],2):=by
 refine Tot.ev ((Gr ht hf h0 h1).mono ?_);rintro _ ⟨l,hb,rfl⟩;rw[if_pos];rcases JiO 16 l.length with h|h
 ·exact h
 ·exfalso;have h00:=(Ei ht.tab).1.first;have:=FR (m:=l.map (·.Text)) hn λ x hx=>by
   obtain⟨r,hr,rfl⟩:=JiQ.1 hx;obtain⟨h2,h3⟩:=(NH ht _ h00 (JiN _) h0).1 hr;obtain⟨s,hs,e,_⟩:=hb.has (by omega) h2 h3;exact JiQ.2 ⟨s,hs,e⟩
  simp only[JiT]at this;omega
theorem Jbl {t:Ad} (ht:TbK t) {fl:List AB} (hf:fl.length<=100000) {B:Int} (h0:0<=B) (h1:B<=100000) (x:Af) (h:Py (rds t fl.length Ca fl B) 1 [x]=true):Ev (λ n=>Gb n t fl B) (gs x,true):=by
 refine Tot.ev ((TY ht hf h0 h1).mono ?_);have hx:=Sa ht h0 h;rintro _ (⟨rfl,hb⟩|⟨y,rfl,hb⟩)
 ·cases hb.uniq hx
 ·have:=hb.uniq hx;cases this;rfl
theorem XR {t:Ad} (ht:TbK t) {fl:List AB} (hf:fl.length<=100000) {B:Int} (h0:0<=B) (h1:B<=100000) (h:Py (rds t fl.length Ca fl B) 1 []=true):Ev (λ n=>Gb n t fl B) (⟨[],[],0⟩,false):=by
 refine Tot.ev ((TY ht hf h0 h1).mono ?_);have hx:=Sa ht h0 h;rintro _ (⟨rfl,hb⟩|⟨y,rfl,hb⟩)
 ·rfl
 ·cases hb.uniq hx
theorem tb0:TbK (EN 0):=by
 have h:=V2 (r:=0) (by omega) (by omega);unfold NC at h;simp only[JiZ,decide_eq_true_eq,JiI]at h;obtain⟨⟨⟨⟨h1,h2⟩,h3⟩,h4⟩,h5⟩:=h;exact⟨⟨by omega,λ r hr=>Ph (h2 r hr)⟩,h5,TM (by omega) (by omega)⟩
def ndT:List (List UInt8)->Bool
 | []=>true
 | a::l=>l.all (λ b=>!(a==b))&&ndT l
theorem Jbm:∀ {l:List (List UInt8)},ndT l=true->l.Nodup
 | [],_=>List.nodup_nil
 | a::l,h=>by
  unfold ndT at h;simp only[JiZ,JiI]at h;exact List.nodup_cons.2 ⟨λ hm=>by have:=h.1 a hm;simp at this,Jbm h.2⟩
def fl5:List AB:=List.replicate 5 ⟨1,2⟩
theorem JcW:ndT ((rds (EN 0) fl5.length Ca fl5 0).map (·.Text))=true:=by kernel_rfl
def JhG (l:List Af):Bool:=Nat.ble 17 l.length
theorem JcX {l:List Af} (h:JhG l=true):17<=l.length:=Jjd h
theorem JcY:JhG (rds (EN 0) fl5.length Ca fl5 0)=true:=by kernel_rfl
theorem ex1:Py (rds (EN 0) 1 Ca [⟨3,0⟩] 0) 17 [⟨0,[98],[3]⟩]=true:=by kernel_rfl
theorem ex2:Py (rds (EN 0) 1 Ca [⟨3,0⟩] 1) 17 [⟨0,[98],[3]⟩,⟨1,[97],[1]⟩]=true:=by kernel_rfl
theorem ex3:Py (rds (EN 0) 1 Ca [⟨1,10⟩] 0) 17 [⟨0,[97],[1]⟩,⟨0,[98],[3]⟩,⟨0,[99],[9]⟩]=true:=by kernel_rfl
theorem ex4:Py (rds (EN 0) fl5.length Ca fl5 0) 1 [⟨0,[97,97,97,97,97],[1,1,1,1,1]⟩]=true:=by kernel_rfl
theorem ex5:Py (rds (EN 0) 1 Ca [⟨62,0⟩] 0) 1 []=true:=by kernel_rfl
theorem ex6:Py (rds (EN 0) 0 Ca [] 3) 17 [⟨0,[],[]⟩]=true:=by kernel_rfl
theorem Vr:Ev (λ n=>If n) true:=by
 refine Tot.ev ?_;have e0:A8 0 8=0:=by decide
 have hb:∀ n,Fk n 0=some (EN 0):=λ n=>by
  have:=(LD n 0 (by omega)).1;rw[e0]at this;exact this
 unfold If;refine Jiz hb (Tot.bind (R:=λ y=>y=fl5) ?_ ?_)
 ·refine Tot.upto (body:=λ n (x:(List AB)×Int)=>DQ n (EN 0) x.1 x.2) 5 (λ i x=>x.2=(i:Int)/\x.1=List.replicate i ⟨1,2⟩) ?_ ?_ _ ⟨rfl,rfl⟩
  ·rintro i ⟨x,_⟩ hi ⟨rfl,hx⟩;simp only at hx;subst hx;unfold DQ;refine Tot.iteT (by simp;omega) (Tot.bindC (KI (by simp;omega)) (Jix ⟨CA (by omega),?_⟩));show _=_;rw[List.replicate_succ']
  ·rintro⟨x,_⟩ ⟨rfl,hx⟩;unfold DQ;exact Tot.iteF (by simp) (Jix hx)
 ·rintro _ rfl;refine Jiy (LJ tb0 (by simp) (by omega) (by omega) _ ex1 (by simp)) ?_;refine Jiy (LJ tb0 (by simp) (by omega) (by omega) _ ex2 (by simp)) ?_;refine Jiy (LJ tb0 (by simp) (by omega) (by omega) _ ex3 (by simp)) ?_;refine Jiy (Jbk tb0 (by simp[fl5]) (by omega) (by omega) (Jbm JcW) (JcX JcY)) ?_;refine Jiz (λ n=>TZ n _ _ (by omega)) ?_;refine Jiy (Jbl tb0 (by simp[fl5]) (by omega) (by omega) _ ex4) ?_;refine Jiy (XR tb0 (by simp) (by omega) (by omega) ex5) ?_;refine Jiy (LJ tb0 (by simp) (by omega) (by omega) _ ex6 (by simp)) ?_;refine JiA rfl (GX _ _ (by simp[gs,Bq]) (by simp)) ?_;refine JiA (by decide) (GX _ _ (by simp[gs,Bq]) (by simp)) ?_;refine JiA (by decide) (GX _ _ (by simp[gs,Bq]) (by simp)) ?_;exact Jix (by decide)
end Go.AI
end
section
namespace Go.AI
theorem Jbn (l:List Af) (hl:l.length<=1000) (x:List UInt8):Tot (λ n=>Lt n (l.map gs) x) (λ r=>(∃ s∈l,s.Text=x/\r=(gs s,true))\/((∀ s∈l,s.Text≠x)/\r.2=false)):=by
 unfold Lt;refine Tot.bind (R:=λ y=>(∃ s∈l,s.Text=x/\y=.inr (gs s,true))\/((∀ s∈l,s.Text≠x)/\y=.inl ())) ?_ ?_
 ·refine Tot.upto (body:=λ n y=>Fq n (l.map gs) x y) l.length (λ i y=>y=(i:Int)/\∀ s∈l.take i,s.Text≠x) ?_ ?_ _ ⟨rfl,by simp⟩
  ·rintro i y hi ⟨rfl,hy⟩;have hg:idx (l.map gs) (i:Int)=some (gs l[i]):=C3 (by rw[Ji2,JiY hi];rfl);unfold Fq;refine Tot.iteT (by simp;omega) (Tot.bindC hg (Tot.ite (λ h=>?_) λ h=>?_))
   ·exact Tot.bindC hg (Jix (.inl ⟨_,JiK hi,by simpa [gs]using h,rfl⟩))
   ·refine Jix ⟨CA (by omega),λ s hs=>?_⟩;rw[List.take_add_one,JiY hi]at hs;rcases List.mem_append.1 hs with hs|hs
    ·exact hy s hs
    ·have e:s=l[i]:=by simpa using hs
     subst e;simpa [gs]using h
  ·rintro y ⟨rfl,hy⟩;unfold Fq;exact Tot.iteF (by simp) (Jix (.inr ⟨by simpa using hy,rfl⟩))
 ·rintro y (⟨s,hs,e,rfl⟩|⟨h,rfl⟩)
  ·exact Jix (.inl ⟨s,hs,e,rfl⟩)
  ·exact Jix (.inr ⟨h,rfl⟩)
end Go.AI
end
section
namespace Go.AI
theorem XS {f:AB} (hf:T5 f) {e:Int} (h0:0<=e) (h1:e<6) {c:Int} (hc:U6 c):HO ⟨f.Up,ior .u8 f.Maybe (FF .u8 1 e)⟩ c<=HO f c:=by
 obtain⟨o1,o2⟩:=JhF hf.2 h0 h1;rw[QI hf hc,QI (f:=⟨f.Up,ior .u8 f.Maybe (FF .u8 1 e)⟩) ⟨hf.1,o1⟩ hc];refine QH λ i hi h=>?_;unfold Vq at h⊢;cases hd:Gy f.Maybe i with
 | true=>rw[o2 i hi hd]at h;cases h
 | false=>
  simp only[JiZ]at h;simpa using h.2
theorem QJ:∀ {fl:List AB} {w:List UInt8} {k:Nat} {f f':AB},fl[k]?=some f->(∀ c:UInt8,c∈w->HO f' (c.toNat:Int)<=HO f (c.toNat:Int))->Bf (fl.set k f') w<=Bf fl w
 | [],w,k,f,f',h,_=>by simp at h
 | g::fl,[],k,f,f',h,_=>by cases k<;>simp[Bf]
 | g::fl,c::w,0,f,f',h,hc=>by
  simp only[JiV,Ji8]at h;subst h;have:=hc c (by simp);simp only[List.set_cons_zero,Bf];omega
 | g::fl,c::w,k+1,f,f',h,hc=>by
  simp only[List.getElem?_cons_succ]at h;have:=QJ (w:=w) h λ c hm=>hc c (by simp[hm]);simp only[List.set_cons_succ,Bf];omega
theorem JhH {b:Int} (h:U8 b):IntKind.i64.wrap (A8 b 5)=A8 b 5/\0<=A8 b 5/\A8 b 5<5:=by
 have:=Cb (m:=5) h.1 (by omega);exact⟨w64 (by omega) (by omega),this⟩
theorem Jbo {x:IJ} (hx:LE x) {p:List (CY Int)} (hp:∀ y∈p,U8 y.a0/\U8 y.a1) {v:Zv Int} (hv:U8 v.a0/\U8 v.a1/\U8 v.a2):Ev (λ n=>EC n x p v) true:=by
 refine Tot.ev ?_;obtain⟨t,ht,he⟩:=Ja2 hx;obtain⟨b1,b2,b3⟩:=JhH hv.1;unfold EC;rw[b1];generalize A8 v.a0 5=B at b2 b3;have hB1:A0 .i64 B 1=B+1:=Lz (by omega) (by omega);rw[hB1];refine Jiy Vr (Jiy he (Tot.bind (JcT hp) ?_));rintro fl ⟨hf5,hfk⟩;refine Tot.bind (Gr ht.tk (by omega) b2 (by omega)) ?_;rintro _ ⟨l,hl,rfl⟩;refine Tot.bind (Gr ht.tk (by omega) (by omega:0<=B+1) (by omega)) ?_;rintro _ ⟨l',hl',rfl⟩;have hgr:=hl.grow hl' (by omega);by_cases hbig:l.length>16
 ·rw[if_pos hbig,if_pos (by rcases JiO l'.length 17 with h|h<;>omega)];exact Tot.iteT rfl (Jix rfl)
 rw[if_neg hbig];have rest:Tot (λ n=>if(((fl.length:Nat):Int)==0)=true then
    some true
   else
    (app 2 ([]:List AB) fl).bind λ l64=>
    (B1 (!(((l64.length:Nat):Int)==0))).bind λ _=>
    (idx l64 (A8 (IntKind.i64.wrap v.a1) ((l64.length:Nat):Int))).bind λ x124=>
    (B1 (decide (0<=(A8 v.a2 6)))).bind λ _=>
    (idx l64 (A8 (IntKind.i64.wrap v.a1) ((l64.length:Nat):Int))).bind λ x125=>
    (put l64 (A8 (IntKind.i64.wrap v.a1) ((l64.length:Nat):Int)) ({ Up:=x125.Up,Maybe:=ior .u8 x124.Maybe (FF .u8 1 (A8 v.a2 6)) }:AB)).bind λ l65=>
    (Be n t l65 B).bind λ r167=>
    if(r167.2 != 0)=true then
     some ((r167.2==2)&&true)
    else
     (whl (λ (x:Int)=>B8 n true (l.map gs,0) r167 x) n 0).bind λ y109=>
     match y109 with
     | Sum.inl _=>
      some true
     | Sum.inr y111=>
      some y111) (λ r=>r=true):=by
  refine Tot.ite (λ _=>Jix rfl) λ hne=>?_;have hpos:0<fl.length:=by simp at hne;exact List.length_pos_iff.2 hne
  have hw:IntKind.i64.wrap v.a1=v.a1:=w64 (by have:=hv.2.1.1;omega) (by have:=hv.2.1.2;omega);obtain⟨k0,k1⟩:=Cb (a:=v.a1) (m:=((fl.length:Nat):Int)) hv.2.1.1 (by omega);obtain⟨e0,e1⟩:=Cb (a:=v.a2) (m:=6) hv.2.2.1 (by omega);obtain⟨f,hfm,hfe⟩:=KJ k0 k1;have hfg:=(Cn hfe).2.2;refine Tot.bindC (y:=fl) (KI (by simp;omega)) (Tot.bindC (Ct (by simp;exact List.length_pos_iff.1 hpos)) ?_);rw[hw];refine Tot.bindC hfe (Tot.bindC (Ct (by simpa using e0)) (Tot.bindC hfe (Tot.bindC (JhC k0 k1) ?_)));generalize hk:(A8 v.a1 ((fl.length:Nat):Int)).toNat=k at hfg;refine Tot.bind (Gr ht.tk (by rw[Jjf];omega) b2 (by omega)) ?_;rintro _ ⟨l'',hl'',rfl⟩;by_cases hb2:l''.length>16
  ·rw[if_pos hb2];exact Tot.iteT rfl (Jix rfl)
  rw[if_neg hb2];refine Tot.iteF rfl (Tot.bind (R:=λ y=>y=.inl ()) ?_ ?_)
  ·refine Tot.upto (body:=λ n x=>B8 n true (l.map gs,0) (l''.map gs,0) x) l.length (λ i x=>x=(i:Int)) ?_ ?_ _ rfl
   ·rintro i _ hi rfl;have hg:idx (l.map gs) (i:Int)=some (gs l[i]):=C3 (by rw[Ji2,JiY hi];rfl);unfold B8;obtain⟨h1,h2⟩:=hl.snd _ (JiK hi);obtain⟨h3,h4,h5⟩:=(Wh ht.tk fl _).1 h1;have hcs:=Jbg ht.tk h3;have hle:Bf (fl.set k ⟨f.Up,ior .u8 f.Maybe (FF .u8 1 (A8 v.a2 6))⟩) l[i].Cells<=l[i].Cost:=by
     rw[h5];refine QJ hfg λ c hc=>XS (hfk f hfm) e0 e1 ?_;have:=hcs (c.toNat:Int) (JiQ.2 ⟨c,hc,rfl⟩);exact⟨this.1,by omega⟩
    have hr:Rdg t 0 (fl.set k ⟨f.Up,ior .u8 f.Maybe (FF .u8 1 (A8 v.a2 6))⟩) ⟨Bf (fl.set k ⟨f.Up,ior .u8 f.Maybe (FF .u8 1 (A8 v.a2 6))⟩) l[i].Cells,l[i].Text,l[i].Cells⟩:=(Wh ht.tk _ _).2 ⟨h3,by rw[Jjf];exact h4,rfl⟩;obtain⟨s,hs,hst,hsle⟩:=hl''.has (by omega) hr (by show Bf _ _<=B;omega);have hsc:s.Cost<=l[i].Cost:=by
     have:s.Cost<=Bf (fl.set k ⟨f.Up,ior .u8 f.Maybe (FF .u8 1 (A8 v.a2 6))⟩) l[i].Cells:=by
      rcases hsle with h|⟨h,_⟩
      ·exact Int.le_of_lt h
      ·exact Int.le_of_eq h
     omega
    refine Tot.iteT (by simp;omega) (Tot.bindC hg (Tot.bind (Jbn l'' (by omega) _) ?_));rintro _ (⟨s',hs',e,rfl⟩|⟨h,_⟩)
    ·have:=hl''.dst s' hs' s hs (e.trans hst.symm);subst this;refine JiA rfl (Ev.all λ _=>hg) (Tot.iteF ?_ (Jix (CA (by omega))));show(!true||decide (s'.Cost>l[i].Cost))=false;simp;omega
    ·exact absurd hst (h s hs)
   ·rintro _ rfl;unfold B8;exact Tot.iteF (by simp) (Jix rfl)
  ·rintro _ rfl;exact Jix rfl
 by_cases hb1:l'.length>16
 ·rw[if_pos hb1];exact Tot.iteF rfl (JiB rfl (JiB rfl (Tot.iteF rfl rest)))
 rw[if_neg hb1];obtain⟨_,u,rfl⟩:=hgr (by omega);have hlt:decide (((List.length ((l++u).map gs):Nat):Int)<((List.length (l.map gs):Nat):Int))=false:=by simp;omega
 have hsub:sub ((l++u).map gs) 0 ((List.length (l.map gs):Nat):Int)=some (l.map gs):=by
  rw[R3 (by simp)];congr 1;rw[List.map_append,List.take_left'];rfl
 refine Tot.iteF rfl ?_;show Tot _ _;simp only[hlt];refine JiA rfl (Ev.all λ _=>hsub) ?_;refine JiA rfl (GX _ _ (λ g hg=>?_) (by simp;omega)) ?_
 ·obtain⟨s,hs,rfl⟩:=JiQ.1 hg;have:=((hl.snd s hs).1.len ht.tk).1;show(Bq s.Cells).length<_;rw[Na];omega
 ·refine Tot.iteF ?_ rest;simp
end Go.AI
end
section
namespace Go.AI
theorem Fz {n:Int} (h:okI .u8 n):U8 n:=by
 unfold okI Lit.wf at h;have:IntKind.u8.min=0/\IntKind.u8.max=255:=by decide
 unfold U8;simp only[JiZ,decide_eq_true_eq]at h;omega
theorem PZ {r:Cz} (h:Io r):V3 r:=by
 obtain⟨a,b,c,d,e,f⟩:=h;exact⟨λ y hy=>Fz (a y hy),λ y hy=>Fz (b y hy),Fz c,Fz d,Fz e,Fz f⟩
theorem XT {x:IJ} (h:U9 x):LE x:=⟨(Fz h.1).1,λ r hr=>PZ (h.2.2 r hr)⟩
theorem JcZ {l:List (CY Int)} (h:∀ a∈l,(okI .u8 a.a0/\okI .u8 a.a1)):∀ y∈l,U8 y.a0/\U8 y.a1:=λ y hy=>⟨Fz (h y hy).1,Fz (h y hy).2⟩
theorem XU:∀ (x:IJ) (p:List (CY Int)) (v:Zv Int),U9 x->(∀ a∈p,(okI .u8 a.a0/\okI .u8 a.a1))->(okI .u8 v.a0/\okI .u8 v.a1/\okI .u8 v.a2)->∃ n,EC n x p v=some true:=λ _ _ _ h hp hv=>(Jbo (XT h) (JcZ hp) ⟨Fz hv.1,Fz hv.2.1,Fz hv.2.2⟩).out
end Go.AI
end
section
namespace Go.Proofs.Ytlhfdeoeeenapaa
open Go.AI Go.ChangeShapes Go.WideShapes Go.ChangeAt Go.RowKit
theorem own:ownKnob Try.prog.godebug=none:=by kernel_rfl
set_option maxRecDepth 100000 in
theorem Jf6 (os:Os) (started:os.Started) (H:Type) (enc:TypeId×Value->H) :
  ReturnsInHanded {} Try.checked os 6 .any (Rows.doubtGrowsSpec.pre6 enc Try.prog Try.f6 Rows.doubtGrowsRow.domain false) (Rows.doubtGrowsSpec.post enc Try.prog Try.f6 false true false false):=by
 refine returnsInHanded_of_change (C:=Try.checked) own started (by kernel_rfl) Try.func6
  (ChangeSpec.witness6 (enc:=enc) (C:=Try.checked) false ⟨#[],#[.agg #[.int .u8 0,.int .u8 0,.slice none 0 0],.slice none 0 0,.agg #[.int .u8 0,.int .u8 0,.int .u8 0]],[]⟩ 8 (by kernel_rfl) (by kernel_rfl) (by kernel_rfl) (by kernel_rfl)) ?_
 intro W base args ds gs before hval0 hW hcnd _;have hval:∀ (j:Nat) t v,Try.f6.params[j]?=some t->args[j]?=some v->Value.okWide Try.prog W .any base t v:=hval0;have hW':=hW;obtain⟨p,q,hA0,hV,rfl,hfz,hnd⟩:=hW;have hA:DataW.TrodAll enc Try.prog W 0 (λ _=>true) true Try.f6.params.toList args.toList ds p:=hA0;have hlt:=hA.lt;rw[Try.params6]at hA hval;obtain⟨v0,vs0,d0,ds0,p0,q0,hargs,rfl,rfl,h0,r0⟩:=trodAll_cons hA;obtain⟨v1,vs1,d1,ds1,p1,q1,rfl,rfl,rfl,h1,r1⟩:=trodAll_cons r0;obtain⟨v2,vs2,d2,ds2,p2,q2,rfl,rfl,rfl,h2,r2⟩:=trodAll_cons r1;obtain⟨rfl,rfl,rfl⟩:=trodAll_nil r2;obtain rfl:args=#[v0,v1,v2]:=by cases args;simp_all
 obtain⟨rfl,rfl⟩:=trodVars_none hV;obtain⟨cs0,hc0,_⟩:=okWide_struct Try.underlying24 (hval 0 24 v0 rfl rfl);obtain⟨a0,k0,rep0⟩:=VX hc0 h0 Jik;obtain⟨x1,y1,z1,hc1⟩:=okWide_slice Try.underlying25 (hval 1 25 v1 rfl rfl);obtain⟨a1,k1,rep1⟩:=Jcy (y:=λ a=>.sl (a.map (Jf eU8))) (by rw[hc1];rfl) h1 Jil (λ _=>rfl);obtain⟨cs2,hc2,_⟩:=RY Try.underlying59 (hval 2 59 v2 rfl rfl);obtain⟨a2,k2,rep2⟩:=VX hc2 h2 Jim;clear hA0 hval0;simp only[List.append_nil]at hW' hlt;obtain⟨n,hn⟩:=XU a0 a1 a2 k0 k1 k2;refine(Jay (Ly hn) (RZ rep0 (RZ rep1 (RZ rep2 JfO)))).mono λ e W' ⟨he,hg,hold⟩=>?_;subst he;exact⟨_,rfl,Xw (pv:=[]) hW' (λ _ _ _=>(trodAll_cons_mk (shut_bool Try.underlying4 _) trodAll_mk0)) (λ sp hsp=>trodAll_cons_mk (Jaz (by kernel_rfl) (by kernel_rfl) (of_decide_eq_true (by kernel_rfl)) h0 (λ p hp=>hlt p (by simp[hp])) (λ p hp=>hsp p (by simp[hp])) hold) (trodAll_cons_mk (Jaz (by kernel_rfl) (by kernel_rfl) (of_decide_eq_true (by kernel_rfl)) h1 (λ p hp=>hlt p (by simp[hp])) (λ p hp=>hsp p (by simp[hp])) hold) (trodAll_cons_mk (Jaz (by kernel_rfl) (by kernel_rfl) (of_decide_eq_true (by kernel_rfl)) h2 (λ p hp=>hlt p (by simp[hp])) (λ p hp=>hsp p (by simp[hp])) hold) trodAll_mk0))) (λ _ _=>rfl) (by simp) (hg _) hold (ok_one (by kernel_rfl) rfl (okWide_bool_mk Try.underlying4 _))⟩
theorem Jin:Rows.doubtGrowsRow.holds Try.pinned (OpenSpec.ofChange Rows.doubtGrowsSpec):=
 OpenClaim.holds_of_wide 6 Try.f6 rfl rfl rfl rfl rfl rfl rfl ⟨rfl,rfl,rfl,rfl,rfl⟩ rfl rfl rfl rfl rfl (by kernel_rfl) Try.func6 (by kernel_rfl)
  (of_decide_eq_true (by kernel_rfl)) (by unfold Func.isWrapper;first|(rw[if_pos (by decide +kernel)];kernel_rfl)|(rw[if_neg (by decide +kernel)];exact⟨rfl,rfl⟩))
  (λ os started H enc _=>Jf6 os started H enc)
theorem doubtGrows_holds:Rows.DoubtGrowsSaid:=Jin
end Go.Proofs.Ytlhfdeoeeenapaa
end
