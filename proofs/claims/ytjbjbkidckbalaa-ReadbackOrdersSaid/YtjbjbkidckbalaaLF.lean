/- The theorem: the last one of this text; part 6 of 6 of its proof. It holds with no condition beyond the given statement. -/
import Derived.Test.YtjbjbkidckbalaaLE
import Derived.Test.YtjbjbkidckbalaaRows
section
namespace Go.AI
def ltB (a b:List UInt8):Prop:=Op.bytesLess a b=true
theorem SC (a:List UInt8):¬ltB a []:=by cases a<;>simp [ltB,Op.bytesLess]
theorem IN {a b:UInt8} {x y:List UInt8}:ltB (a::x) (b::y)↔a<b\/(a=b/\ltB x y):=by
 simp [ltB,Op.bytesLess]
theorem Hl:∀ a:List UInt8,¬ltB a a
 | []=>SC _
 | a::x=>by
  rw [IN]
  rintro (h|⟨_,h⟩)
  ·exact UInt8.lt_irrefl a h
  ·exact Hl x h
theorem Nc:∀ {a b c:List UInt8},ltB a b->ltB b c->ltB a c
 | a,[],c,h,_=>absurd h (SC a)
 | _,_::_,[],_,h=>absurd h (SC _)
 | [],_::_,_::_,_,_=>rfl
 | a::x,b::y,c::z,h,h'=>by
  rw [IN] at *
  rcases h with h|⟨rfl,h⟩
  ·rcases h' with h'|⟨rfl,_⟩
   ·exact .inl (UInt8.lt_trans h h')
   ·exact .inl h
  ·rcases h' with h'|⟨rfl,h'⟩
   ·exact .inl h'
   ·exact .inr ⟨rfl,Nc h h'⟩
theorem Rj:∀ (a b:List UInt8),a=b\/ltB a b\/ltB b a
 | [],[]=>.inl rfl
 | [],_::_=>.inr (.inl rfl)
 | _::_,[]=>.inr (.inr rfl)
 | a::x,b::y=>by
  rw [IN,IN]
  by_cases h:a=b
  ·subst h
   rcases Rj x y with rfl|h|h
   ·exact .inl rfl
   ·exact .inr (.inl (.inr ⟨rfl,h⟩))
   ·exact .inr (.inr (.inr ⟨rfl,h⟩))
  ·rcases Nat.lt_or_gt_of_ne (λ e=>h (UInt8.toNat_inj.1 e)) with h1|h1
   ·exact .inr (.inl (.inl (UInt8.lt_iff_toNat_lt.2 h1)))
   ·exact .inr (.inr (.inl (UInt8.lt_iff_toNat_lt.2 h1)))
theorem Xd {a b:List UInt8} (h:ltB a b):¬ltB b a:=λ h'=>Hl a (Nc h h')
def Gj (l:List (List UInt8)):Prop:=l.Pairwise ltB
theorem Gj.ext:∀ {l m:List (List UInt8)},Gj l->Gj m->(∀ x,x∈l↔x∈m)->l=m
 | [],[],_,_,_=>rfl
 | [],b::m,_,_,h=>by have:=(h b).2 (by simp);cases this
 | a::l,[],_,_,h=>by have:=(h a).1 (by simp);cases this
 | a::l,b::m,hl,hm,h=>by
  have h1:=List.pairwise_cons.1 hl
  have h2:=List.pairwise_cons.1 hm
  have e:a=b:=by
   rcases List.mem_cons.1 ((h a).1 (by simp)) with e|e
   ·exact e
   ·rcases List.mem_cons.1 ((h b).2 (by simp)) with e'|e'
    ·exact e'.symm
    ·exact absurd (h1.1 b e') (Xd (h2.1 a e))
  subst e
  congr 1
  refine Gj.ext h1.2 h2.2 λ x=>⟨λ hx=>?_,λ hx=>?_⟩
  ·rcases List.mem_cons.1 ((h x).1 (by simp [hx])) with e|e
   ·subst e;exact absurd (h1.1 x hx) (Hl x)
   ·exact e
  ·rcases List.mem_cons.1 ((h x).2 (by simp [hx])) with e|e
   ·subst e;exact absurd (h2.1 x hx) (Hl x)
   ·exact e
def P2 (s:List UInt8) (done:Bool):List (List UInt8)->List (List UInt8)
 | []=>if done then [] else [s]
 | x::r=>if (!(done||(x==s))&&!(Op.bytesLess x s||x==s))=true then s::x::P2 s true r else x::P2 s (done||(x==s)) r
theorem IP (s:List UInt8):∀ l,P2 s true l=l
 | []=>rfl
 | x::r=>by unfold P2;simp [IP s r]
theorem P3 (s y:List UInt8):∀ l,y∈P2 s false l↔y=s\/y∈l
 | []=>by simp [P2]
 | x::r=>by
  unfold P2
  by_cases h:x=s
  ·subst h;simp [IP]
  ·simp only [beq_eq_false_iff_ne.2 h,Bool.or_false,Bool.not_false,Bool.true_and]
   split
   ·simp [IP]
   ·simp only [List.mem_cons,P3 s y r];constructor
    ·rintro (h|h|h)<;>simp [h]
    ·rintro (h|h|h)<;>simp [h]
theorem Rk (s:List UInt8):∀ l,Gj l->Gj (P2 s false l)
 | [],_=>by simp [P2,Gj]
 | x::r,hl=>by
  have h1:=List.pairwise_cons.1 hl
  unfold P2
  by_cases h:x=s
  ·subst h;simp only [beq_self_eq_true,Bool.or_true,Bool.not_true,Bool.false_and,JgY,if_false,IP];exact hl
  ·simp only [beq_eq_false_iff_ne.2 h,Bool.or_false,Bool.not_false,Bool.true_and,Bool.not_eq_true']
   split
   ·rename_i hx
    have hsx:ltB s x:=by
     rcases Rj x s with e|e|e
     ·exact absurd e h
     ·rw [show Op.bytesLess x s=true from e] at hx;cases hx
     ·exact e
    rw [IP]
    refine List.pairwise_cons.2 ⟨λ y hy=>?_,hl⟩
    rcases List.mem_cons.1 hy with rfl|hy
    ·exact hsx
    ·exact Nc hsx (h1.1 y hy)
   ·rename_i hx
    have hxs:ltB x s:=by simpa [ltB] using hx
    refine List.pairwise_cons.2 ⟨λ y hy=>?_,Rk s r h1.2⟩
    rcases (P3 s y r).1 hy with rfl|hy
    ·exact hxs
    ·exact h1.1 y hy
end Go.AI
end
section
namespace Go.AI
def Way (t:Aa) (q:Ab) (x:List UInt8) (p:List Int):Prop:=(∃ q',Eu t q p q'/\AO t q'=true)/\Ic t p=x
def Xe (t:Aa) (p:List Int):Nat:=(cellsOf t p).length
def P4 (t:Aa) (q:Ab) (x:List UInt8) (v:Int):Prop:=(v=-1/\∀ p,¬Way t q x p)\/∃ p,Way t q x p/\v=(Xe t p:Nat)/\∀ p',Way t q x p'->Xe t p<=Xe t p'
theorem JbS (t:Aa) (q:Ab) (x:List UInt8):∃ v,P4 t q x v:=by
 by_cases h:∃ p,Way t q x p
 ·obtain ⟨p,hp⟩:=h
  have key:∀ (n:Nat) (p:List Int),Xe t p=n->Way t q x p->∃ v,P4 t q x v:=by
   intro n
   induction n using Nat.strongRecOn with
   | _ n ih=>
    intro p hn hp
    by_cases hm:∃ p',Way t q x p'/\Xe t p'<n
    ·obtain ⟨p',h1,h2⟩:=hm
     exact ih _ h2 p' rfl h1
    ·exact ⟨(Xe t p:Nat),.inr ⟨p,hp,rfl,λ p' hp'=>Nat.le_of_not_lt λ hlt=>hm ⟨p',hp',by omega⟩⟩⟩
  exact key _ p rfl hp
 ·exact ⟨-1,.inl ⟨rfl,λ p hp=>h ⟨p,hp⟩⟩⟩
theorem P4.uniq {t:Aa} {q:Ab} {x:List UInt8} {v w:Int} (h:P4 t q x v) (h':P4 t q x w):v=w:=by
 rcases h with ⟨h1,h2⟩|⟨p,h1,h2,h3⟩
 ·rcases h' with ⟨g1,g2⟩|⟨p',g1,g2,g3⟩
  ·omega
  ·exact absurd g1 (h2 p')
 ·rcases h' with ⟨g1,g2⟩|⟨p',g1,g2,g3⟩
  ·exact absurd h1 (g2 p)
  ·have:=h3 p' g1
   have:=g3 p h1
   omega
noncomputable def Rl (t:Aa) (q:Ab) (x:List UInt8):Int:=Classical.choose (JbS t q x)
abbrev prt (t:Aa) (k:Int):List UInt8:=(FO t k).Print
abbrev cls (t:Aa) (k:Int):List Int:=(FO t k).Cells
theorem HQ (t:Aa) (k:Int) (p:List Int):Ic t (k::p)=prt t k++Ic t p:=by simp [Ic]
theorem Way.cons {t:Aa} {q:Ab} {x:List UInt8} {p:List Int} {k:Int} (hk:(Bc t q k).2=true) (h:Way t (Bc t q k).1 x p):Way t q (prt t k++x) (k::p):=by
 obtain ⟨⟨q',h1,h2⟩,h3⟩:=h
 exact ⟨⟨q',⟨hk,h1⟩,h2⟩,by rw [HQ,h3]⟩
theorem Way.nil {t:Aa} {q:Ab} {x:List UInt8} (h:Way t q x []):x=[]/\AO t q=true:=by
 obtain ⟨⟨q',h1,h2⟩,h3⟩:=h
 unfold Eu at h1
 subst h1
 exact ⟨h3.symm,h2⟩
noncomputable def JaC (t:Aa) (q:Ab) (x:List UInt8) (k:Int):Int:=
 if (Bc t q k).2=true/\prt t k <+: x/\0<=Rl t (Bc t q k).1 (x.drop (prt t k).length) then Rl t (Bc t q k).1 (x.drop (prt t k).length)+(cls t k).length else -1
inductive Nd (t:Aa):Ab->List UInt8->List Int->Prop
 | nil {q:Ab} {x:List UInt8} (h:Rl t q x<=0):Nd t q x []
 | cons {q:Ab} {x:List UInt8} {k:Nat} {p:List Int} (h:0<Rl t q x) (hk:JaC t q x k=Rl t q x) (hm:∀ j:Nat,j<k->JaC t q x j≠Rl t q x) (hp:Nd t (Bc t q k).1 (x.drop (prt t k).length) p):Nd t q x (k::p)
theorem Nd.uniq {t:Aa} {q:Ab} {x:List UInt8} {p p':List Int} (h:Nd t q x p) (h':Nd t q x p'):p=p':=by
 induction h generalizing p' with
 | nil h=>
  cases h' with
  | nil=>rfl
  | cons g=>omega
 | cons h hk hm _ ih=>
  cases h' with
  | nil g=>omega
  | cons g gk gm gp=>
   rename_i k _ _ k' _
   have:k=k':=by
    rcases Nat.lt_trichotomy k k' with hlt|he|hgt
    ·exact absurd hk (gm _ hlt)
    ·exact he
    ·exact absurd gk (hm _ hgt)
   subst this
   rw [ih gp]
end Go.AI
end
section
namespace Go.AI
def RP (t:Aa) (q:Ab) (l:List Int) (x:List UInt8):Prop:=∃ p q',Eu t q p q'/\AO t q'=true/\cellsOf t p=l/\Ic t p=x
def GO (t:Aa) (q:Ab) (l:List Int):Prop:=∃ p q',Eu t q p q'/\AO t q'=true/\l <+: cellsOf t p
theorem GN (t:Aa) (k:Int) (p:List Int):cellsOf t (k::p)=cls t k++cellsOf t p:=rfl
theorem RP.nil {t:Aa} {q:Ab} (h:AO t q=true):RP t q [] []:=⟨[],q,rfl,h,rfl,rfl⟩
theorem RP.cons {t:Aa} {q:Ab} {k:Int} {l:List Int} {x:List UInt8} (hk:(Bc t q k).2=true) (h:RP t (Bc t q k).1 l x):RP t q (cls t k++l) (prt t k++x):=by
 obtain ⟨p,q',h1,h2,rfl,rfl⟩:=h
 exact ⟨k::p,q',⟨hk,h1⟩,h2,GN ..,HQ ..⟩
theorem RP.inv {t:Aa} {q:Ab} {l:List Int} {x:List UInt8} (h:RP t q l x):(l=[]/\x=[]/\AO t q=true)\/∃ k:Nat,k<t.Rules.length/\(Bc t q k).2=true/\∃ l' x',l=cls t k++l'/\x=prt t k++x'/\RP t (Bc t q k).1 l' x':=by
 obtain ⟨p,q',h1,h2,rfl,rfl⟩:=h
 cases p with
 | nil=>unfold Eu at h1;subst h1;exact .inl ⟨rfl,rfl,h2⟩
 | cons k p=>
  have hk:=IL h1.1
  obtain ⟨k,rfl⟩:∃ m:Nat,k=m:=⟨k.toNat,by omega⟩
  exact .inr ⟨k,by omega,h1.1,_,_,GN ..,HQ ..,p,q',h1.2,h2,rfl,rfl⟩
theorem V1 {t:Aa} {st:List Ab}:∀ {i:Nat},Fb t st i->∀ q,st[i]? = some q->GO t q []:=by
 intro i h
 induction h with
 | acc i s h ha=>intro q hq;rw [h] at hq;cases hq;exact ⟨[],_,rfl,ha,List.nil_prefix⟩
 | step i k j h _ ih=>
  intro q hq
  obtain ⟨s,s',h1,h2,h3,h4⟩:=h
  rw [h1] at hq;cases hq
  obtain ⟨p,q',g1,g2,_⟩:=ih _ h3
  refine ⟨(k:Int)::p,q',⟨by rw [h4],by rw [h4];exact g1⟩,g2,List.nil_prefix⟩
theorem Nf {t:Aa} {st:List Ab} (hD:∀ i,Sv t i st):∀ (p:List Int) (q q':Ab) (i:Nat),Eu t q p q'->AO t q'=true->st[i]? = some q->Fb t st i:=by
 intro p
 induction p with
 | nil=>intro q q' i h ha hi;unfold Eu at h;subst h;exact .acc i _ hi ha
 | cons k p ih=>
  intro q q' i h ha hi
  have hk:=IL h.1
  obtain ⟨k,rfl⟩:∃ m:Nat,k=m:=⟨k.toNat,by omega⟩
  have hm:=hD (i+1) i q (by omega) hi k (by omega) h.1
  obtain ⟨j,hj,e⟩:=List.getElem_of_mem hm
  have hj':st[j]? = some (Bc t q (k:Nat)).1:=by rw [JgN hj,e]
  exact .step i k j ⟨q,_,hi,by omega,hj',Prod.ext rfl h.1⟩ (ih _ _ j h.2 ha hj')
structure GA where
 print:List UInt8
 cells:List Int
 to:Nat
def Arc (t:Aa) (st:List Ab) (i:Nat) (a:GA):Prop:=∃ k:Nat,Edge t st i k a.to/\Fb t st a.to/\a.print=prt t k/\a.cells=cls t k
inductive RG (t:Aa) (st:List Ab):Nat->List Int->List UInt8->Prop
 | nil {i:Nat} {q:Ab} (hi:st[i]? = some q) (ha:AO t q=true):RG t st i [] []
 | cons {i:Nat} {a:GA} {l:List Int} {x:List UInt8} (ha:Arc t st i a) (h:RG t st a.to l x):RG t st i (a.cells++l) (a.print++x)
theorem RG.rp {t:Aa} {st:List Ab} {i:Nat} {l:List Int} {x:List UInt8} (h:RG t st i l x):∀ q,st[i]? = some q->RP t q l x:=by
 induction h with
 | nil hi ha=>intro q hq;rw [hi] at hq;cases hq;exact .nil ha
 | cons ha _ ih=>
  intro q hq
  obtain ⟨k,⟨s,s',h1,h2,h3,h4⟩,_,e1,e2⟩:=ha
  rw [h1] at hq;cases hq
  rw [e1,e2]
  have:=ih _ h3
  refine RP.cons (by rw [h4]) (by rw [h4];exact this)
theorem Jga {t:Aa} {st:List Ab} (hD:∀ i,Sv t i st):∀ (p:List Int) (q q':Ab) (i:Nat),Eu t q p q'->AO t q'=true->st[i]? = some q->RG t st i (cellsOf t p) (Ic t p):=by
 intro p
 induction p with
 | nil=>intro q q' i h ha hi;unfold Eu at h;subst h;exact .nil hi ha
 | cons k p ih=>
  intro q q' i h ha hi
  have hk:=IL h.1
  obtain ⟨k,rfl⟩:∃ m:Nat,k=m:=⟨k.toNat,by omega⟩
  have hm:=hD (i+1) i q (by omega) hi k (by omega) h.1
  obtain ⟨j,hj,e⟩:=List.getElem_of_mem hm
  have hj':st[j]? = some (Bc t q (k:Nat)).1:=by rw [JgN hj,e]
  rw [GN,HQ]
  exact RG.cons (a:=⟨prt t k,cls t k,j⟩) ⟨k,⟨q,_,hi,by omega,hj',Prod.ext rfl h.1⟩,Nf hD p _ _ j h.2 ha hj',rfl,rfl⟩ (ih _ _ j h.2 ha hj')
theorem JaD {t:Aa} {st:List Ab} (hD:∀ i,Sv t i st) {i:Nat} {q:Ab} (hi:st[i]? = some q) {l:List Int} {x:List UInt8}:RG t st i l x↔RP t q l x:=by
 refine ⟨λ h=>h.rp q hi,?_⟩
 rintro ⟨p,q',h1,h2,rfl,rfl⟩
 exact Jga hD p q q' i h1 h2 hi
theorem RG.live {t:Aa} {st:List Ab} {i:Nat} {l:List Int} {x:List UInt8} (h:RG t st i l x):Fb t st i:=by
 cases h with
 | nil hi ha=>exact .acc i _ hi ha
 | cons ha _=>obtain ⟨k,h1,h2,_⟩:=ha;exact .step i k _ h1 h2
inductive Rc (t:Aa) (st:List Ab) (L:List Int):Nat->Nat->Prop
 | start (h:Fb t st 0):Rc t st L 0 0
 | step {i j:Nat} {a:GA} (h:Rc t st L i j) (ha:Arc t st j a) (hc:a.cells <+: L.drop i):Rc t st L (i+a.cells.length) a.to
theorem Rc.live {t:Aa} {st:List Ab} {L:List Int} {i j:Nat} (h:Rc t st L i j):Fb t st j:=by
 cases h with
 | start h=>exact h
 | step _ ha _=>obtain ⟨_,_,h2,_⟩:=ha;exact h2
theorem Rc.le {t:Aa} {st:List Ab} {L:List Int} {i j:Nat} (h:Rc t st L i j):i<=L.length:=by
 induction h with
 | start=>omega
 | @step i j a _ _ hc ih=>have:=hc.length_le;rw [List.length_drop] at this;omega
def CL:List Int->List Int->Nat
 | a::x,b::y=>if a=b then CL x y+1 else 0
 | _,_=>0
theorem SD:∀ (x y:List Int),CL x y<=x.length/\CL x y<=y.length
 | [],y=>by simp [CL]
 | _::_,[]=>by simp [CL]
 | a::x,b::y=>by
  unfold CL
  have:=SD x y
  split<;>simp<;>omega
theorem Ng:∀ (x y:List Int),x.take (CL x y)=y.take (CL x y)
 | [],y=>by simp [CL]
 | _::_,[]=>by simp [CL]
 | a::x,b::y=>by
  unfold CL
  split
  ·rename_i h;subst h;simp [Ng x y]
  ·simp
theorem Hm {x y:List Int}:CL x y=x.length↔x <+: y:=by
 refine ⟨λ h=>?_,λ h=>?_⟩
 ·have:=Ng x y
  rw [h,List.take_length] at this
  rw [this];exact List.take_prefix _ _
 ·obtain ⟨z,rfl⟩:=h
  induction x with
  | nil=>simp [CL]
  | cons a x ih=>simp [CL,ih]
theorem V2:∀ {x y:List Int} {n:Nat},n<=x.length->n<=y.length->x.take n=y.take n->n<=CL x y
 | [],y,n,h,_,_=>by simp at h;omega
 | _::_,[],n,_,h,_=>by simp at h;omega
 | a::x,b::y,0,_,_,_=>by omega
 | a::x,b::y,n+1,h,h',e=>by
  simp only [List.take_succ_cons,List.cons.injEq] at e
  unfold CL
  rw [if_pos e.1]
  have:=V2 (x:=x) (y:=y) (n:=n) (by simpa using h) (by simpa using h') e.2
  omega
section
variable {t:Aa} {st:List Ab} (hD:∀ i,Sv t i st) {q:Ab} (h0:st[0]? = some q) {L:List Int}
include hD h0
omit hD in
theorem Rc.goes {i j:Nat} (h:Rc t st L i j):∃ p q',Eu t q p q'/\st[j]? = some q'/\cellsOf t p=L.take i:=by
 induction h with
 | start=>exact ⟨[],q,rfl,h0,rfl⟩
 | @step i j a h ha hc ih=>
  obtain ⟨p,q',h1,h2,h3⟩:=ih
  obtain ⟨k,⟨s,s',g1,g2,g3,g4⟩,_,e1,e2⟩:=ha
  rw [g1] at h2;cases h2
  refine ⟨p++[(k:Int)],s',?_,g3,?_⟩
  ·have:=Eu.snoc h1 (k:=(k:Int)) (by rw [g4])
   rwa [g4] at this
  ·have e3:cellsOf t (p++[(k:Int)])=cellsOf t p++cls t k:=by simp [cellsOf]
   rw [e3,h3,← e2]
   obtain ⟨z,hz⟩:=hc
   have e4:L.take (i+a.cells.length)=L.take i++(L.drop i).take a.cells.length:=List.take_add
   rw [e4,← hz,List.take_left]
structure Xf (t:Aa) (st:List Ab) (L:List Int) (m:Nat):Prop where
 alive:Fb t st 0
 up:∀ i j a,Rc t st L i j->Arc t st j a->i+CL a.cells (L.drop i)<=m
 at_:m=0\/∃ i j a,Rc t st L i j/\Arc t st j a/\m=i+CL a.cells (L.drop i)
omit hD h0 in
theorem Je8 {m:Nat} (hM:Xf t st L m) {n:Nat} (hn:n<=L.length):∀ (p:List Int) (q q':Ab) (i j:Nat),Rc t st L i j->st[j]? = some q->(∀ (i:Nat),Sv t i st)->Eu t q p q'->AO t q'=true->(L.take n).drop i <+: cellsOf t p->n<=m:=by
 intro p
 induction p with
 | nil=>
  intro q q' i j hr hj hD h ha hp
  have h1:=hp.length_le
  simp only [cellsOf,List.flatMap_nil,List.length_nil,Nat.le_zero] at h1
  rw [List.length_drop,List.length_take] at h1
  have h2:i<=m:=by
   cases hr with
   | start=>omega
   | @step i0 j0 a h ha hc=>have:=hM.up _ _ _ h ha;rw [Hm.2 hc] at this;exact this
  omega
 | cons k p ih=>
  intro q q' i j hr hj hD h ha hp
  have hk:=IL h.1
  obtain ⟨k,rfl⟩:∃ m:Nat,k=m:=⟨k.toNat,by omega⟩
  have hm:=hD (j+1) j q (by omega) hj k (by omega) h.1
  obtain ⟨j',hj',e⟩:=List.getElem_of_mem hm
  have hj'':st[j']? = some (Bc t q (k:Nat)).1:=by rw [JgN hj',e]
  have ha':Arc t st j ⟨prt t k,cls t k,j'⟩:=⟨k,⟨q,_,hj,by omega,hj'',Prod.ext rfl h.1⟩,Nf hD p _ _ j' h.2 ha hj'',rfl,rfl⟩
  rw [GN] at hp
  have hu:=hM.up _ _ _ hr ha'
  rcases Nat.lt_or_ge n (i+(cls t k).length+1) with hlt|hge
  ·have hi:=hr.le
   rcases Nat.lt_or_ge n i with h3|h3
   ·omega
   ·have:n-i<=CL (cls t k) (L.drop i):=by
     refine V2 (by omega) (by rw [List.length_drop];omega) ?_
     obtain ⟨z,hz⟩:=hp
     have e1:((L.take n).drop i).length=n-i:=by rw [List.length_drop,List.length_take];omega
     have e2:(cls t k++cellsOf t p).take (n-i)=(cls t k).take (n-i):=List.take_append_of_le_length (by omega)
     rw [← e2,← hz,← e1,List.take_left,e1,List.drop_take]
    simp only at hu;omega
  ·have hc:cls t k <+: L.drop i:=by
    obtain ⟨z,hz⟩:=hp
    have e1:(cls t k++cellsOf t p).take (cls t k).length=cls t k:=List.take_left
    have e2:((L.take n).drop i).length=n-i:=by rw [List.length_drop,List.length_take];omega
    rw [← hz,List.take_append_of_le_length (by omega),List.drop_take,List.take_take] at e1
    rw [← e1];exact List.take_prefix _ _
   have hr':=Rc.step hr ha' hc
   refine ih _ _ _ _ hr' hj'' hD h.2 ha ?_
   show (L.take n).drop (i+(cls t k).length) <+: cellsOf t p
   obtain ⟨z,hz⟩:=hp
   refine ⟨z,?_⟩
   have e2:((L.take n).drop i).length=n-i:=by rw [List.length_drop,List.length_take];omega
   have:=congrArg (List.drop (cls t k).length) hz
   rwa [List.drop_left,List.drop_append_of_le_length (by omega),List.drop_drop] at this
theorem JbT {m:Nat} (hM:Xf t st L m) {n:Nat} (hn:n<=L.length):GO t q (L.take n)↔n<=m:=by
 constructor
 ·rintro ⟨p,q',h1,h2,h3⟩
  exact Je8 hM hn p q q' 0 0 (.start hM.alive) h0 hD h1 h2 (by simpa using h3)
 ·intro hle
  rcases hM.at_ with e|⟨i,j,a,hr,ha,e⟩
  ·have:n=0:=by omega
   subst this;exact V1 hM.alive q h0
  ·obtain ⟨p,q',h1,h2,h3⟩:=hr.goes h0
   obtain ⟨k,⟨s,s',g1,g2,g3,g4⟩,hl,e1,e2⟩:=ha
   rw [g1] at h2;cases h2
   obtain ⟨p',q'',k1,k2,_⟩:=V1 hl s' g3
   refine ⟨p++(k:Int)::p',q'',?_,k2,?_⟩
   ·have:∀ (p:List Int) (q:Ab),Eu t q p q'->Eu t q (p++(k:Int)::p') q'':=by
     intro p
     induction p with
     | nil=>intro q h;unfold Eu at h;subst h;exact ⟨by rw [g4],by rw [g4];exact k1⟩
     | cons b p ih=>intro q h;exact ⟨h.1,ih _ h.2⟩
    exact this p q h1
   ·have e3:cellsOf t (p++(k:Int)::p')=L.take i++(a.cells++cellsOf t p'):=by rw [e2,← h3];simp [cellsOf]
    rw [e3]
    have hi:=hr.le
    have e5:L.take n=L.take i++(L.drop i).take (n-i)\/n<i:=by
     rcases Nat.lt_or_ge n i with h|h
     ·exact .inr h
     ·left
      have e4:L.take (i+(n-i))=L.take i++(L.drop i).take (n-i):=List.take_add
      rwa [show i+(n-i)=n by omega] at e4
    rcases e5 with e5|e5
    ·rw [e5]
     refine (List.prefix_append_right_inj _).2 ?_
     have h5:=Ng a.cells (L.drop i)
     have h6:(L.drop i).take (n-i) <+: (L.drop i).take (CL a.cells (L.drop i)):=by
      rw [show (L.drop i).take (n-i)=((L.drop i).take (CL a.cells (L.drop i))).take (n-i) by rw [List.take_take,Nat.min_eq_left (by omega)]]
      exact List.take_prefix _ _
     rw [← h5] at h6
     exact (h6.trans (List.take_prefix _ _)).trans (List.prefix_append _ _)
    ·have h7:L.take n <+: L.take i:=by
      rw [show L.take n=(L.take i).take n by rw [List.take_take,Nat.min_eq_left (by omega)]]
      exact List.take_prefix _ _
     exact h7.trans (List.prefix_append _ _)
end
end Go.AI
end
section
namespace Go.AI
theorem V3:∀ l:List (List UInt8),∃ m,Gj m/\∀ x,x∈m↔x∈l
 | []=>⟨[],List.Pairwise.nil,λ _=>Iff.rfl⟩
 | a::l=>by
  obtain ⟨m,h1,h2⟩:=V3 l
  exact ⟨P2 a false m,Rk a m h1,λ x=>by rw [P3,h2,List.mem_cons]⟩
structure HD where
 at_:Nat
 sta:Nat
 rest:List UInt8
section
variable {t:Aa} (hc:∀ r∈t.Rules,1<=r.Cells.length) {st:List Ab} {L:List Int}
theorem RG.inv {i:Nat} {l:List Int} {x:List UInt8} (h:RG t st i l x):(l=[]/\x=[]/\∃ q,st[i]? = some q/\AO t q=true)\/∃ a y,Arc t st i a/\a.cells <+: l/\RG t st a.to (l.drop a.cells.length) y/\x=a.print++y:=by
 cases h with
 | nil hi ha=>exact .inl ⟨rfl,rfl,_,hi,ha⟩
 | @cons _ a l x ha h=>exact .inr ⟨a,x,ha,List.prefix_append _ _,by rwa [List.drop_left],rfl⟩
theorem RG.of {i:Nat} {l:List Int} {a:GA} {y:List UInt8} (ha:Arc t st i a) (hp:a.cells <+: l) (h:RG t st a.to (l.drop a.cells.length) y):RG t st i l (a.print++y):=by
 obtain ⟨z,rfl⟩:=hp
 rw [List.drop_left] at h
 exact .cons ha h
theorem Arc.cells {i:Nat} {a:GA} (ha:Arc t st i a):∃ k:Nat,k<t.Rules.length/\a.to<st.length/\a.print=prt t k/\a.cells=cls t k:=by
 obtain ⟨k,⟨s,s',h1,h2,h3,h4⟩,_,e1,e2⟩:=ha
 exact ⟨k,h2,Ar h3,e1,e2⟩
include hc
theorem Arc.pos {i:Nat} {a:GA} (ha:Arc t st i a):1<=a.cells.length:=by
 obtain ⟨k,h1,_,_,e⟩:=ha.cells
 rw [e];exact hc _ (Do (by omega) (by omega))
open Classical in
theorem Je9:∀ (n:Nat) (l:List Int) (i:Nat),l.length<=n->∃ T:List (List UInt8),∀ x,RG t st i l x↔x∈T:=by
 intro n
 induction n with
 | zero=>
  intro l i hl
  have:l=[]:=List.length_eq_zero_iff.1 (by omega)
  subst this
  refine ⟨if RG t st i [] [] then [[]] else [],λ x=>?_⟩
  constructor
  ·intro h
   have:x=[]:=by
    rcases h.inv with ⟨_,h,_⟩|⟨a,y,ha,hp,_⟩
    ·exact h
    ·have h1:=ha.pos hc;have h2:=hp.length_le;rw [List.length_nil] at h2;omega
   subst this;rw [if_pos h];simp
  ·intro h
   split at h
   ·simp at h;subst h;assumption
   ·cases h
 | succ n ih=>
  intro l i hl
  have ih':∀ (a:GA),∃ T:List (List UInt8),Arc t st i a->∀ x,RG t st a.to (l.drop a.cells.length) x↔x∈T:=λ a=>by
   by_cases ha:Arc t st i a
   ·obtain ⟨T,hT⟩:=ih (l.drop a.cells.length) a.to (by have:=ha.pos hc;rw [List.length_drop];omega)
    exact ⟨T,λ _=>hT⟩
   ·exact ⟨[],λ h=>absurd h ha⟩
  refine ⟨(if RG t st i l [] then [[]] else [])++(List.range t.Rules.length).flatMap λ k:Nat=>(List.range st.length).flatMap λ j=>if Arc t st i ⟨prt t k,cls t k,j⟩/\cls t k <+: l then (Classical.choose (ih' ⟨prt t k,cls t k,j⟩)).map (prt t k++·) else [],λ x=>?_⟩
  simp only [List.mem_append,List.mem_flatMap,List.mem_range]
  constructor
  ·intro h
   rcases h.inv with ⟨rfl,rfl,_⟩|⟨a,y,ha,hp,hy,rfl⟩
   ·left;rw [if_pos h];simp
   ·right
    obtain ⟨k,h1,h2,e1,e2⟩:=ha.cells
    obtain ⟨p,c,j⟩:=a
    simp only at e1 e2 h2 hp hy;subst e1 e2
    refine ⟨k,h1,j,h2,?_⟩
    rw [if_pos ⟨ha,hp⟩]
    exact List.mem_map.2 ⟨y,(Classical.choose_spec (ih' ⟨prt t k,cls t k,j⟩) ha y).1 hy,rfl⟩
  ·rintro (h|⟨k,h1,j,h2,h⟩)
   ·split at h
    ·simp at h;subst h;assumption
    ·cases h
   ·split at h
    ·rename_i hh
     obtain ⟨y,h3,rfl⟩:=List.mem_map.1 h
     exact RG.of hh.1 hh.2 ((Classical.choose_spec (ih' ⟨prt t k,cls t k,j⟩) hh.1 y).2 h3)
    ·cases h
def Jq (t:Aa) (st:List Ab) (L:List Int) (H:List HD) (T:List (List UInt8)):Prop:=Gj T/\∀ x,x∈T↔∃ h∈H,∃ y,RG t st h.sta (L.drop h.at_) y/\x=h.rest++y
theorem Rm:∀ H:List HD,∃ T,Jq t st L H T:=by
 intro H
 have:∃ T:List (List UInt8),∀ x,x∈T↔∃ h∈H,∃ y,RG t st h.sta (L.drop h.at_) y/\x=h.rest++y:=by
  induction H with
  | nil=>exact ⟨[],by simp⟩
  | cons h H ih=>
   obtain ⟨T,hT⟩:=ih
   obtain ⟨T0,h0⟩:=Je9 (st:=st) hc _ (L.drop h.at_) h.sta (Nat.le_refl _)
   refine ⟨T0.map (h.rest++·)++T,λ x=>?_⟩
   simp only [List.mem_append,List.mem_map,hT,List.mem_cons,exists_eq_or_imp]
   constructor
   ·rintro (⟨y,h1,rfl⟩|h1)
    ·exact .inl ⟨y,(h0 y).2 h1,rfl⟩
    ·exact .inr h1
   ·rintro (⟨y,h1,rfl⟩|h1)
    ·exact .inl ⟨y,(h0 y).1 h1,rfl⟩
    ·exact .inr h1
 obtain ⟨T,hT⟩:=this
 obtain ⟨m,h1,h2⟩:=V3 T
 exact ⟨m,h1,λ x=>by rw [h2,hT]⟩
end
section
variable {t:Aa} {st:List Ab} {L:List Int}
theorem Jq.uniq {H:List HD} {T T':List (List UInt8)} (h:Jq t st L H T) (h':Jq t st L H T'):T=T':=h.1.ext h'.1 λ x=>by rw [h.2,h'.2]
def Gs (b:UInt8) (H:List HD):List HD:=H.filterMap λ h=>match h.rest with
 | c::r=>if c=b then some ⟨h.at_,h.sta,r⟩ else none
 | []=>none
theorem IQ {b:UInt8} {H:List HD} {g:HD}:g∈Gs b H↔⟨g.at_,g.sta,b::g.rest⟩∈H:=by
 unfold Gs
 rw [List.mem_filterMap]
 constructor
 ·rintro ⟨⟨i,j,r⟩,h1,h2⟩
  cases r with
  | nil=>cases h2
  | cons c r=>
   simp only at h2
   split at h2
   ·rename_i e;subst e;cases h2;exact h1
   ·cases h2
 ·intro h;exact ⟨_,h,by simp⟩
def ge1 (n:Nat) (x:List UInt8):Bool:=match x with
 | c::_=>decide (n<=c.toNat)
 | []=>false
def Nh (T:List (List UInt8)) (n:Nat):List (List UInt8):=T.filter (ge1 n)
theorem Gj.filter {l:List (List UInt8)} (h:Gj l) (p:List UInt8->Bool):Gj (l.filter p):=List.Pairwise.sublist List.filter_sublist h
def MH (H:List HD):Prop:=∀ h∈H,h.rest≠[]
theorem Xg {H:List HD} {T:List (List UInt8)} (hT:Jq t st L H T) (hO:MH H) {n:Nat} (hn:∀ h∈H,ge1 n h.rest=false):Nh T n=[]:=by
 refine List.filter_eq_nil_iff.2 λ x hx=>?_
 obtain ⟨h,h1,y,_,rfl⟩:=(hT.2 x).1 hx
 have:=hn h h1
 have h0:=hO h h1
 cases hr:h.rest with
 | nil=>exact absurd hr h0
 | cons c r=>rw [hr] at this;simpa [ge1] using this
theorem Vs {H:List HD} {T T':List (List UInt8)} (hT:Jq t st L H T) (hO:MH H) {n:Nat} {b:UInt8} (hb:n<=b.toNat) (hl:∀ h∈H,ge1 n h.rest=true->ge1 b.toNat h.rest=true) (hT':Jq t st L (Gs b H) T'):Nh T n=T'.map (b::·)++Nh T (b.toNat+1):=by
 have hgt:∀ x,x∈Nh T (b.toNat+1)->∃ c r,x=c::r/\b<c:=λ x hx=>by
  have:=(List.mem_filter.1 hx).2
  cases x with
  | nil=>cases this
  | cons c r=>exact ⟨c,r,rfl,UInt8.lt_iff_toNat_lt.2 (by simp only [ge1,decide_eq_true_eq] at this;omega)⟩
 refine Gj.ext (hT.1.filter _) ?_ λ x=>?_
 ·refine List.pairwise_append.2 ⟨?_,hT.1.filter _,?_⟩
  ·exact List.pairwise_map.2 (hT'.1.imp λ h=>IN.2 (.inr ⟨rfl,h⟩))
  ·intro x hx y hy
   obtain ⟨z,_,rfl⟩:=List.mem_map.1 hx
   obtain ⟨c,r,rfl,h⟩:=hgt y hy
   exact IN.2 (.inl h)
 ·simp only [Nh,List.mem_append,List.mem_map,List.mem_filter]
  constructor
  ·rintro ⟨h1,h2⟩
   obtain ⟨h,g1,y,g2,rfl⟩:=(hT.2 x).1 h1
   have h0:=hO h g1
   obtain ⟨i,j,r⟩:=h
   cases r with
   | nil=>exact absurd rfl h0
   | cons c r=>
    have h3:=hl _ g1 (by simpa [ge1] using h2)
    by_cases e:c=b
    ·subst e
     exact .inl ⟨r++y,(hT'.2 _).2 ⟨⟨i,j,r⟩,IQ.2 g1,y,g2,rfl⟩,rfl⟩
    ·refine .inr ⟨h1,?_⟩
     simp only [ge1,List.cons_append,decide_eq_true_eq] at h3 ⊢
     have:c.toNat≠b.toNat:=λ e'=>e (UInt8.toNat_inj.1 e')
     omega
  ·rintro (⟨z,h1,rfl⟩|⟨h1,h2⟩)
   ·obtain ⟨h,g1,y,g2,rfl⟩:=(hT'.2 z).1 h1
    exact ⟨(hT.2 _).2 ⟨_,IQ.1 g1,y,g2,rfl⟩,by simp [ge1,hb]⟩
   ·refine ⟨h1,?_⟩
    cases x with
    | nil=>cases h2
    | cons c r=>simp only [ge1,decide_eq_true_eq] at h2 ⊢;omega
structure SE (t:Aa) (st:List Ab) (L:List Int) (H F:List HD) (e:Bool):Prop where
 opn:MH F
 good:∀ h∈F,Rc t st L h.at_ h.sta/\∃ y,RG t st h.sta (L.drop h.at_) y
 ends:e=true↔∃ h∈H,h.rest=[]/\RG t st h.sta (L.drop h.at_) []
 same:∀ x,x≠[]->((∃ h∈F,∃ y,RG t st h.sta (L.drop h.at_) y/\x=h.rest++y)↔∃ h∈H,∃ y,RG t st h.sta (L.drop h.at_) y/\x=h.rest++y)
theorem SE.tx {H F:List HD} {e:Bool} (h:SE t st L H F e) {T T':List (List UInt8)} (hT:Jq t st L H T) (hT':Jq t st L F T'):T=(if e=true then [[]] else [])++T':=by
 have hne:∀ x∈T',x≠[]:=λ x hx=>by
  obtain ⟨g,g1,y,_,rfl⟩:=(hT'.2 x).1 hx
  have:=h.opn g g1
  intro e;exact this (List.append_eq_nil_iff.1 e).1
 refine Gj.ext hT.1 ?_ λ x=>?_
 ·refine List.pairwise_append.2 ⟨by split<;>simp,hT'.1,λ x hx y hy=>?_⟩
  split at hx
  ·simp at hx;subst hx
   have:=hne y hy
   cases y with
   | nil=>exact absurd rfl this
   | cons b y=>rfl
  ·cases hx
 ·rw [List.mem_append,hT.2]
  by_cases hx:x=[]
  ·subst hx
   constructor
   ·rintro ⟨g,g1,y,g2,g3⟩
    have:=List.append_eq_nil_iff.1 g3.symm
    left
    rw [if_pos (h.ends.2 ⟨g,g1,this.1,by rw [this.2] at g2;exact g2⟩)];simp
   ·rintro (h1|h1)
    ·split at h1
     ·rename_i he
      obtain ⟨g,g1,g2,g3⟩:=h.ends.1 he
      exact ⟨g,g1,[],g3,by rw [g2];rfl⟩
     ·cases h1
    ·exact absurd rfl (hne _ h1)
  ·rw [← h.same x hx,hT'.2]
   constructor
   ·exact .inr
   ·rintro (h1|h1)
    ·split at h1
     ·simp at h1;exact absurd h1 hx
     ·cases h1
    ·exact h1
theorem Jq.behind {H:List HD} {T:List (List UInt8)} {g:HD} (hg:g∈H) (hy:∃ y,RG t st g.sta (L.drop g.at_) y) (hT:Jq t st L H T):T≠[]:=by
 obtain ⟨y,hy⟩:=hy
 intro e0
 have:=(hT.2 (g.rest++y)).2 ⟨g,hg,y,hy,rfl⟩
 rw [e0] at this;cases this
def Od:List (List (List UInt8)×Nat)->List UInt8->List (List UInt8)
 | [],_=>[]
 | (T,n)::S,p=>(Nh T n).map (p++·)++Od S p.dropLast
def P5 (T:List (List UInt8)):Nat:=(T.map λ x=>2*x.length).sum
def LS:List (List (List UInt8)×Nat)->Nat
 | []=>0
 | (T,n)::S=>P5 (Nh T n)+1+LS S
theorem Uh (a b:List (List UInt8)):P5 (a++b)=P5 a+P5 b:=by simp [P5]
theorem Rn (b:UInt8):∀ T:List (List UInt8),P5 (T.map (b::·))=P5 T+2*T.length
 | []=>rfl
 | x::T=>by
  have:=Rn b T
  simp only [P5,List.map_cons,List.sum_cons,List.length_cons] at this ⊢
  omega
theorem JaE {H F:List HD} {e:Bool} {T T' TF:List (List UInt8)} {n:Nat} {b:UInt8} {S:List (List (List UInt8)×Nat)} {p:List UInt8} (hT:Jq t st L H T) (hO:MH H) (hb:n<=b.toNat) (hl:∀ h∈H,ge1 n h.rest=true->ge1 b.toNat h.rest=true) (hT':Jq t st L (Gs b H) T') (hne:T'≠[]) (hs:SE t st L (Gs b H) F e) (hF:Jq t st L F TF) :
  Od ((T,n)::S) p=(if e=true then [p++[b]] else [])++Od ((TF,0)::(T,b.toNat+1)::S) (p++[b])/\LS ((TF,0)::(T,b.toNat+1)::S)<LS ((T,n)::S):=by
 have h1:=Vs hT hO hb hl hT'
 have h2:=hs.tx hT' hF
 have h3:Nh TF 0=TF:=by
  refine List.filter_eq_self.2 λ x hx=>?_
  obtain ⟨g,g1,y,_,rfl⟩:=(hF.2 x).1 hx
  have:=hs.opn g g1
  cases hr:g.rest with
  | nil=>exact absurd hr this
  | cons c r=>simp [ge1]
 constructor
 ·simp only [Od,h1,h3,List.dropLast_concat,List.map_append,List.append_assoc]
  rw [h2]
  split
  ·simp
  ·simp
 ·simp only [LS,h1,h3,Uh,Rn]
  have h4:1<=T'.length:=List.length_pos_iff.2 hne
  have h5:P5 TF<=P5 T':=by
   rw [h2,Uh];omega
  omega
theorem JaF {H:List HD} {T:List (List UInt8)} {n:Nat} {S:List (List (List UInt8)×Nat)} {p:List UInt8} (hT:Jq t st L H T) (hO:MH H) (hn:∀ h∈H,ge1 n h.rest=false):Od ((T,n)::S) p=Od S p.dropLast/\LS S<LS ((T,n)::S):=by
 simp only [Od,LS,Xg hT hO hn,List.map_nil,List.nil_append,true_and,P5]
 omega
end
end Go.AI
end
section
namespace Go.AI
def Gd (t:Aa) (st:List Ab) (L:List Int) (i j:Nat):Prop:=Rc t st L i j/\∃ y,RG t st j (L.drop i) y
def Drv (t:Aa) (st:List Ab) (L:List Int) (H:List HD) (h:HD):Prop:=∀ y,RG t st h.sta (L.drop h.at_) y->∃ g∈H,∃ y',RG t st g.sta (L.drop g.at_) y'/\g.rest++y'=h.rest++y
def DnH (t:Aa) (st:List Ab) (L:List Int) (K:HD->Prop) (e:Bool) (h:HD):Prop:=(h.at_=L.length->(∃ q,st[h.sta]? = some q/\AO t q=true)->e=true)/\∀ a,Arc t st h.sta a->a.cells <+: L.drop h.at_->Gd t st L (h.at_+a.cells.length) a.to->K ⟨h.at_+a.cells.length,a.to,a.print⟩
structure SI (t:Aa) (st:List Ab) (L:List Int) (H:List HD) (K X:HD->Prop) (op fd:List HD) (e:Bool):Prop where
 kg:∀ h,K h->Gd t st L h.at_ h.sta/\Drv t st L H h
 opn:∀ h∈op,K h/\h.rest=[]
 fnd:∀ h∈fd,K h/\h.rest≠[]
 cf:∀ h,K h->h.rest≠[]->h∈fd
 co:∀ h,K h->h.rest=[]->h∈op\/X h\/DnH t st L K e h
 en:e=true->∃ h,K h/\h.rest=[]/\h.at_=L.length/\∃ q,st[h.sta]? = some q/\AO t q=true
section
variable {t:Aa} {st:List Ab} {L:List Int} {H:List HD} {K X:HD->Prop} {op fd:List HD} {e:Bool}
theorem DnH.mono {K':HD->Prop} {e':Bool} (hK:∀ h,K h->K' h) (he:e=true->e'=true) {h:HD} (hd:DnH t st L K e h):DnH t st L K' e' h:=⟨λ h1 h2=>he (hd.1 h1 h2),λ a h1 h2 h3=>hK _ (hd.2 a h1 h2 h3)⟩
theorem SI.start:SI t st L H (λ _=>False) X [] [] false:=⟨λ _ h=>h.elim,λ _ h=>by simp at h,λ _ h=>by simp at h,λ _ h=>h.elim,λ _ h=>h.elim,λ h=>by cases h⟩
theorem SI.addO (hS:SI t st L H K X op fd e) {h:HD} (hg:Gd t st L h.at_ h.sta) (hd:Drv t st L H h) (hr:h.rest=[]):SI t st L H (λ g=>K g\/g=h) X (op++[h]) fd e:=by
 refine ⟨?_,?_,λ g hg=>⟨.inl (hS.fnd g hg).1,(hS.fnd g hg).2⟩,?_,?_,λ he=>?_⟩
 ·rintro g (hg'|rfl)
  ·exact hS.kg g hg'
  ·exact ⟨hg,hd⟩
 ·intro g hg'
  rcases List.mem_append.1 hg' with h1|h1
  ·exact ⟨.inl (hS.opn g h1).1,(hS.opn g h1).2⟩
  ·simp at h1;subst h1;exact ⟨.inr rfl,hr⟩
 ·rintro g (hg'|rfl) hn
  ·exact hS.cf g hg' hn
  ·exact absurd hr hn
 ·rintro g (hg'|rfl) hn
  ·rcases hS.co g hg' hn with h1|h1|h1
   ·exact .inl (by simp [h1])
   ·exact .inr (.inl h1)
   ·exact .inr (.inr (h1.mono (λ _=>.inl) id))
  ·exact .inl (by simp)
 ·obtain ⟨g,h1,h2⟩:=hS.en he;exact ⟨g,.inl h1,h2⟩
theorem SI.addF (hS:SI t st L H K X op fd e) {h:HD} (hg:Gd t st L h.at_ h.sta) (hd:Drv t st L H h) (hr:h.rest≠[]):SI t st L H (λ g=>K g\/g=h) X op (fd++[h]) e:=by
 refine ⟨?_,λ g hg=>⟨.inl (hS.opn g hg).1,(hS.opn g hg).2⟩,?_,?_,?_,λ he=>?_⟩
 ·rintro g (hg'|rfl)
  ·exact hS.kg g hg'
  ·exact ⟨hg,hd⟩
 ·intro g hg'
  rcases List.mem_append.1 hg' with h1|h1
  ·exact ⟨.inl (hS.fnd g h1).1,(hS.fnd g h1).2⟩
  ·simp at h1;subst h1;exact ⟨.inr rfl,hr⟩
 ·rintro g (hg'|rfl) hn
  ·have:=hS.cf g hg' hn;simp [this]
  ·simp
 ·rintro g (hg'|rfl) hn
  ·rcases hS.co g hg' hn with h1|h1|h1
   ·exact .inl h1
   ·exact .inr (.inl h1)
   ·exact .inr (.inr (h1.mono (λ _=>.inl) id))
  ·exact absurd hn hr
 ·obtain ⟨g,h1,h2⟩:=hS.en he;exact ⟨g,.inl h1,h2⟩
theorem SI.drv (hS:SI t st L H K X op fd e) {h:HD} (hk:K h) (hr:h.rest=[]) {a:GA} (ha:Arc t st h.sta a) (hp:a.cells <+: L.drop h.at_):Drv t st L H ⟨h.at_+a.cells.length,a.to,a.print⟩:=by
 intro y hy
 have h1:=(hS.kg h hk).2 (a.print++y) (RG.of ha hp (by rw [List.drop_drop];exact hy))
 rw [hr] at h1
 exact h1
theorem SI.pop {h:HD} (hS:SI t st L H K (λ _=>False) (op++[h]) fd e) {e':Bool} (he:e'=true↔e=true\/(h.at_=L.length/\∃ q,st[h.sta]? = some q/\AO t q=true)):SI t st L H K (λ g=>g=h) op fd e':=by
 have hk:=hS.opn h (by simp)
 refine ⟨hS.kg,λ g hg=>hS.opn g (by simp [hg]),hS.fnd,hS.cf,λ g hg hr=>?_,λ h1=>?_⟩
 ·rcases hS.co g hg hr with h1|h1|h1
  ·rcases List.mem_append.1 h1 with h1|h1
   ·exact .inl h1
   ·simp at h1;exact .inr (.inl h1)
  ·exact h1.elim
  ·exact .inr (.inr (h1.mono (λ _=>id) λ h2=>he.2 (.inl h2)))
 ·rcases he.1 h1 with h2|⟨h2,h3⟩
  ·exact hS.en h2
  ·exact ⟨h,hk.1,hk.2,h2,h3⟩
theorem SI.close {h:HD} (hS:SI t st L H K (λ g=>g=h) op fd e) (hd:DnH t st L K e h):SI t st L H K (λ _=>False) op fd e:=by
 refine ⟨hS.kg,hS.opn,hS.fnd,hS.cf,λ g hg hr=>?_,hS.en⟩
 rcases hS.co g hg hr with h1|rfl|h1
 ·exact .inl h1
 ·exact .inr (.inr hd)
 ·exact .inr (.inr h1)
theorem SI.fin (hc:∀ r∈t.Rules,1<=r.Cells.length) (hS:SI t st L H K (λ _=>False) [] fd e) (hK:∀ h∈H,Gd t st L h.at_ h.sta->K h) (hH:∀ h∈H,(∃ y,RG t st h.sta (L.drop h.at_) y)->Rc t st L h.at_ h.sta):SE t st L H fd e:=by
 have dn:∀ h,K h->h.rest=[]->DnH t st L K e h:=λ h hk hr=>by
  rcases hS.co h hk hr with h1|h1|h1
  ·cases h1
  ·exact h1.elim
  ·exact h1
 refine ⟨λ h hh=>(hS.fnd h hh).2,λ h hh=>(hS.kg h (hS.fnd h hh).1).1,⟨λ he=>?_,?_⟩,λ x hx=>⟨?_,?_⟩⟩
 ·obtain ⟨h,hk,hr,hN,q,h1,h2⟩:=hS.en he
  have hy:RG t st h.sta (L.drop h.at_) []:=by rw [hN,List.drop_length];exact .nil h1 h2
  obtain ⟨g,g1,y,g2,g3⟩:=(hS.kg h hk).2 [] hy
  rw [hr] at g3
  obtain ⟨k1,k2⟩:=List.append_eq_nil_iff.1 g3
  subst k2
  exact ⟨g,g1,k1,g2⟩
 ·rintro ⟨g,g1,g2,g3⟩
  have main:∀ (n:Nat) (h:HD),K h->h.rest=[]->L.length-h.at_<=n->RG t st h.sta (L.drop h.at_) []->e=true:=by
   intro n
   induction n with
   | zero=>
    intro h hk hr hn hy
    have hle:=(hS.kg h hk).1.1.le
    have hN:h.at_=L.length:=by omega
    rw [hN,List.drop_length] at hy
    rcases hy.inv with ⟨_,_,q,h1,h2⟩|⟨a,y,ha,hp,_⟩
    ·exact (dn h hk hr).1 hN ⟨q,h1,h2⟩
    ·have h1:=ha.pos hc;have h2:=hp.length_le;rw [List.length_nil] at h2;omega
   | succ n ih=>
    intro h hk hr hn hy
    have hle:=(hS.kg h hk).1.1.le
    rcases hy.inv with ⟨h0,_,q,h1,h2⟩|⟨a,y,ha,hp,h1,h2⟩
    ·have:h.at_=L.length:=by have:=List.drop_eq_nil_iff.1 h0;omega
     exact (dn h hk hr).1 this ⟨q,h1,h2⟩
    ·obtain ⟨k1,k2⟩:=List.append_eq_nil_iff.1 h2.symm
     subst k2
     rw [List.drop_drop] at h1
     have hk':=(dn h hk hr).2 a ha hp ⟨.step (hS.kg h hk).1.1 ha hp,_,h1⟩
     exact ih _ hk' k1 (by have:=ha.pos hc;show L.length-(h.at_+a.cells.length)<=n;omega) h1
  exact main _ g (hK g g1 ⟨hH g g1 ⟨_,g3⟩,_,g3⟩) g2 (Nat.le_refl _) g3
 ·rintro ⟨h,h1,y,h2,rfl⟩
  obtain ⟨g,g1,y',g2,g3⟩:=(hS.kg h (hS.fnd h h1).1).2 y h2
  exact ⟨g,g1,y',g2,g3.symm⟩
 ·rintro ⟨g,g1,y,g2,rfl⟩
  have main:∀ (n:Nat) (h:HD),K h->L.length-h.at_<=n->∀ y,RG t st h.sta (L.drop h.at_) y->h.rest++y≠[]->∃ f∈fd,∃ y',RG t st f.sta (L.drop f.at_) y'/\h.rest++y=f.rest++y':=by
   intro n
   induction n with
   | zero=>
    intro h hk hn y hy hne
    by_cases hr:h.rest=[]
    ·have hle:=(hS.kg h hk).1.1.le
     have hN:h.at_=L.length:=by omega
     rw [hN,List.drop_length] at hy
     rcases hy.inv with ⟨_,h2,_⟩|⟨a,y,ha,hp,_⟩
     ·rw [hr,h2] at hne;exact absurd rfl hne
     ·have h1:=ha.pos hc;have h2:=hp.length_le;rw [List.length_nil] at h2;omega
    ·exact ⟨h,hS.cf h hk hr,y,hy,rfl⟩
   | succ n ih=>
    intro h hk hn y hy hne
    by_cases hr:h.rest=[]
    ·rcases hy.inv with ⟨_,h2,_⟩|⟨a,y',ha,hp,h1,h2⟩
     ·rw [hr,h2] at hne;exact absurd rfl hne
     ·subst h2
      rw [List.drop_drop] at h1
      have hk':=(dn h hk hr).2 a ha hp ⟨.step (hS.kg h hk).1.1 ha hp,_,h1⟩
      rw [hr] at hne ⊢
      have hle:=(hS.kg h hk).1.1.le
      exact ih _ hk' (by have:=ha.pos hc;show L.length-(h.at_+a.cells.length)<=n;omega) y' h1 hne
    ·exact ⟨h,hS.cf h hk hr,y,hy,rfl⟩
  exact main _ g (hK g g1 ⟨hH g g1 ⟨_,g2⟩,_,g2⟩) (Nat.le_refl _) y g2 hx
end
end Go.AI
end
section
namespace Go.AI
structure Lq (t:Aa) (st:List Ab) (al:List Bool) (op:List Int) (q:Option (Nat×List Int×Nat)):Prop where
 len:al.length=st.length
 snd:∀ j:Nat,al[j]? = some true->Fb t st j
 acc:∀ (j:Nat) s,st[j]? = some s->AO t s=true->al[j]? = some true
 opn:∀ x∈op,∃ j:Nat,x=(j:Int)/\al[j]? = some true
 cl:∀ i k j,Edge t st i k j->al[j]? = some true->al[i]? = some true\/(j:Int)∈op\/∃ l m p,q=some (j,l,m)/\m<=p/\l[p]? = some (i:Int)
 siz:2*IM al+op.length<=3000
theorem JaG {t:Aa} {st:List Ab} (hF:FC t st) (fr:List (List Int)):Tot (λ n=>whl (λ (x:((List Bool)×(List Int)×Int))=>CY n t (st,fr) x.1 x.2.1 x.2.2) n (List.replicate st.length false,([]:List Int),0)) (λ r=>Lq t st r.1 r.2 none):=by
 have hlen:=hF.len
 refine Tot.upto (body:=λ n x=>CY n t (st,fr) x.1 x.2.1 x.2.2) st.length (λ i x=>x.2.2=(i:Int)/\x.1.length=st.length/\(∀ j:Nat,x.1[j]? = some true↔j<i/\∃ s,st[j]? = some s/\AO t s=true)/\(∀ y∈x.2.1,∃ j:Nat,y=(j:Int)/\x.1[j]? = some true)/\(∀ j:Nat,x.1[j]? = some true->(j:Int)∈x.2.1)/\x.2.1.length<=i) ?_ ?_ _ ⟨rfl,by simp,λ j=>?_,by simp,λ j hj=>?_,by simp⟩
 ·rintro i ⟨al,op,i'⟩ hi ⟨e,h1,h2,h3,h4,h5⟩
  simp only at e h1 h2 h3 h4 h5
  subst e
  have hal:i<al.length:=by rw [h1];exact hi
  have hgi:st[i]? = some st[i]:=JgN hi
  unfold CY
  have hJ:∀ al' op',(al'.length=st.length/\(∀ j:Nat,al'[j]? = some true↔j<i+1/\∃ s,st[j]? = some s/\AO t s=true)/\(∀ y∈op',∃ j:Nat,y=(j:Int)/\al'[j]? = some true)/\(∀ j:Nat,al'[j]? = some true->(j:Int)∈op')/\op'.length<=i+1)->Tot (λ n=>Dh n (i:Int) al' op') (Rd2 (λ x:List Bool×List Int×Int=>x.2.2=((i+1:Nat):Int)/\x.1.length=st.length/\(∀ j:Nat,x.1[j]? = some true↔j<i+1/\∃ s,st[j]? = some s/\AO t s=true)/\(∀ y∈x.2.1,∃ j:Nat,y=(j:Int)/\x.1[j]? = some true)/\(∀ j:Nat,x.1[j]? = some true->(j:Int)∈x.2.1)/\x.2.1.length<=i+1) (λ r=>Lq t st r.1 r.2 none)):=by
   intro al' op' h
   unfold Dh
   exact Tot.pure ⟨D4 (by omega),h⟩
  refine Tot.iteT (by simpa using hi) (Tot.bindC (BL hi) (Tot.bindA (λ n=>PX n t _) (Tot.ite (λ hc=>?_) (λ hc=>?_))))
  ·refine Tot.bindC (BL hal) (Tot.bindC (Sw hal) (Tot.bindC (PZ (by simp;omega)) (hJ _ _ ⟨by rw [Jg3];exact h1,λ j=>?_,λ y hy=>?_,λ j hj=>?_,by simp only [List.length_append,List.length_singleton];omega⟩)))
   ·by_cases e:i=j
    ·subst e
     rw [JgX hal]
     exact ⟨λ _=>⟨by omega,_,hgi,hc⟩,λ _=>rfl⟩
    ·rw [Jg2 e,h2 j]
     exact ⟨λ h=>⟨by omega,h.2⟩,λ h=>⟨by omega,h.2⟩⟩
   ·rcases List.mem_append.1 hy with hy|hy
    ·obtain ⟨j,rfl,hj⟩:=h3 y hy
     refine ⟨j,rfl,?_⟩
     by_cases e:i=j
     ·subst e;rw [JgX hal]
     ·rw [Jg2 e];exact hj
    ·simp at hy
     exact ⟨i,hy,JgX hal⟩
   ·by_cases e:i=j
    ·subst e;simp
    ·rw [Jg2 e] at hj
     exact List.mem_append_left _ (h4 j hj)
  ·refine hJ _ _ ⟨h1,λ j=>?_,h3,h4,Nat.le_succ_of_le h5⟩
   rw [h2 j]
   refine ⟨λ h=>⟨by omega,h.2⟩,λ h=>⟨?_,h.2⟩⟩
   rcases Nat.lt_or_ge j i with hj|hj
   ·exact hj
   ·have:j=i:=by omega
    subst this
    obtain ⟨_,s,hs,ha⟩:=h
    rw [hgi] at hs
    cases hs
    rw [ha] at hc
    cases hc
 ·rintro ⟨al,op,i'⟩ ⟨e,h1,h2,h3,h4,h5⟩
  simp only at e h1 h2 h3 h4 h5
  subst e
  unfold CY
  refine Tot.iteF (by simp) (Tot.pure ⟨h1,λ j hj=>?_,λ j s hs ha=>?_,h3,λ i k j he hj=>.inr (.inl (h4 j hj)),?_⟩)
  ·obtain ⟨_,s,hs,ha⟩:=(h2 j).1 hj
   exact .acc j s hs ha
  ·exact (h2 j).2 ⟨Ar hs,s,hs,ha⟩
  ·have:=JbR al
   simp only
   omega
 ·rw [List.getElem?_replicate]
  constructor
  ·intro h;split at h<;>cases h
  ·intro h;omega
 ·simp only at hj
  rw [List.getElem?_replicate] at hj
  split at hj<;>cases hj
theorem JaH {t:Aa} {st:List Ab} {fr:List (List Int)} (hF:FC t st) (hR:C4 t st fr st.length 0) {q:Nat} {l:List Int} (hl:fr[q]? = some l) (hq:Fb t st q) {al:List Bool} {op:List Int} (h0:Lq t st al op (some (q,l,0))) :
  Tot (λ n=>whl (λ (x:((List Bool)×(List Int)×Int))=>CZ n (st,fr) l x.1 x.2.1 x.2.2) n (al,op,0)) (λ r=>Lq t st r.1 r.2 none/\2*IM r.1+r.2.length<=2*IM al+op.length):=by
 have hlen:=hF.len
 have hll:=hR.small q l hl
 refine Tot.upto (body:=λ n x=>CZ n (st,fr) l x.1 x.2.1 x.2.2) l.length (λ m x=>x.2.2=(m:Int)/\Lq t st x.1 x.2.1 (some (q,l,m))/\2*IM x.1+x.2.1.length<=2*IM al+op.length) ?_ ?_ _ ⟨rfl,h0,Nat.le_refl _⟩
 ·rintro m ⟨al',op',m'⟩ hm ⟨e,hB,hc⟩
  simp only at e hB hc
  subst e
  have hgm:l[m]? = some l[m]:=JgN hm
  obtain ⟨b,sb,kb,sq,hb,hsb,hkb,hsq,hst⟩:=hR.sound q l hl _ (List.getElem_mem hm)
  have hbl:b<al'.length:=by rw [hB.len];exact Ar hsb
  have hE:Edge t st b kb q:=⟨sb,sq,hsb,hkb,hsq,hst⟩
  have hJ:∀ al'' op'',Lq t st al'' op'' (some (q,l,m+1))->2*IM al''+op''.length<=2*IM al+op.length->Tot (λ n=>Di n (m:Int) al'' op'') (Rd2 (λ x:List Bool×List Int×Int=>x.2.2=((m+1:Nat):Int)/\Lq t st x.1 x.2.1 (some (q,l,m+1))/\2*IM x.1+x.2.1.length<=2*IM al+op.length) (λ r=>Lq t st r.1 r.2 none/\2*IM r.1+r.2.length<=2*IM al+op.length)):=by
   intro al'' op'' h h'
   unfold Di
   exact Tot.pure ⟨D4 (by omega),h,h'⟩
  unfold CZ
  refine Tot.iteT (by simpa using hm) (Tot.bindC (BL hm) ?_)
  rw [hb]
  rw [hb] at hgm
  refine Tot.bindC (BL hbl) (Tot.ite (λ hf=>?_) (λ hf=>?_))
  ·have hbf:al'[b]? = some false:=by rw [JgN hbl];simpa using hf
   have hcs:=Jaz hbf
   have hsz:=hB.siz
   refine Tot.bindC (BL hbl) (Tot.bindC (Sw hbl) (Tot.bindC (PZ (by simp;omega)) (hJ _ _ ⟨by rw [Jg3];exact hB.len,λ j hj=>?_,λ j s h1 h2=>?_,λ x hx=>?_,λ i k j he hj=>?_,?_⟩ ?_)))
   ·by_cases e:b=j
    ·subst e;exact .step b kb q hE hq
    ·rw [Jg2 e] at hj;exact hB.snd j hj
   ·by_cases e:b=j
    ·subst e;rw [JgX hbl]
    ·rw [Jg2 e];exact hB.acc j s h1 h2
   ·rcases List.mem_append.1 hx with hx|hx
    ·obtain ⟨j,rfl,hj⟩:=hB.opn x hx
     refine ⟨j,rfl,?_⟩
     by_cases e:b=j
     ·subst e;rw [JgX hbl]
     ·rw [Jg2 e];exact hj
    ·simp at hx
     exact ⟨b,hx,JgX hbl⟩
   ·by_cases ei:b=i
    ·subst ei;rw [JgX hbl];exact .inl rfl
    ·rw [Jg2 ei]
     by_cases e:b=j
     ·subst e;exact .inr (.inl (by simp))
     ·rw [Jg2 e] at hj
      rcases hB.cl i k j he hj with h|h|⟨l',m',p,h1,h2,h3⟩
      ·exact .inl h
      ·exact .inr (.inl (List.mem_append_left _ h))
      ·cases h1
       refine .inr (.inr ⟨l,m+1,p,rfl,?_,h3⟩)
       rcases Nat.lt_or_ge m p with h|h
       ·exact h
       ·have:p=m:=by omega
        subst this
        rw [hgm] at h3
        exact absurd (Int.ofNat_inj.1 (Option.some.inj h3)) ei
   ·simp only [List.length_append,List.length_singleton];omega
   ·simp only [List.length_append,List.length_singleton];omega
  ·have hbt:al'[b]? = some true:=by rw [JgN hbl];simpa using hf
   refine hJ _ _ ⟨hB.len,hB.snd,hB.acc,hB.opn,λ i k j he hj=>?_,hB.siz⟩ hc
   rcases hB.cl i k j he hj with h|h|⟨l',m',p,h1,h2,h3⟩
   ·exact .inl h
   ·exact .inr (.inl h)
   ·cases h1
    rcases Nat.lt_or_ge m p with h|h
    ·exact .inr (.inr ⟨l,m+1,p,rfl,h,h3⟩)
    ·have:p=m:=by omega
     subst this
     rw [hgm] at h3
     have:=Int.ofNat_inj.1 (Option.some.inj h3)
     subst this
     exact .inl hbt
 ·rintro ⟨al',op',m'⟩ ⟨e,hB,hc⟩
  simp only at e hB hc
  subst e
  unfold CZ
  refine Tot.iteF (by simp) (Tot.pure ⟨⟨hB.len,hB.snd,hB.acc,hB.opn,λ i k j he hj=>?_,hB.siz⟩,hc⟩)
  rcases hB.cl i k j he hj with h|h|⟨l',m',p,h1,h2,h3⟩
  ·exact .inl h
  ·exact .inr (.inl h)
  ·cases h1
   have:=Ar h3
   omega
theorem Xh {t:Aa} (ht:GE t):Tot (λ n=>GW n t) (Ib t (A1 t)):=by
 obtain ⟨hF,hD⟩:=Ec ht
 obtain ⟨fr,hR,hE⟩:=PY ht
 unfold GW
 refine Tot.bindE hE ?_
 generalize A1 t=st at *
 have hlen:=hF.len
 have hmk:mkl 1 ((st.length:Nat):Int) false=some (List.replicate st.length false):=by
  unfold mkl
  rw [if_pos (by simp;omega),Int.toNat_natCast]
 refine Tot.bindC hmk (Tot.bind (JaG hF fr) ?_)
 rintro ⟨al,op⟩ hB
 simp only at hB
 refine Tot.bind (R:=Ib t st) ?_ λ y hy=>Tot.pure hy
 refine Tot.whl (body:=λ n x=>D9 n (st,fr) x.1 x.2) (λ c x=>c=2*IM x.1+x.2.length/\Lq t st x.1 x.2 none) ?_ _ _ ⟨rfl,hB⟩
 rintro c ⟨al,op⟩ ⟨rfl,hB⟩
 simp only at hB
 unfold D9
 refine Tot.ite (λ hc=>?_) (λ hc=>?_)
 ·have hpos:0<op.length:=by simpa using hc
  have hsz:=hB.siz
  obtain ⟨op',x,rfl⟩:∃ op' x,op=op'++[x]:=⟨op.dropLast,op.getLast (by intro h;subst h;simp at hpos),(List.dropLast_concat_getLast _).symm⟩
  have hn:DD .i64 ((List.length (op'++[x]):Nat):Int) 1=(op'.length:Int):=by
   simp only [List.length_append,List.length_singleton] at hsz ⊢
   rw [LP (by omega) (by omega)];omega
  have hx:(op'++[x])[op'.length]? = some x:=by simp
  have hsub:sub (op'++[x]) 0 (op'.length:Int)=some op':=by
   unfold sub
   rw [if_pos (by simp;omega)]
   simp
  obtain ⟨q,rfl,hq⟩:=hB.opn x (by simp)
  have hqF:q<fr.length:=by rw [hR.len,← hB.len];exact Ar hq
  simp only [hn]
  refine Tot.bindC (Ft hx) (Tot.bindC hsub (Tot.bindC (BL hqF) ?_))
  have hlq:fr[q]? = some fr[q]:=JgN hqF
  have hB':Lq t st al op' (some (q,fr[q],0)):=by
   refine ⟨hB.len,hB.snd,hB.acc,λ y hy=>hB.opn y (List.mem_append_left _ hy),λ i k j he hj=>?_,by simp at hsz;omega⟩
   rcases hB.cl i k j he hj with h|h|⟨_,_,_,h,_⟩
   ·exact .inl h
   ·rcases List.mem_append.1 h with h|h
    ·exact .inr (.inl h)
    ·simp at h
     have hjq:j=q:=by omega
     subst hjq
     obtain ⟨s,s',a1,a2,a3,a4⟩:=he
     have hm:=hR.compl j _ hlq i s k s' (.inl (Ar a1)) a1 a2 a3 a4
     obtain ⟨p,hp,hp'⟩:=List.getElem_of_mem hm
     exact .inr (.inr ⟨_,0,p,rfl,by omega,by rw [JgN hp,hp']⟩)
   ·cases h
  refine Tot.bind (JaH hF hR hlq (hB.snd q hq) hB') λ y hy=>Tot.pure ⟨_,?_,rfl,hy.1⟩
  have:=hy.2
  simp only [List.length_append,List.length_singleton]
  omega
 ·have h0:op=[]:=by
   have:¬ 0<op.length:=by simpa using hc
   exact List.eq_nil_of_length_eq_zero (by omega)
  subst h0
  refine Tot.pure (Ib.of hB.len hB.snd hB.acc λ i k j he hj=>?_)
  rcases hB.cl i k j he hj with h|h|⟨_,_,_,h,_⟩
  ·exact h
  ·simp at h
  ·cases h
end Go.AI
end
section
namespace Go.AI
theorem Xi (a b:Int) (x y:List Int):CL (a::x) (b::y)=if a=b then CL x y+1 else 0:=rfl
theorem JaI (y:List Int):CL [] y=0:=by cases y<;>rfl
theorem Xj (x:List Int):CL x []=0:=by cases x<;>rfl
theorem Ni (x y:List Int) (hx:x.length<9223372036854775807):Ev (λ n=>DS n x y) ((CL x y:Nat):Int):=by
 refine Tot.ev ?_
 unfold DS
 refine Tot.bind (R:=λ r=>r=((CL x y:Nat):Int)) ?_ (λ r hr=>by subst hr;exact Tot.pure rfl)
 refine Tot.whl (body:=λ n s=>Du n x y s) (λ k s=>∃ i:Nat,s=(i:Int)/\k=x.length-i/\i<=x.length/\i+CL (x.drop i) (y.drop i)=CL x y) ?_ x.length 0 ⟨0,rfl,rfl,by omega,by simp⟩
 rintro k s ⟨i,rfl,rfl,hi,he⟩
 unfold Du
 by_cases hc:i<x.length/\i<y.length
 ·obtain ⟨h1,h2⟩:=hc
  have hc:(decide ((i:Int)<((x.length:Nat):Int))&&decide ((i:Int)<((y.length:Nat):Int)))=true:=by simp;omega
  rw [List.drop_eq_getElem_cons h1,List.drop_eq_getElem_cons h2,Xi] at he
  refine Tot.bindC (y:=x[i]) (by rw [if_pos hc];exact BL h1) (Tot.bindC (y:=y[i]) (by rw [if_pos hc];exact BL h2) ?_)
  by_cases e:x[i]=y[i]
  ·rw [if_pos e] at he
   exact Tot.iteT (by rw [hc];simp [e]) (Tot.pure ⟨x.length-(i+1),by omega,i+1,D0 (by omega),rfl,by omega,by omega⟩)
  ·rw [if_neg e] at he
   refine Tot.iteF (by rw [hc];simp [e]) (Tot.pure ?_)
   show (i:Int)=((CL x y:Nat):Int)
   omega
 ·have hc':(decide ((i:Int)<((x.length:Nat):Int))&&decide ((i:Int)<((y.length:Nat):Int)))=false:=by
   rw [Bool.eq_false_iff];intro h;simp at h;omega
  have h0:CL (x.drop i) (y.drop i)=0:=by
   by_cases h:i<x.length
   ·rw [List.drop_eq_nil_of_le (show y.length<=i by omega),Xj]
   ·rw [List.drop_eq_nil_of_le (show x.length<=i by omega),JaI]
  refine Tot.bindC (y:=default) (by rw [if_neg (by rw [hc'];simp)]) (Tot.bindC (y:=default) (by rw [if_neg (by rw [hc'];simp)]) (Tot.iteF (by rw [hc'];rfl) (Tot.pure ?_)))
  show (i:Int)=((CL x y:Nat):Int)
  omega
structure KP (t:Aa) (st:List Ab) (i m:Nat) (l:List JO):Prop where
 len:l.length<=m
 snd:∀ a∈l,∃ j k:Nat,a.To=(j:Int)/\Edge t st i k j/\Fb t st j/\a.Print=prt t k/\a.Cells=cls t k
 cov:∀ k j:Nat,k<m->Edge t st i k j->Fb t st j->(⟨prt t k,cls t k,(j:Int)⟩:JO)∈l
structure QB (t:Aa) (st:List Ab) (g:Am):Prop where
 len:g.Arcs.length=st.length
 acc:∀ (i:Nat) s,st[i]? = some s->g.Accepts[i]? = some (AO t s)
 alive:Ib t st g.Alive
 arcs:∀ (i:Nat) l,g.Arcs[i]? = some l->KP t st i t.Rules.length l
structure GJ (t:Aa) (st:List Ab) (al:List Bool) (i m c:Nat) (g:Am):Prop where
 len:g.Arcs.length=st.length
 aln:g.Accepts.length=st.length
 acc:∀ (j:Nat) s,j<c->st[j]? = some s->g.Accepts[j]? = some (AO t s)
 alive:g.Alive=al
 arcs:∀ (j:Nat) l,g.Arcs[j]? = some l->(j<i->KP t st j t.Rules.length l)/\(j=i->KP t st i m l)/\(i<j->l=[])
theorem KP.nil (t:Aa) (st:List Ab) (i:Nat):KP t st i 0 []:=⟨Nat.le_refl _,λ a h=>by simp at h,λ k j h=>by omega⟩
theorem Xk {t:Aa} (ht:GE t) {st:List Ab} (hF:FC t st) (hD:∀ i,Sv t i st) {nb:List (Ab×Int)} (hN:JL st nb) {al:List Bool} (hal:Ib t st al) (r24:List Ab) {i:Nat} {s:Ab} (hi:st[i]? = some s) {g:Am} (hg:GJ t st al i 0 (i+1) g) :
  Tot (λ n=>whl (λ (x:(Am×Int))=>B7 n t r24 nb (i:Int) s x.1 x.2) n (g,0)) (GJ t st al (i+1) 0 (i+1)):=by
 have hil:=Ar hi
 have h768:=hF.len
 have hr:=ht.1
 refine Tot.upto (body:=λ n (x:Am×Int)=>B7 n t r24 nb (i:Int) s x.1 x.2) t.Rules.length (λ m x=>x.2=(m:Int)/\GJ t st al i m (i+1) x.1) ?_ ?_ _ ⟨rfl,hg⟩
 ·rintro m ⟨g,_⟩ hm ⟨rfl,hg⟩
  unfold B7
  refine Tot.iteT (by simp;omega) (Tot.bindC (Jay (k:=(m:Int)) (by omega) (by omega)) (Tot.bindA (λ n=>On ht.short n s (m:Nat)) ?_))
  have same:∀ (no:¬∃ j,Edge t st i m j/\Fb t st j),GJ t st al i (m+1) (i+1) g:=λ no=>by
   refine ⟨hg.len,hg.aln,hg.acc,hg.alive,λ j l hl=>?_⟩
   obtain ⟨h1,h2,h3⟩:=hg.arcs j l hl
   refine ⟨h1,λ e=>?_,h3⟩
   obtain ⟨q1,q2,q3⟩:=h2 e
   refine ⟨by omega,q2,λ k j hk hE hL=>?_⟩
   by_cases e:k=m
   ·subst e;exact absurd ⟨j,hE,hL⟩ no
   ·exact q3 k j (by omega) hE hL
  have nxt:∀ g',GJ t st al i (m+1) (i+1) g'->Tot (λ n=>CO n (m:Int) g') (Rd2 (λ x=>x.2=((m+1:Nat):Int)/\GJ t st al i (m+1) (i+1) x.1) (GJ t st al (i+1) 0 (i+1))):=λ g' hg'=>Tot.pure ⟨D4 (by omega),hg'⟩
  by_cases hs:(Bc t s (m:Nat)).2=true
  ·have hmem:=hD (i+1) i s (by omega) hi m hm hs
   obtain ⟨j,hjl,hj⟩:=List.mem_iff_getElem.1 hmem
   have hj':st[j]? = some (Bc t s (m:Nat)).1:=by rw [JgN hjl,hj]
   have hE:Edge t st i m j:=⟨s,_,hi,hm,hj',by rw [← hs]⟩
   have hnum:Option.getD (CW (Bc t s (m:Nat)).1 nb) 0=(j:Int):=by rw [hN,Dm hF.nodup hj'];rfl
   have hjal:j<al.length:=by rw [hal.1];exact hjl
   refine Tot.bindC (y:=al[j]) (by rw [if_pos hs,hnum,hg.alive];exact BL hjal) ?_
   by_cases hL:al[j]=true
   ·have hLj:Fb t st j:=(hal.2 j).1 (by rw [JgN hjal,hL])
    have hial:i<g.Arcs.length:=by rw [hg.len];exact hil
    have hai:=JgN hial
    obtain ⟨_,hA,_⟩:=hg.arcs i _ hai
    have hA:=hA rfl
    refine Tot.iteT (by rw [hs,hL];rfl) (Tot.bindC (BL hial) (Tot.bindC (DZ (by have:=hA.len;simp;omega)) (nxt _ ?_)))
    refine ⟨by simpa using hg.len,hg.aln,hg.acc,hg.alive,λ j' l hl=>?_⟩
    rw [hnum,Int.toNat_natCast,List.getElem?_set] at hl
    split at hl
    ·rename_i e
     subst e
     try rw [if_pos hial] at hl
     cases hl
     refine ⟨λ h=>absurd h (Nat.lt_irrefl _),λ _=>⟨by have:=hA.len;simp;omega,λ a ha=>?_,λ k j2 hk hE2 hL2=>?_⟩,λ h=>absurd h (Nat.lt_irrefl _)⟩
     ·rcases List.mem_append.1 ha with h|h
      ·exact hA.snd a h
      ·simp only [List.mem_singleton] at h
       subst h
       exact ⟨j,m,rfl,hE,hLj,rfl,rfl⟩
     ·by_cases e:k=m
      ·subst e
       obtain ⟨s1,s2,k1,_,k3,k4⟩:=hE2
       rw [hi] at k1;cases k1
       have:j2=j:=SB hF.nodup (s:=s2) k3 (by rw [hj'];rw [k4])
       subst this
       exact List.mem_append_right _ (List.mem_singleton.2 rfl)
      ·exact List.mem_append_left _ (hA.cov k j2 (by omega) hE2 hL2)
    ·rename_i e
     obtain ⟨h1,h2,h3⟩:=hg.arcs j' l hl
     exact ⟨h1,λ h=>absurd h.symm e,h3⟩
   ·have hL':al[j]=false:=by simpa using hL
    refine Tot.iteF (by rw [hs,hL'];rfl) (nxt _ (same ?_))
    rintro ⟨j2,⟨s1,s2,k1,_,k3,k4⟩,hL2⟩
    rw [hi] at k1;cases k1
    have:j2=j:=SB hF.nodup (s:=s2) k3 (by rw [hj'];rw [k4])
    subst this
    have:=(hal.2 j2).2 hL2
    rw [JgN hjal,hL'] at this
    cases this
  ·have hs':(Bc t s (m:Nat)).2=false:=by simpa using hs
   refine Tot.bindC (y:=default) (by rw [if_neg hs]) (Tot.iteF (by rw [hs'];rfl) (nxt _ (same ?_)))
   rintro ⟨j2,⟨s1,s2,k1,_,k3,k4⟩,hL2⟩
   rw [hi] at k1;cases k1
   rw [k4] at hs';cases hs'
 ·rintro ⟨g,_⟩ ⟨rfl,hg⟩
  unfold B7
  refine Tot.iteF (by simp) (Tot.pure ⟨hg.len,hg.aln,hg.acc,hg.alive,λ j l hl=>?_⟩)
  obtain ⟨h1,h2,h3⟩:=hg.arcs j l hl
  refine ⟨λ h=>?_,λ h=>?_,λ h=>h3 (by omega)⟩
  ·by_cases e:j=i
   ·subst e;exact h2 rfl
   ·exact h1 (by omega)
  ·have:=h3 (by omega);subst this;exact .nil _ _ _
theorem JaJ {t:Aa} (ht:GE t):Tot (λ n=>Dj n t) (QB t (A1 t)):=by
 obtain ⟨hF,hD⟩:=Ec ht
 have h768:=hF.len
 unfold Dj
 refine Tot.bindE (Vl ht) (Tot.bind (R:=JL (A1 t)) ?_ λ nb hN=>Tot.bindC (Jam (by omega) (by omega)) (Tot.bindC (Jam (by omega) (by omega)) (Tot.bind (Xh ht) λ al hal=>Tot.bind (R:=QB t (A1 t)) ?_ λ g hg=>Tot.pure hg)))
 ·refine Tot.upto (body:=λ n (x:(List (Ab×Int))×Int)=>Cu n t (A1 t) x.1 x.2) (A1 t).length (λ i x=>x.2=(i:Int)/\JL ((A1 t).take i) x.1) ?_ ?_ _ ⟨rfl,λ s=>rfl⟩
  ·rintro i ⟨nb,_⟩ hi ⟨rfl,hN⟩
   unfold Cu
   refine Tot.iteT (by simp;omega) (Tot.bindC (BL hi) (Tot.pure ⟨D4 (by omega),?_⟩))
   rw [List.take_add_one,JgN hi,Option.toList_some]
   have:=hN.snoc (p:=(A1 t)[i]) (hF.nodup.sublist (List.take_sublist _ _)) (λ h=>by
    obtain ⟨j,hj,e⟩:=List.mem_iff_getElem.1 h
    rw [List.getElem_take] at e
    have hj':j<i:=by rw [List.length_take] at hj;omega
    have:=SB hF.nodup (i:=i) (j:=j) (JgN hi) (by rw [JgN (show j<(A1 t).length by omega),e])
    omega)
   rw [List.length_take,Nat.min_eq_left (by omega)] at this
   exact this
  ·rintro ⟨nb,_⟩ ⟨rfl,hN⟩
   unfold Cu
   refine Tot.iteF (by simp) (Tot.pure ?_)
   rw [List.take_length] at hN;exact hN
 ·refine Tot.upto (body:=λ n (x:Am×Int)=>Cv n t (A1 t) nb x.1 x.2) (A1 t).length (λ i x=>x.2=(i:Int)/\GJ t (A1 t) al i 0 i x.1) ?_ ?_ _ ⟨rfl,by simp,by simp,λ j s h=>by omega,rfl,λ j l hl=>?_⟩
  ·rintro i ⟨g,_⟩ hi ⟨rfl,hg⟩
   have hia:i<g.Accepts.length:=by rw [hg.aln];exact hi
   have hsi:=JgN hi
   unfold Cv
   refine Tot.iteT (by simp;omega) (Tot.bindC (BL hi) (Tot.bindA (λ n=>PX n t _) (Tot.bindC (BL hia) (Tot.bindC (Sw hia) (Tot.bind (Xk ht hF hD hN hal _ hsi ?_) λ g' hg'=>Tot.pure ⟨D4 (by omega),hg'⟩)))))
   refine ⟨hg.len,by simpa using hg.aln,λ j s hj hs=>?_,hg.alive,hg.arcs⟩
   rw [List.getElem?_set]
   split
   ·rename_i e;subst e
    rw [hsi] at hs;cases hs
    first|rfl|rw [if_pos hia]
   ·exact hg.acc j s (by omega) hs
  ·rintro ⟨g,_⟩ ⟨rfl,hg⟩
   unfold Cv
   refine Tot.iteF (by simp) (Tot.pure ⟨hg.len,λ i s hs=>hg.acc i s (Ar hs) hs,?_,λ i l hl=>?_⟩)
   ·rw [hg.alive];exact hal
   ·exact (hg.arcs i l hl).1 (by have:=Ar hl;rw [hg.len] at this;exact this)
  ·have:l=[]:=by
    rw [List.getElem?_replicate] at hl
    split at hl
    ·exact (Option.some.inj hl).symm
    ·cases hl
   subst this
   exact ⟨λ h=>by omega,λ _=>.nil _ _ _,λ _=>rfl⟩
end Go.AI
end
section
namespace Go.AI
abbrev spt (i j:Nat):Ae:=⟨(i:Int),(j:Int)⟩
theorem Jr {i j i' j':Nat}:spt i j=spt i' j'↔i=i'/\j=j':=by
 simp only [spt,Ae.mk.injEq];omega
abbrev toG (a:GA):JO:=⟨a.print,a.cells,(a.to:Int)⟩
theorem KP.arc {t:Aa} {st:List Ab} {i:Nat} {l:List JO} (h:KP t st i t.Rules.length l):(∀ x∈l,∃ a:GA,x=toG a/\Arc t st i a)/\∀ a,Arc t st i a->toG a∈l:=by
 refine ⟨λ x hx=>?_,λ a ha=>?_⟩
 ·obtain ⟨j,k,h1,h2,h3,h4,h5⟩:=h.snd x hx
  obtain ⟨p,c,o⟩:=x
  simp only at h1 h4 h5
  subst h1;subst h4;subst h5
  exact ⟨⟨prt t k,cls t k,j⟩,rfl,k,h2,h3,rfl,rfl⟩
 ·obtain ⟨k,h1,h2,h3,h4⟩:=ha
  have:=h.cov k a.to (by obtain ⟨_,_,_,q,_⟩:=h1;exact q) h1 h2
  rw [← h3,← h4] at this;exact this
theorem Xl {l m:List Int} (h:l.Nodup) (hs:∀ x∈l,x∈m):l.length<=m.length:=by
 induction l generalizing m with
 | nil=>simp
 | cons a l ih=>
  rw [List.nodup_cons] at h
  have ha:=hs a (by simp)
  have hlen:(m.erase a).length=m.length-1:=List.length_erase_of_mem ha
  have hpos:0<m.length:=List.length_pos_of_mem ha
  have:=ih (m:=m.erase a) h.2 λ x hx=>by
   have hne:x≠a:=λ e=>h.1 (e▸hx)
   exact (List.mem_erase_of_ne hne).2 (hs x (by simp [hx]))
  simp
  omega
theorem Xm {l:List Int} {N:Nat} (h:l.Nodup) (hs:∀ x∈l,∃ j:Nat,x=(j:Int)/\j<N):l.length<=N:=by
 have:=Xl (m:=(List.range N).map λ (j:Nat)=>(j:Int)) h λ x hx=>by
  obtain ⟨j,rfl,hj⟩:=hs x hx
  exact List.mem_map.2 ⟨j,List.mem_range.2 hj,rfl⟩
 simpa using this
def Rw (rows:List (Bool×List Int)) (i j:Nat):Prop:=∃ row,rows[i]? = some row/\(j:Int)∈row.2
structure W (t:Aa) (st:List Ab) (L:List Int) (i:Nat) (Dn:Nat->GA->Prop) (rows:List (Bool×List Int)) (add:List (Ae×Bool)) (most:Nat):Prop where
 len:rows.length=L.length+1
 mem:∀ i j:Nat,Option.getD (CW (spt i j) add) false=true↔Rw rows i j
 snd:∀ (i:Nat) row,rows[i]? = some row->row.2.Nodup/\∀ x∈row.2,∃ j:Nat,x=(j:Int)/\Rc t st L i j
 tag:∀ (i':Nat) row,i<i'->rows[i']? = some row->row.1=false
 cl:∀ i' j a,Rw rows i' j->Arc t st j a->(i'<i\/(i'=i/\Dn j a))->i'+CL a.cells (L.drop i')<=most/\(a.cells <+: L.drop i'->Rw rows (i'+a.cells.length) a.to)
 at_:most=0\/∃ i j a,Rc t st L i j/\Arc t st j a/\most=i+CL a.cells (L.drop i)
 fst:Rw rows 0 0
section
variable {t:Aa} {st:List Ab} {L:List Int} {i:Nat} {Dn:Nat->GA->Prop} {rows:List (Bool×List Int)} {add:List (Ae×Bool)} {most:Nat}
theorem W.small (hW:W t st L i Dn rows add most) {a:Nat} {row:Bool×List Int} (h:rows[a]? = some row):row.2.length<=st.length:=by
 obtain ⟨h1,h2⟩:=hW.snd a row h
 refine Xm h1 λ x hx=>?_
 obtain ⟨j,rfl,hj⟩:=h2 x hx
 exact ⟨j,rfl,hj.live.lt⟩
theorem Jfa {i2 j2:Nat} {row:Bool×List Int} (h:rows[i2]? = some row) (a b:Nat):Rw (rows.set i2 (false,row.2++[(j2:Int)])) a b↔Rw rows a b\/(a=i2/\b=j2):=by
 have hlt:=Ar h
 unfold Rw
 rw [List.getElem?_set]
 by_cases e:i2=a
 ·subst e
  simp only [if_pos hlt,if_true,JgW,exists_eq_left',List.mem_append,List.mem_singleton,true_and]
  rw [h]
  simp only [JgW,exists_eq_left']
  constructor
  ·rintro (q|q)
   ·exact .inl q
   ·exact .inr (by omega)
  ·rintro (q|q)
   ·exact .inl q
   ·exact .inr (by omega)
 ·rw [if_neg e]
  constructor
  ·exact .inl
  ·rintro (q|⟨q,_⟩)
   ·exact q
   ·exact absurd q.symm e
theorem W.ins (hst:st.length<=768) (hW:W t st L i Dn rows add most) {i2 j2:Nat} (hR:Rc t st L i2 j2) (hlt:i<i2):∃ rows' add',(∀ n,Bk n (spt i2 j2) add rows=some (add',rows'))/\W t st L i Dn rows' add' most/\Rw rows' i2 j2/\rows'[i]? = rows[i]? := by
 have hle:=hR.le
 have hi2:i2<rows.length:=by rw [hW.len];omega
 by_cases h:Option.getD (CW (spt i2 j2) add) false=true
 ·exact ⟨rows,add,λ n=>by unfold Bk;rw [if_neg (by rw [h];simp)],hW,(hW.mem _ _).1 h,rfl⟩
 ·have hrow:=JgN hi2
  have htag:=hW.tag i2 _ hlt hrow
  have hsm:=hW.small hrow
  have hno:¬Rw rows i2 j2:=λ q=>h ((hW.mem _ _).2 q)
  have hset:=@Jfa rows i2 j2 _ hrow
  refine ⟨rows.set i2 (false,rows[i2].2++[(j2:Int)]),DN (spt i2 j2) true add,λ n=>?_,?_,(hset _ _).2 (.inr ⟨rfl,rfl⟩),by rw [Jg2 (by omega)]⟩
  ·unfold Bk
   rw [if_pos (by simpa using h)]
   have e1:UZ rows (spt i2 j2).At=some rows[i2].2:=by
    unfold UZ
    rw [BL hi2,Option.bind_some,htag];rfl
   rw [e1,Option.bind_some,DZ (by simp;omega),Option.bind_some]
   rfl
  ·refine ⟨by simpa using hW.len,λ a b=>?_,λ a row hr=>?_,λ a row ha hr=>?_,λ a b g hr hg hd=>?_,hW.at_,(hset _ _).2 (.inl hW.fst)⟩
   ·rw [hset,Na]
    by_cases e:spt a b=spt i2 j2
    ·rw [if_pos e];have:=Jr.1 e;simp [this]
    ·rw [if_neg e,hW.mem]
     constructor
     ·exact .inl
     ·rintro (q|q)
      ·exact q
      ·exact absurd (Jr.2 q) e
   ·rw [List.getElem?_set] at hr
    by_cases e:i2=a
    ·subst e
     rw [if_pos rfl,if_pos hi2] at hr
     cases hr
     obtain ⟨h1,h2⟩:=hW.snd i2 _ hrow
     refine ⟨List.nodup_append.2 ⟨h1,by simp,λ x hx y hy=>?_⟩,λ x hx=>?_⟩
     ·simp only [List.mem_singleton] at hy
      subst hy
      rintro rfl
      exact hno ⟨_,hrow,hx⟩
     ·rcases List.mem_append.1 hx with q|q
      ·exact h2 x q
      ·simp only [List.mem_singleton] at q;exact ⟨j2,q,hR⟩
    ·rw [if_neg e] at hr;exact hW.snd a row hr
   ·rw [List.getElem?_set] at hr
    by_cases e:i2=a
    ·subst e
     rw [if_pos rfl,if_pos hi2] at hr
     cases hr;rfl
    ·rw [if_neg e] at hr;exact hW.tag a row ha hr
   ·have hr':Rw rows a b:=by
     rcases (hset _ _).1 hr with q|q
     ·exact q
     ·omega
    obtain ⟨q1,q2⟩:=hW.cl a b g hr' hg hd
    exact ⟨q1,λ q=>(hset _ _).2 (.inl (q2 q))⟩
theorem W.more (hW:W t st L i Dn rows add most) {j:Nat} {a:GA} (hR:Rc t st L i j) (ha:Arc t st j a) (hp:a.cells <+: L.drop i->Rw rows (i+a.cells.length) a.to):W t st L i (λ j' a'=>Dn j' a'\/(j'=j/\a'=a)) rows add (max most (i+CL a.cells (L.drop i))):=by
 refine ⟨hW.len,hW.mem,hW.snd,hW.tag,λ i' j' a' hr hg hd=>?_,?_,hW.fst⟩
 ·rcases hd with h|⟨h,h'|⟨rfl,rfl⟩⟩
  ·obtain ⟨q1,q2⟩:=hW.cl i' j' a' hr hg (.inl h);exact ⟨by omega,q2⟩
  ·obtain ⟨q1,q2⟩:=hW.cl i' j' a' hr hg (.inr ⟨h,h'⟩);exact ⟨by omega,q2⟩
  ·subst h;exact ⟨by omega,hp⟩
 ·by_cases h:most<=i+CL a.cells (L.drop i)
  ·exact .inr ⟨i,j,a,hR,ha,by omega⟩
  ·rcases hW.at_ with h1|⟨i',j',a',h1,h2,h3⟩
   ·omega
   ·exact .inr ⟨i',j',a',h1,h2,by omega⟩
theorem W.dn (hW:W t st L i Dn rows add most) {Dn':Nat->GA->Prop} (h:∀ j a,Rw rows i j->Arc t st j a->Dn' j a->Dn j a):W t st L i Dn' rows add most:=
 ⟨hW.len,hW.mem,hW.snd,hW.tag,λ i' j' a' hr hg hd=>hW.cl i' j' a' hr hg (by
  rcases hd with h1|⟨h1,h2⟩
  ·exact .inl h1
  ·exact .inr ⟨h1,h j' a' (h1▸hr) hg h2⟩),hW.at_,hW.fst⟩
theorem P6 {i:Nat} (h:i<=L.length):sub L (i:Int) ((L.length:Nat):Int)=some (L.drop i):=by
 rw [Jal (by omega) (by omega) (by omega)];simp
theorem Jfb {m k:Nat} {x:Int} (hx:x=(k:Int)):(if x>(m:Int) then x else (m:Int))=((max m k:Nat):Int):=by
 subst hx
 split<;>omega
theorem Xn (hc:∀ r∈t.Rules,1<=r.Cells.length/\r.Cells.length<=1000) (hst:st.length<=768) (hrl:t.Rules.length<=11) (hL:L.length<=1000) {g:Am} (r28:(List (Ae×Bool))×(List (Bool×(List Int)))) {j:Nat} (hR:Rc t st L i j) {l:List JO} (hl:KP t st j t.Rules.length l) (x34:Bool×List Int) (x22:Int) {R:Bool×List Int} (hrow:rows[i]? = some R) (hW:W t st L i Dn rows add most) :
  Tot (λ n=>whl (λ (x:((List (Bool×(List Int)))×(List (Ae×Bool))×Int×Int))=>Bs n L g r28 (i:Int) x34 x22 l x.1 x.2.1 x.2.2.1 x.2.2.2) n (rows,add,(most:Int),0)) (λ r=>∃ m:Nat,r.2.2=(m:Int)/\W t st L i (λ j' a=>Dn j' a\/j'=j) r.1 r.2.1 m/\r.1[i]? = some R):=by
 have hile:=hR.le
 obtain ⟨hA1,hA2⟩:=hl.arc
 refine Tot.upto (body:=λ n (x:(List (Bool×(List Int)))×(List (Ae×Bool))×Int×Int)=>Bs n L g r28 (i:Int) x34 x22 l x.1 x.2.1 x.2.2.1 x.2.2.2) l.length (λ q x=>x.2.2.2=(q:Int)/\∃ m:Nat,x.2.2.1=(m:Int)/\W t st L i (λ j' a=>Dn j' a\/(j'=j/\toG a∈l.take q)) x.1 x.2.1 m/\x.1[i]? = some R) ?_ ?_ _ ⟨rfl,most,rfl,hW.dn λ j' a _ _ h=>by simpa using h,hrow⟩
 ·rintro q ⟨rows,add,_,_⟩ hq ⟨rfl,m,rfl,hW,hrow⟩
  obtain ⟨a,ea,ha⟩:=hA1 _ (List.getElem_mem hq)
  have hcl:a.cells.length<=1000/\1<=a.cells.length:=by
   obtain ⟨k,h1,_,_,e⟩:=ha.cells
   have:=hc _ (Do (k:=(k:Int)) (by omega) (by omega))
   rw [e];exact ⟨this.2,this.1⟩
  have hcl2:=SD a.cells (L.drop i)
  have hld:(L.drop i).length=L.length-i:=List.length_drop
  have hadd:BC .i64 (i:Int) ((CL a.cells (L.drop i):Nat):Int)=((i+CL a.cells (L.drop i):Nat):Int):=by rw [LO (by omega) (by omega)];omega
  have stepD:∀ {rows:List (Bool×List Int)} {add:List (Ae×Bool)} {m:Nat},W t st L i (λ j' a'=>(Dn j' a'\/(j'=j/\toG a'∈l.take q))\/(j'=j/\a'=a)) rows add m->W t st L i (λ j' a'=>Dn j' a'\/(j'=j/\toG a'∈l.take (q+1))) rows add m:=λ h=>h.dn λ j' a' _ _ hd=>by
   rcases hd with hd|⟨h1,h2⟩
   ·exact .inl (.inl hd)
   ·rw [List.take_add_one,JgN hq,Option.toList_some,List.mem_append,List.mem_singleton,ea] at h2
    rcases h2 with h2|h2
    ·exact .inl (.inr ⟨h1,h2⟩)
    ·refine .inr ⟨h1,?_⟩
     obtain ⟨p1,c1,o1⟩:=a
     obtain ⟨p2,c2,o2⟩:=a'
     simp only [toG,JO.mk.injEq] at h2
     simp only [GA.mk.injEq]
     exact ⟨h2.1,h2.2.1,by omega⟩
  unfold Bs
  refine Tot.iteT (by simp;omega) (Tot.bindC (y:=toG a) (by rw [BL hq,ea]) (Tot.bindC (P6 hile) (Tot.bindE (Ni a.cells (L.drop i) (by omega)) ?_)))
  rw [Jfb hadd]
  by_cases hp:a.cells <+: L.drop i
  ·have hcm:=Hm.2 hp
   have hR2:=Rc.step hR ha hp
   obtain ⟨rows',add',e1,hW',hrw,e2⟩:=hW.ins hst hR2 (by omega)
   have espt:(⟨BC .i64 (i:Int) ((CL a.cells (L.drop i):Nat):Int),(toG a).To⟩:Ae)=spt (i+a.cells.length) a.to:=by
    rw [hadd,hcm]
   refine Tot.iteT (by rw [hcm];exact beq_self_eq_true _) (Tot.bindA (y:=(add',rows')) (λ n=>by rw [espt];exact e1 n) (Tot.pure ⟨D4 (by have:=hl.len;omega),_,rfl,stepD (hW'.more hR ha λ _=>hrw),by rw [e2];exact hrow⟩))
  ·have hcm:CL a.cells (L.drop i)≠a.cells.length:=λ h=>hp (Hm.1 h)
   refine Tot.iteF (by rw [beq_eq_false_iff_ne];intro h;exact hcm (Int.ofNat_inj.1 h)) (Tot.pure ⟨D4 (by have:=hl.len;omega),_,rfl,stepD (hW.more hR ha λ h=>absurd h hp),hrow⟩)
 ·rintro ⟨rows,add,_,_⟩ ⟨rfl,m,rfl,hW,hrow⟩
  unfold Bs
  refine Tot.iteF (by simp) (Tot.pure ⟨m,rfl,hW.dn λ j' a _ hg hd=>?_,hrow⟩)
  rcases hd with hd|rfl
  ·exact .inl hd
  ·rw [List.take_length];exact .inr ⟨rfl,hA2 a hg⟩
theorem Xo (hc:∀ r∈t.Rules,1<=r.Cells.length/\r.Cells.length<=1000) (hst:st.length<=768) (hrl:t.Rules.length<=11) (hL:L.length<=1000) {g:Am} (hg:QB t st g) (r28:(List (Ae×Bool))×(List (Bool×(List Int)))) (b:Bool) {R:Bool×List Int} (hrow:rows[i]? = some R) (hW:W t st L i Dn rows add most) :
  Tot (λ n=>whl (λ (x:((List (Bool×(List Int)))×(List (Ae×Bool))×Int×Int))=>Bt n L g r28 (i:Int) (b,R.2) x.1 x.2.1 x.2.2.1 x.2.2.2) n (rows,add,(most:Int),0)) (λ r=>∃ m:Nat,r.2.2=(m:Int)/\W t st L (i+1) (λ _ _=>False) r.1 r.2.1 m):=by
 refine Tot.upto (body:=λ n (x:(List (Bool×(List Int)))×(List (Ae×Bool))×Int×Int)=>Bt n L g r28 (i:Int) (b,R.2) x.1 x.2.1 x.2.2.1 x.2.2.2) R.2.length (λ q x=>x.2.2.2=(q:Int)/\∃ m:Nat,x.2.2.1=(m:Int)/\W t st L i (λ j' _=>(j':Int)∈R.2.take q) x.1 x.2.1 m/\x.1[i]? = some R) ?_ ?_ _ ⟨rfl,most,rfl,hW.dn λ j' a _ _ h=>by simp at h,hrow⟩
 ·rintro q ⟨rows,add,_,_⟩ hq ⟨rfl,m,rfl,hW,hrow⟩
  obtain ⟨j,ej,hR⟩:=(hW.snd i R hrow).2 _ (List.getElem_mem hq)
  have hsm:=hW.small hrow
  have hjl:j<g.Arcs.length:=by rw [hg.len];exact hR.live.lt
  unfold Bt
  refine Tot.iteT (by simp;omega) (Tot.bindC (y:=(j:Int)) ((BL hq).trans (by rw [ej])) (Tot.bindC (BL hjl) (Tot.bind (Xn hc hst hrl hL r28 hR (hg.arcs j _ (JgN hjl)) _ _ hrow hW) ?_)))
  rintro ⟨rows',add',_⟩ ⟨m',rfl,hW',hrow'⟩
  refine Tot.pure ⟨D4 (by omega),m',rfl,hW'.dn λ j' a _ _ hd=>?_,hrow'⟩
  rw [List.take_add_one,JgN hq,Option.toList_some,List.mem_append,List.mem_singleton,ej] at hd
  rcases hd with hd|hd
  ·exact .inl hd
  ·exact .inr (by omega)
 ·rintro ⟨rows,add,_,_⟩ ⟨rfl,m,rfl,hW,hrow⟩
  unfold Bt
  refine Tot.iteF (by simp) (Tot.pure ⟨m,rfl,hW.len,hW.mem,hW.snd,λ i' row h=>hW.tag i' row (by omega),λ i' j a hr ha hd=>hW.cl i' j a hr ha ?_,hW.at_,hW.fst⟩)
  rcases hd with hd|⟨_,hd⟩
  ·by_cases e:i'=i
   ·subst e
    refine .inr ⟨rfl,?_⟩
    obtain ⟨row,h1,h2⟩:=hr
    rw [hrow] at h1;cases h1
    rw [List.take_length];exact h2
   ·exact .inl (by omega)
  ·exact hd.elim
end
structure WOK (t:Aa) (st:List Ab) (L:List Int) (r:List (Bool×List Int)×Int):Prop where
 len:r.1.length=L.length+1
 rows:∀ i j:Nat,Rw r.1 i j↔Rc t st L i j
 nat:∀ (i:Nat) row,r.1[i]? = some row->row.2.length<=768/\∀ x∈row.2,∃ j:Nat,x=(j:Int)
 most:(Fb t st 0/\∃ m:Nat,r.2=(m:Int)/\Xf t st L m)\/(¬Fb t st 0/\r.2=-1)
theorem JaK {t:Aa} {st:List Ab} {L:List Int} (hc:∀ r∈t.Rules,1<=r.Cells.length/\r.Cells.length<=1000) (hst:st.length<=768) (h0:0<st.length) (hrl:t.Rules.length<=11) (hL:L.length<=1000) {g:Am} (hg:QB t st g):Tot (λ n=>Cw n L g) (WOK t st L):=by
 have hal:0<g.Alive.length:=by rw [hg.alive.1];exact h0
 have hadd:BC .i64 ((L.length:Nat):Int) 1=((L.length+1:Nat):Int):=D4 (by omega)
 unfold Cw
 refine Tot.bindC (y:=List.replicate (L.length+1) (false,[])) (by rw [hadd,Jam (by omega) (by omega)];rfl) (Tot.bindC (BL (i:=0) hal) ?_)
 by_cases hL0:g.Alive[0]=true
 ·have hlv:Fb t st 0:=(hg.alive.2 0).1 (by rw [JgN hal,hL0])
  have hw:∀ n,Bk n (⟨0,0⟩:Ae) [] (List.replicate (L.length+1) (false,[]))=some ([(spt 0 0,true)],(List.replicate (L.length+1) (false,[])).set 0 (false,[0])):=by
   intro n
   unfold Bk
   rw [if_pos (by rfl)]
   have:UZ (List.replicate (L.length+1) (false,([]:List Int))) (0:Int)=some []:=by
    unfold UZ
    show (idx _ ((0:Nat):Int)).bind _=_
    rw [BL (l:=List.replicate (L.length+1) (false,([]:List Int))) (i:=0) (by simp)]
    simp
   rw [this,Option.bind_some,DZ (by simp),Option.bind_some]
   rfl
  have hz:∀ (i:Nat) row,((List.replicate (L.length+1) (false,([]:List Int))).set 0 (false,[0]))[i]? = some row->row=if i=0 then (false,[0]) else (false,[]):=by
   intro i row h
   rw [List.getElem?_set] at h
   by_cases e:0=i
   ·subst e
    rw [if_pos rfl,if_pos (by simp)] at h
    cases h;rfl
   ·rw [if_neg e,List.getElem?_replicate] at h
    split at h
    ·cases h;rw [if_neg (Ne.symm e)]
    ·cases h
  have h00:((List.replicate (L.length+1) (false,([]:List Int))).set 0 (false,[0]))[0]? = some (false,[0]):=by rw [List.getElem?_set];simp
  have hW0:W t st L 0 (λ _ _=>False) ((List.replicate (L.length+1) (false,[])).set 0 (false,[0])) [(spt 0 0,true)] 0:=by
   have hrw:∀ i j:Nat,Rw ((List.replicate (L.length+1) (false,([]:List Int))).set 0 (false,[0])) i j↔i=0/\j=0:=by
    intro i j
    constructor
    ·rintro ⟨row,h1,h2⟩
     have:=hz i row h1
     subst this
     split at h2
     ·rename_i e;simp at h2;omega
     ·simp at h2
    ·rintro ⟨rfl,rfl⟩;exact ⟨_,h00,by simp⟩
   refine ⟨by simp,λ i j=>?_,λ i row h=>?_,λ i row _ h=>?_,λ i' j a _ _ hd=>?_,.inl rfl,(hrw 0 0).2 ⟨rfl,rfl⟩⟩
   ·rw [hrw]
    unfold CW
    by_cases e:spt i j=spt 0 0
    ·rw [if_pos e];simpa using Jr.1 e
    ·rw [if_neg e]
     constructor
     ·intro h;cases h
     ·intro h;exact absurd (Jr.2 h) e
   ·have:=hz i row h
    subst this
    by_cases e:i=0
    ·subst e
     refine ⟨by simp,λ x hx=>⟨0,by simpa using hx,.start hlv⟩⟩
    ·rw [if_neg e];exact ⟨List.nodup_nil,λ x hx=>by simp at hx⟩
   ·have:=hz i row h
    subst this
    split<;>rfl
   ·rcases hd with hd|⟨_,hd⟩
    ·omega
    ·exact hd.elim
  refine Tot.iteF (by rw [hL0];rfl) (Tot.bindA hw (Tot.bind (R:=WOK t st L) ?_ λ r hr=>Tot.pure hr))
  refine Tot.upto (body:=λ n (x:(List (Bool×(List Int)))×(List (Ae×Bool))×Int×Int)=>BO n L g ([(spt 0 0,true)],(List.replicate (L.length+1) (false,[])).set 0 (false,[0])) x.1 x.2.1 x.2.2.1 x.2.2.2) (L.length+1) (λ i x=>x.2.2.2=(i:Int)/\∃ m:Nat,x.2.2.1=(m:Int)/\W t st L i (λ _ _=>False) x.1 x.2.1 m) ?_ ?_ _ ⟨rfl,0,rfl,hW0⟩
  ·rintro i ⟨rows,add,_,_⟩ hi ⟨rfl,m,rfl,hW⟩
   have hil:i<rows.length:=by rw [hW.len];exact hi
   have hrow:=JgN hil
   unfold BO
   refine Tot.iteT (by simp;omega) (Tot.bindC (BL hil) ?_)
   have hrw:∀ a b:Nat,Rw (rows.set i (true,rows[i].2)) a b↔Rw rows a b:=by
    intro a b
    unfold Rw
    rw [List.getElem?_set]
    by_cases e:i=a
    ·subst e
     rw [if_pos rfl,if_pos hil,hrow];simp
    ·rw [if_neg e]
   have hW':W t st L i (λ _ _=>False) (rows.set i (true,rows[i].2)) add m:=by
    refine ⟨by simpa using hW.len,λ a b=>by rw [hrw];exact hW.mem a b,λ a row h=>?_,λ a row ha h=>?_,λ a b c hr hc hd=>?_,hW.at_,(hrw _ _).2 hW.fst⟩
    ·rw [List.getElem?_set] at h
     by_cases e:i=a
     ·subst e
      rw [if_pos rfl,if_pos hil] at h
      cases h;have q:=hW.snd i rows[i] hrow;exact q
     ·rw [if_neg e] at h;exact hW.snd a row h
    ·rw [List.getElem?_set,if_neg (by omega)] at h;exact hW.tag a row ha h
    ·obtain ⟨q1,q2⟩:=hW.cl a b c ((hrw _ _).1 hr) hc hd
     exact ⟨q1,λ q=>(hrw _ _).2 (q2 q)⟩
   refine Tot.bind (Xo hc hst hrl hL hg _ rows[i].1 (R:=(true,rows[i].2)) (rows:=rows.set i (true,rows[i].2)) (by rw [List.getElem?_set,if_pos rfl,if_pos hil]) hW') ?_
   rintro ⟨rows',add',_⟩ ⟨m',rfl,hW''⟩
   exact Tot.pure ⟨D4 (by omega),m',rfl,hW''⟩
  ·rintro ⟨rows,add,_,_⟩ ⟨rfl,m,rfl,hW⟩
   have hall:∀ i j,Rc t st L i j->Rw rows i j:=λ i j h=>by
    induction h with
    | start=>exact hW.fst
    | step h ha hp ih=>exact (hW.cl _ _ _ ih ha (.inl (by have:=h.le;omega))).2 hp
   unfold BO
   refine Tot.iteF (by simp) (Tot.pure ⟨hW.len,λ i j=>⟨λ ⟨row,h1,h2⟩=>?_,hall i j⟩,λ i row h=>⟨?_,λ x hx=>?_⟩,.inl ⟨hlv,m,rfl,hlv,λ i j a h1 h2=>(hW.cl i j a (hall i j h1) h2 (.inl (by have:=h1.le;omega))).1,hW.at_⟩⟩)
   ·obtain ⟨j',e,hR⟩:=(hW.snd i row h1).2 _ h2
    have:j=j':=by omega
    subst this;exact hR
   ·have:=hW.small h;omega
   ·obtain ⟨j',e,_⟩:=(hW.snd i row h).2 _ hx
    exact ⟨j',e⟩
 ·have hL0':g.Alive[0]=false:=by simpa using hL0
  have hlv:¬Fb t st 0:=λ h=>by
   have:=(hg.alive.2 0).2 h
   rw [JgN hal,hL0'] at this;cases this
  have hz:∀ (i:Nat) row,(List.replicate (L.length+1) (false,([]:List Int)))[i]? = some row->row=(false,[]):=by
   intro i row h
   rw [List.getElem?_replicate] at h
   split at h
   ·cases h;rfl
   ·cases h
  refine Tot.iteT (by rw [hL0'];rfl) (Tot.pure ⟨by simp,λ i j=>⟨λ ⟨row,h1,h2⟩=>?_,λ h=>?_⟩,λ i row h=>?_,.inr ⟨hlv,rfl⟩⟩)
  ·have:=hz i row h1;subst this;simp at h2
  ·exfalso
   refine hlv ?_
   induction h with
   | start h=>exact h
   | step _ _ _ ih=>exact ih
  ·have:=hz i row h;subst this;simp
end Go.AI
end
section
namespace Go.AI
def gud (mp:List (Ae×Bool)) (i j:Nat):Prop:=Option.getD (CW (spt i j) mp) false=true
theorem V4 {mp:List (Ae×Bool)} {a b i j:Nat}:gud (DN (spt a b) true mp) i j↔gud mp i j\/(i=a/\j=b):=by
 unfold gud
 rw [Na]
 by_cases e:spt i j=spt a b
 ·rw [if_pos e];simp [Jr.1 e]
 ·rw [if_neg e]
  constructor
  ·exact .inl
  ·rintro (q|q)
   ·exact q
   ·exact absurd (Jr.2 q) e
section
variable {t:Aa} {st:List Ab} {L:List Int}
theorem Jgb (n:Nat) (s:List UInt8) (p b:Ae) (l:List Int) (g:Am) (mp:List (Ae×Bool)):CB n s p b l g mp=some (if Option.getD (CW p mp) false=true then (2,DN b true mp) else (0,mp)):=by
 unfold CB
 split<;>rfl
def Fit (t:Aa) (st:List Ab) (L:List Int) (S:Nat->Nat->Prop) (i j:Nat):Prop:=∃ a,Arc t st j a/\a.cells <+: L.drop i/\S (i+a.cells.length) a.to
theorem Oq (hc:∀ r∈t.Rules,1<=r.Cells.length/\r.Cells.length<=1000) {j:Nat} {a:GA} (ha:Arc t st j a):1<=a.cells.length/\a.cells.length<=1000:=by
 obtain ⟨k,h1,_,_,e⟩:=ha.cells
 rw [e];exact hc _ (Do (k:=(k:Int)) (by omega) (by omega))
theorem V5 {i:Nat} {a:GA} (hi:i<=1000) (ha:a.cells.length<=1000):(⟨BC .i64 (i:Int) ((List.length (toG a).Cells:Nat):Int),(toG a).To⟩:Ae)=spt (i+a.cells.length) a.to:=by
 have:BC .i64 (i:Int) ((List.length (toG a).Cells:Nat):Int)=((i+a.cells.length:Nat):Int):=by
  rw [LO (by simp;omega) (by simp;omega)];simp
 rw [this]
theorem V6 {a b:GA} (h:toG a=toG b):a=b:=by
 obtain ⟨p1,c1,o1⟩:=a
 obtain ⟨p2,c2,o2⟩:=b
 simp only [toG,JO.mk.injEq] at h
 simp only [GA.mk.injEq]
 exact ⟨h.1,h.2.1,by omega⟩
theorem JaL (hc:∀ r∈t.Rules,1<=r.Cells.length/\r.Cells.length<=1000) (hrl:t.Rules.length<=11) (hL:L.length<=1000) {g:Am} (hg:QB t st g) {i j:Nat} (hR:Rc t st L i j) (mp:List (Ae×Bool)) :
  Tot (λ n=>Cg n (spt i j) (spt i j) L g mp) (λ r=>(r=(2,DN (spt i j) true mp)/\Fit t st L (gud mp) i j)\/(r=(0,mp)/\¬Fit t st L (gud mp) i j)):=by
 have hile:=hR.le
 have hjl:j<g.Arcs.length:=by rw [hg.len];exact hR.live.lt
 obtain ⟨l,hlj⟩:∃ l,g.Arcs[j]? = some l:=⟨_,JgN hjl⟩
 have hl:=hg.arcs j _ hlj
 obtain ⟨hA1,hA2⟩:=hl.arc
 have hll:=hl.len
 unfold Cg
 refine Tot.bindC (Ft hlj) (Tot.bind (R:=λ y=>(y=.inr (2,DN (spt i j) true mp)/\Fit t st L (gud mp) i j)\/(y=.inl mp/\¬Fit t st L (gud mp) i j)) ?_ ?_)
 ·refine Tot.upto (body:=λ n (x:(List (Ae×Bool))×Int)=>Bl n (spt i j) (spt i j) L g l x.1 x.2) l.length (λ q x=>x.2=(q:Int)/\x.1=mp/\∀ a,toG a∈l.take q->¬(a.cells <+: L.drop i/\gud mp (i+a.cells.length) a.to)) ?_ ?_ _ ⟨rfl,rfl,λ a h=>by simp at h⟩
  ·rintro q ⟨mp,_⟩ hq ⟨rfl,rfl,hno⟩
   obtain ⟨a,ea,ha⟩:=hA1 _ (List.getElem_mem hq)
   have hcl:=Oq hc ha
   have nxt:¬(a.cells <+: L.drop i/\gud mp (i+a.cells.length) a.to)->Tot (λ n=>BJ n (q:Int) mp) (Rd2 (λ x=>x.2=((q+1:Nat):Int)/\x.1=mp/\∀ a,toG a∈l.take (q+1)->¬(a.cells <+: L.drop i/\gud mp (i+a.cells.length) a.to)) λ y=>(y=.inr (2,DN (spt i j) true mp)/\Fit t st L (gud mp) i j)\/(y=.inl mp/\¬Fit t st L (gud mp) i j)):=λ h=>by
    refine Tot.pure ⟨D4 (by omega),rfl,λ a' ha'=>?_⟩
    rw [List.take_add_one,JgN hq,Option.toList_some,List.mem_append,List.mem_singleton,ea] at ha'
    rcases ha' with h'|h'
    ·exact hno a' h'
    ·have:=V6 h';subst this;exact h
   unfold Bl
   refine Tot.iteT (by simp;omega) (Tot.bindC (y:=toG a) (by rw [BL hq,ea]) (Tot.bindC (P6 hile) (Tot.bindE (Ni a.cells (L.drop i) (by omega)) ?_)))
   by_cases hp:a.cells <+: L.drop i
   ·have hcm:=Hm.2 hp
    have hbe:(((CL a.cells (L.drop i):Nat):Int)==((List.length (toG a).Cells:Nat):Int))=true:=by rw [hcm];exact beq_self_eq_true _
    have hsp:=V5 (i:=i) (a:=a) (by omega) hcl.2
    by_cases hG:gud mp (i+a.cells.length) a.to
    ·exact Tot.iteT hbe (Tot.bindA (y:=(2,DN (spt i j) true mp)) (λ n=>by rw [hsp];exact (Jgb n _ _ _ _ _ _).trans (congrArg some (if_pos hG))) (Tot.iteT (by rw [hbe];rfl) (Tot.pure (.inl ⟨rfl,a,ha,hp,hG⟩))))
    ·exact Tot.iteT hbe (Tot.bindA (y:=(0,mp)) (λ n=>by rw [hsp];exact (Jgb n _ _ _ _ _ _).trans (congrArg some (if_neg hG))) (Tot.iteF (by rw [hbe];rfl) (nxt λ h=>hG h.2)))
   ·have hcm:CL a.cells (L.drop i)≠a.cells.length:=λ h=>hp (Hm.1 h)
    have hbe:(((CL a.cells (L.drop i):Nat):Int)==((List.length (toG a).Cells:Nat):Int))=false:=by rw [beq_eq_false_iff_ne];intro h;exact hcm (Int.ofNat_inj.1 h)
    exact Tot.iteF hbe (Tot.iteF (by rw [hbe];rfl) (nxt λ h=>hp h.1))
  ·rintro ⟨mp,_⟩ ⟨rfl,rfl,hno⟩
   unfold Bl
   refine Tot.iteF (by simp) (Tot.pure (.inr ⟨rfl,?_⟩))
   rintro ⟨a,ha,h1,h2⟩
   exact hno a (by rw [List.take_length];exact hA2 a ha) ⟨h1,h2⟩
 ·rintro y (⟨rfl,h⟩|⟨rfl,h⟩)
  ·exact Tot.pure (.inl ⟨rfl,h⟩)
  ·exact Tot.pure (.inr ⟨rfl,h⟩)
theorem Jfc {i j:Nat}:Gd t st L i j↔Rc t st L i j/\((i=L.length/\∃ q,st[j]? = some q/\AO t q=true)\/Fit t st L (Gd t st L) i j):=by
 constructor
 ·rintro ⟨hR,y,hy⟩
  refine ⟨hR,?_⟩
  rcases hy.inv with ⟨h0,_,h1⟩|⟨a,y',ha,hp,h1,_⟩
  ·have:=hR.le;have:=List.drop_eq_nil_iff.1 h0
   exact .inl ⟨by omega,h1⟩
  ·rw [List.drop_drop] at h1
   exact .inr ⟨a,ha,hp,.step hR ha hp,y',h1⟩
 ·rintro ⟨hR,⟨rfl,q,h1,h2⟩|⟨a,ha,hp,_,y,hy⟩⟩
  ·exact ⟨hR,[],by rw [List.drop_length];exact .nil h1 h2⟩
  ·exact ⟨hR,_,RG.of ha hp (by rw [List.drop_drop];exact hy)⟩
def GM (t:Aa) (st:List Ab) (L:List Int) (i:Nat) (S:Nat->Prop) (mp:List (Ae×Bool)):Prop:=∀ i' j,gud mp i' j↔Gd t st L i' j/\(i<i'\/(i'=i/\S j))
theorem P7 (hc:∀ r∈t.Rules,1<=r.Cells.length/\r.Cells.length<=1000) (hrl:t.Rules.length<=11) (hL:L.length<=1000) {g:Am} (hg:QB t st g) {i:Nat} {rows:List (Bool×List Int)} (hrows:∀ i j:Nat,Rw rows i j↔Rc t st L i j) {R:Bool×List Int} (hrow:rows[i]? = some R) (hR:R.2.length<=768/\∀ x∈R.2,∃ j:Nat,x=(j:Int)) {mp:List (Ae×Bool)} (hm:GM t st L i (λ _=>False) mp) (r34:(List (Bool×(List Int)))×Int) (rs:List (Bool×List Int)) :
  Tot (λ n=>whl (λ (x:((List (Ae×Bool))×Int))=>BI n L g r34 rs (i:Int) R x.1 x.2) n (mp,0)) (GM t st L i λ _=>True):=by
 refine Tot.upto (body:=λ n (x:(List (Ae×Bool))×Int)=>BI n L g r34 rs (i:Int) R x.1 x.2) R.2.length (λ q x=>x.2=(q:Int)/\GM t st L i (λ j=>(j:Int)∈R.2.take q) x.1) ?_ ?_ _ ⟨rfl,λ i' j=>(hm i' j).trans (by simp)⟩
 ·rintro q ⟨mp,_⟩ hq ⟨rfl,hm⟩
  obtain ⟨j,ej⟩:=hR.2 _ (List.getElem_mem hq)
  have hrc:Rc t st L i j:=(hrows i j).1 ⟨R,hrow,by rw [← ej];exact List.getElem_mem hq⟩
  have hjl:=hrc.live.lt
  have hac:=hg.acc j _ (JgN hjl)
  have hile:=hrc.le
  have key:∀ (mp1:List (Ae×Bool)) (A:Prop),(∀ i' j',gud mp1 i' j'↔gud mp i' j'\/(A/\i'=i/\j'=j))->(A↔i=L.length/\∃ q,st[j]? = some q/\AO t q=true)->Tot (λ n=>B1 n L g (i:Int) (q:Int) (j:Int) mp1) (Rd2 (λ x=>x.2=((q+1:Nat):Int)/\GM t st L i (λ j=>(j:Int)∈R.2.take (q+1)) x.1) (GM t st L i λ _=>True)):=by
   intro mp1 A h1 hA
   have hfit:Fit t st L (gud mp1) i j↔Fit t st L (Gd t st L) i j:=by
    constructor
    ·rintro ⟨a,ha,hp,h⟩
     have:=(Oq hc ha).1
     rcases (h1 _ _).1 h with q1|q1
     ·exact ⟨a,ha,hp,((hm _ _).1 q1).1⟩
     ·omega
    ·rintro ⟨a,ha,hp,h⟩
     have:=(Oq hc ha).1
     exact ⟨a,ha,hp,(h1 _ _).2 (.inl ((hm _ _).2 ⟨h,.inl (by omega)⟩))⟩
   have hgd:=Jfc (t:=t) (st:=st) (L:=L) (i:=i) (j:=j)
   have fin:∀ mp2:List (Ae×Bool),(∀ i' j',gud mp2 i' j'↔gud mp i' j'\/(Gd t st L i j/\i'=i/\j'=j))->GM t st L i (λ j=>(j:Int)∈R.2.take (q+1)) mp2:=by
    intro mp2 h2 i' j'
    have hmem:((j':Nat):Int)∈R.2.take (q+1)↔((j':Nat):Int)∈R.2.take q\/((j':Nat):Int)=(j:Int):=by
     rw [List.take_add_one,JgN hq,Option.toList_some,List.mem_append,List.mem_singleton,ej]
    show gud mp2 i' j'↔Gd t st L i' j'/\(i<i'\/(i'=i/\((j':Nat):Int)∈R.2.take (q+1)))
    rw [h2,hm i' j',hmem]
    constructor
    ·rintro (⟨h,q1|⟨q1,q2⟩⟩|⟨h,rfl,rfl⟩)
     ·exact ⟨h,.inl q1⟩
     ·exact ⟨h,.inr ⟨q1,.inl q2⟩⟩
     ·exact ⟨h,.inr ⟨rfl,.inr rfl⟩⟩
    ·rintro ⟨h,q1|⟨rfl,q2|q2⟩⟩
     ·exact .inl ⟨h,.inl q1⟩
     ·exact .inl ⟨h,.inr ⟨rfl,q2⟩⟩
     ·have:j'=j:=by omega
      subst this
      exact .inr ⟨h,rfl,rfl⟩
   have hq':(q:Nat)<9223372036854775807:=by have:=hR.1;omega
   unfold B1
   refine Tot.bindA (f:=λ _=>some ()) (y:=()) (λ _=>rfl) (Tot.bind (JaL hc hrl hL hg hrc mp1) ?_)
   rintro r (⟨rfl,h⟩|⟨rfl,h⟩)
   ·refine Tot.iteF rfl (Tot.iteT rfl (Tot.pure ⟨D4 hq',fin _ λ i' j'=>?_⟩))
    have hG:Gd t st L i j:=hgd.2 ⟨hrc,.inr (hfit.1 h)⟩
    rw [V4,h1]
    constructor
    ·rintro ((h|⟨_,h⟩)|h)
     ·exact .inl h
     ·exact .inr ⟨hG,h⟩
     ·exact .inr ⟨hG,h⟩
    ·rintro (h|⟨_,h⟩)
     ·exact .inl (.inl h)
     ·exact .inr h
   ·refine Tot.iteT rfl (Tot.pure ⟨D4 hq',fin _ λ i' j'=>?_⟩)
    rw [h1]
    constructor
    ·rintro (h|⟨h,h'⟩)
     ·exact .inl h
     ·exact .inr ⟨hgd.2 ⟨hrc,.inl (hA.1 h)⟩,h'⟩
    ·rintro (h'|⟨hG,h'⟩)
     ·exact .inl h'
     ·rcases (hgd.1 hG).2 with h2|h2
      ·exact .inr ⟨hA.2 h2,h'⟩
      ·exact absurd (hfit.2 h2) h
  unfold BI
  refine Tot.iteT (by simp;omega) (Tot.bindC (y:=(j:Int)) ((BL hq).trans (by rw [ej])) ?_)
  by_cases hi:i=L.length
  ·have hbe:(((i:Nat):Int)==((L.length:Nat):Int))=true:=by rw [hi];exact beq_self_eq_true _
   refine Tot.bindC (y:=AO t st[j]) (by rw [if_pos hbe];exact Ft hac) ?_
   by_cases ha:AO t st[j]=true
   ·refine Tot.iteT (by rw [hbe,ha];rfl) (key _ True (λ i' j'=>?_) ⟨λ _=>⟨hi,_,JgN hjl,ha⟩,λ _=>trivial⟩)
    rw [V4];simp
   ·refine Tot.iteF (by rw [hbe];simpa using ha) (key _ False (λ i' j'=>by simp) ⟨λ h=>h.elim,λ ⟨_,q,h1,h2⟩=>?_⟩)
    rw [JgN hjl] at h1;cases h1;exact ha h2
  ·have hbe:(((i:Nat):Int)==((L.length:Nat):Int))=false:=by rw [beq_eq_false_iff_ne];intro h;exact hi (Int.ofNat_inj.1 h)
   refine Tot.bindC (y:=default) (by rw [if_neg (by rw [hbe];simp)]) (Tot.iteF (by rw [hbe];rfl) (key _ False (λ i' j'=>by simp) ⟨λ h=>h.elim,λ h=>absurd h.1 hi⟩))
 ·rintro ⟨mp,_⟩ ⟨rfl,hm⟩
  unfold BI
  refine Tot.iteF (by simp) (Tot.pure λ i' j=>(hm i' j).trans ?_)
  constructor
  ·rintro ⟨h,q1|⟨q1,_⟩⟩
   ·exact ⟨h,.inl q1⟩
   ·exact ⟨h,.inr ⟨q1,trivial⟩⟩
  ·rintro ⟨h,q1|⟨rfl,_⟩⟩
   ·exact ⟨h,.inl q1⟩
   ·refine ⟨h,.inr ⟨rfl,?_⟩⟩
    obtain ⟨row,e1,e2⟩:=(hrows _ _).2 h.1
    rw [hrow] at e1;cases e1
    rw [List.take_length];exact e2
end
structure JbU (t:Aa) (st:List Ab) (L:List Int) (r:Am×(List (Ae×Bool))×Int):Prop where
 graph:QB t st r.1
 good:∀ i j,gud r.2.1 i j↔Gd t st L i j
 most:(Fb t st 0/\∃ m:Nat,r.2.2=(m:Int)/\Xf t st L m)\/(¬Fb t st 0/\r.2.2=-1)
theorem Lr {t:Aa} (ht:GE t) (hc:∀ r∈t.Rules,1<=r.Cells.length/\r.Cells.length<=1000) {L:List Int} (hL:L.length<=1000):Tot (λ n=>CG n t L) (JbU t (A1 t) L):=by
 obtain ⟨hF,_⟩:=Ec ht
 have hrl:=ht.1
 unfold CG
 refine Tot.bind (JaJ ht) λ g hg=>Tot.bind (JaK hc hF.len (Ar hF.first) hrl hL hg) λ w hw=>Tot.bind (R:=λ mp=>∀ i j,gud mp i j↔Gd t (A1 t) L i j) ?_ λ mp hmp=>Tot.pure ⟨hg,hmp,hw.most⟩
 refine Tot.upto (body:=λ n (x:(List (Bool×(List Int)))×(List (Ae×Bool))×Int)=>B2 n L g w x.1 x.2.1 x.2.2) (L.length+1) (λ k x=>x.2.2=(L.length:Int)-k/\x.1.length=L.length+1/\(∀ i j,Rw x.1 i j↔Rc t (A1 t) L i j)/\(∀ (i:Nat) row,x.1[i]? = some row->row.2.length<=768/\∀ x∈row.2,∃ j:Nat,x=(j:Int))/\∀ i j,gud x.2.1 i j↔Gd t (A1 t) L i j/\L.length<i+k) ?_ ?_ _ ⟨by simp,hw.len,hw.rows,hw.nat,λ i j=>?_⟩
 ·rintro k ⟨rows,mp,_⟩ hk ⟨rfl,hlen,hrows,hnat,hm⟩
  obtain ⟨i,hi⟩:∃ i:Nat,i=L.length-k:=⟨_,rfl⟩
  have ei:(L.length:Int)-(k:Int)=(i:Int):=by omega
  have hil:i<rows.length:=by have:rows.length=L.length+1:=hlen;omega
  have hrow:=JgN hil
  unfold B2
  simp only [ei]
  refine Tot.iteT (by simp) (Tot.bindC (BL hil) (Tot.bind (P7 hc hrl hL hg hrows hrow (hnat i _ hrow) (mp:=mp) (λ i' j=>(hm i' j).trans ?_) _ _) λ mp' hm'=>Tot.pure ⟨?_,by simpa using hlen,λ a b=>?_,λ a row h=>?_,λ i' j=>(hm' i' j).trans ?_⟩))
  ·constructor
   ·rintro ⟨h,h'⟩;exact ⟨h,.inl (by omega)⟩
   ·rintro ⟨h,h'|⟨_,h'⟩⟩
    ·exact ⟨h,by omega⟩
    ·exact h'.elim
  ·show DD .i64 (i:Int) 1=_
   rw [LP (by omega) (by omega)];omega
  ·refine Iff.trans ?_ (hrows a b)
   unfold Rw
   rw [Int.toNat_natCast,List.getElem?_set]
   by_cases e:i=a
   ·subst e
    rw [if_pos rfl,if_pos hil,hrow];simp
   ·rw [if_neg e]
  ·rw [Int.toNat_natCast,List.getElem?_set] at h
   by_cases e:i=a
   ·subst e
    rw [if_pos rfl,if_pos hil] at h
    cases h;have q:=hnat i _ hrow;exact q
   ·rw [if_neg e] at h;exact hnat a row h
  ·constructor
   ·rintro ⟨h,h'|⟨h',_⟩⟩
    ·exact ⟨h,by omega⟩
    ·exact ⟨h,by omega⟩
   ·rintro ⟨h,h'⟩
    by_cases e:i<i'
    ·exact ⟨h,.inl e⟩
    ·exact ⟨h,.inr ⟨by omega,trivial⟩⟩
 ·rintro ⟨rows,mp,_⟩ ⟨rfl,hlen,hrows,hnat,hm⟩
  unfold B2
  refine Tot.iteF (by simp;omega) (Tot.pure λ i j=>(hm i j).trans ⟨λ h=>h.1,λ h=>⟨h,by omega⟩⟩)
 ·constructor
  ·intro h;unfold gud at h;simp [CW] at h
  ·rintro ⟨h,h'⟩
   have:=h.1.le
   omega
end Go.AI
end
section
namespace Go.AI
abbrev toH (h:HD):Ac:=⟨spt h.at_ h.sta,h.rest⟩
theorem Ou {a b:HD}:toH a=toH b↔a=b:=by
 obtain ⟨a1,a2,a3⟩:=a
 obtain ⟨b1,b2,b3⟩:=b
 simp only [toH,Ac.mk.injEq,Jr,HD.mk.injEq,and_assoc]
instance:DecidableEq HD:=λ a b=>decidable_of_iff (toH a=toH b) Ou
def mkK (ks:List HD):List (Ac×Bool):=ks.map λ h=>(toH h,true)
theorem P8 (h:HD):∀ ks:List HD,Option.getD (CW (toH h) (mkK ks)) false=true↔h∈ks
 | []=>by simp [mkK,CW]
 | a::ks=>by
  have ih:=P8 h ks
  unfold mkK at *
  simp only [List.map_cons,CW]
  by_cases e:toH h=toH a
  ·rw [if_pos e];simp [Ou.1 e]
  ·rw [if_neg e,ih,List.mem_cons]
   constructor
   ·exact .inr
   ·rintro (q|q)
    ·exact absurd (Ou.2 q) e
    ·exact q
theorem P9 {h:HD}:∀ {ks:List HD},h ∉ ks->DN (toH h) true (mkK ks)=mkK (ks++[h])
 | [],_=>rfl
 | a::ks,hn=>by
  have ih:=P9 (h:=h) (ks:=ks) (λ q=>hn (by simp [q]))
  unfold mkK at *
  simp only [List.map_cons,List.cons_append,DN]
  rw [if_neg (λ e=>hn (by simp [Ou.1 e])),ih]
def Qa:List UInt8->List (List UInt8)
 | []=>[[]]
 | a::l=>(a::l)::Qa l
theorem Ui:∀ l:List UInt8,(Qa l).length=l.length+1
 | []=>rfl
 | _::l=>by simp [Qa,Ui l]
theorem Ro (l:List UInt8):l∈Qa l:=by cases l<;>simp [Qa]
theorem Rp {b:UInt8} {r:List UInt8}:∀ {l:List UInt8},b::r∈Qa l->r∈Qa l
 | [],h=>by simp [Qa] at h
 | a::l,h=>by
  simp only [Qa,List.mem_cons] at h ⊢
  rcases h with h|h
  ·cases h;exact .inr (Ro _)
  ·exact .inr (Rp h)
def QC (t:Aa):List (List UInt8):=[]::t.Rules.flatMap λ r=>Qa r.Print
structure UH (t:Aa) (L:List Int) (h:HD):Prop where
 at_:h.at_<=L.length
 sta:h.sta<768
 rest:h.rest∈QC t
theorem UH.tail {t:Aa} {L:List Int} {a j:Nat} {b:UInt8} {r:List UInt8} (h:UH t L ⟨a,j,b::r⟩):UH t L ⟨a,j,r⟩:=by
 refine ⟨h.at_,h.sta,?_⟩
 have:=h.rest
 simp only [QC,List.mem_cons,List.mem_flatMap] at this ⊢
 rcases this with h|⟨x,hx,h⟩
 ·cases h
 ·exact .inr ⟨x,hx,Rp h⟩
theorem UH.of {t:Aa} {L:List Int} {a j k:Nat} (ha:a<=L.length) (hj:j<768) (hk:k<t.Rules.length):UH t L ⟨a,j,prt t k⟩:=by
 refine ⟨ha,hj,?_⟩
 simp only [QC,List.mem_cons,List.mem_flatMap]
 exact .inr ⟨_,Do (k:=(k:Int)) (by omega) (by omega),Ro _⟩
def uni (t:Aa) (L:List Int):List HD:=(List.range (L.length+1)).flatMap λ a=>(List.range 768).flatMap λ j=>(QC t).map λ r=>⟨a,j,r⟩
theorem KQ {α β:Type} {f:α->List β} {b:Nat}:∀ {l:List α},(∀ x∈l,(f x).length<=b)->(l.flatMap f).length<=l.length*b
 | [],_=>by simp
 | a::l,h=>by
  have h1:=h a (by simp)
  have h2:=KQ (l:=l) λ x hx=>h x (by simp [hx])
  rw [List.flatMap_cons,List.length_append,List.length_cons,Nat.succ_mul]
  omega
theorem JbV {t:Aa} {L:List Int} (hL:L.length<=1000) (hr:t.Rules.length<=11) (hp:∀ r∈t.Rules,r.Print.length<=4):(uni t L).length<=60000000:=by
 have h1:(QC t).length<=56:=by
  have:=KQ (f:=λ r:Ap=>Qa r.Print) (b:=5) (l:=t.Rules) λ r h=>by have:=hp r h;rw [Ui];omega
  simp only [QC,List.length_cons];omega
 have h2:∀ a:Nat,((List.range 768).flatMap λ j=>(QC t).map λ r=>(⟨a,j,r⟩:HD)).length<=768*56:=λ a=>by
  have:=KQ (f:=λ j:Nat=>(QC t).map λ r=>(⟨a,j,r⟩:HD)) (b:=56) (l:=List.range 768) λ j _=>by simpa using h1
  simpa using this
 have h3:=KQ (f:=λ a:Nat=>(List.range 768).flatMap λ j=>(QC t).map λ r=>(⟨a,j,r⟩:HD)) (b:=768*56) (l:=List.range (L.length+1)) λ a _=>h2 a
 rw [List.length_range] at h3
 unfold uni
 omega
theorem UH.mem {t:Aa} {L:List Int} {h:HD} (hu:UH t L h):h∈uni t L:=by
 obtain ⟨a,j,r⟩:=h
 have h1:=hu.at_;have h2:=hu.sta;have h3:=hu.rest
 simp only [uni,List.mem_flatMap,List.mem_range,List.mem_map]
 exact ⟨a,by simp only at h1;omega,j,h2,r,h3,rfl⟩
theorem Xp {l m:List HD} (h:l.Nodup) (hs:∀ x∈l,x∈m):l.length<=m.length:=by
 induction l generalizing m with
 | nil=>simp
 | cons a l ih=>
  rw [List.nodup_cons] at h
  have ha:=hs a (by simp)
  have hlen:(m.erase a).length=m.length-1:=List.length_erase_of_mem ha
  have hpos:0<m.length:=List.length_pos_of_mem ha
  have:=ih (m:=m.erase a) h.2 λ x hx=>by
   have hne:x≠a:=λ e=>h.1 (e▸hx)
   exact (List.mem_erase_of_ne hne).2 (hs x (by simp [hx]))
  simp
  omega
structure SJ (t:Aa) (st:List Ab) (L:List Int) (H:List HD) (X:HD->Prop) (ks op fd:List HD) (e:Bool):Prop where
 si:SI t st L H (λ g=>g∈ks) X op fd e
 nd:ks.Nodup
 un:∀ h∈ks,UH t L h
 le:op.length+fd.length<=ks.length
section
variable {t:Aa} {st:List Ab} {L:List Int} {H:List HD} {X:HD->Prop} {ks op fd:List HD} {e:Bool}
theorem SJ.small (hB:(uni t L).length<=60000000) (hS:SJ t st L H X ks op fd e):ks.length<=60000000:=Nat.le_trans (Xp hS.nd λ x hx=>(hS.un x hx).mem) hB
theorem SJ.ins (hB:(uni t L).length<=60000000) (hS:SJ t st L H X ks op fd e) {h:HD} (hg:Gd t st L h.at_ h.sta) (hd:Drv t st L H h) (hu:UH t L h):∃ ks' op' fd',(∀ n,AY n (toH h) (mkK ks) (op.map toH) (fd.map toH)=some (mkK ks',op'.map toH,fd'.map toH))/\SJ t st L H X ks' op' fd' e/\h∈ks'/\(∀ g∈ks,g∈ks')/\op'.length+2*ks.length<=op.length+2*ks'.length:=by
 by_cases hk:h∈ks
 ·refine ⟨ks,op,fd,λ n=>?_,hS,hk,λ _ h=>h,Nat.le_refl _⟩
  unfold AY
  rw [if_pos ((P8 _ _).2 hk)]
 ·have hnn:¬Option.getD (CW (toH h) (mkK ks)) false=true:=λ q=>hk ((P8 _ _).1 q)
  have hks:(λ g=>g∈ks++[h])=λ g=>g∈ks\/g=h:=by funext g;simp
  have hnd:(ks++[h]).Nodup:=List.nodup_append.2 ⟨hS.nd,by simp,λ x hx y hy=>by simp at hy;subst hy;rintro rfl;exact hk hx⟩
  have hun:∀ g∈ks++[h],UH t L g:=λ g hg=>by
   rcases List.mem_append.1 hg with q|q
   ·exact hS.un g q
   ·simp at q;subst q;exact hu
  have hle:=hS.le
  have hsm:=hS.small hB
  by_cases hr:h.rest=[]
  ·refine ⟨ks++[h],op++[h],fd,λ n=>?_,⟨by rw [hks];exact hS.si.addO hg hd hr,hnd,hun,by simp;omega⟩,by simp,λ g hg=>by simp [hg],by simp;omega⟩
   unfold AY
   rw [if_neg hnn,if_pos (by simp [hr]),DZ (by simp;omega),Option.bind_some,P9 hk]
   simp
  ·refine ⟨ks++[h],op,fd++[h],λ n=>?_,⟨by rw [hks];exact hS.si.addF hg hd hr,hnd,hun,by simp;omega⟩,by simp,λ g hg=>by simp [hg],by simp;omega⟩
   unfold AY
   rw [if_neg hnn,if_neg (by simpa using hr),DZ (by simp;omega),Option.bind_some,P9 hk]
   simp
theorem Xq (hc:∀ r∈t.Rules,1<=r.Cells.length/\r.Cells.length<=1000) (hrl:t.Rules.length<=11) (hst:st.length<=768) (hL:L.length<=1000) (hB:(uni t L).length<=60000000) {g:Am} (hg:QB t st g) {mp:List (Ae×Bool)} (hm:∀ i j,gud mp i j↔Gd t st L i j) {h:HD} (hk:h∈ks) (hr:h.rest=[]) (he:h.at_=L.length->(∃ q,st[h.sta]? = some q/\AO t q=true)->e=true) (hS:SJ t st L H (λ g=>g=h) ks op fd e) :
  Tot (λ n=>BE n (spt h.at_ h.sta) L g mp (mkK ks) (op.map toH) (fd.map toH)) (λ r=>∃ ks' op' fd',r=(mkK ks',op'.map toH,fd'.map toH)/\SJ t st L H (λ _=>False) ks' op' fd' e/\(∀ g∈ks,g∈ks')/\op'.length+2*ks.length<=op.length+2*ks'.length):=by
 have hR:=(hS.si.kg h hk).1.1
 have hile:=hR.le
 have hjl:h.sta<g.Arcs.length:=by rw [hg.len];exact hR.live.lt
 obtain ⟨l,hlj⟩:∃ l,g.Arcs[h.sta]? = some l:=⟨_,JgN hjl⟩
 have hl:=hg.arcs _ _ hlj
 obtain ⟨hA1,hA2⟩:=hl.arc
 have hll:=hl.len
 unfold BE
 refine Tot.bindC (Ft hlj) (Tot.bind (R:=λ y=>∃ ks' op' fd',y=.inl (mkK ks',op'.map toH,fd'.map toH)/\SJ t st L H (λ _=>False) ks' op' fd' e/\(∀ g∈ks,g∈ks')/\op'.length+2*ks.length<=op.length+2*ks'.length) ?_ ?_)
 ·refine Tot.upto (body:=λ n (x:(List (Ac×Bool))×(List Ac)×(List Ac)×Int)=>Bg n (spt h.at_ h.sta) L g mp l x.1 x.2.1 x.2.2.1 x.2.2.2) l.length (λ q x=>x.2.2.2=(q:Int)/\∃ ks' op' fd',x.1=mkK ks'/\x.2.1=op'.map toH/\x.2.2.1=fd'.map toH/\SJ t st L H (λ g=>g=h) ks' op' fd' e/\(∀ g∈ks,g∈ks')/\op'.length+2*ks.length<=op.length+2*ks'.length/\∀ a,toG a∈l.take q->a.cells <+: L.drop h.at_->Gd t st L (h.at_+a.cells.length) a.to->(⟨h.at_+a.cells.length,a.to,a.print⟩:HD)∈ks') ?_ ?_ _ ⟨rfl,ks,op,fd,rfl,rfl,rfl,hS,λ _ h=>h,Nat.le_refl _,λ a h=>by simp at h⟩
  ·rintro q ⟨_,_,_,_⟩ hq ⟨rfl,ks',op',fd',rfl,rfl,rfl,hS',hsub,hms,hcl⟩
   obtain ⟨a,ea,ha⟩:=hA1 _ (List.getElem_mem hq)
   have hal:=Oq hc ha
   have nxt:∀ ks2 op2 fd2,SJ t st L H (λ g=>g=h) ks2 op2 fd2 e->(∀ g∈ks',g∈ks2)->op2.length+2*ks'.length<=op'.length+2*ks2.length->(a.cells <+: L.drop h.at_->Gd t st L (h.at_+a.cells.length) a.to->(⟨h.at_+a.cells.length,a.to,a.print⟩:HD)∈ks2) ->
     Tot (λ n=>Bv n (q:Int) (mkK ks2) (op2.map toH) (fd2.map toH)) (Rd2 (λ x=>x.2.2.2=((q+1:Nat):Int)/\∃ ks' op' fd',x.1=mkK ks'/\x.2.1=op'.map toH/\x.2.2.1=fd'.map toH/\SJ t st L H (λ g=>g=h) ks' op' fd' e/\(∀ g∈ks,g∈ks')/\op'.length+2*ks.length<=op.length+2*ks'.length/\∀ a,toG a∈l.take (q+1)->a.cells <+: L.drop h.at_->Gd t st L (h.at_+a.cells.length) a.to->(⟨h.at_+a.cells.length,a.to,a.print⟩:HD)∈ks') λ y=>∃ ks' op' fd',y=.inl (mkK ks',op'.map toH,fd'.map toH)/\SJ t st L H (λ _=>False) ks' op' fd' e/\(∀ g∈ks,g∈ks')/\op'.length+2*ks.length<=op.length+2*ks'.length):=by
    intro ks2 op2 fd2 h1 h2 h3 h4
    refine Tot.pure ⟨D4 (by omega),ks2,op2,fd2,rfl,rfl,rfl,h1,λ g hg=>h2 g (hsub g hg),by omega,λ a' ha'=>?_⟩
    rw [List.take_add_one,JgN hq,Option.toList_some,List.mem_append,List.mem_singleton,ea] at ha'
    rcases ha' with h'|h'
    ·exact λ u v=>h2 _ (hcl a' h' u v)
    ·have:=V6 h';subst this;exact h4
   unfold Bg
   refine Tot.iteT (by simp;omega) (Tot.bindC (y:=toG a) (by rw [BL hq,ea]) (Tot.bindC (P6 hile) (Tot.bindE (Ni a.cells (L.drop h.at_) (by omega)) ?_)))
   by_cases hp:a.cells <+: L.drop h.at_
   ·have hcm:=Hm.2 hp
    have hbe:(((CL a.cells (L.drop h.at_):Nat):Int)==((List.length (toG a).Cells:Nat):Int))=true:=by rw [hcm];exact beq_self_eq_true _
    have hsp:=V5 (i:=h.at_) (a:=a) (by omega) hal.2
    have hpl:h.at_+a.cells.length<=L.length:=by have:=hp.length_le;rw [List.length_drop] at this;omega
    by_cases hG:gud mp (h.at_+a.cells.length) a.to
    ·obtain ⟨k,hk1,hk2,hk3,_⟩:=ha.cells
     have hgd:=(hm _ _).1 hG
     obtain ⟨ks2,op2,fd2,q1,q2,q3,q4,q5⟩:=hS'.ins hB (h:=⟨h.at_+a.cells.length,a.to,a.print⟩) hgd (hS'.si.drv (hsub h hk) hr ha hp) (by rw [hk3];exact .of hpl (by omega) hk1)
     refine Tot.iteT hbe (Tot.bindA (y:=(mkK ks2,op2.map toH,fd2.map toH)) (λ n=>?_) (Tot.iteF (by rw [hbe];rfl) (nxt ks2 op2 fd2 q2 q4 q5 λ _ _=>q3)))
     rw [hsp]
     unfold BS
     refine (if_pos hG).trans ?_
     have:=q1 n
     rw [show (⟨spt (h.at_+a.cells.length) a.to,(toG a).Print⟩:Ac)=toH ⟨h.at_+a.cells.length,a.to,a.print⟩ from rfl,this]
     rfl
    ·refine Tot.iteT hbe (Tot.bindA (y:=(mkK ks',op'.map toH,fd'.map toH)) (λ n=>?_) (Tot.iteF (by rw [hbe];rfl) (nxt ks' op' fd' hS' (λ _ h=>h) (Nat.le_refl _) λ _ h2=>absurd ((hm _ _).2 h2) hG)))
     rw [hsp]
     unfold BS
     exact if_neg hG
   ·have hcm:CL a.cells (L.drop h.at_)≠a.cells.length:=λ h=>hp (Hm.1 h)
    have hbe:(((CL a.cells (L.drop h.at_):Nat):Int)==((List.length (toG a).Cells:Nat):Int))=false:=by rw [beq_eq_false_iff_ne];intro h;exact hcm (Int.ofNat_inj.1 h)
    exact Tot.iteF hbe (Tot.iteF (by rw [hbe];rfl) (nxt ks' op' fd' hS' (λ _ h=>h) (Nat.le_refl _) λ h1 _=>absurd h1 hp))
  ·rintro ⟨_,_,_,_⟩ ⟨rfl,ks',op',fd',rfl,rfl,rfl,hS',hsub,hms,hcl⟩
   unfold Bg
   refine Tot.iteF (by simp) (Tot.pure ⟨ks',op',fd',rfl,⟨hS'.si.close ⟨he,λ a ha hp hgd=>hcl a (by rw [List.take_length];exact hA2 a ha) hp hgd⟩,hS'.nd,hS'.un,hS'.le⟩,hsub,hms⟩)
 ·rintro y ⟨ks',op',fd',rfl,h1,h2,h3⟩
  exact Tot.pure ⟨ks',op',fd',rfl,h1,h2,h3⟩
theorem Qb (hc:∀ r∈t.Rules,1<=r.Cells.length/\r.Cells.length<=1000) (hrl:t.Rules.length<=11) (hst:st.length<=768) (hL:L.length<=1000) (hB:(uni t L).length<=60000000) {g:Am} (hg:QB t st g) {mp:List (Ae×Bool)} (hm:∀ i j,gud mp i j↔Gd t st L i j) (hU:∀ h∈H,UH t L h) (hHl:H.length<=60000000) (hH:∀ h∈H,(∃ y,RG t st h.sta (L.drop h.at_) y)->Rc t st L h.at_ h.sta) :
  Tot (λ n=>A8 n L g (H.map toH) mp) (λ r=>∃ F,r.1=F.map toH/\SE t st L H F r.2/\(∀ h∈F,UH t L h)/\F.length<=60000000):=by
 unfold A8
 refine Tot.bind (R:=λ y=>∃ ks op fd,y=(op.map toH,fd.map toH,mkK ks)/\SJ t st L H (λ _=>False) ks op fd false/\∀ h∈H,Gd t st L h.at_ h.sta->h∈ks) ?_ ?_
 ·refine Tot.upto (body:=λ n (x:(List Ac)×(List Ac)×(List (Ac×Bool))×Int)=>Bh n L g (H.map toH) mp x.1 x.2.1 x.2.2.1 x.2.2.2) H.length (λ q x=>x.2.2.2=(q:Int)/\∃ ks op fd,x.1=op.map toH/\x.2.1=fd.map toH/\x.2.2.1=mkK ks/\SJ t st L H (λ _=>False) ks op fd false/\∀ h∈H.take q,Gd t st L h.at_ h.sta->h∈ks) ?_ ?_ _ ⟨rfl,[],[],[],rfl,rfl,rfl,⟨by simpa using SI.start,List.nodup_nil,λ h hh=>by simp at hh,Nat.le_refl _⟩,λ h hh=>by simp at hh⟩
  ·rintro q ⟨_,_,_,_⟩ hq ⟨rfl,ks,op,fd,rfl,rfl,rfl,hS,hin⟩
   have hmem:=List.getElem_mem hq
   have nxt:∀ ks2 op2 fd2,SJ t st L H (λ _=>False) ks2 op2 fd2 false->(∀ g∈ks,g∈ks2)->(Gd t st L H[q].at_ H[q].sta->H[q]∈ks2)->Tot (λ n=>Bw n (q:Int) (op2.map toH) (fd2.map toH) (mkK ks2)) (Rd2 (λ x=>x.2.2.2=((q+1:Nat):Int)/\∃ ks op fd,x.1=op.map toH/\x.2.1=fd.map toH/\x.2.2.1=mkK ks/\SJ t st L H (λ _=>False) ks op fd false/\∀ h∈H.take (q+1),Gd t st L h.at_ h.sta->h∈ks) λ y=>∃ ks op fd,y=(op.map toH,fd.map toH,mkK ks)/\SJ t st L H (λ _=>False) ks op fd false/\∀ h∈H,Gd t st L h.at_ h.sta->h∈ks):=by
    intro ks2 op2 fd2 h1 h2 h3
    refine Tot.pure ⟨D4 (by omega),ks2,op2,fd2,rfl,rfl,rfl,h1,λ h' hh=>?_⟩
    rw [List.take_add_one,JgN hq,Option.toList_some,List.mem_append,List.mem_singleton] at hh
    rcases hh with hh|rfl
    ·exact λ u=>h2 _ (hin h' hh u)
    ·exact h3
   unfold Bh
   refine Tot.iteT (by simp;omega) (Tot.bindC (y:=toH H[q]) (Ft (by rw [JgR,JgN hq];rfl)) ?_)
   by_cases hG:gud mp H[q].at_ H[q].sta
   ·obtain ⟨ks2,op2,fd2,q1,q2,q3,q4,_⟩:=hS.ins hB ((hm _ _).1 hG) (λ y hy=>⟨H[q],hmem,y,hy,rfl⟩) (hU _ hmem)
    exact Tot.iteT hG (Tot.bindA q1 (nxt ks2 op2 fd2 q2 q4 λ _=>q3))
   ·exact Tot.iteF (by simpa [gud] using hG) (nxt ks op fd hS (λ _ h=>h) λ h=>absurd ((hm _ _).2 h) hG)
  ·rintro ⟨_,_,_,_⟩ ⟨rfl,ks,op,fd,rfl,rfl,rfl,hS,hin⟩
   unfold Bh
   refine Tot.iteF (by simp) (Tot.pure ⟨ks,op,fd,rfl,hS,λ h hh=>hin h (by rw [List.take_length];exact hh)⟩)
 ·rintro y ⟨ks,op,fd,rfl,hS,hin⟩
  refine Tot.bind (R:=λ r:(List Ac)×Bool=>∃ F,r.1=F.map toH/\SE t st L H F r.2/\(∀ h∈F,UH t L h)/\F.length<=60000000) ?_ ?_
  ·refine Tot.whl (body:=λ n (x:(List Ac)×(List Ac)×(List (Ac×Bool))×Bool)=>Bx n L g (H.map toH) mp x.1 x.2.1 x.2.2.1 x.2.2.2) (λ k x=>∃ ks op fd,x.1=op.map toH/\x.2.1=fd.map toH/\x.2.2.1=mkK ks/\SJ t st L H (λ _=>False) ks op fd x.2.2.2/\(∀ h∈H,Gd t st L h.at_ h.sta->h∈ks)/\k=2*(60000000-ks.length)+op.length) ?_ _ _ ⟨ks,op,fd,rfl,rfl,rfl,hS,hin,rfl⟩
   rintro k ⟨_,_,_,e⟩ ⟨ks,op,fd,rfl,rfl,rfl,hS,hin,rfl⟩
   have hsm:=hS.small hB
   have hle:=hS.le
   unfold Bx
   rcases List.eq_nil_or_concat op with rfl|⟨op0,h,rfl⟩
   ·refine Tot.iteF (by simp) (Tot.pure ⟨fd,rfl,SI.fin (λ r hr=>(hc r hr).1) hS.si hin hH,λ h hh=>hS.un h (hS.si.fnd h hh).1,by omega⟩)
   ·rw [List.concat_eq_append] at *
    have hlen:((op0++[h]).map toH).length=op0.length+1:=by simp
    have hle':op0.length+1<=60000000:=by simp at hle;omega
    have hsb:DD .i64 ((List.length ((op0++[h]).map toH):Nat):Int) 1=(op0.length:Int):=by rw [hlen,LP (by omega) (by omega)];omega
    obtain ⟨hk,hr⟩:=hS.si.opn h (by simp)
    have hR:=(hS.si.kg h hk).1.1
    have hjl:=hR.live.lt
    have hac:=hg.acc _ _ (JgN hjl)
    have go:∀ e':Bool,(e'=true↔e=true\/(h.at_=L.length/\∃ q,st[h.sta]? = some q/\AO t q=true))->Tot (λ n=>Bi n L g mp (fd.map toH) (mkK ks) (toH h) (op0.map toH) e') (Rd2 (λ y=>∃ j,j<2*(60000000-ks.length)+(op0++[h]).length/\∃ ks op fd,y.1=op.map toH/\y.2.1=fd.map toH/\y.2.2.1=mkK ks/\SJ t st L H (λ _=>False) ks op fd y.2.2.2/\(∀ h∈H,Gd t st L h.at_ h.sta->h∈ks)/\j=2*(60000000-ks.length)+op.length) λ r=>∃ F,r.1=F.map toH/\SE t st L H F r.2/\(∀ h∈F,UH t L h)/\F.length<=60000000):=by
     intro e' he'
     unfold Bi
     refine Tot.bindA (f:=λ _=>some ()) (y:=()) (λ _=>rfl) (Tot.bind (Xq hc hrl hst hL hB hg hm (H:=H) (ks:=ks) (op:=op0) (fd:=fd) (e:=e') hk hr (λ h1 h2=>he'.2 (.inr ⟨h1,h2⟩)) ⟨hS.si.pop he',hS.nd,hS.un,by simp at hle;omega⟩) ?_)
     rintro r ⟨ks',op',fd',rfl,h1,h2,h3⟩
     have hsm':=h1.small hB
     exact Tot.iteT rfl (Tot.pure ⟨_,by simp;omega,ks',op',fd',rfl,rfl,rfl,h1,λ x hx hx'=>h2 _ (hin x hx hx'),rfl⟩)
    refine Tot.iteT (by simp) (Tot.bindC (y:=toH h) (by rw [hsb];exact Ft (by simp)) (Tot.bindC (y:=op0.map toH) (by rw [hsb];rw [GL (by simp)];simp) ?_))
    by_cases hi:h.at_=L.length
    ·have hbe:(((h.at_:Nat):Int)==((L.length:Nat):Int))=true:=by rw [hi];exact beq_self_eq_true _
     refine Tot.bindC (y:=AO t st[h.sta]) ((if_pos hbe).trans (Ft hac)) ?_
     by_cases ha:AO t st[h.sta]=true
     ·exact Tot.iteT (by rw [ha];exact (congrArg (·&&true) hbe)) (go true ⟨λ _=>.inr ⟨hi,_,JgN hjl,ha⟩,λ _=>rfl⟩)
     ·refine Tot.iteF (by rw [Bool.eq_false_iff.2 ha,Bool.and_false]) (go e ⟨.inl,λ h=>?_⟩)
      rcases h with h|⟨_,q,h1,h2⟩
      ·exact h
      ·rw [JgN hjl] at h1;cases h1;exact absurd h2 ha
    ·have hbe:(((h.at_:Nat):Int)==((L.length:Nat):Int))=false:=by rw [beq_eq_false_iff_ne];intro h;exact hi (Int.ofNat_inj.1 h)
     refine Tot.bindC (y:=default) (if_neg (by rw [hbe];simp)) (Tot.iteF (congrArg (·&&default) hbe) (go e ⟨.inl,λ h=>?_⟩))
     rcases h with h|⟨h,_⟩
     ·exact h
     ·exact absurd h hi
  ·rintro ⟨r1,r2⟩ ⟨F,rfl,h1,h2,h3⟩
   refine Tot.bindA (y:=F.map toH) (λ n=>?_) (Tot.pure ⟨F,rfl,h1,h2,h3⟩)
   unfold Ir
   rw [GL (l:=F.map toH) (k:=(F.map toH).length) (Nat.le_refl _),Option.bind_some,List.take_length]
theorem JaM (n:Nat) (H:List Ac) (l:List Int) (g:Am) (mp:List (Ae×Bool)):BP n H l g mp=A8 n l g H mp:=rfl
end
end Go.AI
end
section
namespace Go.AI
section
variable {t:Aa} {st:List Ab} {L:List Int}
def K2 (F:List HD) (nx:Nat) (G:List HD) (v:Int):Prop:=(v=-1/\∀ h∈G,ge1 nx h.rest=false)\/∃ b:UInt8,v=(b.toNat:Int)/\nx<=b.toNat/\(∀ h∈G,ge1 nx h.rest=true->ge1 b.toNat h.rest=true)/\∃ h∈F,∃ r,h.rest=b::r
theorem Uj {F:List HD} (hO:MH F) (hF:F.length<=60000000) (nx:Nat):Tot (λ n=>Ch n ⟨F.map toH,(nx:Int)⟩) (K2 F nx F):=by
 unfold Ch
 refine Tot.bind (R:=K2 F nx F) ?_ λ v hv=>Tot.pure hv
 refine Tot.upto (body:=λ n (x:Int×Int)=>BD n ⟨F.map toH,(nx:Int)⟩ x.1 x.2) F.length (λ q x=>x.2=(q:Int)/\K2 F nx (F.take q) x.1) ?_ ?_ _ ⟨rfl,.inl ⟨rfl,λ h hh=>by simp at hh⟩⟩
 ·rintro q ⟨v,_⟩ hq ⟨rfl,hv⟩
  have hmem:=List.getElem_mem hq
  obtain ⟨c,r,hcr⟩:∃ c r,F[q].rest=c::r:=List.exists_cons_of_ne_nil (hO _ hmem)
  have hc256:c.toNat<256:=c.toNat_lt
  have hwr:IntKind.i64.wrap (D1 c)=(c.toNat:Int):=KO (by unfold D1;omega) (by unfold D1;omega)
  have hge:ge1 nx F[q].rest=decide (nx<=c.toNat):=by rw [hcr];rfl
  have htk:∀ h,h∈F.take (q+1)↔h∈F.take q\/h=F[q]:=λ h=>by
   rw [List.take_add_one,JgN hq,Option.toList_some,List.mem_append,List.mem_singleton]
  have nxt:∀ v',K2 F nx (F.take (q+1)) v'->Tot (λ n=>B3 n (q:Int) v') (Rd2 (λ x=>x.2=((q+1:Nat):Int)/\K2 F nx (F.take (q+1)) x.1) (K2 F nx F)):=λ v' h=>Tot.pure ⟨D4 (by omega),h⟩
  unfold BD
  refine Tot.iteT (by simp;omega) (Tot.bindC (y:=toH F[q]) (Ft (by rw [JgR,JgN hq];rfl)) (Tot.bindC (y:=D1 c) (IJ (i:=0) (by show F[q].rest[0]? = _;rw [hcr];rfl)) ?_))
  rw [hwr]
  by_cases hn:nx<=c.toNat
  ·rcases hv with ⟨e,h0⟩|⟨b,e,h1,h2,h3⟩
   ·have e:v=-1:=e
    subst e
    refine Tot.iteT (by simp;omega) (nxt _ (.inr ⟨c,rfl,hn,λ h hh hg=>?_,_,hmem,r,hcr⟩))
    rcases (htk h).1 hh with hh|rfl
    ·rw [h0 h hh] at hg;cases hg
    ·rw [hcr];simp [ge1]
   ·have e:v=(b.toNat:Int):=e
    subst e
    by_cases hlt:c.toNat<b.toNat
    ·refine Tot.iteT (by simp;omega) (nxt _ (.inr ⟨c,rfl,hn,λ h hh hg=>?_,_,hmem,r,hcr⟩))
     rcases (htk h).1 hh with hh|rfl
     ·have:=h2 h hh hg
      unfold ge1 at this ⊢
      split at this
      ·simp only [decide_eq_true_eq] at this ⊢;omega
      ·cases this
     ·rw [hcr];simp [ge1]
    ·refine Tot.iteF (by simp;omega) (nxt _ (.inr ⟨b,rfl,h1,λ h hh hg=>?_,h3⟩))
     rcases (htk h).1 hh with hh|rfl
     ·exact h2 h hh hg
     ·rw [hcr];simp [ge1];omega
  ·have hgf:ge1 nx F[q].rest=false:=by rw [hge];simpa using hn
   refine Tot.iteF (by simp;omega) (nxt _ ?_)
   rcases hv with ⟨e,h0⟩|⟨b,e,h1,h2,h3⟩
   ·refine .inl ⟨e,λ h hh=>?_⟩
    rcases (htk h).1 hh with hh|rfl
    ·exact h0 h hh
    ·exact hgf
   ·refine .inr ⟨b,e,h1,λ h hh hg=>?_,h3⟩
    rcases (htk h).1 hh with hh|rfl
    ·exact h2 h hh hg
    ·rw [hgf] at hg;cases hg
 ·rintro ⟨v,_⟩ ⟨rfl,hv⟩
  unfold BD
  rw [List.take_length] at hv
  exact Tot.iteF (by simp) (Tot.pure hv)
theorem Rq {F:List HD} (hO:MH F) (hF:F.length<=60000000) (b:UInt8) {o0:List AS} {p0:Int} {nx:Int} (h0:idx o0 p0=some ⟨F.map toH,nx⟩):Tot (λ n=>BQ n p0 (D1 b) o0) (λ r=>r=(Gs b F).map toH):=by
 unfold BQ
 refine Tot.bindC h0 (Tot.bind (R:=λ r=>r=(Gs b F).map toH) ?_ λ v hv=>Tot.pure hv)
 refine Tot.upto (body:=λ n (x:(List Ac)×Int)=>Bm n (D1 b) o0 ⟨F.map toH,nx⟩ x.1 x.2) F.length (λ q x=>x.2=(q:Int)/\x.1=(Gs b (F.take q)).map toH) ?_ ?_ _ ⟨rfl,rfl⟩
 ·rintro q ⟨_,_⟩ hq ⟨rfl,rfl⟩
  have hmem:=List.getElem_mem hq
  obtain ⟨c,r,hcr⟩:∃ c r,F[q].rest=c::r:=List.exists_cons_of_ne_nil (hO _ hmem)
  have htk:Gs b (F.take (q+1))=Gs b (F.take q)++Gs b [F[q]]:=by
   rw [List.take_add_one,JgN hq,Option.toList_some]
   unfold Gs
   rw [List.filterMap_append]
  have hl:(Gs b (F.take q)).length<=60000000:=by
   have h1:(Gs b (F.take q)).length<=(F.take q).length:=List.length_filterMap_le _ _
   have h2:=List.length_take_le q F
   rw [List.length_take] at h1;omega
  have h1:Gs b [F[q]]=if c=b then [⟨F[q].at_,F[q].sta,r⟩] else []:=by
   unfold Gs
   simp only [List.filterMap_cons,List.filterMap_nil,hcr]
   split<;>rename_i h<;>(split at h<;>simp_all)
  unfold Bm
  refine Tot.iteT (by simp;omega) (Tot.bindC (y:=toH F[q]) (Ft (by rw [JgR,JgN hq];rfl)) (Tot.bindC (y:=D1 c) (IJ (i:=0) (by show F[q].rest[0]? = _;rw [hcr];rfl)) ?_))
  by_cases e:c=b
  ·subst e
   refine Tot.iteT (beq_self_eq_true _) (Tot.bindC (y:=r) ?_ (Tot.bindC (DZ (by simp;omega)) (Tot.pure ⟨D4 (by omega),?_⟩)))
   ·show sub F[q].rest 1 ((List.length F[q].rest:Nat):Int)=some r
    rw [hcr,Jal (by omega) (by simp only [List.length_cons];omega) (by simp)];simp
   ·show _=_
    rw [htk,h1,if_pos rfl,List.map_append]
    rfl
  ·have hne:(D1 c==D1 b)=false:=by
    rw [beq_eq_false_iff_ne]
    intro h
    unfold D1 at h
    exact e (UInt8.toNat_inj.1 (by omega))
   refine Tot.iteF hne (Tot.pure ⟨D4 (by omega),?_⟩)
   show _=_
   rw [htk,h1,if_neg e,List.append_nil]
 ·rintro ⟨_,_⟩ ⟨rfl,rfl⟩
  unfold Bm
  refine Tot.iteF (by simp) (Tot.pure ?_)
  show _=_
  rw [List.take_length]
structure BR where
 heads:List HD
 next:Nat
 texts:List (List UInt8)
structure JbW (t:Aa) (st:List Ab) (L:List Int) (x:BR):Prop where
 opn:MH x.heads
 good:∀ h∈x.heads,Rc t st L h.at_ h.sta/\∃ y,RG t st h.sta (L.drop h.at_) y
 un:∀ h∈x.heads,UH t L h
 len:x.heads.length<=60000000
 tx:Jq t st L x.heads x.texts
 nx:x.next<=256
abbrev toB (x:BR):AS:=⟨x.heads.map toH,(x.next:Int)⟩
abbrev prB (x:BR):List (List UInt8)×Nat:=(x.texts,x.next)
structure TI (t:Aa) (st:List Ab) (L:List Int) (T0 out:List (List UInt8)) (S:List BR) (p:List UInt8):Prop where
 ok:∀ x∈S,JbW t st L x
 len:S=[]\/p.length+1=S.length
 rem:out++Od (S.map prB) p=T0
 short:∀ x∈T0,x.length<=4000
 pl:p.length<=4000
theorem TI.back {T0 out:List (List UInt8)} {S:List BR} {x:BR} {p:List UInt8} (h:TI t st L T0 out (x::S) p) (hn:∀ g∈x.heads,ge1 x.next g.rest=false):TI t st L T0 out S p.dropLast/\LS (S.map prB)<LS ((x::S).map prB):=by
 have hx:=h.ok x (by simp)
 obtain ⟨e1,e2⟩:=JaF (S:=S.map prB) (p:=p) hx.tx hx.opn hn
 refine ⟨⟨λ y hy=>h.ok y (by simp [hy]),?_,by rw [← h.rem,List.map_cons,e1],h.short,by have:=h.pl;rw [List.length_dropLast];omega⟩,e2⟩
 cases S with
 | nil=>exact .inl rfl
 | cons y S=>
  right
  rcases h.len with q|q
  ·cases q
  ·rw [List.length_dropLast];simp only [List.length_cons] at q ⊢;omega
theorem TI.step (hc:∀ r∈t.Rules,1<=r.Cells.length) {T0 out:List (List UInt8)} {S:List BR} {x:BR} {p:List UInt8} {b:UInt8} {F:List HD} {e:Bool} {TF:List (List UInt8)} (h:TI t st L T0 out (x::S) p) (hb:x.next<=b.toNat) (hl:∀ g∈x.heads,ge1 x.next g.rest=true->ge1 b.toNat g.rest=true) (hin:∃ g∈x.heads,∃ r,g.rest=b::r) (hs:SE t st L (Gs b x.heads) F e) (hu:∀ h∈F,UH t L h) (hlen:F.length<=60000000) (hF:Jq t st L F TF) :
  TI t st L T0 (out++if e=true then [p++[b]] else []) (⟨F,0,TF⟩::⟨x.heads,b.toNat+1,x.texts⟩::S) (p++[b])/\LS ((⟨F,0,TF⟩::⟨x.heads,b.toNat+1,x.texts⟩::S:List BR).map prB)<LS ((x::S).map prB):=by
 have hx:=h.ok x (by simp)
 obtain ⟨T',hT'⟩:=Rm (t:=t) hc (st:=st) (L:=L) (Gs b x.heads)
 obtain ⟨g,hg,r,hr⟩:=hin
 have hgb:(⟨g.at_,g.sta,r⟩:HD)∈Gs b x.heads:=IQ.2 (by rw [← hr];exact hg)
 have hne:T'≠[]:=hT'.behind hgb (hx.good g hg).2
 obtain ⟨e1,e2⟩:=JaE (S:=S.map prB) (p:=p) hx.tx hx.opn hb hl hT' hne hs hF
 have hrem:=h.rem
 rw [List.map_cons,e1] at hrem
 have hb256:b.toNat<256:=b.toNat_lt
 have hpl:p.length+1<=4000:=by
  obtain ⟨y,hy⟩:=List.exists_mem_of_ne_nil _ hne
  obtain ⟨h2,hh2,y2,hy2,hy3⟩:=(hT'.2 y).1 hy
  have hq:=IQ.1 hh2
  have hbx:b::y∈x.texts:=(hx.tx.2 _).2 ⟨_,hq,y2,hy2,by rw [hy3];rfl⟩
  have hmem:p++(b::y)∈T0:=by
   rw [← h.rem,List.map_cons]
   refine List.mem_append_right _ ?_
   show _∈(Nh x.texts x.next).map (p++·)++_
   refine List.mem_append_left _ (List.mem_map.2 ⟨_,?_,rfl⟩)
   unfold Nh
   rw [List.mem_filter]
   exact ⟨hbx,by simp [ge1,hb]⟩
  have:=h.short _ hmem
  rw [List.length_append,List.length_cons] at this
  omega
 refine ⟨⟨λ y hy=>?_,.inr ?_,by rw [← hrem,List.append_assoc];rfl,h.short,by simpa using hpl⟩,e2⟩
 ·simp only [List.mem_cons] at hy
  rcases hy with rfl|rfl|hy
  ·exact ⟨hs.opn,hs.good,hu,hlen,hF,by simp⟩
  ·exact ⟨hx.opn,hx.good,hx.un,hx.len,hx.tx,by simp;omega⟩
  ·exact h.ok y (by simp [hy])
 ·rcases h.len with q|q
  ·cases q
  ·simp only [List.length_append,List.length_cons,List.length_nil] at q ⊢;omega
theorem JbW.beh {x:BR} (hx:JbW t st L x) (b:UInt8):(∀ h∈Gs b x.heads,UH t L h)/\(Gs b x.heads).length<=60000000/\∀ h∈Gs b x.heads,(∃ y,RG t st h.sta (L.drop h.at_) y)->Rc t st L h.at_ h.sta:=by
 refine ⟨λ h hh=>?_,?_,λ h hh _=>?_⟩
 ·have:=hx.un _ (IQ.1 hh)
  exact this.tail
 ·have h1:(Gs b x.heads).length<=x.heads.length:=List.length_filterMap_le _ _
  have:=hx.len;omega
 ·exact (hx.good _ (IQ.1 hh)).1
theorem RG.len {k:Nat} (hp:∀ r∈t.Rules,1<=r.Cells.length/\r.Print.length<=k) {i:Nat} {l:List Int} {x:List UInt8} (h:RG t st i l x):x.length<=k*l.length:=by
 induction h with
 | nil=>simp
 | @cons i a l x ha _ ih=>
  obtain ⟨j,h1,_,e1,e2⟩:=ha.cells
  have h3:=hp _ (Do (k:=(j:Int)) (by omega) (by omega))
  rw [List.length_append,List.length_append,e1,e2]
  have:k*((cls t j).length+l.length)>=k*1+k*l.length:=by
   rw [Nat.mul_add]
   exact Nat.add_le_add_right (Nat.mul_le_mul_left k h3.1) _
  have h4:(prt t j).length<=k:=h3.2
  omega
end
end Go.AI
end
section
namespace Go.AI
structure En (t:Aa) (st:List Ab) (L:List Int) (g:Am) (mp:List (Ae×Bool)):Prop where
 hc:∀ r∈t.Rules,1<=r.Cells.length/\r.Cells.length<=1000
 hrl:t.Rules.length<=11
 hst:st.length<=768
 hL:L.length<=1000
 hB:(uni t L).length<=60000000
 hg:QB t st g
 hm:∀ i j,gud mp i j↔Gd t st L i j
theorem JaN (x:BR) (S:List BR):((x::S).map toB).reverse=(S.map toB).reverse++[toB x]:=by simp
theorem JaO {α:Type} {l:List α} (y:α) (h:l.length<=10000):DD .i64 ((List.length (l++[y]):Nat):Int) 1=((l.length:Nat):Int):=by
 have:(l++[y]).length=l.length+1:=by simp
 rw [this,LP (by omega) (by omega)];omega
theorem Uk {p:List UInt8} (h:p.length<=10000):sub (Bu p) 0 (if 0>DD .i64 ((List.length (Bu p):Nat):Int) 1 then 0 else DD .i64 ((List.length (Bu p):Nat):Int) 1)=some (Bu p.dropLast):=by
 have hl:=D3 p
 rcases List.eq_nil_or_concat p with rfl|⟨q,b,rfl⟩
 ·rfl
 ·rw [List.concat_eq_append] at *
  rw [List.length_append,List.length_singleton] at h
  have e:DD .i64 ((List.length (Bu (q++[b])):Nat):Int) 1=((q.length:Nat):Int):=by
   rw [hl,List.length_append,List.length_singleton,LP (by omega) (by omega)];omega
  rw [e,if_neg (by omega),GL (by rw [hl];simp),List.dropLast_concat,Hk]
  rw [List.take_append_of_le_length (by rw [D3];exact Nat.le_refl _),← D3 q,List.take_length]
theorem V7 {α:Type} (l:List α) (y z:α):put (l++[y]) ((l.length:Nat):Int) z=some (l++[z]):=by
 rw [Sw (by simp)];simp
section
variable {t:Aa} {st:List Ab} {L:List Int} {g:Am} {mp:List (Ae×Bool)}
theorem En.spread (h:En t st L g mp) {x:BR} (hx:JbW t st L x) (b:UInt8):Tot (λ n=>A8 n L g ((Gs b x.heads).map toH) mp) (λ r=>∃ F,r.1=F.map toH/\SE t st L (Gs b x.heads) F r.2/\(∀ h∈F,UH t L h)/\F.length<=60000000):=by
 obtain ⟨q1,q2,q3⟩:=hx.beh b
 exact Qb h.hc h.hrl h.hst h.hL h.hB h.hg h.hm q1 q2 q3
theorem Jgc {F:List HD} {T:List (List UInt8)} (hO:MH F) (hT:Jq t st L F T):Nh T 0=T:=by
 unfold Nh
 rw [List.filter_eq_self]
 intro x hx
 obtain ⟨h,hh,y,_,rfl⟩:=(hT.2 x).1 hx
 obtain ⟨c,r,e⟩:=List.exists_cons_of_ne_nil (hO h hh)
 rw [e];simp [ge1]
theorem JaP (hE:En t st L g mp) (b2:List Int) {T0:List (List UInt8)} (x0:List UInt8) (a0 e0:Int) {S:List BR} {p:List UInt8} (hT:TI t st L T0 [] S p) :
  Tot (λ n=>whl (λ (x:((List UInt8)×Int×Int×(List Int)×(List AS)))=>A3 n b2 L g mp x.1 x.2.1 x.2.2.1 x.2.2.2.1 x.2.2.2.2) n (x0,a0,e0,Bu p,(S.map toB).reverse)) (λ y=>(T0=[]/\y=.inl (x0,a0,e0))\/∃ s r,T0=s::r/\y=.inr (2,s,((b2.length:Nat):Int),0)):=by
 refine Tot.whl (body:=λ n (x:(List UInt8)×Int×Int×(List Int)×(List AS))=>A3 n b2 L g mp x.1 x.2.1 x.2.2.1 x.2.2.2.1 x.2.2.2.2) (λ k x=>∃ S p,x=(x0,a0,e0,Bu p,(S.map toB).reverse)/\TI t st L T0 [] S p/\k=LS (S.map prB)) ?_ _ _ ⟨S,p,rfl,hT,rfl⟩
 rintro k _ ⟨S,p,rfl,hT,rfl⟩
 cases S with
 | nil=>
  unfold A3
  refine Tot.iteF (by simp) (Tot.pure (.inl ⟨?_,rfl⟩))
  have:=hT.rem
  simpa [Od] using this.symm
 | cons x S=>
  have hx:=hT.ok x (by simp)
  have hpl:=hT.pl
  have hlen:p.length+1=S.length+1:=by
   rcases hT.len with q|q
   ·cases q
   ·simpa using q
  have hl0:((S.map toB).reverse).length<=10000:=by simp;omega
  have htop:=λ y:AS=>JaO y hl0
  unfold A3
  simp only [JaN]
  refine Tot.iteT (by simp) (Tot.bindC (y:=toB x) (by rw [htop];exact Ft (by simp)) (Tot.bind (Uj hx.opn hx.len x.next) ?_))
  rintro v (⟨rfl,hno⟩|⟨b,rfl,hb,hl,hin⟩)
  ·obtain ⟨q1,q2⟩:=hT.back hno
   refine Tot.iteT rfl (Tot.bindC (y:=(S.map toB).reverse) (by rw [htop,GL (by simp)];simp) (Tot.bindC (Uk (by omega)) (Tot.pure ⟨_,q2,S,p.dropLast,rfl,q1,rfl⟩)))
  ·have hb256:b.toNat<256:=b.toNat_lt
   have hw:IntKind.u8.wrap ((b.toNat:Nat):Int)=D1 b:=Jac (by omega) (by omega)
   have hnx:BC .i64 ((b.toNat:Nat):Int) 1=((b.toNat+1:Nat):Int):=D4 (by omega)
   have hbs:Bu p++[D1 b]=Bu (p++[b]):=by rw [Hk];rfl
   refine Tot.iteF (by simp) (Tot.bindC (y:=(S.map toB).reverse++[toB ⟨x.heads,b.toNat+1,x.texts⟩]) ?_ (Tot.bindC (y:=Bu (p++[b])) (by rw [hw,DZ (by rw [D3];simp;omega),hbs]) ?_))
   ·rw [htop,hnx];exact V7 _ _ _
   ·rw [hw,htop]
    refine Tot.bind (Rq hx.opn hx.len b (nx:=((b.toNat+1:Nat):Int)) (Ft (by simp))) λ r50 h50=>?_
    subst h50
    refine Tot.bind (hE.spread hx b) ?_
    rintro ⟨_,e⟩ ⟨F,rfl,hs,hu,hFl⟩
    obtain ⟨TF,hTF⟩:=Rm (t:=t) (λ r hr=>(hE.hc r hr).1) (st:=st) (L:=L) F
    obtain ⟨q1,q2⟩:=hT.step (λ r hr=>(hE.hc r hr).1) hb hl hin hs hu hFl hTF
    cases e with
    | true=>
     refine Tot.iteT rfl (Tot.bindC (MG _) (Tot.bindA (f:=λ _=>some ()) (y:=()) (λ _=>rfl) (Tot.iteT rfl (Tot.pure (.inr ⟨_,_,q1.rem.symm,rfl⟩)))))
    | false=>
     refine Tot.iteF (by simp) (Tot.iteF rfl ?_)
     unfold By
     refine Tot.bindC (DZ (by simp;omega)) (Tot.pure ⟨_,q2,_,p++[b],?_,q1,rfl⟩)
     simp
def LT (t:Aa) (st:List Ab) (L:List Int) (T:List (List UInt8)):Prop:=Gj T/\∀ x,x∈T↔RG t st 0 L x
theorem LT.ofTx {T:List (List UInt8)} (h:Jq t st L [⟨0,0,[]⟩] T):LT t st L T:=by
 refine ⟨h.1,λ x=>(h.2 x).trans ?_⟩
 constructor
 ·rintro ⟨a,ha,y,hy,rfl⟩
  simp at ha;subst ha
  simpa using hy
 ·intro hx
  exact ⟨⟨0,0,[]⟩,by simp,x,by simpa using hx,rfl⟩
theorem LT.uniq {T T':List (List UInt8)} (h:LT t st L T) (h':LT t st L T'):T=T':=h.1.ext h'.1 λ x=>(h.2 x).trans (h'.2 x).symm
theorem Ul (hE:En t st L g mp) (hp:∀ r∈t.Rules,r.Print.length<=4) {T:List (List UInt8)} (hT:LT t st L T):Tot (λ n=>BP n ([({ Spot:=({ At:=0,State:=0 }:Ae),Rest:=[] }:Ac)]) L g mp) (λ r=>∃ F TF,r.1=F.map toH/\T=(if r.2=true then [[]] else [])++TF/\TI t st L T (if r.2=true then [[]] else []) [⟨F,0,TF⟩] []):=by
 have hu:∀ h∈[(⟨0,0,[]⟩:HD)],UH t L h:=λ h hh=>by
  simp at hh;subst hh
  exact ⟨by simp,by simp,by simp [QC]⟩
 refine Tot.congr (Tot.mono (Qb hE.hc hE.hrl hE.hst hE.hL hE.hB hE.hg hE.hm (H:=[⟨0,0,[]⟩]) hu (by simp) (λ h hh hy=>?_)) ?_) (λ n=>JaM n _ L g mp)
 ·simp at hh;subst hh
  obtain ⟨y,hy⟩:=hy
  exact .start hy.live
 ·rintro ⟨_,e⟩ ⟨F,rfl,hs,hU,hFl⟩
  obtain ⟨TF,hTF⟩:=Rm (t:=t) (λ r hr=>(hE.hc r hr).1) (st:=st) (L:=L) F
  obtain ⟨T2,hT2⟩:=Rm (t:=t) (λ r hr=>(hE.hc r hr).1) (st:=st) (L:=L) [⟨0,0,[]⟩]
  have:=hT.uniq (LT.ofTx hT2)
  subst this
  have e1:=hs.tx hT2 hTF
  refine ⟨F,TF,rfl,e1,⟨λ x hx=>?_,.inr rfl,?_,λ x hx=>?_,by simp⟩⟩
  ·simp at hx;subst hx
   exact ⟨hs.opn,hs.good,hU,hFl,hTF,by simp⟩
  ·show _++((Nh TF 0).map ([]++·)++Od [] _)=T
   rw [Jgc hs.opn hTF]
   simp only [List.nil_append,List.map_id',Od,List.append_nil]
   exact e1.symm
  ·have:=((hT.2 x).1 hx).len (k:=4) (λ r hr=>⟨(hE.hc r hr).1,hp r hr⟩)
   have:=hE.hL
   omega
theorem Xr (hE:En t st L g mp) (hp:∀ r∈t.Rules,r.Print.length<=4) {T:List (List UInt8)} (hT:LT t st L T) (b2:List Int) (x0:List UInt8) (a0 e0:Int) :
  Tot (λ n=>B4 n b2 x0 a0 e0 L g mp) (λ r=>(T=[]/\r=(0,x0,a0,e0))\/∃ s r',T=s::r'/\r=(2,s,((b2.length:Nat):Int),0)):=by
 unfold B4
 refine Tot.bind (Ul hE hp hT) ?_
 rintro ⟨_,e⟩ ⟨F,TF,rfl,hTT,hTI⟩
 cases e with
 | true=>exact Tot.iteT rfl (Tot.bindA (f:=λ _=>some ()) (y:=()) (λ _=>rfl) (Tot.iteT rfl (Tot.pure (.inr ⟨[],TF,hTT,rfl⟩))))
 | false=>
  refine Tot.iteF (by simp) (Tot.iteF rfl ?_)
  unfold Bz
  refine Tot.bind (JaP hE b2 x0 a0 e0 (S:=[⟨F,0,TF⟩]) (p:=[]) hTI) ?_
  rintro y (⟨h1,rfl⟩|⟨s,r,h1,rfl⟩)
  ·exact Tot.pure (.inl ⟨h1,rfl⟩)
  ·exact Tot.pure (.inr ⟨s,r,h1,rfl⟩)
theorem Ov (n:Nat) (s:List UInt8) (lim:Nat) (e3:Int) (o5 o6:List (List UInt8)) (hl:o6.length<=1099511627776):DT n s (lim:Int) e3 o5 o6=some (if o6.length=lim then (2,2,[],o6) else (0,e3,o5,o6++[s])):=by
 unfold DT
 by_cases h:o6.length=lim
 ·rw [if_pos (by rw [h];exact beq_self_eq_true _),if_pos h]
 ·rw [if_neg (by simp;omega),if_neg h,DZ (by simp;omega)];rfl
theorem Xs (hE:En t st L g mp) (lim:Nat) {T0:List (List UInt8)} (hcap:∀ k,k<=lim->k<=T0.length->k<=1099511627776) {out:List (List UInt8)} (ho:out.length<=lim) {S:List BR} {p:List UInt8} (hT:TI t st L T0 out S p) :
  Tot (λ n=>whl (λ (x:(Int×(List Int)×(List AS)×(List (List UInt8))×(List (List UInt8))))=>A2 n (lim:Int) L g mp x.1 x.2.1 x.2.2.1 x.2.2.2.1 x.2.2.2.2) n (0,Bu p,(S.map toB).reverse,[],out)) (λ y=>(T0.length<=lim/\y=.inl (0,[],T0))\/(lim<T0.length/\∃ o,y=.inr (2,2,[],o))):=by
 refine Tot.whl (body:=λ n (x:Int×(List Int)×(List AS)×(List (List UInt8))×(List (List UInt8)))=>A2 n (lim:Int) L g mp x.1 x.2.1 x.2.2.1 x.2.2.2.1 x.2.2.2.2) (λ k x=>∃ S p out,x=(0,Bu p,(S.map toB).reverse,[],out)/\out.length<=lim/\TI t st L T0 out S p/\k=LS (S.map prB)) ?_ _ _ ⟨S,p,out,rfl,ho,hT,rfl⟩
 rintro k _ ⟨S,p,out,rfl,ho,hT,rfl⟩
 cases S with
 | nil=>
  unfold A2
  have:=hT.rem
  simp only [List.map_nil,Od,List.append_nil] at this
  subst this
  exact Tot.iteF (by simp) (Tot.pure (.inl ⟨ho,rfl⟩))
 | cons x S=>
  have hx:=hT.ok x (by simp)
  have hpl:=hT.pl
  have hlen:p.length+1=S.length+1:=by
   rcases hT.len with q|q
   ·cases q
   ·simpa using q
  have hl0:((S.map toB).reverse).length<=10000:=by simp;omega
  have htop:=λ y:AS=>JaO y hl0
  have hol:out.length<=1099511627776:=hcap _ ho (by rw [← hT.rem];simp)
  unfold A2
  simp only [JaN]
  refine Tot.iteT (by simp) (Tot.bindC (y:=toB x) (by rw [htop];exact Ft (by simp)) (Tot.bind (Uj hx.opn hx.len x.next) ?_))
  rintro v (⟨rfl,hno⟩|⟨b,rfl,hb,hl,hin⟩)
  ·obtain ⟨q1,q2⟩:=hT.back hno
   refine Tot.iteT rfl (Tot.bindC (y:=(S.map toB).reverse) (by rw [htop,GL (by simp)];simp) (Tot.bindC (Uk (by omega)) (Tot.pure ⟨_,q2,S,p.dropLast,out,rfl,ho,q1,rfl⟩)))
  ·have hb256:b.toNat<256:=b.toNat_lt
   have hw:IntKind.u8.wrap ((b.toNat:Nat):Int)=D1 b:=Jac (by omega) (by omega)
   have hnx:BC .i64 ((b.toNat:Nat):Int) 1=((b.toNat+1:Nat):Int):=D4 (by omega)
   have hbs:Bu p++[D1 b]=Bu (p++[b]):=by rw [Hk];rfl
   refine Tot.iteF (by simp) (Tot.bindC (y:=(S.map toB).reverse++[toB ⟨x.heads,b.toNat+1,x.texts⟩]) ?_ (Tot.bindC (y:=Bu (p++[b])) (by rw [hw,DZ (by rw [D3];simp;omega),hbs]) ?_))
   ·rw [htop,hnx];exact V7 _ _ _
   ·rw [hw,htop]
    refine Tot.bind (Rq hx.opn hx.len b (nx:=((b.toNat+1:Nat):Int)) (Ft (by simp))) λ r50 h50=>?_
    subst h50
    refine Tot.bind (hE.spread hx b) ?_
    rintro ⟨_,e⟩ ⟨F,rfl,hs,hu,hFl⟩
    obtain ⟨TF,hTF⟩:=Rm (t:=t) (λ r hr=>(hE.hc r hr).1) (st:=st) (L:=L) F
    obtain ⟨q1,q2⟩:=hT.step (λ r hr=>(hE.hc r hr).1) hb hl hin hs hu hFl hTF
    have go:∀ out',out'.length<=lim->TI t st L T0 out' (⟨F,0,TF⟩::⟨x.heads,b.toNat+1,x.texts⟩::S) (p++[b])->Tot (λ n=>Ba n ((S.map toB).reverse++[toB ⟨x.heads,b.toNat+1,x.texts⟩]) (Bu (p++[b])) (F.map toH,e) 0 [] out') (Rd2 (λ y=>∃ j,j<LS ((x::S).map prB)/\∃ S p out,y=(0,Bu p,(S.map toB).reverse,[],out)/\out.length<=lim/\TI t st L T0 out S p/\j=LS (S.map prB)) λ y=>(T0.length<=lim/\y=.inl (0,[],T0))\/(lim<T0.length/\∃ o,y=.inr (2,2,[],o))):=by
     intro out' ho' hT'
     unfold Ba
     refine Tot.bindC (DZ (by simp;omega)) (Tot.pure ⟨_,q2,_,p++[b],out',?_,ho',hT',rfl⟩)
     simp
    cases e with
    | true=>
     refine Tot.iteT rfl (Tot.bindC (MG _) ?_)
     rw [if_pos rfl] at q1
     by_cases h:out.length=lim
     ·refine Tot.bindA (λ n=>(Ov n _ lim 0 [] out hol).trans (congrArg some (if_pos h))) (Tot.iteT rfl (Tot.pure (.inr ⟨?_,_,rfl⟩)))
      have:=q1.rem
      rw [← this];simp;omega
     ·refine Tot.bindA (λ n=>(Ov n _ lim 0 [] out hol).trans (congrArg some (if_neg h))) (Tot.iteF rfl (go _ (by simp;omega) q1))
    | false=>
     refine Tot.iteF (by simp) (Tot.iteF rfl (go out ho ?_))
     simpa using q1
theorem Vt (hE:En t st L g mp) (hp:∀ r∈t.Rules,r.Print.length<=4) {T:List (List UInt8)} (hT:LT t st L T) (lim:Nat) (hcap:∀ k,k<=lim->k<=T.length->k<=1099511627776) :
  Tot (λ n=>BT n (lim:Int) 0 L g [] [] mp) (λ r=>(T.length<=lim/\r=(0,0,[],T))\/(lim<T.length/\∃ o,r=(2,2,[],o))):=by
 unfold BT
 refine Tot.bind (Ul hE hp hT) ?_
 rintro ⟨_,e⟩ ⟨F,TF,rfl,hTT,hTI⟩
 have go:∀ out:List (List UInt8),out.length<=lim->TI t st L T out [⟨F,0,TF⟩] []->Tot (λ n=>Bb n (lim:Int) L g mp (F.map toH,e) 0 [] out) (λ r=>(T.length<=lim/\r=(0,0,[],T))\/(lim<T.length/\∃ o,r=(2,2,[],o))):=by
  intro out ho hTI
  unfold Bb
  refine Tot.bind (Xs hE lim hcap ho (S:=[⟨F,0,TF⟩]) (p:=[]) hTI) ?_
  rintro y (⟨h1,rfl⟩|⟨h1,o,rfl⟩)
  ·exact Tot.pure (.inl ⟨h1,rfl⟩)
  ·exact Tot.pure (.inr ⟨h1,o,rfl⟩)
 cases e with
 | true=>
  refine Tot.iteT rfl ?_
  by_cases h:lim=0
  ·refine Tot.bindA (λ n=>(Ov n _ lim 0 [] [] (by simp)).trans (congrArg some (if_pos h.symm))) (Tot.iteT rfl (Tot.pure (.inr ⟨?_,_,rfl⟩)))
   rw [hTT];simp;omega
  ·exact Tot.bindA (λ n=>(Ov n _ lim 0 [] [] (by simp)).trans (congrArg some (if_neg λ q=>h q.symm))) (Tot.iteF rfl (go _ (by simp;omega) hTI))
 | false=>exact Tot.iteF (by simp) (Tot.iteF rfl (go [] (by simp) hTI))
end
end Go.AI
end
section
namespace Go.AI
section
variable {t:Aa} {L:List Int}
theorem Cq.cells4 (ht:Cq t):∀ r∈t.Rules,1<=r.Cells.length/\r.Cells.length<=1000:=λ r hr=>by
 have:=Jp (ht.sound r hr);omega
theorem Cq.cells1 (ht:Cq t):∀ r∈t.Rules,1<=r.Cells.length:=λ r hr=>(ht.cells4 r hr).1
theorem Cq.prints4 (ht:Cq t):∀ r∈t.Rules,r.Print.length<=4:=λ r hr=>(Jp (ht.sound r hr)).1
theorem Cq.en (ht:Cq t) (hL:L.length<=1000) {r:Am×(List (Ae×Bool))×Int} (hr:JbU t (A1 t) L r):En t (A1 t) L r.1 r.2.1:=
 ⟨ht.cells4,ht.tab.1,(Ec ht.tab).1.len,hL,JbV hL ht.tab.1 ht.prints4,hr.graph,hr.good⟩
theorem Cq.first (ht:Cq t):(A1 t)[0]? = some C3:=(Ec ht.tab).1.first
theorem JbX (ht:Cq t) {l:List Int} (h:GO t C3 l):Fb t (A1 t) 0:=by
 obtain ⟨p,q',h1,h2,_⟩:=h
 exact Nf (Ec ht.tab).2 p _ q' 0 h1 h2 ht.first
def Far (t:Aa) (L:List Int) (m:Nat):Prop:=m<=L.length/\∀ n,1<=n->n<=L.length->(GO t C3 (L.take n)↔n<=m)
theorem Far.uniq {m m':Nat} (h:Far t L m) (h':Far t L m'):m=m':=by
 obtain ⟨a,b⟩:=h
 obtain ⟨a',b'⟩:=h'
 by_cases e:m<m'
 ·have:=(b m' (by omega) a').1 ((b' m' (by omega) a').2 (Nat.le_refl _));omega
 ·by_cases e':m'<m
  ·have:=(b' m (by omega) a).1 ((b m (by omega) a).2 (Nat.le_refl _));omega
  ·omega
theorem Xf.le {st:List Ab} {m:Nat} (h:Xf t st L m):m<=L.length:=by
 rcases h.at_ with rfl|⟨i,j,a,h1,_,rfl⟩
 ·omega
 ·have:=h1.le;have h2:=(SD a.cells (L.drop i)).2;rw [List.length_drop] at h2;omega
theorem JbU.far (ht:Cq t) {r:Am×(List (Ae×Bool))×Int} (hr:JbU t (A1 t) L r):∃ m:Nat,(if 0>r.2.2 then 0 else r.2.2)=(m:Int)/\Far t L m:=by
 rcases hr.most with ⟨_,m,e,hM⟩|⟨hl,e⟩
 ·exact ⟨m,by rw [e,if_neg (by omega)],hM.le,λ n _ h2=>JbT (Ec ht.tab).2 ht.first hM h2⟩
 ·refine ⟨0,by rw [e];rfl,by omega,λ n h1 _=>⟨λ h=>absurd (JbX ht h) hl,λ h=>by omega⟩⟩
theorem JbY (ht:Cq t):∃ T,LT t (A1 t) L T:=by
 obtain ⟨T,hT⟩:=Rm (t:=t) ht.cells1 (st:=A1 t) (L:=L) [⟨0,0,[]⟩]
 exact ⟨T,.ofTx hT⟩
theorem JaQ (ht:Cq t) (hL:L.length<=1000) {T:List (List UInt8)} (hT:LT t (A1 t) L T):Tot (λ n=>Fi n t L) (λ r=>(∃ s r',T=s::r'/\r=(s,((L.length:Nat):Int),0))\/(T=[]/\∃ m:Nat,Far t L m/\r=([],(m:Int),40))):=by
 unfold Fi
 refine Tot.bindE (Rh ht.small) (Tot.iteF (by rw [ht.valid];rfl) (Tot.bind (Lr ht.tab ht.cells4 hL) λ r hr=>Tot.bindA (f:=λ _=>some ()) (y:=()) (λ _=>rfl) (Tot.bind (Xr (ht.en hL hr) ht.prints4 hT L [] 0 0) ?_)))
 rintro y (⟨h1,rfl⟩|⟨s,r',h1,rfl⟩)
 ·obtain ⟨m,e,hm⟩:=hr.far ht
  exact Tot.iteT rfl (Tot.pure (.inr ⟨h1,m,hm,by rw [e]⟩))
 ·exact Tot.iteF rfl (Tot.iteT rfl (Tot.pure (.inl ⟨s,r',h1,rfl⟩)))
def KR (T:List (List UInt8)) (lim:Int):List (List UInt8)×Int:=if lim<0 then ([],1) else if (T.length:Int)>lim then ([],2) else (T,0)
theorem Rr (ht:Cq t) (hL:L.length<=1000) {T:List (List UInt8)} (hT:LT t (A1 t) L T) (lim:Int) (hcap:∀ k:Nat,(k:Int)<=lim->k<=T.length->k<=1099511627776):Tot (λ n=>Dv n t L lim) (λ r=>r=KR T lim):=by
 unfold Dv KR
 by_cases h0:lim<0
 ·exact Tot.iteT (by simpa using h0) (Tot.pure (by rw [if_pos h0]))
 ·obtain ⟨k,rfl⟩:∃ k:Nat,lim=(k:Int):=⟨lim.toNat,by omega⟩
  refine Tot.iteF (by simp) (Tot.bindE (Rh ht.small) (Tot.iteF (by rw [ht.valid];rfl) (Tot.bind (Lr ht.tab ht.cells4 hL) λ r hr=>Tot.bindA (f:=λ _=>some ()) (y:=()) (λ _=>rfl) (Tot.bind (Vt (ht.en hL hr) ht.prints4 hT k λ j h1 h2=>hcap j (by omega) h2) ?_))))
  rintro y (⟨h1,rfl⟩|⟨h1,o,rfl⟩)
  ·exact Tot.iteT rfl (Tot.pure (by rw [if_neg h0,if_neg (by omega)]))
  ·exact Tot.iteF rfl (Tot.iteT rfl (Tot.pure (by rw [if_neg h0,if_pos (by omega)])))
end
end Go.AI
end
section
namespace Go.AI
theorem Um:Ev (λ n=>G8 n) true:=Ev.of (λ n m h=>Qy h) (n:=60) (by kernel_rfl)
theorem JaR {t:Aa} (hc:∀ r∈t.Rules,1<=r.Cells.length/\r.Cells.length<=1000) (hrl:t.Rules.length<=11) {l:List Int} (hl:∀ a∈l,U8 a) (lim:Nat) (hlim:lim<=100):Tot (λ n=>K0 n t l (lim:Int)) (λ r=>r.length<=lim):=by
 unfold K0
 refine Tot.bind (R:=λ r=>r.length<=lim+1000) ?_ λ y hy=>Tot.bindC (y:=y.take lim) ?_ (Tot.pure (List.length_take_le _ _))
 ·refine Tot.whl (body:=λ n (x:List Int×Int)=>GK n t l (lim:Int) x.1 x.2) (λ k x=>∃ i:Nat,x.2=(i:Int)/\i<=x.1.length/\x.1.length<=lim+1000/\k=lim+1000-x.1.length) ?_ (lim+1000) _ ⟨0,rfl,Nat.le_refl _,by simp,by simp⟩
  rintro k ⟨out,_⟩ ⟨i,rfl,hi,ho,rfl⟩
  simp only at hi ho
  unfold GK
  by_cases hcd:i<l.length/\out.length<lim/\0<t.Rules.length
  ·obtain ⟨h1,h2,h3⟩:=hcd
   have hu:=hl _ (List.getElem_mem h1)
   have hw:IntKind.i64.wrap l[i]=l[i]:=by obtain ⟨a,b⟩:=hu;exact KO (by omega) (by omega)
   have hir:=D2 (a:=l[i]) (m:=((t.Rules.length:Nat):Int)) hu.1 (by omega)
   obtain ⟨r,hr,hri⟩:=LR (l:=t.Rules) hir.1 hir.2
   have hrc:=hc r hr
   have hout:∀ z:List Int,1<=z.length->z.length<=1000->Tot (λ n=>GI n (i:Int) (out++z)) (Rd2 (λ y=>∃ j,j<lim+1000-out.length/\∃ i:Nat,y.2=(i:Int)/\i<=y.1.length/\y.1.length<=lim+1000/\j=lim+1000-y.1.length) λ r=>r.length<=lim+1000):=λ z hz hz'=>
    Tot.pure ⟨lim+1000-(out++z).length,by rw [List.length_append];omega,i+1,D4 (by omega),by rw [List.length_append];omega,by rw [List.length_append];omega,rfl⟩
   refine Tot.iteT (by simp;omega) (Tot.bindC (BL h1) (Tot.bindC (II (by simp;intro e;rw [e] at h3;simp at h3)) (Tot.bindC (by rw [hw];exact hri) (Tot.bindC (BL h1) (Tot.ite (λ _=>Tot.bindC (BL h1) (Tot.bindC (DZ (by simp;omega)) (hout _ (by simp) (by simp)))) λ _=>Tot.bindC (DZ (by simp only;omega)) (hout _ hrc.1 hrc.2))))))
  ·refine Tot.iteF ?_ (Tot.pure ho)
   rw [Bool.eq_false_iff]
   intro h
   simp only [JgO,decide_eq_true_eq] at h
   exact hcd ⟨by omega,by omega,by omega⟩
 ·by_cases h:lim<y.length
  ·rw [if_pos (by omega),GL (by omega)]
  ·rw [if_neg (by omega),GL (Nat.le_refl _),List.take_length,List.take_of_length_le (by omega)]
section
variable {t:Aa} {L:List Int}
theorem LT.go (ht:Cq t) {T:List (List UInt8)} (hT:LT t (A1 t) L T) {s:List UInt8} (h:s∈T):GO t C3 L:=by
 obtain ⟨p,q',h1,h2,h3,_⟩:=(JaD (Ec ht.tab).2 ht.first).1 ((hT.2 s).1 h)
 exact ⟨p,q',h1,h2,by rw [h3];exact List.prefix_rfl⟩
end
theorem Eu.take {t:Aa}:∀ {p:List Int} {s s':Ab} (k:Nat),Eu t s p s'->∃ s2,Eu t s (p.take k) s2
 | _,s,_,0,_=>⟨s,by simp [Eu]⟩
 | [],s,_,_+1,_=>⟨s,rfl⟩
 | a::p,s,s',k+1,h=>by
  obtain ⟨s2,h2⟩:=Eu.take k h.2
  exact ⟨s2,h.1,h2⟩
end Go.AI
end
section
namespace Go.AI
theorem Js {n:Int} (h:okI .u8 n):U8 n:=by
 unfold okI Lit.wf at h
 have:IntKind.u8.min=0/\IntKind.u8.max=255:=by decide
 unfold U8
 simp only [JgO,decide_eq_true_eq] at h
 omega
theorem QE {r:C8} (h:Jg r):VY r:=by
 obtain ⟨a,b,c,d,e,f⟩:=h
 exact ⟨λ y hy=>Js (a y hy),λ y hy=>Js (b y hy),Js c,Js d,Js e,Js f⟩
theorem Xt {x:K6} (h:Vi x):P0 x:=⟨(Js h.1).1,λ r hr=>QE (h.2.2 r hr)⟩
theorem Jfd {l:List Int} (h:∀ a∈l,okI .u8 a):∀ a∈l,U8 a:=λ a ha=>Js (h a ha)
end Go.AI
end
section
namespace Go.AI
theorem Xu {l m:List (List UInt8)} (h:l.Nodup) (hs:∀ x∈l,x∈m):l.length<=m.length:=by
 induction l generalizing m with
 | nil=>simp
 | cons a l ih=>
  rw [List.nodup_cons] at h
  have ha:=hs a (by simp)
  have hlen:(m.erase a).length=m.length-1:=List.length_erase_of_mem ha
  have hpos:0<m.length:=List.length_pos_of_mem ha
  have:=ih (m:=m.erase a) h.2 λ x hx=>by
   have hne:x≠a:=λ e=>h.1 (e▸hx)
   exact (List.mem_erase_of_ne hne).2 (hs x (by simp [hx]))
  simp
  omega
theorem Gj.nodup {l:List (List UInt8)} (h:Gj l):l.Nodup:=List.Pairwise.imp (λ {a b} h=>λ e=>by subst e;exact Hl _ h) h
theorem Tot.gT {α β:Type} {P:α->Prop} {c:Bool} {f:Nat->Option β} {d:β} {g:Nat->β->Option α} {R:β->Prop} (hc:c=true) (h:Tot f R) (k:∀ x,R x->Tot (λ n=>g n x) P):Tot (λ n=>(if c=true then f n else some d).bind (g n)) P:=Tot.guard (λ _=>h) λ x hx=>k x (hx hc)
section
variable {t:Aa}
theorem Vu (a:List (List UInt8)) (h:a.length<9223372036854775807):Tot (λ n=>DU n a a) (λ b=>b=true):=by
 unfold DU
 refine Tot.iteF (by simp) (Tot.bind (R:=λ y:Unit⊕Bool=>y=.inl ()) ?_ λ y hy=>by subst hy;exact Tot.pure rfl)
 refine Tot.upto (body:=λ n i=>CH n a a i) a.length (λ i x=>x=(i:Int)) ?_ ?_ _ rfl
 ·rintro i _ hi rfl
  unfold CH
  exact Tot.iteT (by simp;omega) (Tot.bindC (BL hi) (Tot.bindC (BL hi) (Tot.iteF (by simp) (Tot.pure (D4 (by omega))))))
 ·rintro _ rfl
  unfold CH
  exact Tot.iteF (by simp) (Tot.pure rfl)
end
end Go.AI
end
section
namespace Go.AI
def Vv (c:Option Int) (r:Ap):Bool:=decide (r.Cells.head? = c)
def Cn (m:Nat) (l:List Ap):Prop:=∀ c,c≠none->l.countP (Vv c)<=m
theorem JbZ {r:Int} (h:0<=r) (h':r<8):Cn 4 (ME r).Rules:=by
 have:∀ k:Nat,k<8->((ME (k:Int)).Rules.all λ r=>decide ((ME (k:Int)).Rules.countP (Vv r.Cells.head?)<=4))=true:=by decide +kernel
 have e:=this r.toNat (by omega)
 rw [Int.toNat_of_nonneg h] at e
 intro c _
 by_cases hz:(ME r).Rules.countP (Vv c)=0
 ·omega
 ·obtain ⟨x,hx,hx'⟩:=List.countP_pos_iff.1 (Nat.pos_of_ne_zero hz)
  have e1:=List.all_eq_true.1 e x hx
  unfold Vv at hx'
  rw [decide_eq_true_eq] at hx' e1
  rw [← hx'];exact e1
theorem Cn.sub {m:Nat} {l l':List Ap} (h:Cn m l) (hs:l'.Sublist l):Cn m l':=λ c hc=>Nat.le_trans (hs.countP_le) (h c hc)
theorem Cn.snoc {m:Nat} {l:List Ap} (h:Cn m l) (r:Ap):Cn (m+1) (l++[r]):=λ c hc=>by
 rw [List.countP_append]
 have h1:=h c hc
 have h2:[r].countP (Vv c)<=1:=List.countP_le_length
 omega
theorem Cn.mono {m m':Nat} {l:List Ap} (h:Cn m l) (hm:m<=m'):Cn m' l:=λ c hc=>Nat.le_trans (h c hc) hm
theorem Xv (x:K6) (hx:∀ r∈x.More,VY r) (b t0:Aa) (hlo:1<=b.Modes) (hhi:b.Modes<=2) (h0:Je7 b t0) (hl0:t0.Rules.length<=8) (hC:Cn 4 t0.Rules):Tot (λ n=>whl (λ (y:(Aa×Int))=>E3 n x b y.1 y.2) n (t0,0)) (λ t=>Je7 b t/\t.Rules.length<=10/\Cn 6 t.Rules):=by
 refine Tot.upto (body:=λ n y=>E3 n x b y.1 y.2) (min x.More.length 2) (λ i y=>y.2=(i:Int)/\Je7 b y.1/\y.1.Rules.length<=8+i/\Cn (4+i) y.1.Rules) ?_ ?_ _ ⟨rfl,h0,by simpa using hl0,hC⟩
 ·rintro i ⟨t,i'⟩ hi ⟨h1,h2,h3,h4⟩
  simp only at h1 h2 h3 h4
  subst h1
  unfold E3
  refine Tot.iteT (by simp only [JgO,decide_eq_true_eq];omega) (Tot.bindC (BL (by omega)) ?_)
  rw [h2.modes]
  refine Tot.bind (JbQ (hx _ (List.getElem_mem _)) hlo hhi) ?_
  rintro r ⟨hr1,hr2,-⟩
  refine Tot.bindC (PZ (by simp;omega)) ?_
  have hall:∀ q∈t.Rules++[r],LQ q/\q.Cells.length<=4:=by
   intro q hq
   simp only [List.mem_append,List.mem_singleton] at hq
   rcases hq with hq|rfl
   ·exact h2.rules q hq
   ·exact ⟨hr1,by omega⟩
  refine Tot.bindE (Jau (Xc (t:=⟨b.Modes,t.Accept,t.Rules++[r]⟩) (by simp;omega) hall)) ?_
  refine Tot.ite (λ _=>?_) λ hv=>?_
  ·have e:DD .i64 ((List.length (t.Rules++[r]):Nat):Int) 1=(t.Rules.length:Nat):=by
    rw [Jf8 (by simp<;>omega) (by simp<;>omega)];simp
   rw [e]
   refine Tot.bindC (GL (by simp)) ?_
   unfold F9
   rw [List.take_left' rfl]
   exact Tot.pure ⟨D0 (by omega),⟨rfl,h2.accept,h2.rules,by have:=h2.valid;have hm:=h2.modes;cases t;simp only at hm this ⊢;subst hm;exact this⟩,by simp only;omega,h4.mono (by omega)⟩
  ·unfold F9
   exact Tot.pure ⟨D0 (by omega),⟨rfl,h2.accept,hall,.inr (by simpa using hv)⟩,by simp;omega,h4.snoc r⟩
 ·rintro ⟨t,i'⟩ ⟨h1,h2,h3,h4⟩
  simp only at h1 h2 h3 h4
  subst h1
  unfold E3
  exact Tot.iteF (by rw [← Bool.not_eq_true];simp only [JgO,decide_eq_true_eq];omega) (Tot.pure ⟨h2,by show t.Rules.length<=10;omega,h4.mono (by omega)⟩)
theorem JaS {x:K6} (hx:P0 x):∃ t,(Cq t/\Cn 6 t.Rules)/\Ev (λ n=>Kg n x) t:=by
 have hb:∀ n,Is n x.Base=some (ME (CK x.Base 8)):=λ n=>(MF n x.Base hx.1).1
 have hok:=JbO (MF 0 x.Base hx.1).2.1 (MF 0 x.Base hx.1).2.2
 have hcn:=JbZ (MF 0 x.Base hx.1).2.1 (MF 0 x.Base hx.1).2.2
 generalize ME (CK x.Base 8)=b at *
 unfold Sz at hok
 simp only [JgO,decide_eq_true_eq,List.all_eq_true] at hok
 obtain ⟨⟨⟨⟨o1,o2⟩,o3⟩,o4⟩,o5⟩:=hok
 have gb:∀ r∈b.Rules,LQ r/\r.Cells.length<=4:=λ r hr=>⟨Vr (o2 r hr),(Jp (MD o5 r hr)).2.2⟩
 have:Tot (λ n=>Kg n x) (λ t=>Cq t/\Cn 6 t.Rules):=by
  unfold Kg
  refine Tot.bindA hb (Tot.bind (Jax x b o1) ?_)
  rintro t1 ⟨a1,a2,a3⟩
  refine Tot.bind (Xv x hx.2 b t1 o3 o4 ⟨a1,a2,λ r hr=>gb r (a3.subset hr),?_⟩ (by have:=a3.length_le;omega) (hcn.sub a3)) ?_
  ·rcases Nat.eq_zero_or_pos t1.Rules.length with h|h
   ·exact .inl (List.length_eq_zero_iff.1 h)
   ·right
    have:=Vq o5 a3 h
    cases t1
    simp only at a1 a2 this ⊢
    subst a1 a2
    exact this
  rintro t2 ⟨b1,b2,b3⟩
  refine Tot.ite (λ h=>?_) λ h=>?_
  ·unfold Ga
   have e:(⟨t2.Modes,t2.Accept,b.Rules⟩:Aa)=b:=by rw [b1.modes,b1.accept]
   rw [e]
   exact Tot.pure ⟨⟨⟨by omega,λ r hr=>(gb r hr).1⟩,o3,o4,o5⟩,hcn.mono (by omega)⟩
  ·unfold Ga
   have hv:FN t2=true:=b1.valid.resolve_left λ e=>by rw [e] at h;cases h
   exact Tot.pure ⟨⟨⟨by omega,λ r hr=>(b1.rules r hr).1⟩,by rw [b1.modes];exact o3,by rw [b1.modes];exact o4,hv⟩,b3⟩
 obtain ⟨t,ht,hE⟩:=this
 exact ⟨t,ht,hE⟩
section
variable {t:Aa}
def Jfe (t:Aa) (c:Option Int):List Nat:=(List.range t.Rules.length).filter λ k=>Vv c (t.Rules.getD k default)
theorem JaT {m:Nat} (h:Cn m t.Rules) {c:Option Int} (hc:c≠none):(Jfe t c).length<=m:=by
 have e:t.Rules=(List.range t.Rules.length).map λ k=>t.Rules.getD k default:=by
  refine List.ext_getElem (by simp) λ i h1 h2=>?_
  rw [List.getElem_map,List.getElem_range,Cb h1]
 have:=h c hc
 rw [e,List.countP_map,List.countP_eq_length_filter] at this
 exact this
theorem Jff (hc:∀ r∈t.Rules,1<=r.Cells.length) {C:Nat} (hC:Cn C t.Rules) (h1:1<=C):∀ (n:Nat) (l:List Int) (q:Ab),l.length<=n->∃ T:List (List UInt8),(∀ x,RP t q l x->x∈T)/\T.length<=C ^ n:=by
 intro n
 induction n with
 | zero=>
  intro l q hl
  have:l=[]:=List.length_eq_zero_iff.1 (by omega)
  subst this
  refine ⟨[[]],λ x hx=>?_,by simp⟩
  rcases hx.inv with ⟨_,rfl,_⟩|⟨k,hk,_,l',x',e,_,_⟩
  ·simp
  ·have h2:=hc _ (Do (t:=t) (k:=(k:Int)) (by omega) (by omega))
   have:=congrArg List.length e
   rw [List.length_append,List.length_nil] at this
   have h3:1<=(cls t k).length:=h2
   omega
 | succ n ih=>
  intro l q hl
  cases l with
  | nil=>
   obtain ⟨T,hT,hl⟩:=ih [] q (by simp)
   exact ⟨T,hT,Nat.le_trans hl (Nat.pow_le_pow_right h1 (by omega))⟩
  | cons c l=>
   have hch:∀ k:Nat,∃ T:List (List UInt8),(k<t.Rules.length->∀ x,RP t (Bc t q k).1 ((c::l).drop (cls t k).length) x->x∈T)/\T.length<=C ^ n:=λ k=>by
    by_cases hk:k<t.Rules.length
    ·have h2:1<=(cls t k).length:=hc _ (Do (t:=t) (k:=(k:Int)) (by omega) (by omega))
     obtain ⟨T,hT,hl'⟩:=ih ((c::l).drop (cls t k).length) (Bc t q k).1 (by rw [List.length_drop];omega)
     exact ⟨T,λ _=>hT,hl'⟩
    ·exact ⟨[],λ h=>absurd h hk,by simp⟩
   refine ⟨(Jfe t (some c)).flatMap λ k=>(Classical.choose (hch k)).map (prt t k++·),λ x hx=>?_,?_⟩
   ·rcases hx.inv with ⟨e,_⟩|⟨k,hk,_,l',x',e,rfl,h⟩
    ·cases e
    ·refine List.mem_flatMap.2 ⟨k,?_,List.mem_map.2 ⟨x',(Classical.choose_spec (hch k)).1 hk x' ?_,rfl⟩⟩
     ·unfold Jfe
      rw [List.mem_filter,List.mem_range]
      refine ⟨hk,?_⟩
      have h2:1<=(cls t k).length:=hc _ (Do (t:=t) (k:=(k:Int)) (by omega) (by omega))
      have h3:t.Rules.getD k default=FO t k:=by
       unfold FO
       rw [Int.toNat_natCast,List.getD_eq_getElem?_getD]
      unfold Vv
      rw [h3,decide_eq_true_eq]
      obtain ⟨a,A,hA⟩:=List.exists_cons_of_ne_nil (l:=cls t k) (λ e0=>by rw [e0] at h2;simp at h2)
      rw [hA] at e
      cases e
      show (cls t k).head? = _
      rw [hA];rfl
     ·rw [e,List.drop_left];exact h
   ·refine Nat.le_trans (KQ (b:=C ^ n) λ k _=>?_) ?_
    ·rw [List.length_map];exact (Classical.choose_spec (hch k)).2
    ·rw [Nat.pow_succ,Nat.mul_comm]
     exact Nat.mul_le_mul_left _ (JaT hC (by simp))
theorem JaU (ht:Cq t) (hC:Cn 6 t.Rules) {L:List Int} (hL:L.length<=6) {T:List (List UInt8)} (hT:LT t (A1 t) L T):T.length<=46656:=by
 obtain ⟨T',h1,h2⟩:=Jff ht.cells1 hC (by omega) 6 L C3 hL
 refine Nat.le_trans (Xu hT.1.nodup λ x hx=>h1 x ?_) h2
 exact (JaD (Ec ht.tab).2 ht.first).1 ((hT.2 x).1 hx)
end
theorem Jgd {x:K6} (hx:P0 x) {l:List Int} (hl:∀ a∈l,U8 a) {p:Int} (hp:0<=IntKind.i64.wrap p):Ev (λ n=>Dl n x l p) true:=by
 obtain ⟨t,⟨ht,hC⟩,hE⟩:=JaS hx
 refine Tot.ev ?_
 unfold Dl
 refine Tot.bindE Um (Tot.bindE hE (Tot.bind (JaR ht.cells4 ht.tab.1 hl 6 (by omega)) λ L hL=>?_))
 obtain ⟨T,hT⟩:=JbY (L:=L) ht
 have hTl:=JaU ht hC hL hT
 refine Tot.bind (Rr ht (by omega) hT 100000 λ k _ h=>by omega) λ r1 h1=>Tot.bind (JaQ ht (by omega) hT) λ r hr=>?_
 subst h1
 have e1:KR T 100000=(T,0):=by unfold KR;rw [if_neg (by omega),if_neg (by omega)]
 rw [e1]
 have hfst:(!(((0:Int) != 0)||(!((((T.length:Nat):Int)==0)==(r.2.2==40)))))=true:=by
  rcases hr with ⟨s,q,rfl,rfl⟩|⟨rfl,m,_,rfl⟩
  ·have:((((s::q).length:Nat):Int)==0)=false:=by rw [beq_eq_false_iff_ne];simp;omega
   rw [this];rfl
  ·rfl
 refine Tot.bindC (y:=if decide (((T.length:Nat):Int)>0)=true then r.1 else default) ?_ (Tot.iteF ?_ (Tot.bind (R:=λ y:Unit⊕Bool=>y=.inl ()) ?_ ?_))
 ·rcases hr with ⟨s,q,rfl,rfl⟩|⟨rfl,m,_,rfl⟩
  ·rw [if_pos (by rw [hfst];simp),if_pos (by simp)];rfl
  ·rfl
 ·rw [Bool.not_eq_true'] at hfst
  rw [hfst,Bool.false_or]
  rcases hr with ⟨s,q,rfl,rfl⟩|⟨rfl,m,_,rfl⟩
  ·rw [if_pos (by simp)];simp
  ·rfl
 ·refine Tot.upto (body:=λ n i=>Cf n p true t L (T,0) i) (T.length-1) (λ i x=>x=((i+1:Nat):Int)) ?_ ?_ _ rfl
  ·rintro i _ hi rfl
   have hsb:DD .i64 ((i+1:Nat):Int) 1=(i:Int):=by rw [LP (by omega) (by omega)];omega
   have hlt:Op.bytesLess T[i] T[i+1]=true:=List.pairwise_iff_getElem.1 hT.1 i (i+1) (by omega) (by omega) (by omega)
   unfold Cf
   refine Tot.iteT (by simp only [decide_eq_true_eq];omega) (Tot.bindC (y:=T[i]) (by rw [hsb];exact BL (show i<T.length by omega)) (Tot.bindC (y:=T[i+1]) (BL (show i+1<T.length by omega)) (Tot.iteF (by rw [hlt];rfl) (Tot.pure (D4 (by omega))))))
  ·rintro _ rfl
   unfold Cf
   exact Tot.iteF (by simp only [decide_eq_false_iff_not];omega) (Tot.pure rfl)
 ·rintro _ rfl
  refine Tot.bind (Rr ht (by omega) hT (IntKind.i64.wrap p) λ k _ h=>by omega) λ r2 h2=>?_
  subst h2
  generalize IntKind.i64.wrap p=w at hp
  by_cases hw:((T.length:Nat):Int)>w
  ·refine Tot.iteT (by simpa using hw) (Tot.pure ?_)
   have e2:KR T w=([],2):=by unfold KR;rw [if_neg (by omega),if_pos hw]
   rw [e2];rfl
  ·refine Tot.iteF (by simpa using hw) ?_
   have hw0:¬w<0:=by omega
   have e2:KR T w=(T,0):=by unfold KR;rw [if_neg hw0,if_neg hw]
   rw [e2]
   exact Tot.gT rfl (Vu T (by omega)) λ b hb=>by subst hb;exact Tot.pure rfl
end Go.AI
end
section
namespace Go.AI
theorem Jfg:∀ (x:K6) (l:List Int) (p:Int),Vi x->(∀ a∈l,okI .u8 a)->okI .u8 p->∃ n,Dl n x l p=some true:=λ _ _ p h hl hp=>(Jgd (Xt h) (Jfd hl) (by obtain ⟨h1,h2⟩:=Js hp;rw [KO (by omega) (by omega)];exact h1)).out
end Go.AI
end
section
namespace Go.Proofs.Ytjbjbkidckbalaa
open Go.AI Go.ChangeShapes Go.WideShapes Go.ChangeAt Go.RowKit
theorem own:ownKnob Try.prog.godebug=none:=by kernel_rfl
set_option maxRecDepth 100000 in
theorem Jfh (os:Os) (started:os.Started) (H:Type) (enc:TypeId×Value->H) :
  ReturnsInHanded {} Try.checked os 12 .any (Rows.readbackOrdersSpec.pre6 enc Try.prog Try.f12 Rows.readbackOrdersRow.domain false) (Rows.readbackOrdersSpec.post enc Try.prog Try.f12 false true false false):=by
 refine returnsInHanded_of_change (C:=Try.checked) own started (by kernel_rfl) Try.func12
  (ChangeSpec.witness6 (enc:=enc) (C:=Try.checked) false ⟨#[],#[.agg #[.int .u8 0,.int .u8 0,.slice none 0 0],.slice none 0 0,.int .u8 0],[]⟩ 8 (by kernel_rfl) (by kernel_rfl) (by kernel_rfl) (by kernel_rfl)) ?_
 intro W base args ds gs before hval0 hW hcnd _
 have hval:∀ (j:Nat) t v,Try.f12.params[j]? = some t->args[j]? = some v->Value.okWide Try.prog W .any base t v:=hval0
 have hW':=hW
 obtain ⟨p,q,hA0,hV,rfl,hfz,hnd⟩:=hW
 have hA:DataW.TrodAll enc Try.prog W 0 (λ _=>true) true Try.f12.params.toList args.toList ds p:=hA0
 have hlt:=hA.lt
 rw [Try.params12] at hA hval
 obtain ⟨v0,vs0,d0,ds0,p0,q0,hargs,rfl,rfl,h0,r0⟩:=trodAll_cons hA
 obtain ⟨v1,vs1,d1,ds1,p1,q1,rfl,rfl,rfl,h1,r1⟩:=trodAll_cons r0
 obtain ⟨v2,vs2,d2,ds2,p2,q2,rfl,rfl,rfl,h2,r2⟩:=trodAll_cons r1
 obtain ⟨rfl,rfl,rfl⟩:=trodAll_nil r2
 obtain rfl:args=#[v0,v1,v2]:=by cases args;simp_all
 obtain ⟨rfl,rfl⟩:=trodVars_none hV
 obtain ⟨cs0,hc0,_⟩:=okWide_struct Try.underlying24 (hval 0 24 v0 rfl rfl)
 obtain ⟨a0,k0,rep0⟩:=JbL hc0 h0 JgL
 obtain ⟨x1,y1,z1,hc1⟩:=okWide_slice Try.underlying50 (hval 1 50 v1 rfl rfl)
 obtain ⟨a1,k1,rep1⟩:=VV (y:=λ a=>.sl (a.map eU8)) (by rw [hc1];rfl) h1 Je3 (λ _=>rfl)
 obtain ⟨x2,hc2⟩:=okWide_int Try.underlying5 (hval 2 5 v2 rfl rfl)
 obtain ⟨a2,k2,rep2⟩:=VV (y:=λ a=>.int .u8 a) (by rw [hc2];rfl) h2 rd5 (λ _=>rfl)
 clear hA0 hval0
 simp only [List.append_nil] at hW' hlt
 obtain ⟨n,hn⟩:=Jfg a0 a1 a2 k0 k1 k2
 refine (Jaa (JV hn) (Sk rep0 (Sk rep1 (Sk rep2 Je2)))).mono λ e W' ⟨he,hg,hold⟩=>?_
 subst he
 exact ⟨_,rfl,WX (pv:=[]) hW' (λ _ _ _=>(trodAll_cons_mk (shut_bool Try.underlying4 _) trodAll_mk0)) (λ sp hsp=>trodAll_cons_mk (Jab (by kernel_rfl) (by kernel_rfl) (of_decide_eq_true (by kernel_rfl)) h0 (λ p hp=>hlt p (by simp [hp])) (λ p hp=>hsp p (by simp [hp])) hold) (trodAll_cons_mk (Jab (by kernel_rfl) (by kernel_rfl) (of_decide_eq_true (by kernel_rfl)) h1 (λ p hp=>hlt p (by simp [hp])) (λ p hp=>hsp p (by simp [hp])) hold) (trodAll_cons_mk (Jab (by kernel_rfl) (by kernel_rfl) (of_decide_eq_true (by kernel_rfl)) h2 (λ p hp=>hlt p (by simp [hp])) (λ p hp=>hsp p (by simp [hp])) hold) trodAll_mk0))) (λ _ _=>rfl) (by simp) (hg _) hold (ok_one (by kernel_rfl) rfl (okWide_bool_mk Try.underlying4 _))⟩
theorem JgM:Rows.readbackOrdersRow.holds Try.pinned (OpenSpec.ofChange Rows.readbackOrdersSpec):=
 OpenClaim.holds_of_wide 12 Try.f12 rfl rfl rfl rfl rfl rfl rfl ⟨rfl,rfl,rfl,rfl,rfl⟩ rfl rfl rfl rfl rfl (by kernel_rfl) Try.func12 (by kernel_rfl)
  (of_decide_eq_true (by kernel_rfl)) (by unfold Func.isWrapper;first|(rw [if_pos (by decide +kernel)];kernel_rfl)|(rw [if_neg (by decide +kernel)];exact ⟨rfl,rfl⟩))
  (λ os started H enc _=>Jfh os started H enc)
theorem readbackOrders_holds:Rows.ReadbackOrdersSaid:=JgM
end Go.Proofs.Ytjbjbkidckbalaa
end
