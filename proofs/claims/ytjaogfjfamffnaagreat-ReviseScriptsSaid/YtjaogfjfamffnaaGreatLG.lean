/- The theorem: the last one of this text; part 7 of 7 of its proof. It holds with no condition beyond the given statement. -/
import Derived.Test.YtjaogfjfamffnaaGreatLF
import Derived.Test.YtjaogfjfamffnaaGreatRows
section
namespace Go.AI
section
variable {t:GTable} (hT:Tab6 t) {s:List UInt8} (hs:s.length<=4000)
include hT
theorem aft_next {out:List (List Int)} (hR:∀ i,i<=s.length->RowOK t s i (out.getD i [])) {i:Nat} (hi:i<=s.length) {q:GState} (hq:q∈statesS t) (k:Nat):aftS t s out i q k=nextKC t q (s.drop i) k:=by
 unfold aftS nextKC;by_cases hst:(stepS t q k).2=true
 ·by_cases hb:(prt t k).isPrefixOf (s.drop i)=true
  ·have q2:=(prefix_drop hb).2 hi;obtain ⟨m,hm,hmg⟩:=indexS_in (closed6 hT hq hst);have hv:=(hR _ q2).val m _ hmg;have hvv:(out.getD (i+(prt t k).length) []).getD m 0=costS t (stepS t q k).1 (s.drop (i+(prt t k).length)):=by
    rw [List.getD_eq_getElem?_getD (l:=out.getD (i+(prt t k).length) []),hv];rfl
   rw [if_pos ⟨hst,hb⟩,hm,Int.toNat_natCast,hvv,List.drop_drop];have hpp:prt t k <+: s.drop i:=List.isPrefixOf_iff_prefix.1 hb;by_cases h0:0<=costS t (stepS t q k).1 (s.drop (i+(prt t k).length))
   ·rw [if_neg (by omega),if_pos ⟨hst,hpp,h0⟩]
   ·rw [if_pos (by omega),if_neg (λ hh=>h0 hh.2.2)]
  ·rw [if_neg (λ hh=>hb hh.2),if_neg (λ hh=>hb (List.isPrefixOf_iff_prefix.2 hh.2.1))]
 ·rw [if_neg (λ hh=>hst hh.1),if_neg (λ hh=>hst hh.1)]
theorem least_next {q:GState} {x:List UInt8} (hc:0<costS t q x):∃ k:Nat,k<t.Rules.length/\nextKC t q x k=costS t q x/\∀ j:Nat,j<k->nextKC t q x j≠costS t q x:=by
 obtain ⟨p,hp⟩:=greedy_ex hT.one (costS t q x).toNat q x (by omega);cases hp with
 | nil h=>omega
 | cons h hk hm hp=>
  obtain ⟨g1,_⟩:=nextC_pos (t:=t) (q:=q) (x:=x) (by rw [hk];omega);have:=stepS_in g1;exact ⟨_,by omega,hk,hm⟩
include hs
theorem write2R_ev {out:List (List Int)} (hol:out.length=s.length+1) (hR:∀ i,i<=s.length->RowOK t s i (out.getD i [])) {i:Nat} (hi:i<=s.length) {q:GState} (hq:q∈statesS t) (w:GResult) {k:Nat} (hkl:k<t.Rules.length) (hk:nextKC t q (s.drop i) k=costS t q (s.drop i)) (hm:∀ j:Nat,j<k->nextKC t q (s.drop i) j≠costS t q (s.drop i)) :
  Tot (λ n=>whl (λ (x:Int)=>FR6_Write_L2 n t out (statesS t) w ⟨s,i,q,statesS t⟩ (costS t q (s.drop i)) x) n 0) (λ y=>y=(k:Int)):=by
 have haft:∀ j:Nat,j<=k->Ev (λ n=>FR6_After n t ⟨s,i,q,statesS t⟩ j out) (nextKC t q (s.drop i) j):=λ j hj=>by
  rw [← aft_next hT hR hi hq];exact after_core hT hs hi hol (λ i' _ h2=>rows_top hT hs (hR i' h2)) hq (by omega)
 have hrl:=hT.tab.1;refine Tot.upto (body:=λ n x=>FR6_Write_L2 n t out (statesS t) w ⟨s,i,q,statesS t⟩ (costS t q (s.drop i)) x) k (λ j x=>x=(j:Int)) ?_ ?_ _ rfl
 ·rintro j x hj rfl;unfold FR6_Write_L2;refine Tot.bindE (haft j (by omega)) (Tot.iteT (by simpa using hm j hj) (Tot.pure (inc64 (by omega))))
 ·rintro x rfl;unfold FR6_Write_L2;exact Tot.bindE (haft k (by omega)) (Tot.iteF (by simpa using hk) (Tot.pure rfl))
theorem writeR_ev:Tot (λ n=>FR6_Write n t s) (λ y=>WrOK t s y.W y.At y.E):=by
 have hf:=(states_ok hT.tab).1.first;have hi0:indexS (statesS t) startS=0:=indexS_get (nod6 hT) hf;have hrl:=hT.tab.1;have hlen:=len6 hT;unfold FR6_Write;refine Tot.bindE (text2_ev (by omega)) ?_;by_cases hb:(textS s).2=0
 ·refine Tot.iteF (by rw [hb];rfl) (Tot.bind (suffixes_ev hT hs) ?_);rintro out ⟨hol,hR⟩;have h00:(out.getD 0 [])[0]? = some (costS t startS s):=(hR 0 (by omega)).val 0 _ hf;refine Tot.bindC (idx_gd (i:=0) [] (by omega)) (Tot.bindC (idx_at (i:=0) h00) (Tot.ite (λ hc=>?_) λ hc=>?_))
  ·have hneg:costS t startS s<0:=by simpa using hc
   refine Tot.bind (reached_ev hT hs) λ a ha=>Tot.pure ⟨λ h=>absurd hb h,λ _ _=>⟨rfl,ha,rfl⟩,λ _ h=>by omega⟩
  ·have hpos:0<=costS t startS s:=by simpa using hc
   refine Tot.bindE (states3_ev' hT.tab) (Tot.bindC (y:=startS) rfl (Tot.bind (R:=λ y:GResult=>y.At=(s.length:Int)/\y.E=0/\∃ p,Greedy t startS s p/\y.W=⟨cellsOf t p,p⟩) ?_ ?_))
   ·refine Tot.whl (body:=λ n x=>FR6_Write_L1 n t out (statesS t) x.1 x.2) (λ m x=>∃ (p0:List Int) (place:Nat) (q:GState),Way1 t s p0 place q/\x=(⟨⟨cellsOf t p0,p0⟩,(s.length:Int),0⟩,⟨s,(place:Int),q,statesS t⟩)/\m=(costS t q (s.drop place)).toNat) ?_ (costS t startS s).toNat _ ⟨[],0,startS,.start hpos,rfl,by rw [List.drop_zero]⟩;rintro m x ⟨p0,place,q,hW,rfl,rfl⟩;have hq:=hW.rch.mem hT;have hple:=hW.le;obtain ⟨j,hj,hg⟩:=indexS_in hq;have hv:=(hR place hple).val j _ hg;unfold FR6_Write_L1;simp only;refine Tot.bindC (idx_gd [] (by omega)) (Tot.bindE (index_ev (l:=statesS t) (s:=q) (by omega)) ?_);rw [hj];refine Tot.bindC (idx_at hv) (Tot.ite (λ hc=>?_) λ hc=>?_)
    ·have hc:0<costS t q (s.drop place):=by simpa using hc
     obtain ⟨k,hkl,hk,hm⟩:=least_next hT hc;have hW2:=hW.next hT hc hk hm;obtain ⟨e1,⟨y,e2,e3⟩,e4,e5⟩:=nextC_pos (t:=t) (q:=q) (x:=s.drop place) (k:=(k:Int)) (by omega);rw [List.drop_drop] at e5;obtain ⟨p1,p2,p3⟩:=hT.pr e1;have hrule:=idx_rule (t:=t) (k:=(k:Int)) (by omega) (by omega);have htop:=rows_top hT hs (hR 0 (by omega));have hst:=htop.2 0 _ h00;have hlen:=hW.len;have hpl:=hW.plen;have hlC:lenK t p0=(cellsOf t p0).length:=rfl;have hW2l:=hW2.le;refine Tot.bindC (idx_gd [] (by omega)) (Tot.bindE (index_ev (l:=statesS t) (s:=q) (by omega)) ?_);rw [hj];refine Tot.bindC (idx_at hv) (Tot.bind (write2R_ev hT hs hol hR hple hq _ hkl hk hm) ?_);rintro y rfl;refine Tot.bindC (app_le (by simp;omega)) (Tot.bindC hrule (Tot.bindC (app_le (by simp only [cls] at *;omega)) (Tot.bindA (λ n=>step3_eq hT.tab.short n q k) (Tot.bindC hrule (Tot.pure ⟨(costS t (stepS t q k).1 (s.drop (place+(prt t k).length))).toNat,by have:=hW2.pos;omega,p0++[(k:Int)],place+(prt t k).length,(stepS t q k).1,hW2,?_,rfl⟩)))));have e6:iadd .i64 (place:Int) ((List.length (ruleAt t k).Print:Nat):Int)=((place+(prt t k).length:Nat):Int):=by rw [add64]<;>simp only [prt] at*<;> omega
     rw [cellsOf_snoc,e6]
    ·refine Tot.pure ⟨rfl,rfl,p0,?_,rfl⟩;have h0:¬ 0<costS t q (s.drop place):=by simpa using hc
     have:=hW.greedy [] (.nil (by omega));rwa [List.append_nil] at this
   ·rintro y ⟨h1,h2,h3⟩;exact Tot.pure ⟨λ h=>absurd hb h,λ _ h=>by omega,λ _ _=>⟨h2,h1,h3⟩⟩
 ·refine Tot.iteT (by simpa using hb) (Tot.pure ⟨λ _=>⟨rfl,rfl,rfl⟩,λ h=>absurd h hb,λ h=>absurd h hb⟩)
end
theorem ints_ev (a b:List Int) (ha:a.length<9223372036854775807):Ev (λ n=>FR6_Ints n a b) (decide (a=b)):=by
 unfold FR6_Ints;by_cases hl:a.length=b.length
 ·refine Ev.iteF (by rw [len_ne];simp [hl]) ?_;refine Ev.bind (ev_scan a.length (λ i=>if a.getD i default=b.getD i default then none else some false) (λ i hi=>Ev.all λ n=>?_) (Ev.all λ n=>?_)) ?_
  ·unfold FR6_Ints_L1;rw [if_pos (lt_d hi),idx_nd hi,Option.bind_some,idx_nd (by omega),Option.bind_some];by_cases h:a.getD i default=b.getD i default
   ·rw [if_neg (by simpa using h),if_pos h,inc64 (by omega)]
   ·rw [if_pos (by simpa using h),if_neg h]
  ·unfold FR6_Ints_L1;rw [if_neg (by simp)]
  ·rw [same_scan a b hl];by_cases e:a=b
   ·rw [if_pos e,decide_eq_true e];exact Ev.const
   ·rw [if_neg e,decide_eq_false e];exact Ev.const
 ·refine Ev.iteT (by rw [len_ne];simp [hl]) ?_;rw [show decide (a=b)=false by simp;intro h;exact hl (by rw [h])];exact Ev.const
theorem same_ev (a b:GWriting) (ha:a.Cells.length<9223372036854775807) (hb:a.Path.length<9223372036854775807):Ev (λ n=>FR6_Same n a b) (decide (a=b)):=by
 unfold FR6_Same;refine Ev.bind (sameCells_ev a.Cells b.Cells ha) ?_;refine Ev.guard (λ _=>ints_ev a.Path b.Path hb) ?_;refine Ev.congr (Ev.const (z:=decide (a=b))) λ n=>?_;cases a with|mk c p=>cases b with|mk c' p'=>
 simp only [GWriting.mk.injEq,Option.some.injEq];by_cases h1:c=c'<;>simp [h1]
end Go.AI
end
section
namespace Go.AI
def Spelt (t:GTable) (s:List UInt8):Prop:=s.length<=12/\∃ p:List Int,(∀ k∈p,0<=k/\k<t.Rules.length)/\textOf t p=s
theorem spelled_ev {t:GTable} (ht:t.Rules.length<1000000) (hpr:∀ r∈t.Rules,r.Print.length<=1000) {l:List Int} (hl:∀ a∈l,U8 a):Tot (λ n=>FR2_Spelled n t l) (Spelt t):=by
 unfold FR2_Spelled;refine Tot.bind (R:=Spelt t) ?_ λ y hy=>Tot.pure hy;refine Tot.upto (body:=λ n x=>FR2_Spelled_L1 n t l x.1 x.2) (min (min l.length 12) (t.Rules.length*13)) (λ i x=>x.2=(i:Int)/\Spelt t x.1) ?_ ?_ _ ⟨rfl,by simp,[],by simp,rfl⟩
 ·rintro i ⟨s,x⟩ hi ⟨h1,h2,p,h3,h4⟩;simp only at h1 h2 h4;subst h1;unfold FR2_Spelled_L1;obtain ⟨a,ham,hai⟩:=idx_in (l:=l) (i:=(i:Int)) (by omega) (by omega);have hu:=hl a ham;have hw:IntKind.i64.wrap a=a:=w64 (by unfold U8 at hu;omega) (by unfold U8 at hu;omega);have hrr:=irem_range (a:=a) (m:=((t.Rules.length:Nat):Int)) hu.1 (by omega);have hrule:=idx_rule (t:=t) hrr.1 hrr.2;have hp:=hpr _ (ruleAt_mem (t:=t) hrr.1 hrr.2);refine Tot.iteT (by simp;omega) (Tot.bindC hai (Tot.bindC (guardB_of (by simp;intro h;rw [h] at hi;simp at hi)) ?_));rw [hw];refine Tot.bindC hrule ?_;have hJ:∀ s',Spelt t s'->Tot (λ n=>FR2_Spelled_J1 n (i:Int) s') (Rd2 (λ x=>x.2=((i+1:Nat):Int)/\Spelt t x.1) (Spelt t)):=λ s' hs'=>by
   unfold FR2_Spelled_J1;exact Tot.pure ⟨inc64 (by omega),hs'⟩
  have e1:iadd .i64 ((s.length:Nat):Int) ((List.length (ruleAt t (irem a ((t.Rules.length:Nat):Int))).Print:Nat):Int)=((s.length+(ruleAt t (irem a ((t.Rules.length:Nat):Int))).Print.length:Nat):Int):=by rw [add64]<;>omega
  simp only [e1];refine Tot.ite (λ hc=>Tot.bindC (cat_le (by simp only [decide_eq_true_eq] at hc;omega)) (hJ _ ⟨by simp only [decide_eq_true_eq] at hc;rw [List.length_append];omega,p++[irem a ((t.Rules.length:Nat):Int)],?_,by simp [textOf_snoc,h4]⟩)) (λ hc=>hJ _ ⟨h2,p,h3,h4⟩);intro k hk;rcases List.mem_append.1 hk with hk|hk
  ·exact h3 k hk
  ·cases List.mem_singleton.1 hk;exact hrr
 ·rintro ⟨s,x⟩ ⟨h1,h2⟩;simp only at h1 h2;subst h1;unfold FR2_Spelled_L1;refine Tot.iteF ?_ (Tot.pure h2);simp;intro h3 h4;have:t.Rules.length*13<=12\/¬ t.Rules.length*13<=12:=Classical.em _;apply Classical.byContradiction;intro h5;have:0<t.Rules.length:=List.length_pos_iff.2 h5;omega
theorem MadeOK.six {t:GTable} (h:MadeOK t):Tab6 t:=⟨h.tab,λ r hr=>by have:=soundS_len (h.sound r hr);exact ⟨by omega,by omega⟩⟩
theorem MadeOK.validT {t:GTable} (h:MadeOK t):Ev (λ n=>FTb_Valid n t) true:=by
 have:=validT_ev h.small;rwa [h.valid] at this
end Go.AI
end
section
namespace Go.AI
theorem goes_lenC {t:GTable} (hc:∀ r∈t.Rules,1<=r.Cells.length):∀ {p:List Int},(∀ k∈p,0<=k/\k<t.Rules.length)->p.length<=lenK t p
 | [],_=>by simp
 | k::p,h=>by
  have h1:=h k (by simp);have h2:=hc _ (ruleAt_mem h1.1 h1.2);have h3:=goes_lenC (t:=t) hc (p:=p) λ a ha=>h a (by simp [ha]);rw [lenC_cons,List.length_cons];simp only [cls];omega
theorem Way.mem {t:GTable} {q:GState} {x:List UInt8} {p:List Int} (h:Way t q x p):∀ k∈p,0<=k/\k<t.Rules.length:=by
 obtain ⟨⟨q',h1,_⟩,_⟩:=h;exact h1.mem
section
variable {t:GTable} (hT:Tab6 t) {s:List UInt8} (hs:s.length<=4000)
include hT hs
theorem cost_top:costS t startS s<=13000000:=by
 obtain ⟨out,⟨_,hR⟩,_⟩:=suffixes_ev hT hs;have hf:=(states_ok hT.tab).1.first;exact ((rows_top hT hs (hR 0 (by omega))).2 0 _ ((hR 0 (by omega)).val 0 _ hf)).2
theorem WrOK.size {w:GWriting} {a e:Int} (h:WrOK t s w a e):w.Cells.length<=13000000/\w.Path.length<=13000000:=by
 by_cases h1:(textS s).2=0
 ·by_cases h2:costS t startS s<0
  ·obtain ⟨rfl,_⟩:=h.none h1 h2;simp
  ·obtain ⟨_,_,p,g3,rfl⟩:=h.path h1 (by omega);have g4:=g3.way hT.one (by omega);have g5:=goes_lenC hT.one g4.1.mem;have g6:=cost_top hT hs;have:lenK t p=(cellsOf t p).length:=rfl;simp only;omega
 ·obtain ⟨rfl,_⟩:=h.bad h1;simp
end
end Go.AI
end
section
namespace Go.AI
theorem made_ev10' {x:GRaw} (hx:RawTabOK x):∃ t,(MadeOK t/\t.Rules.length<=10)/\Ev (λ n=>FR2_Made n x) t:=by
 obtain ⟨t,h,hE⟩:=made_ev10 hx;exact ⟨t,⟨h.1,h.2.2⟩,hE⟩
end Go.AI
end
section
namespace Go.AI
noncomputable def rowR (t:GTable) (x:List UInt8):List Int:=(statesS t).map λ q=>costS t q x
def minR (a v:Int):Int:=if 0<=v/\(a<0\/v<a) then v else a
def lstR (l:List Int):Int:=l.foldl minR (-1)
def nrmR (l:List Int):List Int:=l.map λ v=>if v<0 then -1 else v-lstR l
noncomputable def memoR (t:GTable) (s:List UInt8):GMemo:=⟨s,(List.range (s.length+1)).map λ i=>nrmR (rowR t (s.drop i)),(List.range (s.length+1)).map λ i=>lstR (rowR t (s.drop i))⟩
theorem RowOK.eq {t:GTable} {s:List UInt8} {i:Nat} {row:List Int} (h:RowOK t s i row):row=rowR t (s.drop i):=by
 refine List.ext_getElem? λ j=>?_;unfold rowR;rw [List.getElem?_map];rcases Nat.lt_or_ge j (statesS t).length with hj|hj
 ·rw [h.val j _ (List.getElem?_eq_getElem hj),List.getElem?_eq_getElem hj];rfl
 ·rw [List.getElem?_eq_none (by rw [h.len];exact hj),List.getElem?_eq_none hj];rfl
theorem fold_min (l:List Int):∀ a,(l.foldl minR a=a\/l.foldl minR a∈l)/\(0<=a->0<=l.foldl minR a/\l.foldl minR a<=a)/\∀ v∈l,0<=v->0<=l.foldl minR a/\l.foldl minR a<=v:=by
 induction l with
 | nil=>intro a;exact ⟨.inl rfl,λ h=>⟨h,Int.le_refl _⟩,λ v hv=>by cases hv⟩
 | cons x l ih=>
  intro a;obtain ⟨h1,h2,h3⟩:=ih (minR a x);rw [List.foldl_cons];have hm:minR a x=a\/minR a x=x:=by unfold minR;split<;>simp
  have hb:(0<=a->0<=minR a x/\minR a x<=a)/\(0<=x->0<=minR a x/\minR a x<=x):=by unfold minR;split<;>omega
  refine ⟨?_,λ ha=>?_,λ v hv h0=>?_⟩
  ·rcases h1 with h1|h1
   ·rcases hm with hm|hm
    ·exact .inl (h1.trans hm)
    ·exact .inr (by rw [h1,hm];simp)
   ·exact .inr (List.mem_cons_of_mem _ h1)
  ·have:=hb.1 ha;have:=h2 this.1;omega
  ·rcases List.mem_cons.1 hv with rfl|hv
   ·have:=hb.2 h0;have:=h2 this.1;omega
   ·exact h3 v hv h0
theorem lst_le {l:List Int} {v:Int} (hv:v∈l) (h0:0<=v):0<=lstR l/\lstR l<=v:=(fold_min l (-1)).2.2 v hv h0
theorem lst_in (l:List Int):lstR l=-1\/lstR l∈l:=(fold_min l (-1)).1
theorem lst_range {l:List Int} {B:Int} (hB:-1<=B) (h:∀ v∈l,-1<=v/\v<=B):-1<=lstR l/\lstR l<=B:=by
 rcases lst_in l with h1|h1
 ·omega
 ·exact h _ h1
theorem take_fold {l:List Int} {k:Nat} (h:k<l.length) (a:Int):(l.take (k+1)).foldl minR a=minR ((l.take k).foldl minR a) l[k]:=by
 rw [List.take_add_one,List.getElem?_eq_getElem h,List.foldl_append];rfl
theorem memo2_ev {out:List (List Int)} {i:Nat} {row:List Int} (hr:out[i]? = some row) (hl:row.length<1000000) (m:GMemo):Tot (λ n=>whl (λ (x:(Int×Int))=>FR7_Memo_L2 n out m (i:Int) x.1 x.2) n (-1,0)) (λ y=>y=lstR row):=by
 have hi:=idx_at hr;refine Tot.upto (body:=λ n x=>FR7_Memo_L2 n out m (i:Int) x.1 x.2) row.length (λ k x=>x.2=(k:Int)/\x.1=(row.take k).foldl minR (-1)) ?_ ?_ _ ⟨rfl,rfl⟩
 ·rintro k ⟨a,k'⟩ hk ⟨e1,e2⟩;simp only at e1 e2;subst e1;have hv:=idx_lt hk;have hJ:∀ b,b=minR a row[k]->Tot (λ n=>FR7_Memo_J1 n (k:Int) b) (Rd2 (λ x:Int×Int=>x.2=((k+1:Nat):Int)/\x.1=(row.take (k+1)).foldl minR (-1)) (λ y=>y=lstR row)):=by
   intro b hb;unfold FR7_Memo_J1;exact Tot.pure ⟨inc64 (by omega),by rw [take_fold hk,← e2];exact hb⟩
  unfold FR7_Memo_L2;refine Tot.bindC hi (Tot.iteT (lt_d hk) (Tot.bindC hi (Tot.bindC hv ?_)));by_cases h0:0<=row[k]
  ·by_cases h1:a<0
   ·refine Tot.gF (by simp [h1]) (Tot.gF (by simp [h1]) (Tot.iteT (by simp [h0,h1]) (Tot.bindC hi (Tot.bindC hv (hJ _ ?_)))));unfold minR;rw [if_pos ⟨h0,.inl h1⟩]
   ·refine Tot.gE (by simp;omega) (Ev.all λ _=>hi) (Tot.gE (by simp;omega) (Ev.all λ _=>hv) (Tot.ite (λ h=>Tot.bindC hi (Tot.bindC hv (hJ _ ?_))) λ h=>hJ _ ?_))
    ·unfold minR;simp only [Bool.and_eq_true,Bool.or_eq_true,decide_eq_true_eq] at h;rw [if_pos ⟨h0,h.2⟩]
    ·unfold minR;rw [if_neg];intro hc;rw [← Bool.not_eq_true] at h;refine h ?_;simp only [Bool.and_eq_true,Bool.or_eq_true,decide_eq_true_eq];exact ⟨h0,hc.2⟩
  ·refine Tot.gF (by simp;omega) (Tot.gF (by simp;omega) (Tot.iteF (by simp;omega) (hJ _ ?_)));unfold minR;rw [if_neg λ h=>h0 h.1]
 ·rintro ⟨a,k'⟩ ⟨e1,e2⟩;simp only at e1 e2;subst e1;rw [List.take_length] at e2;unfold FR7_Memo_L2;exact Tot.bindC hi (Tot.iteF (by simp) (Tot.pure e2))
theorem memo3_ev {out:List (List Int)} {i:Nat} {row:List Int} (hr:out[i]? = some row) (hl:row.length<1000000) (hb:∀ v∈row,-1<=v/\v<=13000000) (m:GMemo):Tot (λ n=>whl (λ (x:((List Int)×Int))=>FR7_Memo_L3 n out m (i:Int) (lstR row) x.1 x.2) n ([],0)) (λ y=>y=nrmR row):=by
 have hi:=idx_at hr;have hlr:=lst_range (by decide) hb;refine Tot.upto (body:=λ n x=>FR7_Memo_L3 n out m (i:Int) (lstR row) x.1 x.2) row.length (λ k x=>x.2=(k:Int)/\x.1=(row.take k).map λ v=>if v<0 then -1 else v-lstR row) ?_ ?_ _ ⟨rfl,by simp⟩
 ·rintro k ⟨a,k'⟩ hk ⟨e1,e2⟩;simp only at e1 e2;subst e1;have hv:=idx_lt hk;have hbk:=hb _ (List.getElem_mem hk);have hla:a.length=k:=by rw [e2];simp;omega
  have hJ:∀ b,b=a++[if row[k]<0 then -1 else row[k]-lstR row]->Tot (λ n=>FR7_Memo_J2 n (k:Int) b) (Rd2 (λ x:List Int×Int=>x.2=((k+1:Nat):Int)/\x.1=(row.take (k+1)).map λ v=>if v<0 then -1 else v-lstR row) (λ y=>y=nrmR row)):=by
   intro b h;unfold FR7_Memo_J2;refine Tot.pure ⟨inc64 (by omega),?_⟩;rw [h,e2,List.take_add_one,List.getElem?_eq_getElem hk,List.map_append];rfl
  unfold FR7_Memo_L3;refine Tot.bindC hi (Tot.iteT (lt_d hk) (Tot.bindC hi (Tot.bindC hv (Tot.ite (λ h=>Tot.bindC (app_le (by simp;omega)) (hJ _ ?_)) λ h=>Tot.bindC hi (Tot.bindC hv (Tot.bindC (app_le (by simp;omega)) (hJ _ ?_)))))))
  ·rw [decide_eq_true_eq] at h;rw [if_pos h]
  ·rw [decide_eq_false_iff_not] at h;rw [if_neg h,sub64 (by omega) (by omega)]
 ·rintro ⟨a,k'⟩ ⟨e1,e2⟩;simp only at e1 e2;subst e1;rw [List.take_length] at e2;unfold FR7_Memo_L3;exact Tot.bindC hi (Tot.iteF (by simp) (Tot.pure e2))
section
variable {t:GTable} (hT:Tab6 t) {s:List UInt8} (hs:s.length<=4000)
include hT hs
theorem row_rng {i:Nat} (hi:i<=s.length):(rowR t (s.drop i)).length=(statesS t).length/\∀ v∈rowR t (s.drop i),-1<=v/\v<=((3072*(s.length-i+1):Nat):Int):=by
 refine ⟨by simp [rowR],λ v hv=>?_⟩;obtain ⟨out,⟨_,hR⟩,_⟩:=suffixes_ev hT hs;have h:=hR i hi;rw [← h.eq] at hv;obtain ⟨j,hj⟩:=List.mem_iff_getElem?.1 hv;exact ⟨((rows_top hT hs h).2 j v hj).1,h.bnd j v hj⟩
theorem row_top {i:Nat} (hi:i<=s.length) {v:Int} (hv:v∈rowR t (s.drop i)):-1<=v/\v<=13000000:=by
 have:=(row_rng hT hs hi).2 v hv;omega
theorem memo_ev:Ev (λ n=>FR7_Memo n t s) (memoR t s):=by
 have hlen:=len6 hT;refine Tot.ev ?_;unfold FR7_Memo;refine Tot.bind (suffixes_ev hT hs) ?_;rintro out ⟨hol,hR⟩;refine Tot.bind (R:=λ y=>y=memoR t s) ?_ (λ y h=>Tot.pure h);refine Tot.upto (body:=λ n x=>FR7_Memo_L1 n out x.1 x.2) (s.length+1) (λ k x=>x.2=(k:Int)/\x.1=⟨s,(List.range k).map λ i=>nrmR (rowR t (s.drop i)),(List.range k).map λ i=>lstR (rowR t (s.drop i))⟩) ?_ ?_ _ ⟨rfl,rfl⟩
 ·rintro k ⟨m,k'⟩ hk ⟨e1,e2⟩;simp only at e1 e2;subst e1 e2;have hRk:=hR k (by omega);have hg:out[k]? = some (rowR t (s.drop k)):=by
   rw [← hRk.eq,List.getD_eq_getElem?_getD,List.getElem?_eq_getElem (by omega)];rfl
  have hrr:=row_rng hT hs (show k<=s.length by omega);unfold FR7_Memo_L1;refine Tot.iteT (by rw [hol];exact lt_d hk) (Tot.bind (memo2_ev hg (by omega) _) ?_);rintro _ rfl;refine Tot.bind (memo3_ev hg (by omega) (λ v hv=>row_top hT hs (by omega) hv) _) ?_;rintro _ rfl;refine Tot.bindC (app_le (by simp;omega)) (Tot.bindC (app_le (by simp;omega)) (Tot.pure ⟨inc64 (by omega),?_⟩));simp only [List.range_succ,List.map_append,List.map_cons,List.map_nil]
 ·rintro ⟨m,k'⟩ ⟨e1,e2⟩;simp only at e1 e2;subst e1;unfold FR7_Memo_L1;exact Tot.iteF (by rw [hol];simp) (Tot.pure e2)
end
theorem rsame_ev (a b:GMemo) (h1:a.Least.length<1000000) (h2:a.Costs.length<1000000) (h3:∀ l∈a.Costs,l.length<1000000):Ev (λ n=>FR7_Same n a b) (decide (a=b)):=by
 refine Tot.ev ?_;unfold FR7_Same;obtain ⟨at',ac,al⟩:=a;obtain ⟨bt,bc,bl⟩:=b;simp only at h1 h2 h3 ⊢;by_cases ht:at'=bt
 ·by_cases hc:ac.length=bc.length
  ·refine Tot.gE (by simp [ht,hc]) (ints_ev al bl (by omega)) ?_;by_cases hl:al=bl
   ·refine Tot.iteF (by simp [ht,hc,hl]) ?_;subst ht hl;refine Tot.bind (R:=λ y:Unit⊕Bool=>(y=.inl ()/\ac=bc)\/(y=.inr false/\ac≠bc)) ?_ ?_
    ·refine Tot.upto (body:=λ n x=>FR7_Same_L1 n ⟨at',ac,al⟩ ⟨at',bc,al⟩ x) ac.length (λ k x=>x=(k:Int)/\ac.take k=bc.take k) ?_ ?_ _ ⟨rfl,rfl⟩
     ·rintro k _ hk ⟨rfl,e⟩;have hkb:k<bc.length:=by omega
      unfold FR7_Same_L1;refine Tot.iteT (lt_d hk) (Tot.bindC (idx_lt hk) (Tot.bindC (idx_lt hkb) (Tot.bindE (ints_ev _ _ (by have:=h3 _ (List.getElem_mem hk);omega)) (Tot.ite (λ h=>?_) λ h=>?_))))
      ·refine Tot.pure (.inr ⟨rfl,λ he=>?_⟩);subst he;simp at h
      ·refine Tot.pure ⟨inc64 (by omega),?_⟩;have:ac[k]=bc[k]:=by simpa using h
       rw [List.take_add_one,List.take_add_one,e,List.getElem?_eq_getElem hk,List.getElem?_eq_getElem hkb,this]
     ·rintro _ ⟨rfl,e⟩;unfold FR7_Same_L1;refine Tot.iteF (by simp) (Tot.pure (.inl ⟨rfl,?_⟩));rwa [List.take_length,hc,List.take_length] at e
    ·rintro y (⟨rfl,h⟩|⟨rfl,h⟩)
     ·exact Tot.pure (by simp [h])
     ·exact Tot.pure (by simp [h])
   ·refine Tot.iteT (by simp [hl]) (Tot.pure ?_);simp [hl]
  ·have hc':((ac.length:Nat):Int)≠((bc.length:Nat):Int):=by omega
   refine Tot.gF (by simp [ht,hc']) (Tot.iteT (by simp [ht,hc']) (Tot.pure ?_));simp only [GMemo.mk.injEq];exact (decide_eq_false λ h=>hc (by rw [h.2.1])).symm
 ·refine Tot.gF (by simp [ht]) (Tot.iteT (by simp [ht]) (Tot.pure ?_));simp [ht]
theorem memo_len {t:GTable} (hT:Tab6 t) {s:List UInt8} (hs:s.length<=4000) (b:GMemo):Ev (λ n=>FR7_Same n (memoR t s) b) (decide (memoR t s=b)):=by
 have hlen:=len6 hT;refine rsame_ev _ _ (by simp [memoR];omega) (by simp [memoR];omega) λ l hl=>?_;simp only [memoR,List.mem_map] at hl;obtain ⟨i,_,rfl⟩:=hl;simp only [nrmR,rowR,List.length_map];omega
end Go.AI
end
section
namespace Go.AI
def garcAt (t:GTable) (q:GState) (k:Nat):Option GArc:=if (stepS t q k).2=true then some ⟨prt t k,((cls t k).length:Nat),indexS (statesS t) (stepS t q k).1⟩ else none
def garcsOf (t:GTable) (q:GState):List GArc:=(List.range t.Rules.length).filterMap (garcAt t q)
def graphR (t:GTable):GGraph:=⟨(statesS t).map (garcsOf t),(statesS t).map (acceptsS t)⟩
theorem mem_garcs {t:GTable} {q:GState} {a:GArc}:a∈garcsOf t q↔∃ k:Nat,k<t.Rules.length/\(stepS t q k).2=true/\a=⟨prt t k,((cls t k).length:Nat),indexS (statesS t) (stepS t q k).1⟩:=by
 unfold garcsOf;rw [List.mem_filterMap];constructor
 ·rintro ⟨k,hk,h⟩;unfold garcAt at h;split at h
  ·rename_i hs;cases h;exact ⟨k,List.mem_range.1 hk,hs,rfl⟩
  ·cases h
 ·rintro ⟨k,hk,hs,rfl⟩;exact ⟨k,List.mem_range.2 hk,by unfold garcAt;rw [if_pos hs]⟩
theorem garcs_len (t:GTable) (q:GState):(garcsOf t q).length<=t.Rules.length:=by
 have:=List.length_filterMap_le (garcAt t q) (List.range t.Rules.length);simpa [garcsOf] using this
section
variable {t:GTable} (hT:Tab6 t)
include hT
theorem gnum_ev:Tot (λ n=>whl (λ (x:((List (GState×Int))×Int))=>FRv_newGraph_L1 n t (statesS t) x.1 x.2) n ([],0)) (NumOK (statesS t)):=by
 have hlen:=len6 hT;refine Tot.upto (body:=λ n y=>FRv_newGraph_L1 n t (statesS t) y.1 y.2) (statesS t).length (λ k y=>y.2=(k:Int)/\NumOK ((statesS t).take k) y.1) ?_ ?_ _ ⟨rfl,λ q=>rfl⟩
 ·rintro k ⟨nb,k'⟩ hk ⟨e1,hN⟩;simp only at e1 hN;subst e1;unfold FRv_newGraph_L1;refine Tot.iteT (lt_d hk) (Tot.bindC (idx_lt hk) (Tot.pure ⟨inc64 (by omega),?_⟩));have hn:=nod6 hT;have e:(statesS t).take (k+1)=(statesS t).take k++[(statesS t)[k]]:=by rw [List.take_add_one,List.getElem?_eq_getElem hk];rfl
  have hnd:((statesS t).take (k+1)).Nodup:=(List.take_sublist _ _).nodup hn;rw [e] at hnd;have hp:(statesS t)[k] ∉ (statesS t).take k:=by
   intro hm;exact (List.nodup_append.1 hnd).2.2 _ hm _ (by simp) rfl
  have:=NumOK.snoc hN ((List.take_sublist _ _).nodup hn) hp;rw [← e,List.length_take,Nat.min_eq_left (by omega)] at this;exact this
 ·rintro ⟨nb,k'⟩ ⟨e1,hN⟩;simp only at e1 hN;subst e1;rw [List.take_length] at hN;unfold FRv_newGraph_L1;exact Tot.iteF (by simp) (Tot.pure hN)
theorem garcs_ev {nb:List (GState×Int)} (hN:NumOK (statesS t) nb) {j:Nat} {q:GState} (hq:(statesS t)[j]? = some q) (g0:GGraph) (hl:g0.Arcs.length=(statesS t).length) (h0:g0.Arcs[j]? = some []) :
  Tot (λ n=>whl (λ (x:(GGraph×Int))=>FRv_newGraph_L3 n t (statesS t) nb (j:Int) q x.1 x.2) n (g0,0)) (λ g=>g={ g0 with Arcs:=g0.Arcs.set j (garcsOf t q) }):=by
 have hrl:=hT.tab.1;have hjl:=getElem?_lt' hq;refine Tot.upto (body:=λ n x=>FRv_newGraph_L3 n t (statesS t) nb (j:Int) q x.1 x.2) t.Rules.length (λ k x=>x.2=(k:Int)/\x.1={ g0 with Arcs:=g0.Arcs.set j ((List.range k).filterMap (garcAt t q)) }/\((List.range k).filterMap (garcAt t q)).length<=k) ?_ ?_ _ ⟨rfl,?_,by simp⟩
 ·rintro k ⟨g,k'⟩ hk ⟨e1,e2,e3⟩;simp only at e1 e2 e3;subst e1;have hJ:∀ g',g'={ g0 with Arcs:=g0.Arcs.set j ((List.range (k+1)).filterMap (garcAt t q)) }->Tot (λ n=>FRv_newGraph_J1 n (k:Int) g') (Rd2 (λ x:GGraph×Int=>x.2=((k+1:Nat):Int)/\x.1={ g0 with Arcs:=g0.Arcs.set j ((List.range (k+1)).filterMap (garcAt t q)) }/\((List.range (k+1)).filterMap (garcAt t q)).length<=k+1) (λ g=>g={ g0 with Arcs:=g0.Arcs.set j (garcsOf t q) })):=by
   intro g' hg;unfold FRv_newGraph_J1;refine Tot.pure ⟨inc64 (by omega),hg,?_⟩;exact Nat.le_trans (List.length_filterMap_le _ _) (by simp)
  unfold FRv_newGraph_L3;have hir:idx t.Rules (k:Int)=some (ruleAt t k):=idx_rule (by omega) (by omega);refine Tot.iteT (lt_d hk) (Tot.bindC hir (Tot.bindA (λ n=>step_eq hT.tab.short n q k) (Tot.ite (λ h=>?_) λ h=>?_)))
  ·subst e2;refine Tot.bindC (idx_gd [] (by rw [List.length_set];omega)) ?_;rw [getD_set (by omega)];refine Tot.bindC (app_le (by simp;omega)) (hJ _ ?_);rw [num_get hT hN (closed6 hT (List.mem_of_getElem? hq) h)];simp only [Int.toNat_natCast,List.set_set,List.range_succ,List.filterMap_append];have:(List.filterMap (garcAt t q) [k])=[⟨prt t k,((cls t k).length:Nat),indexS (statesS t) (stepS t q k).1⟩]:=by
    simp only [List.filterMap_cons,garcAt,h,if_true,List.filterMap_nil]
   rw [this]
  ·refine hJ _ ?_;rw [e2];simp only [List.range_succ,List.filterMap_append];have:(List.filterMap (garcAt t q) [k])=[]:=by
    simp only [List.filterMap_cons,garcAt,h,Bool.false_eq_true,if_false,List.filterMap_nil]
   rw [this,List.append_nil]
 ·rintro ⟨g,k'⟩ ⟨e1,e2,e3⟩;simp only at e1 e2;subst e1;unfold FRv_newGraph_L3;exact Tot.iteF (by simp) (Tot.pure e2)
 ·show g0={ g0 with Arcs:=g0.Arcs.set j [] };have:g0.Arcs.set j []=g0.Arcs:=by
   have:=set_getD g0.Arcs j [];rwa [List.getD_eq_getElem?_getD,h0] at this
  rw [this]
theorem graph_ev:Ev (λ n=>FRv_newGraph n t) (graphR t):=by
 have hlen:=len6 hT;refine Tot.ev ?_;unfold FRv_newGraph;refine Tot.bindE (statesA_ev hT.tab) (Tot.bind (gnum_ev hT) ?_);intro nb hN;refine Tot.bindC (mkl_d (by omega) (by omega)) (Tot.bindC (mkl_d (by omega) (by omega)) ?_);simp only [Int.toNat_natCast];refine Tot.bind (R:=λ g=>g=graphR t) ?_ (λ g h=>Tot.pure h);refine Tot.upto (body:=λ n x=>FRv_newGraph_L2 n t (statesS t) nb x.1 x.2) (statesS t).length (λ k x=>x.2=(k:Int)/\∃ A B,x.1=(⟨A,B⟩:GGraph)/\(A.length=(statesS t).length/\(∀ (j:Nat) q,j<k->(statesS t)[j]? = some q->A[j]? = some (garcsOf t q))/\∀ j,k<=j->j<(statesS t).length->A[j]? = some [])/\B.length=(statesS t).length/\∀ (j:Nat) q,j<k->(statesS t)[j]? = some q->B[j]? = some (acceptsS t q)) ?_ ?_ _ ⟨rfl,_,_,rfl,⟨by simp,by omega,λ j _ h=>by rw [List.getElem?_replicate,if_pos h]⟩,by simp,by omega⟩
 ·rintro k ⟨g,k'⟩ hk ⟨e1,A,B,e2,⟨a1,a2,a3⟩,b1,b2⟩;simp only at e1 e2;subst e1 e2;have hq:(statesS t)[k]? = some (statesS t)[k]:=List.getElem?_eq_getElem hk;unfold FRv_newGraph_L2;refine Tot.iteT (lt_d hk) (Tot.bindC (idx_at hq) (Tot.bindA (λ n=>accepts_eq n t _) (Tot.bindC (idx_gd false (show k<B.length by omega)) (Tot.bindC (put_at (show k<B.length by omega)) (Tot.bind (garcs_ev hT hN hq _ a1 (a3 k (Nat.le_refl _) hk)) ?_)))));rintro _ rfl;refine Tot.pure ⟨inc64 (by omega),_,_,rfl,⟨by rw [List.length_set];exact a1,λ j q hj hjq=>?_,λ j h1 h2=>?_⟩,by rw [List.length_set];exact b1,λ j q hj hjq=>?_⟩
  ·by_cases e:k=j
   ·subst e;rw [hq] at hjq;cases hjq;exact List.getElem?_set_self (show k<A.length by omega)
   ·rw [List.getElem?_set_ne e];exact a2 j q (by omega) hjq
  ·rw [List.getElem?_set_ne (by omega)];exact a3 j (by omega) h2
  ·by_cases e:k=j
   ·subst e;rw [hq] at hjq;cases hjq;exact List.getElem?_set_self (show k<B.length by omega)
   ·rw [List.getElem?_set_ne e];exact b2 j q (by omega) hjq
 ·rintro ⟨g,k'⟩ ⟨e1,A,B,e2,⟨a1,a2,a3⟩,b1,b2⟩;simp only at e1 e2;subst e1 e2;unfold FRv_newGraph_L2;refine Tot.iteF (by simp) (Tot.pure ?_);show (⟨A,B⟩:GGraph)=⟨(statesS t).map (garcsOf t),(statesS t).map (acceptsS t)⟩;congr 1
  ·refine List.ext_getElem? λ j=>?_;rcases Nat.lt_or_ge j (statesS t).length with h|h
   ·rw [a2 j _ h (List.getElem?_eq_getElem h),List.getElem?_map,List.getElem?_eq_getElem h];rfl
   ·rw [List.getElem?_eq_none (by omega),List.getElem?_eq_none (by simpa using h)]
  ·refine List.ext_getElem? λ j=>?_;rcases Nat.lt_or_ge j (statesS t).length with h|h
   ·rw [b2 j _ h (List.getElem?_eq_getElem h),List.getElem?_map,List.getElem?_eq_getElem h];rfl
   ·rw [List.getElem?_eq_none (by omega),List.getElem?_eq_none (by simpa using h)]
end
theorem sanity7_ev:Ev (λ n=>FL7_sanity n) true:=Ev.of (λ n m h=>FL7_sanity_le h) (n:=60) (by kernel_rfl)
end Go.AI
end
section
namespace Go.AI
section
variable {α:Type}
theorem splR_get {l ys:List α} {lo k:Nat} (h:lo+ys.length<=l.length) (hk:k<ys.length):(spl l lo ys)[lo+k]? = ys[k]? := by
 unfold spl;have e:(l.take lo).length=lo:=by simp;omega
 rw [List.append_assoc,List.getElem?_append_right (by omega),e,List.getElem?_append_left (by omega)];congr 1;omega
theorem splR_out {l ys:List α} {lo j:Nat} (h:lo+ys.length<=l.length) (hj:j<lo\/lo+ys.length<=j):(spl l lo ys)[j]? = l[j]? := by
 unfold spl;have e:(l.take lo).length=lo:=by simp;omega
 rw [List.append_assoc];rcases hj with hj|hj
 ·rw [List.getElem?_append_left (by omega),List.getElem?_take_of_lt hj]
 ·rw [List.getElem?_append_right (by omega),List.getElem?_append_right (by omega),List.getElem?_drop];congr 1;omega
theorem splR_len {l ys:List α} {lo:Nat} (h:lo+ys.length<=l.length):(spl l lo ys).length=l.length:=by
 unfold spl;simp;omega
theorem splR_set {l ys:List α} {lo k:Nat} (h:lo+ys.length<=l.length) (hk:k<ys.length) (v:α):(spl l lo ys).set (lo+k) v=spl l lo (ys.set k v):=by
 have h':lo+(ys.set k v).length<=l.length:=by rw [List.length_set];exact h
 refine List.ext_getElem? λ j=>?_;by_cases e:lo+k=j
 ·subst e;rw [List.getElem?_set_self (by rw [splR_len h];omega),splR_get h' (by rw [List.length_set];exact hk),List.getElem?_set_self hk]
 ·rw [List.getElem?_set_ne e];by_cases hj:j<lo\/lo+ys.length<=j
  ·rw [splR_out h hj,splR_out h' (by rw [List.length_set];exact hj)]
  ·obtain ⟨m,rfl⟩:∃ m,j=lo+m:=⟨j-lo,by omega⟩;rw [splR_get h (by omega),splR_get h' (by rw [List.length_set];omega),List.getElem?_set_ne (by omega)]
theorem splR_cut {l:List α} {lo S:Nat} (h:lo+S<=l.length):spl l lo ((l.drop lo).take S)=l:=by
 unfold spl;have e:((l.drop lo).take S).length=S:=by simp;omega
 rw [e,List.append_assoc];have:(l.drop lo).take S++l.drop (lo+S)=l.drop lo:=by
  rw [← List.drop_drop];exact List.take_append_drop _ _
 rw [this,List.take_append_drop]
theorem splR_same {l ys:List α} {lo:Nat} (h:lo+ys.length<=l.length):((spl l lo ys).drop lo).take ys.length=ys:=by
 refine List.ext_getElem? λ j=>?_;rw [List.getElem?_take,List.getElem?_drop];split
 ·rename_i hj;exact splR_get h hj
 ·rename_i hj;rw [List.getElem?_eq_none (by omega)]
theorem splR_other {l ys:List α} {lo lo' S:Nat} (h:lo+ys.length<=l.length) (hd:lo'+S<=lo\/lo+ys.length<=lo'):((spl l lo ys).drop lo').take S=(l.drop lo').take S:=by
 refine List.ext_getElem? λ j=>?_;rw [List.getElem?_take,List.getElem?_take];split
 ·rename_i hj;rw [List.getElem?_drop,List.getElem?_drop,splR_out h (by omega)]
 ·rfl
theorem inB_at {n k:Nat} (h:k<n):inB n (k:Int)=some ():=by
 unfold inB guardB;rw [if_pos (by simp;omega)]
theorem ixP_at {l:List α} {lo S k:Nat} {v:α} (hk:k<S) (h:l[lo+k]? = some v):ixP l (lo,S) (k:Int)=some v:=by
 unfold ixP;rw [inB_at hk,Option.bind_some,Int.toNat_natCast];exact idx_at h
end
def offR (S n:Nat):List (Nat×Nat):=(List.range n).map λ i=>(i*S,S)
theorem off_at {S n i:Nat} (h:i<n):idx (offR S n) (i:Int)=some (i*S,S):=by
 refine idx_at ?_;simp [offR,h]
theorem part_le {S n i:Nat} (h:i<n):i*S+S<=S*n:=by
 have:(i+1)*S<=n*S:=Nat.mul_le_mul_right S h;rw [Nat.add_mul,Nat.one_mul,Nat.mul_comm n S] at this;exact this
theorem part_ne {S i j:Nat} (h:i<j):i*S+S<=j*S:=by
 have:(i+1)*S<=j*S:=Nat.mul_le_mul_right S h;rw [Nat.add_mul,Nat.one_mul] at this;exact this
structure Lat (t:GTable) (s:List UInt8) (i:Nat) (l ls:List Int):Prop where
 len:l.length=(statesS t).length*(s.length+1)
 ll:ls.length=s.length+1
 col:∀ p,i<p->p<=s.length->(l.drop (p*(statesS t).length)).take (statesS t).length=nrmR (rowR t (s.drop p))
 lst:∀ p,i<p->p<=s.length->ls[p]? = some (lstR (rowR t (s.drop p)))
def Low (a b:List Int):Prop:=∀ (j:Nat) v,a[j]? = some v->0<=v->∃ w,b[j]? = some w/\0<=w/\w<=v
theorem Low.refl (a:List Int):Low a a:=λ _ v h h0=>⟨v,h,h0,Int.le_refl _⟩
theorem Low.set {a:List Int} {k:Nat} {v c:Int} (hv:a[k]? = some v) (hc:0<=c) (hlt:v<0\/c<v):Low a (a.set k c):=by
 intro j w hw h0;by_cases e:k=j
 ·subst e;rw [hv] at hw;cases hw;exact ⟨c,List.getElem?_set_self (getElem?_lt' hv),hc,by omega⟩
 ·exact ⟨w,by rw [List.getElem?_set_ne e];exact hw,h0,Int.le_refl _⟩
def A1 (t:GTable) (x:List UInt8) (cur:List Int) (j:Nat) (g:GArc):Prop:=g.Print≠[]->∀ y,x=g.Print++y->∀ q',(statesS t)[g.To.toNat]? = some q'->0<=costS t q' y->∃ v,cur[j]? = some v/\0<=v/\v<=costS t q' y+g.Cells
def A2 (cur:List Int) (j:Nat) (g:GArc):Prop:=g.Print=[]->∀ w,cur[g.To.toNat]? = some w->0<=w->∃ v,cur[j]? = some v/\0<=v/\v<=w+g.Cells
theorem A1.low {t:GTable} {x:List UInt8} {a b:List Int} {j:Nat} {g:GArc} (h:A1 t x a j g) (hl:Low a b):A1 t x b j g:=by
 intro hp y hy q' hq' h0;obtain ⟨v,h1,h2,h3⟩:=h hp y hy q' hq' h0;obtain ⟨w,g1,g2,g3⟩:=hl j v h1 h2;exact ⟨w,g1,g2,by omega⟩
section
variable {t:GTable} (hT:Tab6 t) {s:List UInt8} (hs:s.length<=4000)
include hT hs
theorem cost_rng {p:Nat} (hp:p<=s.length) {j:Nat} {q:GState} (hq:(statesS t)[j]? = some q):-1<=costS t q (s.drop p)/\costS t q (s.drop p)<=((3072*(s.length-p+1):Nat):Int):=by
 refine (row_rng hT hs hp).2 _ ?_;unfold rowR;exact List.mem_map.2 ⟨q,List.mem_of_getElem? hq,rfl⟩
omit hT hs in
theorem nrm_at (p:Nat) {j:Nat} {q:GState} (hq:(statesS t)[j]? = some q) :
  (nrmR (rowR t (s.drop p)))[j]? = some (if costS t q (s.drop p)<0 then -1 else costS t q (s.drop p)-lstR (rowR t (s.drop p)))/\(0<=costS t q (s.drop p)->0<=lstR (rowR t (s.drop p))/\lstR (rowR t (s.drop p))<=costS t q (s.drop p)):=by
 have hr:(rowR t (s.drop p))[j]? = some (costS t q (s.drop p)):=by unfold rowR;rw [List.getElem?_map,hq];rfl
 refine ⟨by rw [nrmR,List.getElem?_map,hr];rfl,λ h0=>lst_le (List.mem_of_getElem? hr) h0⟩
theorem gsuffix_eq {i:Nat} {l ls cur:List Int} (hL:Lat t s i l ls) (hc:cur.length=(statesS t).length) (hi:i<=s.length) {p:Nat} (h1:i<p) (h2:p<=s.length) {j:Nat} {q:GState} (hq:(statesS t)[j]? = some q) (x:List UInt8) (n:Nat) :
  FRv_suffixx n x (p:Int) (j:Int) (offR (statesS t).length (s.length+1)) ls (spl l (i*(statesS t).length) cur)=some (costS t q (s.drop p)):=by
 have hjl:=getElem?_lt' hq;have hlo:i*(statesS t).length+cur.length<=l.length:=by rw [hc,hL.len];exact part_le (by omega)
 obtain ⟨n1,n2⟩:=nrm_at p hq;have hrng:=cost_rng hT hs h2 hq;have hv:(spl l (i*(statesS t).length) cur)[p*(statesS t).length+j]? = some (if costS t q (s.drop p)<0 then -1 else costS t q (s.drop p)-lstR (rowR t (s.drop p))):=by
  have:=part_ne (S:=(statesS t).length) h1;rw [splR_out hlo (by omega),← n1,← hL.col p h1 h2,List.getElem?_take_of_lt hjl,List.getElem?_drop]
 unfold FRv_suffixx;rw [off_at (by omega),Option.bind_some];by_cases h0:costS t q (s.drop p)<0
 ·rw [if_pos h0] at hv;rw [ixP_at hjl hv,Option.bind_some,if_pos (by simp)];congr 1;omega
 ·rw [if_neg h0] at hv;have:=n2 (by omega);rw [ixP_at hjl hv,Option.bind_some,if_neg (by simp;omega),idx_at (hL.lst p h1 h2),Option.bind_some,Option.bind_some,ixP_at hjl hv,Option.bind_some,add64 (by omega) (by omega)];congr 1;omega
omit hT hs in
theorem lower_eq {l cur:List Int} {lo k:Nat} {v rest cells:Int} (hlo:lo+cur.length<=l.length) (hv:cur[k]? = some v) (hr:-1<=rest/\rest<=100000000) (hc:0<=cells/\cells<=100) (n:Nat) :
  FRv_graph_columns_1_1 n (k:Int) rest cells (lo,cur.length) (spl l lo cur)=some (if rest<0\/(0<=v/\v<=rest+cells) then (spl l lo cur,false) else (spl l lo (cur.set k (rest+cells)),true)):=by
 have hk:=getElem?_lt' hv;have hix:ixP (spl l lo cur) (lo,cur.length) (k:Int)=some v:=ixP_at hk (by rw [splR_get hlo hk];exact hv);unfold FRv_graph_columns_1_1;rw [hix];by_cases h0:rest<0
 ·rw [if_neg (by simp;omega),Option.bind_some,if_neg (by simp;omega),Option.bind_some,if_pos (by simp [h0]),if_pos (.inl h0)]
 ·rw [if_pos (by simp;omega),Option.bind_some];have e:iadd .i64 rest cells=rest+cells:=add64 (by omega) (by omega);rw [e];by_cases h1:0<=v
  ·rw [if_pos (by simp;omega),Option.bind_some];by_cases h2:v<=rest+cells
   ·rw [if_pos (by simp;omega),if_pos (.inr ⟨h1,h2⟩)]
   ·rw [if_neg (by simp;omega),if_neg (by omega),Option.bind_some,Int.toNat_natCast,put_at (by rw [splR_len hlo];omega),Option.bind_some,splR_set hlo hk]
  ·rw [if_neg (by simp;omega),Option.bind_some,if_neg (by simp;omega),if_neg (by omega),Option.bind_some,Int.toNat_natCast,put_at (by rw [splR_len hlo];omega),Option.bind_some,splR_set hlo hk]
theorem col1_ev {i:Nat} (hi:i<=s.length) {l cur0:List Int} (hc:cur0.length=(statesS t).length) (hlo:i*(statesS t).length+cur0.length<=l.length) (offs:List (Nat×Nat)) (ls:List Int) :
  Tot (λ n=>whl (λ (x:((List Int)×Int))=>FRv_graph_columns_1_L1 n (i:Int) s (graphR t) offs ls (i*(statesS t).length,(statesS t).length) x.1 x.2) n (spl l (i*(statesS t).length) cur0,0)) (λ y=>y=spl l (i*(statesS t).length) ((statesS t).map (firstV t (s.drop i)))):=by
 have hlen:=len6 hT;generalize hlo':i*(statesS t).length=lo at *;refine Tot.upto (body:=λ n x=>FRv_graph_columns_1_L1 n (i:Int) s (graphR t) offs ls (lo,(statesS t).length) x.1 x.2) (statesS t).length (λ k x=>x.2=(k:Int)/\∃ cur,x.1=spl l lo cur/\cur.length=(statesS t).length/\∀ (j:Nat) q,j<k->(statesS t)[j]? = some q->cur[j]? = some (firstV t (s.drop i) q)) ?_ ?_ _ ⟨rfl,cur0,rfl,hc,by omega⟩
 ·rintro k ⟨c,k'⟩ hk ⟨e1,cur,e2,e3,e4⟩;simp only at e1 e2;subst e1 e2;have hlc:lo+cur.length<=l.length:=by omega
  have hJ:∀ v,v=firstV t (s.drop i) (statesS t)[k]->∀ c',c'=spl l lo (cur.set k v)->Tot (λ n=>FRv_graph_columns_1_J1 n (k:Int) c') (Rd2 (λ x:List Int×Int=>x.2=((k+1:Nat):Int)/\∃ cur,x.1=spl l lo cur/\cur.length=(statesS t).length/\∀ (j:Nat) q,j<k+1->(statesS t)[j]? = some q->cur[j]? = some (firstV t (s.drop i) q)) (λ y=>y=spl l lo ((statesS t).map (firstV t (s.drop i))))):=by
   intro v hv c' hc';unfold FRv_graph_columns_1_J1;refine Tot.pure ⟨inc64 (by omega),_,hc',by rw [List.length_set];exact e3,λ j q hj hq=>?_⟩;by_cases e:k=j
   ·subst e;rw [List.getElem?_set_self (by omega),hv];rw [List.getElem?_eq_getElem hk] at hq;cases hq;rfl
   ·rw [List.getElem?_set_ne e];exact e4 j q (by omega) hq
  unfold FRv_graph_columns_1_L1;have hg:(spl l lo cur)[lo+k]? = some cur[k]:=by rw [splR_get hlc (by omega)];exact List.getElem?_eq_getElem (by omega)
  refine Tot.iteT (by simpa using hk) (Tot.bindC (ixP_at hk hg) ?_);rw [Int.toNat_natCast];refine Tot.bindC (put_at (by rw [splR_len hlc];omega)) ?_;rw [splR_set hlc (by omega),drop_nil hs hi];have hacc:idx (graphR t).Accepts (k:Int)=some (acceptsS t (statesS t)[k]):=idx_at (by simp [graphR,hk]);by_cases hd:s.drop i=[]
  ·refine Tot.gE (decide_eq_true hd) (Ev.all λ n=>hacc) (Tot.ite (λ h=>?_) λ h=>?_)
   ·have ha:acceptsS t (statesS t)[k]=true:=by simpa [hd] using h
    have hls:lo+(cur.set k (-1)).length<=l.length:=by rw [List.length_set];exact hlc
    refine Tot.bindC (ixP_at hk (v:=-1) (by rw [splR_get hls (by rw [List.length_set];omega),List.getElem?_set_self (by omega)])) (Tot.bindC (put_at (by rw [splR_len hls];omega)) (hJ 0 ?_ _ ?_))
    ·unfold firstV;rw [if_pos ⟨hd,ha⟩]
    ·rw [splR_set hls (by rw [List.length_set];omega),List.set_set]
   ·have ha:acceptsS t (statesS t)[k]=false:=by simpa [hd] using h
    refine hJ (-1) ?_ _ rfl;unfold firstV;rw [if_neg (by rw [ha];simp)]
  ·refine Tot.gF (decide_eq_false hd) (Tot.iteF (by simp [hd]) (hJ (-1) ?_ _ rfl));unfold firstV;rw [if_neg (λ h=>hd h.1)]
 ·rintro ⟨c,k'⟩ ⟨e1,cur,e2,e3,e4⟩;simp only at e1 e2;subst e1 e2;unfold FRv_graph_columns_1_L1;refine Tot.iteF (by simp) (Tot.pure ?_);refine congrArg (spl l lo) (List.ext_getElem? λ j=>?_);rcases Nat.lt_or_ge j (statesS t).length with h|h
  ·rw [e4 j _ h (List.getElem?_eq_getElem h),List.getElem?_map,List.getElem?_eq_getElem h];rfl
  ·rw [List.getElem?_eq_none (by omega),List.getElem?_eq_none (by simpa using h)]
end
end Go.AI
end
section
namespace Go.AI
structure PasR (t:GTable) (x:List UInt8) (D B:Nat) (cur0 cur:List Int) (ch:Bool) (k a:Nat):Prop where
 col:Col t x D (statesS t) cur
 all:∀ (j:Nat) q,(statesS t)[j]? = some q->∀ g∈garcsOf t q,A1 t x cur j g
 same:ch=false->cur=cur0/\(∀ (j:Nat) q,j<k->(statesS t)[j]? = some q->∀ g∈garcsOf t q,A2 cur0 j g)/\∀ q,(statesS t)[k]? = some q->∀ g∈(garcsOf t q).take a,A2 cur0 k g
 less:ch=true->phi B cur<phi B cur0
section
variable {t:GTable} (hT:Tab6 t) {s:List UInt8} (hs:s.length<=4000)
include hT hs
omit hs in
theorem garc_use {q:GState} (hq:q∈statesS t) {g:GArc} (hg:g∈garcsOf t q):∃ (k m:Nat),(stepS t q k).2=true/\g=⟨prt t k,((cls t k).length:Nat),(m:Nat)⟩/\(statesS t)[m]? = some (stepS t q k).1/\(prt t k).length<=3/\1<=(cls t k).length/\(cls t k).length<=4:=by
 obtain ⟨k,hk,hst,rfl⟩:=mem_garcs.1 hg;obtain ⟨m,hm,hmg⟩:=indexS_in (closed6 hT hq hst);exact ⟨k,m,hst,by rw [hm],hmg,hT.pr hst⟩
theorem col3_ev {i:Nat} (hi:i<=s.length) {l ls cur1:List Int} (hL:Lat t s i l ls) {k:Nat} {q:GState} (hq:(statesS t)[k]? = some q) (h1:Col t (s.drop i) (3072*(s.length-i)) (statesS t) cur1) (gr:GGraph) :
  Tot (λ n=>whl (λ (x:((List Int)×Int))=>FRv_graph_columns_1_L3 n (i:Int) s gr (offR (statesS t).length (s.length+1)) ls (i*(statesS t).length,(statesS t).length) (k:Int) (garcsOf t q) x.1 x.2) n (spl l (i*(statesS t).length) cur1,0))
   (λ y=>∃ cur,y=spl l (i*(statesS t).length) cur/\Col t (s.drop i) (3072*(s.length-i)) (statesS t) cur/\Low cur1 cur/\∀ g∈garcsOf t q,A1 t (s.drop i) cur k g):=by
 have hlen:=len6 hT;have hrl:=hT.tab.1;have hgl:=garcs_len t q;have hkl:=getElem?_lt' hq;have hlo0:i*(statesS t).length+(statesS t).length<=l.length:=by rw [hL.len];exact part_le (by omega)
 refine Tot.upto (body:=λ n x=>FRv_graph_columns_1_L3 n (i:Int) s gr (offR (statesS t).length (s.length+1)) ls (i*(statesS t).length,(statesS t).length) (k:Int) (garcsOf t q) x.1 x.2) (garcsOf t q).length (λ a x=>x.2=(a:Int)/\∃ cur,x.1=spl l (i*(statesS t).length) cur/\Col t (s.drop i) (3072*(s.length-i)) (statesS t) cur/\Low cur1 cur/\∀ g∈(garcsOf t q).take a,A1 t (s.drop i) cur k g) ?_ ?_ _ ⟨rfl,cur1,rfl,h1,.refl _,by simp⟩
 ·rintro a ⟨c,a'⟩ ha ⟨e1,cur,e2,hC,hlw,hA⟩;simp only at e1 e2;subst e1 e2;have hcl:=hC.len;have hlo:i*(statesS t).length+cur.length<=l.length:=by omega
  obtain ⟨r,m,hst,hge,hm,p1,p2,p3⟩:=garc_use hT (List.mem_of_getElem? hq) (List.getElem_mem ha);obtain ⟨v,hv⟩:=hC.get hkl;have hJ:∀ cur',Col t (s.drop i) (3072*(s.length-i)) (statesS t) cur'->Low cur cur'->A1 t (s.drop i) cur' k (garcsOf t q)[a]->Tot (λ n=>FRv_graph_columns_1_J2 n (a:Int) (spl l (i*(statesS t).length) cur')) (Rd2 (λ x:List Int×Int=>x.2=((a+1:Nat):Int)/\∃ cur,x.1=spl l (i*(statesS t).length) cur/\Col t (s.drop i) (3072*(s.length-i)) (statesS t) cur/\Low cur1 cur/\∀ g∈(garcsOf t q).take (a+1),A1 t (s.drop i) cur k g) (λ y=>∃ cur,y=spl l (i*(statesS t).length) cur/\Col t (s.drop i) (3072*(s.length-i)) (statesS t) cur/\Low cur1 cur/\∀ g∈garcsOf t q,A1 t (s.drop i) cur k g)):=by
   intro cur' hC' hl' hA';unfold FRv_graph_columns_1_J2;refine Tot.pure ⟨inc64 (by omega),cur',rfl,hC',λ j w hw h0=>?_,λ g hg=>?_⟩
   ·obtain ⟨w1,g1,g2,g3⟩:=hlw j w hw h0;obtain ⟨w2,g4,g5,g6⟩:=hl' j w1 g1 g2;exact ⟨w2,g4,g5,by omega⟩
   ·rw [List.take_add_one,List.getElem?_eq_getElem ha,List.mem_append] at hg;rcases hg with hg|hg
    ·exact (hA g hg).low hl'
    ·simp at hg;subst hg;exact hA'
  unfold FRv_graph_columns_1_L3;refine Tot.iteT (lt_d ha) (Tot.bindC (idx_lt ha) ?_);rw [hge] at hJ ⊢;simp only;by_cases hp:prt t r=[]
  ·refine Tot.gF (by simp [hp]) (Tot.gF (by simp [hp]) (Tot.iteF (by simp [hp]) (hJ cur hC (.refl _) λ h=>absurd hp h)))
  ·have hpl:0<(prt t r).length:=List.length_pos_iff.2 hp;refine Tot.gE (x:=s.drop i) (by simp [hp]) (Ev.all λ n=>?_) (Tot.gE (x:=(prt t r).isPrefixOf (s.drop i)) (by simp [hp]) (Ev.all λ n=>?_) (Tot.ite (λ h=>?_) λ h=>?_))
   ·rw [sub_d (by omega) (by omega) (by omega)];simp
   ·unfold FSt_HasPrefix FSl_HasPrefix;by_cases hle:(prt t r).length<=(s.drop i).length
    ·have hd:decide (((List.length (s.drop i):Nat):Int)>=((List.length (prt t r):Nat):Int))=true:=by simp only [ge_iff_le,decide_eq_true_eq];omega
     rw [if_pos hd,sub_pre (by omega),Option.bind_some,hd,Bool.true_and,Option.bind_some];congr 1;rw [Bool.eq_iff_iff,beq_iff_eq,List.isPrefixOf_iff_prefix];constructor
     ·intro h2;have:=List.take_prefix (prt t r).length (s.drop i);rw [h2] at this;exact this
     ·intro h2;exact (List.prefix_iff_eq_take.1 h2).symm
    ·have hd:decide (((List.length (s.drop i):Nat):Int)>=((List.length (prt t r):Nat):Int))=false:=by simp only [ge_iff_le,decide_eq_false_iff_not];omega
     rw [if_neg (by rw [hd];simp),Option.bind_some,hd,Bool.false_and,Option.bind_some];congr 1;rw [eq_comm,← Bool.not_eq_true,List.isPrefixOf_iff_prefix];intro hp';exact hle hp'.length_le
   ·have hb:(prt t r).isPrefixOf (s.drop i)=true:=by simpa [hp] using h
    obtain ⟨q1,q2⟩:=prefix_drop hb;have q2:=q2 hi;rw [add64 (by omega) (by omega)];have ep:(i:Int)+((List.length (prt t r):Nat):Int)=((i+(prt t r).length:Nat):Int):=by omega
    rw [ep];have hrg:=cost_rng hT hs q2 hm;refine Tot.bindA (λ n=>gsuffix_eq hT hs hL hcl hi (by omega) q2 hm s n) ?_;have hlq:=λ n=>lower_eq (l:=l) (cur:=cur) (lo:=i*(statesS t).length) (k:=k) (v:=v) (rest:=costS t (stepS t q r).1 (s.drop (i+(prt t r).length))) (cells:=((cls t r).length:Nat)) hlo hv (by omega) (by omega) n;rw [hcl] at hlq;refine Tot.bindA hlq ?_;have hy:∀ y,s.drop i=prt t r++y->y=s.drop (i+(prt t r).length):=λ y hy=>by
     rw [q1] at hy;exact (List.append_cancel_left hy).symm
    by_cases hc:costS t (stepS t q r).1 (s.drop (i+(prt t r).length))<0\/(0<=v/\v<=costS t (stepS t q r).1 (s.drop (i+(prt t r).length))+((cls t r).length:Nat))
    ·rw [if_pos hc];refine hJ cur hC (.refl _) λ _ y hyy q' hq' h0=>?_;simp only [Int.toNat_natCast] at hq' hyy ⊢;rw [hm] at hq';cases hq';rw [hy y hyy] at h0 ⊢;exact ⟨v,hv,by omega,by omega⟩
    ·rw [if_neg hc];have hfin:=finC_le cur;have hbd:costS t (stepS t q r).1 (s.drop (i+(prt t r).length))<=((3072*(s.length-i):Nat):Int):=by
      have:3072*(s.length-(i+(prt t r).length)+1)<=3072*(s.length-i):=by omega
      omega
     have hlow:=hC.lower (c:=costS t (stepS t q r).1 (s.drop (i+(prt t r).length))+((cls t r).length:Nat)) hq hv (by
      have:=way_next hst (costS_way (t:=t) (q:=(stepS t q r).1) (x:=s.drop (i+(prt t r).length)) (by omega));rwa [← q1] at this) (by omega) (by omega) (B:=20000000) (by omega)
     refine hJ _ hlow.1 (.set hv (by omega) (by omega)) λ _ y hyy q' hq' h0=>?_;simp only [Int.toNat_natCast] at hq' hyy ⊢;rw [hm] at hq';cases hq';rw [hy y hyy];exact ⟨_,List.getElem?_set_self (by omega),by omega,by omega⟩
   ·have hb:(prt t r).isPrefixOf (s.drop i)=false:=by simpa [hp] using h
    refine hJ cur hC (.refl _) λ _ y hyy=>?_;simp only at hyy;rw [hyy] at hb;rw [← Bool.not_eq_true,List.isPrefixOf_iff_prefix] at hb;exact absurd (List.prefix_append _ _) hb
 ·rintro ⟨c,a'⟩ ⟨e1,cur,e2,hC,hlw,hA⟩;simp only at e1 e2;subst e1 e2;rw [List.take_length] at hA;unfold FRv_graph_columns_1_L3;exact Tot.iteF (by simp) (Tot.pure ⟨cur,rfl,hC,hlw,hA⟩)
theorem col2_ev {i:Nat} (hi:i<=s.length) {l ls cur1:List Int} (hL:Lat t s i l ls) (h1:Col t (s.drop i) (3072*(s.length-i)) (statesS t) cur1) :
  Tot (λ n=>whl (λ (x:((List Int)×Int))=>FRv_graph_columns_1_L2 n (i:Int) s (graphR t) (offR (statesS t).length (s.length+1)) ls (i*(statesS t).length,(statesS t).length) x.1 x.2) n (spl l (i*(statesS t).length) cur1,0))
   (λ y=>∃ cur,y=spl l (i*(statesS t).length) cur/\Col t (s.drop i) (3072*(s.length-i)) (statesS t) cur/\∀ (j:Nat) q,(statesS t)[j]? = some q->∀ g∈garcsOf t q,A1 t (s.drop i) cur j g):=by
 have hlen:=len6 hT;have hgl:(graphR t).Arcs.length=(statesS t).length:=by simp [graphR]
 refine Tot.upto (body:=λ n x=>FRv_graph_columns_1_L2 n (i:Int) s (graphR t) (offR (statesS t).length (s.length+1)) ls (i*(statesS t).length,(statesS t).length) x.1 x.2) (statesS t).length (λ k x=>x.2=(k:Int)/\∃ cur,x.1=spl l (i*(statesS t).length) cur/\Col t (s.drop i) (3072*(s.length-i)) (statesS t) cur/\∀ (j:Nat) q,j<k->(statesS t)[j]? = some q->∀ g∈garcsOf t q,A1 t (s.drop i) cur j g) ?_ ?_ _ ⟨rfl,cur1,rfl,h1,by omega⟩
 ·rintro k ⟨c,k'⟩ hk ⟨e1,cur,e2,hC,hA⟩;simp only at e1 e2;subst e1 e2;have hq:(statesS t)[k]? = some (statesS t)[k]:=List.getElem?_eq_getElem hk;unfold FRv_graph_columns_1_L2;have hix:idx (graphR t).Arcs (k:Int)=some (garcsOf t (statesS t)[k]):=idx_at (by simp [graphR,hk]);refine Tot.iteT (by rw [hgl];exact lt_d hk) (Tot.bindC hix (Tot.bind (col3_ev hT hs hi hL hq hC (graphR t)) ?_));rintro _ ⟨cur',rfl,hC',hlw,hA'⟩;refine Tot.pure ⟨inc64 (by omega),cur',rfl,hC',λ j q hj hjq g hg=>?_⟩;by_cases e:k=j
  ·subst e;rw [hq] at hjq;cases hjq;exact hA' g hg
  ·exact (hA j q (by omega) hjq g hg).low hlw
 ·rintro ⟨c,k'⟩ ⟨e1,cur,e2,hC,hA⟩;simp only at e1 e2;subst e1 e2;unfold FRv_graph_columns_1_L2;exact Tot.iteF (by rw [hgl];simp) (Tot.pure ⟨cur,rfl,hC,λ j q hq=>hA j q (getElem?_lt' hq) hq⟩)
end
end Go.AI
end
section
namespace Go.AI
section
variable {t:GTable} (hT:Tab6 t) {s:List UInt8} (hs:s.length<=4000)
include hT hs
theorem col6_ev {i lo:Nat} {l:List Int} (hlo0:lo+(statesS t).length<=l.length) {cur0 cur1:List Int} {ch1:Bool} {k:Nat} {q:GState} (hq:(statesS t)[k]? = some q) (h1:PasR t (s.drop i) (3072*(s.length-i)) 20000000 cur0 cur1 ch1 k 0) (x0:List UInt8) (gr:GGraph) (offs:List (Nat×Nat)) (ls:List Int) :
  Tot (λ n=>whl (λ (x:((List Int)×Bool×Int))=>FRv_graph_columns_1_L6 n x0 gr offs ls (lo,(statesS t).length) (k:Int) (garcsOf t q) x.1 x.2.1 x.2.2) n (spl l lo cur1,ch1,0))
   (λ y=>∃ cur,y.1=spl l lo cur/\PasR t (s.drop i) (3072*(s.length-i)) 20000000 cur0 cur y.2 k (garcsOf t q).length):=by
 have hlen:=len6 hT;have hrl:=hT.tab.1;have hgl:=garcs_len t q;have hkl:=getElem?_lt' hq;refine Tot.upto (body:=λ n x=>FRv_graph_columns_1_L6 n x0 gr offs ls (lo,(statesS t).length) (k:Int) (garcsOf t q) x.1 x.2.1 x.2.2) (garcsOf t q).length (λ a x=>x.2.2=(a:Int)/\∃ cur,x.1=spl l lo cur/\PasR t (s.drop i) (3072*(s.length-i)) 20000000 cur0 cur x.2.1 k a) ?_ ?_ _ ⟨rfl,cur1,rfl,h1⟩
 ·rintro a ⟨c,ch,a'⟩ ha ⟨e1,cur,e2,hP⟩;simp only at e1 e2 hP;subst e1 e2;have hC:=hP.col;have hcl:=hC.len;have hlo:lo+cur.length<=l.length:=by omega
  obtain ⟨r,m,hst,hge,hm,p1,p2,p3⟩:=garc_use hT (List.mem_of_getElem? hq) (List.getElem_mem ha);obtain ⟨v,hv⟩:=hC.get hkl;have hml:=getElem?_lt' hm;obtain ⟨w,hw⟩:=hC.get hml;have hJ:∀ cur' ch',PasR t (s.drop i) (3072*(s.length-i)) 20000000 cur0 cur' ch' k (a+1)->Tot (λ n=>FRv_graph_columns_1_J3 n (a:Int) (spl l lo cur') ch') (Rd2 (λ x:List Int×Bool×Int=>x.2.2=((a+1:Nat):Int)/\∃ cur,x.1=spl l lo cur/\PasR t (s.drop i) (3072*(s.length-i)) 20000000 cur0 cur x.2.1 k (a+1)) (λ y=>∃ cur,y.1=spl l lo cur/\PasR t (s.drop i) (3072*(s.length-i)) 20000000 cur0 cur y.2 k (garcsOf t q).length)):=by
   intro cur' ch' h;unfold FRv_graph_columns_1_J3;exact Tot.pure ⟨inc64 (by omega),cur',rfl,h⟩
  have hskip:A2 cur k (garcsOf t q)[a]->PasR t (s.drop i) (3072*(s.length-i)) 20000000 cur0 cur ch k (a+1):=by
   intro hA;refine ⟨hC,hP.all,λ hc=>?_,hP.less⟩;obtain ⟨g1,g2,g3⟩:=hP.same hc;refine ⟨g1,g2,λ q' hq' g hg=>?_⟩;rw [hq] at hq';cases hq';rw [List.take_add_one,List.getElem?_eq_getElem ha,List.mem_append] at hg;rcases hg with hg|hg
   ·exact g3 q hq g hg
   ·simp at hg;subst hg;rw [← g1];exact hA
  unfold FRv_graph_columns_1_L6;refine Tot.iteT (lt_d ha) (Tot.bindC (idx_lt ha) ?_);rw [hge] at hskip ⊢;simp only;by_cases hp:prt t r=[]
  ·have hpd:(prt t r==[])=true:=by simp [hp]
   have hix:ixP (spl l lo cur) (lo,(statesS t).length) (m:Int)=some w:=ixP_at hml (by rw [splR_get hlo (by omega)];exact hw);refine Tot.gE hpd (Ev.all λ n=>hix) (Tot.iteT hpd ?_);have hwt:=hC.top hw;have hlq:=λ n=>lower_eq (l:=l) (cur:=cur) (lo:=lo) (k:=k) (v:=v) (rest:=w) (cells:=((cls t r).length:Nat)) hlo hv (by omega) (by omega) n;rw [hcl] at hlq;refine Tot.bindA hlq ?_;by_cases hc:w<0\/(0<=v/\v<=w+((cls t r).length:Nat))
   ·rw [if_pos hc];refine Tot.iteF (by simp) (hJ cur ch (hskip λ _ w' hw' h0=>?_));simp only [Int.toNat_natCast] at hw' ⊢;rw [hw] at hw';cases hw';exact ⟨v,hv,by omega,by omega⟩
   ·rw [if_neg hc];refine Tot.iteT (by simp [hp]) ?_;obtain ⟨v',hv',hd⟩:=hC.ach m _ hm;rw [hw] at hv';cases hv';have hbn:=hC.bnd m w hw;have hfin:=finC_le cur;have hlow:=hC.lower (c:=w+((cls t r).length:Nat)) hq hv (by
     have:=way_next hst (hd.resolve_left (by omega));rwa [hp,List.nil_append] at this) (by omega) (by omega) (B:=20000000) (by omega)
    refine hJ _ _ ⟨hlow.1,λ j q' hj g hg=>(hP.all j q' hj g hg).low (.set hv (by omega) (by omega)),(λ h=>by cases h),λ _=>?_⟩;cases hch:ch with
    | false=>rw [← (hP.same hch).1];exact hlow.2
    | true=>have:=hP.less hch;have:=hlow.2;omega
  ·have hpd:(prt t r==[])=false:=by simp [hp]
   refine Tot.gF hpd (Tot.iteF hpd (Tot.iteF (by simp) (hJ cur ch (hskip λ h=>absurd h hp))))
 ·rintro ⟨c,ch,a'⟩ ⟨e1,cur,e2,hP⟩;simp only at e1 e2 hP;subst e1 e2;unfold FRv_graph_columns_1_L6;exact Tot.iteF (by simp) (Tot.pure ⟨cur,rfl,hP⟩)
theorem col5_ev {i lo:Nat} {l:List Int} (hlo0:lo+(statesS t).length<=l.length) {cur0:List Int} (h1:Col t (s.drop i) (3072*(s.length-i)) (statesS t) cur0) (h2:∀ (j:Nat) q,(statesS t)[j]? = some q->∀ g∈garcsOf t q,A1 t (s.drop i) cur0 j g) (x0:List UInt8) (offs:List (Nat×Nat)) (ls:List Int) :
  Tot (λ n=>whl (λ (x:((List Int)×Bool×Int))=>FRv_graph_columns_1_L5 n x0 (graphR t) offs ls (lo,(statesS t).length) x.1 x.2.1 x.2.2) n (spl l lo cur0,false,0))
   (λ y=>∃ cur,y.1=spl l lo cur/\PasR t (s.drop i) (3072*(s.length-i)) 20000000 cur0 cur y.2 (statesS t).length 0):=by
 have hlen:=len6 hT;have hgl:(graphR t).Arcs.length=(statesS t).length:=by simp [graphR]
 refine Tot.upto (body:=λ n x=>FRv_graph_columns_1_L5 n x0 (graphR t) offs ls (lo,(statesS t).length) x.1 x.2.1 x.2.2) (statesS t).length (λ k x=>x.2.2=(k:Int)/\∃ cur,x.1=spl l lo cur/\PasR t (s.drop i) (3072*(s.length-i)) 20000000 cur0 cur x.2.1 k 0) ?_ ?_ _ ⟨rfl,cur0,rfl,h1,h2,λ _=>⟨rfl,by omega,by simp⟩,λ h=>by cases h⟩
 ·rintro k ⟨c,ch,k'⟩ hk ⟨e1,cur,e2,hP⟩;simp only at e1 e2 hP;subst e1 e2;have hq:(statesS t)[k]? = some (statesS t)[k]:=List.getElem?_eq_getElem hk;unfold FRv_graph_columns_1_L5;have hix:idx (graphR t).Arcs (k:Int)=some (garcsOf t (statesS t)[k]):=idx_at (by simp [graphR,hk]);refine Tot.iteT (by rw [hgl];exact lt_d hk) (Tot.bindC hix (Tot.bind (col6_ev hT hs hlo0 hq hP x0 (graphR t) offs ls) ?_));rintro ⟨_,ch'⟩ ⟨cur',rfl,hP'⟩;refine Tot.pure ⟨inc64 (by omega),cur',rfl,hP'.col,hP'.all,λ hc=>?_,hP'.less⟩;obtain ⟨g1,g2,g3⟩:=hP'.same hc;refine ⟨g1,λ j q hj hjq g hg=>?_,by simp⟩;by_cases e:k=j
  ·subst e;rw [hq] at hjq;cases hjq;exact g3 _ hq g (by rw [List.take_length];exact hg)
  ·exact g2 j q (by omega) hjq g hg
 ·rintro ⟨c,ch,k'⟩ ⟨e1,cur,e2,hP⟩;simp only at e1 e2 hP;subst e1 e2;unfold FRv_graph_columns_1_L5;exact Tot.iteF (by rw [hgl];simp) (Tot.pure ⟨cur,rfl,hP⟩)
theorem col4_ev {i lo:Nat} {l:List Int} (hlo0:lo+(statesS t).length<=l.length) {cur0:List Int} (h1:Col t (s.drop i) (3072*(s.length-i)) (statesS t) cur0) (h2:∀ (j:Nat) q,(statesS t)[j]? = some q->∀ g∈garcsOf t q,A1 t (s.drop i) cur0 j g) (x0:List UInt8) (offs:List (Nat×Nat)) (ls:List Int) :
  Tot (λ n=>whl (λ (x:((List Int)×Bool))=>FRv_graph_columns_1_L4 n x0 (graphR t) offs ls (lo,(statesS t).length) x.1 x.2) n (spl l lo cur0,true))
   (λ y=>y=spl l lo (rowR t (s.drop i))):=by
 refine Tot.whl (body:=λ n x=>FRv_graph_columns_1_L4 n x0 (graphR t) offs ls (lo,(statesS t).length) x.1 x.2) (λ m x=>∃ cur,x.1=spl l lo cur/\Col t (s.drop i) (3072*(s.length-i)) (statesS t) cur/\(∀ (j:Nat) q,(statesS t)[j]? = some q->∀ g∈garcsOf t q,A1 t (s.drop i) cur j g)/\((x.2=true/\m=phi 20000000 cur+1)\/(x.2=false/\m=0/\∀ (j:Nat) q,(statesS t)[j]? = some q->∀ g∈garcsOf t q,A2 cur j g))) ?_ (phi 20000000 cur0+1) (spl l lo cur0,true) ⟨cur0,rfl,h1,h2,.inl ⟨rfl,rfl⟩⟩;rintro m ⟨c,ch⟩ ⟨cur,e2,hC,hA,hm⟩;simp only at e2 hm;subst e2;unfold FRv_graph_columns_1_L4;rcases hm with ⟨rfl,rfl⟩|⟨rfl,rfl,hR⟩
 ·refine Tot.iteT rfl (Tot.bind (col5_ev hT hs hlo0 hC hA x0 offs ls) ?_);rintro ⟨_,ch'⟩ ⟨cur',rfl,hP⟩;simp only at hP;cases ch' with
  | false=>
   obtain ⟨g1,g2,_⟩:=hP.same rfl;subst g1;exact Tot.pure ⟨0,by omega,cur',rfl,hC,hA,.inr ⟨rfl,rfl,λ j q hq=>g2 j q (getElem?_lt' hq) hq⟩⟩
  | true=>
   have:=hP.less rfl;exact Tot.pure ⟨phi 20000000 cur'+1,by omega,cur',rfl,hP.col,hP.all,.inl ⟨rfl,rfl⟩⟩
 ·refine Tot.iteF rfl (Tot.pure ?_);show spl l lo cur=spl l lo (rowR t (s.drop i));congr 1;refine List.ext_getElem? λ j=>?_;rcases Nat.lt_or_ge j (statesS t).length with hj|hj
  ·have hq:(statesS t)[j]? = some (statesS t)[j]:=List.getElem?_eq_getElem hj;rw [hC.exact (nod6 hT) ⟨λ j q k hjq hst hp y hy hc=>?_⟩ ⟨λ j q k hjq hst hp=>?_⟩ hq]
   ·unfold rowR;rw [List.getElem?_map,hq];rfl
   ·have hk:=stepS_in hst;obtain ⟨m,hm,hmg⟩:=indexS_in (closed6 hT (List.mem_of_getElem? hjq) hst);have:=hA j q hjq _ (mem_garcs.2 ⟨k,by omega,hst,rfl⟩) hp y hy (stepS t q k).1 (by rw [hm];simpa using hmg) hc;simpa using this
   ·have hk:=stepS_in hst;obtain ⟨m,hm,hmg⟩:=indexS_in (closed6 hT (List.mem_of_getElem? hjq) hst);obtain ⟨w,hw⟩:=hC.get (getElem?_lt' hmg);refine ⟨m,w,hmg,hw,λ h0=>?_⟩;exact hR j q hjq _ (mem_garcs.2 ⟨k,by omega,hst,rfl⟩) hp w (by rw [hm];simpa using hw) h0
  ·rw [List.getElem?_eq_none (by rw [hC.len];exact hj),List.getElem?_eq_none (by simp [rowR];exact hj)]
omit hT hs in
theorem red1_ev {l cur:List Int} {lo:Nat} (hlo:lo+cur.length<=l.length) (hl:cur.length<1000000):Tot (λ n=>whl (λ (x:(Int×Int))=>FRv_reduce_L1 n (lo,cur.length) (spl l lo cur) x.1 x.2) n (-1,0)) (λ y=>y=lstR cur):=by
 refine Tot.upto (body:=λ n x=>FRv_reduce_L1 n (lo,cur.length) (spl l lo cur) x.1 x.2) cur.length (λ k x=>x.2=(k:Int)/\x.1=(cur.take k).foldl minR (-1)) ?_ ?_ _ ⟨rfl,rfl⟩
 ·rintro k ⟨a,k'⟩ hk ⟨e1,e2⟩;simp only at e1 e2;subst e1;have hJ:∀ b,b=minR a cur[k]->Tot (λ n=>FRv_reduce_J1 n (k:Int) b) (Rd2 (λ x:Int×Int=>x.2=((k+1:Nat):Int)/\x.1=(cur.take (k+1)).foldl minR (-1)) (λ y=>y=lstR cur)):=by
   intro b hb;unfold FRv_reduce_J1;exact Tot.pure ⟨inc64 (by omega),by rw [take_fold hk,← e2];exact hb⟩
  unfold FRv_reduce_L1;refine Tot.iteT (lt_d hk) (Tot.bindC (ixP_at hk (v:=cur[k]) (by rw [splR_get hlo hk];exact List.getElem?_eq_getElem hk)) (Tot.ite (λ h=>hJ _ ?_) λ h=>hJ _ ?_))
  ·simp only [Bool.and_eq_true,Bool.or_eq_true,decide_eq_true_eq] at h;unfold minR;rw [if_pos ⟨h.1,h.2⟩]
  ·unfold minR;rw [if_neg];intro hc;rw [← Bool.not_eq_true] at h;refine h ?_;simp only [Bool.and_eq_true,Bool.or_eq_true,decide_eq_true_eq];exact ⟨hc.1,hc.2⟩
 ·rintro ⟨a,k'⟩ ⟨e1,e2⟩;simp only at e1 e2;subst e1;rw [List.take_length] at e2;unfold FRv_reduce_L1;exact Tot.iteF (by simp) (Tot.pure e2)
omit hT hs in
theorem red2_ev {l cur:List Int} {lo:Nat} (hlo:lo+cur.length<=l.length) (hl:cur.length<1000000) (hb:∀ v∈cur,-1<=v/\v<=13000000):Tot (λ n=>whl (λ (x:((List Int)×Int))=>FRv_reduce_L2 n (lo,cur.length) (lstR cur) x.1 x.2) n (spl l lo cur,0)) (λ y=>y=spl l lo (nrmR cur)):=by
 have hlr:=lst_range (by decide) hb;refine Tot.upto (body:=λ n x=>FRv_reduce_L2 n (lo,cur.length) (lstR cur) x.1 x.2) cur.length (λ k x=>x.2=(k:Int)/\x.1=spl l lo ((nrmR cur).take k++cur.drop k)) ?_ ?_ _ ⟨rfl,by simp⟩
 ·rintro k ⟨c,k'⟩ hk ⟨e1,e2⟩;simp only at e1 e2;subst e1 e2;have hnl:(nrmR cur).length=cur.length:=by simp [nrmR]
  have hml:((nrmR cur).take k++cur.drop k).length=cur.length:=by simp;omega
  have hlm:lo+((nrmR cur).take k++cur.drop k).length<=l.length:=by omega
  have htk:((nrmR cur).take k).length=k:=by simp;omega
  have hg:((nrmR cur).take k++cur.drop k)[k]? = some cur[k]:=by
   rw [List.getElem?_append_right (by omega),htk,List.getElem?_drop,Nat.sub_self,Nat.add_zero];exact List.getElem?_eq_getElem hk
  have hbk:=hb _ (List.getElem_mem hk);have hn:(nrmR cur)[k]? = some (if cur[k]<0 then -1 else cur[k]-lstR cur):=by rw [nrmR,List.getElem?_map,List.getElem?_eq_getElem hk];rfl
  have hset:∀ v,(nrmR cur)[k]? = some v->((nrmR cur).take k++cur.drop k).set k v=(nrmR cur).take (k+1)++cur.drop (k+1):=by
   intro v hv;refine List.ext_getElem? λ j=>?_;by_cases e:k=j
   ·subst e;rw [List.getElem?_set_self (by omega),List.getElem?_append_left (by simp;omega),List.getElem?_take_of_lt (by omega),hv]
   ·rw [List.getElem?_set_ne e];by_cases hj:j<k
    ·rw [List.getElem?_append_left (by omega),List.getElem?_append_left (by simp;omega),List.getElem?_take_of_lt hj,List.getElem?_take_of_lt (by omega)]
    ·have:((nrmR cur).take (k+1)).length=k+1:=by simp;omega
     rw [List.getElem?_append_right (by omega),List.getElem?_append_right (by omega),List.getElem?_drop,List.getElem?_drop];congr 1;omega
  have hJ:∀ c',c'=spl l lo ((nrmR cur).take (k+1)++cur.drop (k+1))->Tot (λ n=>FRv_reduce_J2 n (k:Int) c') (Rd2 (λ x:List Int×Int=>x.2=((k+1:Nat):Int)/\x.1=spl l lo ((nrmR cur).take (k+1)++cur.drop (k+1))) (λ y=>y=spl l lo (nrmR cur))):=by
   intro c' hc';unfold FRv_reduce_J2;exact Tot.pure ⟨inc64 (by omega),hc'⟩
  have hix:ixP (spl l lo ((nrmR cur).take k++cur.drop k)) (lo,cur.length) (k:Int)=some cur[k]:=ixP_at hk (by rw [splR_get hlm (by omega)];exact hg);unfold FRv_reduce_L2;refine Tot.iteT (lt_d hk) (Tot.bindC hix (Tot.ite (λ h=>?_) λ h=>hJ _ ?_))
  ·have h0:0<=cur[k]:=by simpa using h
   have hle:=lst_le (List.getElem_mem hk) h0;refine Tot.bindC hix ?_;rw [Int.toNat_natCast];refine Tot.bindC (put_at (by rw [splR_len hlm];omega)) (hJ _ ?_);rw [splR_set hlm (by omega),sub64 (by omega) (by omega),hset _ (by rw [hn,if_neg (by omega)])]
  ·have h0:cur[k]<0:=by simpa using h
   rw [← hset (-1) (by rw [hn,if_pos h0])];refine congrArg (spl l lo) ?_;refine List.ext_getElem? λ j=>?_;by_cases e:k=j
   ·subst e;rw [List.getElem?_set_self (by omega),hg];congr 1;omega
   ·rw [List.getElem?_set_ne e]
 ·rintro ⟨c,k'⟩ ⟨e1,e2⟩;simp only at e1 e2;subst e1 e2;unfold FRv_reduce_L2;refine Tot.iteF (by simp) (Tot.pure ?_);show spl l lo _=_;rw [List.drop_length,List.append_nil,List.take_of_length_le (by simp [nrmR])]
theorem col_ev {i:Nat} (hi:i<=s.length) {l ls:List Int} (hL:Lat t s i l ls) :
  Ev (λ n=>FRv_graph_columns_1 n (i:Int) s (graphR t) (offR (statesS t).length (s.length+1)) ls l) (spl l (i*(statesS t).length) (nrmR (rowR t (s.drop i))),lstR (rowR t (s.drop i))):=by
 have hlen:=len6 hT;have hlo0:i*(statesS t).length+(statesS t).length<=l.length:=by rw [hL.len];exact part_le (by omega)
 have hr:=row_rng hT hs hi;refine Tot.ev ?_;unfold FRv_graph_columns_1;refine Tot.bindC (off_at (by omega)) ?_;have hcut:=splR_cut hlo0;have hcl:((l.drop (i*(statesS t).length)).take (statesS t).length).length=(statesS t).length:=by simp;omega
 have h1:=col1_ev hT hs hi (l:=l) (cur0:=(l.drop (i*(statesS t).length)).take (statesS t).length) hcl (by omega) (offR (statesS t).length (s.length+1)) ls;rw [hcut] at h1;refine Tot.bind h1 ?_;rintro _ rfl;refine Tot.bind (col2_ev hT hs hi hL (first_col t _ _ _)) ?_;rintro _ ⟨cur,rfl,hC,hA⟩;refine Tot.bind (col4_ev hT hs hlo0 hC hA s _ ls) ?_;rintro _ rfl;refine Tot.bind (R:=λ y=>y=(spl l (i*(statesS t).length) (nrmR (rowR t (s.drop i))),lstR (rowR t (s.drop i)))) ?_ (λ y hy=>by subst hy;exact Tot.pure rfl);have hlr:i*(statesS t).length+(rowR t (s.drop i)).length<=l.length:=by omega
 have r1:=red1_ev hlr (by omega);have r2:=red2_ev hlr (by omega) (λ v hv=>row_top hT hs hi hv);rw [hr.1] at r1 r2;unfold FRv_reduce;refine Tot.bind r1 ?_;rintro _ rfl;refine Tot.bind r2 ?_;rintro _ rfl;exact Tot.pure rfl
end
end Go.AI
end
section
namespace Go.AI
structure ColsAt (t:GTable) (s:List UInt8) (P:Nat->Prop) (l ls:List Int):Prop where
 len:l.length=(statesS t).length*(s.length+1)
 ll:ls.length=s.length+1
 col:∀ p,P p->p<=s.length->(l.drop (p*(statesS t).length)).take (statesS t).length=nrmR (rowR t (s.drop p))
 lst:∀ p,P p->p<=s.length->ls[p]? = some (lstR (rowR t (s.drop p)))
theorem ColsAt.mono {t:GTable} {s:List UInt8} {P R:Nat->Prop} {l ls:List Int} (h:ColsAt t s P l ls) (hr:∀ p,p<=s.length->R p->P p):ColsAt t s R l ls:=⟨h.len,h.ll,λ p hp hl=>h.col p (hr p hl hp) hl,λ p hp hl=>h.lst p (hr p hl hp) hl⟩
theorem ColsAt.lat {t:GTable} {s:List UInt8} {i:Nat} {P:Nat->Prop} {l ls:List Int} (h:ColsAt t s P l ls) (hr:∀ p,p<=s.length->i<p->P p):Lat t s i l ls:=⟨h.len,h.ll,λ p h1 h2=>h.col p (hr p h2 h1) h2,λ p h1 h2=>h.lst p (hr p h2 h1) h2⟩
section
variable {t:GTable} (hT:Tab6 t) {s:List UInt8} (hs:s.length<=4000)
theorem nrm_len (t:GTable) (x:List UInt8):(nrmR (rowR t x)).length=(statesS t).length:=by simp [nrmR,rowR]
theorem ColsAt.set {P:Nat->Prop} {l ls:List Int} (h:ColsAt t s P l ls) {i:Nat} (hi:i<=s.length):ColsAt t s (λ p=>P p\/p=i) (spl l (i*(statesS t).length) (nrmR (rowR t (s.drop i)))) (ls.set i (lstR (rowR t (s.drop i)))):=by
 have hnl:=nrm_len t (s.drop i);have hlo0:i*(statesS t).length+(nrmR (rowR t (s.drop i))).length<=l.length:=by rw [h.len,hnl];exact part_le (by omega)
 have hll:=h.ll;refine ⟨by rw [splR_len hlo0];exact h.len,by rw [List.length_set];exact h.ll,λ p h1 h2=>?_,λ p h1 h2=>?_⟩
 ·by_cases e:p=i
  ·subst e;have:=splR_same hlo0;rwa [hnl] at this
  ·rw [splR_other hlo0]
   ·exact h.col p (h1.resolve_right e) h2
   ·rw [hnl];rcases Nat.lt_or_gt_of_ne e with e|e
    ·exact .inl (part_ne e)
    ·exact .inr (part_ne e)
 ·by_cases e:i=p
  ·subst e;exact List.getElem?_set_self (by omega)
  ·rw [List.getElem?_set_ne e];exact h.lst p (h1.resolve_right λ h=>e h.symm) h2
theorem ColsAt.memo {P:Nat->Prop} {l ls:List Int} (h:ColsAt t s P l ls) (hp:∀ p,p<=s.length->P p):cutG l (offR (statesS t).length (s.length+1))=some ()/\(⟨s,cutL l (offR (statesS t).length (s.length+1)),ls⟩:GMemo)=memoR t s:=by
 constructor
 ·unfold cutG guardB;rw [if_pos];rw [List.all_eq_true];intro x hx;simp only [offR,List.mem_map,List.mem_range] at hx;obtain ⟨i,hi,rfl⟩:=hx;rw [decide_eq_true_eq,h.len];exact part_le hi
 ·unfold memoR cutL offR;rw [List.map_map];congr 1
  ·refine List.map_congr_left λ i hi=>?_;have:=List.mem_range.1 hi;exact h.col i (hp i (by omega)) (by omega)
  ·refine List.ext_getElem? λ j=>?_;rw [List.getElem?_map];rcases Nat.lt_or_ge j (s.length+1) with hj|hj
   ·rw [h.lst j (hp j (by omega)) (by omega),List.getElem?_range hj];rfl
   ·rw [List.getElem?_eq_none (by rw [h.ll];exact hj),List.getElem?_eq_none (by simpa using hj)];rfl
include hT hs
theorem empty_ev:Ev (λ n=>FRv_graph_emptyx n s (graphR t)) (offR (statesS t).length (s.length+1),List.replicate (s.length+1) 0,List.replicate ((statesS t).length*(s.length+1)) 0):=by
 have hlen:=len6 hT;have hgl:(graphR t).Arcs.length=(statesS t).length:=by simp [graphR]
 have hmul:(statesS t).length*(s.length+1)<=768*4001:=Nat.mul_le_mul hlen (by omega);refine Tot.ev ?_;unfold FRv_graph_emptyx;have e1:iadd .i64 ((s.length:Nat):Int) 1=((s.length+1:Nat):Int):=inc64 (by omega);rw [e1,hgl];have e2:imul .i64 (((statesS t).length:Nat):Int) ((s.length+1:Nat):Int)=(((statesS t).length*(s.length+1):Nat):Int):=by
  have:(((statesS t).length:Nat):Int)*((s.length+1:Nat):Int)=(((statesS t).length*(s.length+1):Nat):Int):=by push_cast;rfl
  unfold imul;rw [this];exact w64 (by omega) (by omega)
 rw [e2];refine Tot.bindC (mkl_d (by omega) (by omega)) (Tot.bindC (mkl_d (by omega) (by omega)) (Tot.bindC (mkl_d (by omega) (by omega)) ?_));simp only [Int.toNat_natCast,List.length_replicate];refine Tot.bind (R:=λ y=>y=offR (statesS t).length (s.length+1)) ?_ (λ y hy=>by subst hy;exact Tot.pure rfl);refine Tot.upto (body:=λ n x=>FRv_graph_emptyx_L1 n s (graphR t) _ _ x.1 x.2) (s.length+1) (λ k x=>x.2=(k:Int)/\x.1.length=s.length+1/\∀ j,j<k->x.1[j]? = some (j*(statesS t).length,(statesS t).length)) ?_ ?_ _ ⟨rfl,by simp,by omega⟩
 ·rintro k ⟨m,k'⟩ hk ⟨e3,h1,h2⟩;simp only at e3 h1 h2;subst e3;unfold FRv_graph_emptyx_L1;rw [e1,hgl];have hk1:(k+1)*(statesS t).length<=4001*768:=Nat.mul_le_mul (by omega) hlen;have hk0:(k+1)*(statesS t).length=k*(statesS t).length+(statesS t).length:=by rw [Nat.add_mul,Nat.one_mul]
  have hle:=part_le (S:=(statesS t).length) hk;have i1:iadd .i64 (k:Int) 1=((k+1:Nat):Int):=inc64 (by omega);have i2:imul .i64 (k:Int) (((statesS t).length:Nat):Int)=((k*(statesS t).length:Nat):Int):=by
   have:(k:Int)*(((statesS t).length:Nat):Int)=((k*(statesS t).length:Nat):Int):=by push_cast;rfl
   unfold imul;rw [this];exact w64 (by omega) (by omega)
  have i3:imul .i64 ((k+1:Nat):Int) (((statesS t).length:Nat):Int)=(((k+1)*(statesS t).length:Nat):Int):=by
   have:((k+1:Nat):Int)*(((statesS t).length:Nat):Int)=(((k+1)*(statesS t).length:Nat):Int):=by push_cast;rfl
   unfold imul;rw [this];exact w64 (by omega) (by omega)
  rw [i1,i2,i3,List.length_replicate];have hcut:cut3 ((statesS t).length*(s.length+1)) ((k*(statesS t).length:Nat):Int) (((k+1)*(statesS t).length:Nat):Int) (((k+1)*(statesS t).length:Nat):Int)=some ():=by
   unfold cut3 guardB;rw [if_pos];simp only [Bool.and_eq_true,decide_eq_true_eq];omega
  refine Tot.iteT (lt_d hk) (Tot.bindC hcut (Tot.bindC (idx_lt (show k<m.length by omega)) (Tot.bindC (put_at (show k<m.length by omega)) (Tot.pure ⟨rfl,by simp only [List.length_set];exact h1,λ j hj=>?_⟩))));by_cases e:k=j
  ·subst e;rw [List.getElem?_set_self (show k<m.length by omega)];simp only [Int.toNat_natCast,Nat.zero_add];congr 2;omega
  ·rw [List.getElem?_set_ne e];exact h2 j (by omega)
 ·rintro ⟨m,k'⟩ ⟨e3,h1,h2⟩;simp only at e3 h1 h2;subst e3;unfold FRv_graph_emptyx_L1;rw [e1];refine Tot.iteF (by simp) (Tot.pure (List.ext_getElem? λ j=>?_));rcases Nat.lt_or_ge j (s.length+1) with hj|hj
  ·rw [h2 j hj];simp [offR,hj]
  ·rw [List.getElem?_eq_none (show m.length<=j by omega),List.getElem?_eq_none (by simpa [offR] using hj)]
omit hT hs in
theorem empty_cols (t:GTable) (s:List UInt8):ColsAt t s (λ _=>False) (List.replicate ((statesS t).length*(s.length+1)) 0) (List.replicate (s.length+1) 0):=⟨by simp,by simp,λ _ h=>h.elim,λ _ h=>h.elim⟩
theorem start_ev (hx:s.all charS=true):Ev (λ n=>FRv_Start n t s) (memoR t s,0):=by
 refine Tot.ev ?_;unfold FRv_Start;have ht:=text_ev (s:=s) (by omega);rw [textS_ok hx] at ht;refine Tot.bindE ht (Tot.iteF rfl (Tot.bindE (graph_ev hT) (Tot.bindE (empty_ev hT hs) (Tot.bindC (y:=()) rfl ?_))));refine Tot.bind (R:=λ y=>ColsAt t s (λ _=>True) y.2 y.1) ?_ ?_
 ·refine Tot.whl (body:=λ n x=>FRv_Start_L1 n s (graphR t) _ x.1 x.2.1 x.2.2) (λ m x=>x.2.2=(m:Int)-1/\m<=s.length+1/\ColsAt t s (λ p=>m<=p) x.2.1 x.1) ?_ (s.length+1) _ ⟨by simp,Nat.le_refl _,(empty_cols t s).mono λ p h1 h2=>by omega⟩;rintro m ⟨ls,l,i'⟩ ⟨e2,e3,hC⟩;simp only at e2 hC;subst e2;unfold FRv_Start_L1;cases m with
  | zero=>exact Tot.iteF (by simp) (Tot.pure (hC.mono λ p _ _=>by omega))
  | succ i=>
   have ei:((i+1:Nat):Int)-1=(i:Int):=by omega
   rw [ei];have hll:=hC.ll;refine Tot.iteT (by simp) (Tot.bindE (col_ev hT hs (show i<=s.length by omega) (hC.lat λ p _ h=>by omega)) (Tot.bindC (idx_lt (show i<ls.length by omega)) (Tot.bindC (put_at (show i<ls.length by omega)) (Tot.pure ⟨i,by omega,?_,by omega,?_⟩))))
   ·show isub .i64 (i:Int) 1=(i:Int)-1;rw [sub64 (by omega) (by omega)]
   ·exact (hC.set (show i<=s.length by omega)).mono λ p _ h=>by omega
 ·rintro ⟨ls,l⟩ hC;obtain ⟨h1,h2⟩:=hC.memo λ _ _=>trivial;refine Tot.bindC h1 (Tot.pure ?_);rw [h2]
end
end Go.AI
end
section
namespace Go.AI
def Sh (t:GTable) (d:Int) (x x':List UInt8):Prop:=∀ q∈statesS t,(costS t q x<0/\costS t q x'<0)\/(0<=costS t q x/\0<=costS t q x'/\costS t q x'=costS t q x+d)
def EqC (t:GTable) (d:Int) (x x':List UInt8):Prop:=nrmR (rowR t x)=nrmR (rowR t x')/\(0<=lstR (rowR t x)->lstR (rowR t x')-lstR (rowR t x)=d)
theorem row_at {t:GTable} {x:List UInt8} {j:Nat} {q:GState} (hq:(statesS t)[j]? = some q):(rowR t x)[j]? = some (costS t q x):=by unfold rowR;rw [List.getElem?_map,hq];rfl
theorem row_mem {t:GTable} {x:List UInt8} {v:Int}:v∈rowR t x↔∃ q∈statesS t,v=costS t q x:=by
 unfold rowR;rw [List.mem_map];constructor
 ·rintro ⟨q,h,rfl⟩;exact ⟨q,h,rfl⟩
 ·rintro ⟨q,h,rfl⟩;exact ⟨q,h,rfl⟩
theorem lst_row {t:GTable} (x:List UInt8):(lstR (rowR t x)=-1/\∀ q∈statesS t,costS t q x<0)\/(0<=lstR (rowR t x)/\(∃ q∈statesS t,lstR (rowR t x)=costS t q x)/\∀ q∈statesS t,0<=costS t q x->lstR (rowR t x)<=costS t q x):=by
 by_cases h:∃ q∈statesS t,0<=costS t q x
 ·obtain ⟨q,hq,h0⟩:=h;have h1:=lst_le (row_mem.2 ⟨q,hq,rfl⟩) h0;refine .inr ⟨h1.1,?_,λ q' hq' h0'=>(lst_le (row_mem.2 ⟨q',hq',rfl⟩) h0').2⟩;rcases lst_in (rowR t x) with h2|h2
  ·omega
  ·exact row_mem.1 h2
 ·have hn:∀ q∈statesS t,costS t q x<0:=λ q hq=>Int.not_le.1 λ h0=>h ⟨q,hq,h0⟩;refine .inl ⟨?_,hn⟩;rcases lst_in (rowR t x) with h2|h2
  ·exact h2
  ·obtain ⟨q,hq,e⟩:=row_mem.1 h2;have:=hn q hq;have:=costS_ge t q x;omega
theorem nrm_eq {t:GTable} {x:List UInt8} {j:Nat} {q:GState} (hq:(statesS t)[j]? = some q):(nrmR (rowR t x))[j]? = some (if costS t q x<0 then -1 else costS t q x-lstR (rowR t x)):=by
 rw [nrmR,List.getElem?_map,row_at hq];rfl
theorem EqC.sh {t:GTable} {d:Int} {x x':List UInt8} (h:EqC t d x x'):Sh t d x x':=by
 intro q hq;obtain ⟨j,hj,e⟩:=List.getElem_of_mem hq;have hg:(statesS t)[j]? = some q:=by rw [List.getElem?_eq_getElem hj,e]
 have he:=nrm_eq (x:=x) hg;rw [h.1,nrm_eq hg] at he;simp only [Option.some.injEq] at he;have g:=h.2;rcases lst_row (t:=t) x with ⟨a1,a2⟩|⟨a1,_,a3⟩
 ·have b1:=a2 q hq;rcases lst_row (t:=t) x' with ⟨c1,c2⟩|⟨c1,_,c3⟩
  ·exact .inl ⟨b1,c2 q hq⟩
  ·refine .inl ⟨b1,Int.not_le.1 λ h0=>?_⟩;have:=c3 q hq h0;rw [if_neg (by omega),if_pos b1] at he;omega
 ·rcases lst_row (t:=t) x' with ⟨c1,c2⟩|⟨c1,_,c3⟩
  ·have:=g a1;;have b2:=c2 q hq;refine .inl ⟨Int.not_le.1 λ h0=>?_,b2⟩;have:=a3 q hq h0;rw [if_pos b2,if_neg (by omega)] at he;omega
  ·have hd:=g a1;by_cases h0:costS t q x<0
   ·refine .inl ⟨h0,Int.not_le.1 λ h1=>?_⟩;have:=c3 q hq h1;rw [if_neg (by omega),if_pos h0] at he;omega
   ·by_cases h1:costS t q x'<0
    ·have:=a3 q hq (by omega);rw [if_pos h1,if_neg h0] at he;omega
    ·rw [if_neg h1,if_neg h0] at he;exact .inr ⟨by omega,by omega,by omega⟩
theorem Sh.lst {t:GTable} {d:Int} {x x':List UInt8} (h:Sh t d x x'):lstR (rowR t x')=if lstR (rowR t x)<0 then -1 else lstR (rowR t x)+d:=by
 rcases lst_row (t:=t) x with ⟨a1,a2⟩|⟨a1,⟨q,hq,e⟩,a3⟩
 ·rw [if_pos (by omega)];rcases lst_row (t:=t) x' with ⟨c1,c2⟩|⟨c1,⟨q',hq',e'⟩,c3⟩
  ·exact c1
  ·rcases h q' hq' with h1|h1
   ·omega
   ·have:=a2 q' hq';omega
 ·rw [if_neg (by omega)];have hh:=h q hq;rcases lst_row (t:=t) x' with ⟨c1,c2⟩|⟨c1,⟨q',hq',e'⟩,c3⟩
  ·have:=c2 q hq;omega
  ·have g1:=c3 q hq (by omega);have g2:=h q' hq';have g3:=a3 q' hq' (by omega);omega
theorem Sh.eqc {t:GTable} {d:Int} {x x':List UInt8} (h:Sh t d x x'):EqC t d x x':=by
 have hl:=h.lst;refine ⟨List.ext_getElem? λ j=>?_,λ h0=>by rw [hl,if_neg (by omega)];omega⟩;rcases Nat.lt_or_ge j (statesS t).length with hj|hj
 ·have hg:=List.getElem?_eq_getElem hj;rw [nrm_eq hg,nrm_eq hg];congr 1;rcases h _ (List.getElem_mem hj) with ⟨h1,h2⟩|⟨h1,h2,h3⟩
  ·rw [if_pos h1,if_pos h2]
  ·rw [if_neg (by omega),if_neg (by omega)];have:=(lst_le (row_mem.2 ⟨_,List.getElem_mem hj,rfl⟩) h1).1;rw [hl,if_neg (by omega)];omega
 ·rw [List.getElem?_eq_none (by rw [nrm_len];exact hj),List.getElem?_eq_none (by rw [nrm_len];exact hj)]
section
variable {t:GTable} (hT:Tab6 t)
include hT
theorem way_sh {d:Int} {x x':List UInt8} (h3:3<=x.length) (ht:x.take 3=x'.take 3) (hS:∀ k,1<=k->k<=3->∀ q∈statesS t,0<=costS t q (x.drop k)->0<=costS t q (x'.drop k)/\costS t q (x'.drop k)<=costS t q (x.drop k)+d) :
  ∀ (p:List Int) (q:GState),q∈statesS t->Way t q x p->∃ p',Way t q x' p'/\((lenK t p':Nat):Int)<=(lenK t p:Nat)+d:=by
 intro p;induction p with
 | nil=>intro q _ h;have:=h.nil.1;subst this;simp at h3
 | cons k p ih=>
  intro q hq h;obtain ⟨h1,y,h2,hw⟩:=h.uncons;rw [lenC_cons];obtain ⟨n,rfl⟩:∃ n:Nat,k=n:=⟨k.toNat,by have:=stepS_in h1;omega⟩;have hq':=closed6 hT hq h1;by_cases he:prt t n=[]
  ·rw [he,List.nil_append] at h2;subst h2;obtain ⟨p',g1,g2⟩:=ih _ hq' hw;have:=g1.cons h1;rw [he,List.nil_append] at this;exact ⟨_,this,by rw [lenC_cons];omega⟩
  ·have hpl:=(hT.pr h1).1;have hp0:0<(prt t n).length:=List.length_pos_iff.2 he;have hy:y=x.drop (prt t n).length:=by rw [h2,List.drop_left]
   have hx':x'=prt t n++x'.drop (prt t n).length:=by
    have e1:x.take (prt t n).length=prt t n:=by rw [h2,List.take_left]
    have e2:x'.take (prt t n).length=x.take (prt t n).length:=by
     have:=congrArg (List.take (prt t n).length) ht;rwa [List.take_take,List.take_take,Nat.min_eq_left hpl,eq_comm] at this
    have:=List.take_append_drop (prt t n).length x';rw [e2,e1] at this;exact this.symm
   have hc:=costS_le hw;rw [hy] at hc;have g:=hS _ hp0 hpl _ hq' hc.1;obtain ⟨p',g1,g2⟩:=costS_way g.1;have hn:=g1.cons h1;rw [← hx'] at hn;exact ⟨_,hn,by rw [lenC_cons];omega⟩
theorem Sh.step {d:Int} {x x':List UInt8} (h3:3<=x.length) (h3':3<=x'.length) (ht:x.take 3=x'.take 3) (hS:∀ k,1<=k->k<=3->Sh t d (x.drop k) (x'.drop k)):Sh t d x x':=by
 have f1:=way_sh hT (d:=d) h3 ht λ k h1 h2 q hq h0=>by
  rcases hS k h1 h2 q hq with h|h<;>omega
 have f2:=way_sh hT (d:=-d) h3' ht.symm λ k h1 h2 q hq h0=>by
  rcases hS k h1 h2 q hq with h|h<;>omega
 intro q hq;by_cases h0:0<=costS t q x
 ·obtain ⟨p,hp,e⟩:=costS_way h0;obtain ⟨p',hp',e'⟩:=f1 p q hq hp;have g:=costS_le hp';obtain ⟨p2,hp2,e2⟩:=costS_way g.1;obtain ⟨p3,hp3,e3⟩:=f2 p2 q hq hp2;have g3:=costS_le hp3;exact .inr ⟨h0,g.1,by omega⟩
 ·refine .inl ⟨by omega,Int.not_le.1 λ h1=>?_⟩;obtain ⟨p,hp,e⟩:=costS_way h1;obtain ⟨p',hp',e'⟩:=f2 p q hq hp;have:=(costS_le hp').1;omega
theorem Sh.all {d:Int} {s s':List UInt8} {i a:Nat} (ha:i+3<=a) (hl:a<=s.length) (hl':a<=s'.length) (ht:s.take a=s'.take a) (hS:∀ j,i<=j->j<=i+2->Sh t d (s.drop j) (s'.drop j)):∀ m j,j+m=i->Sh t d (s.drop j) (s'.drop j):=by
 intro m;induction m using Nat.strongRecOn with
 | _ m ih=>
  intro j hj;rcases Nat.eq_zero_or_pos m with rfl|h0
  ·exact hS j (by omega) (by omega)
  ·refine Sh.step hT (by simp;omega) (by simp;omega) ?_ λ k h1 h2=>?_
   ·have:=congrArg (λ l=>(List.drop j l).take 3) ht;simp only [List.drop_take,List.take_take] at this;rwa [Nat.min_eq_left (by omega)] at this
   ·rw [List.drop_drop,List.drop_drop];by_cases hk:k<=m
    ·exact ih (m-k) (by omega) (j+k) (by omega)
    ·exact hS (j+k) (by omega) (by omega)
end
end Go.AI
end
section
namespace Go.AI
def splicedS (s put:List UInt8) (a k:Nat):List UInt8:=s.take a++put++s.drop (a+k)
theorem spliced_len {s put:List UInt8} {a k:Nat} (h:a+k<=s.length):(splicedS s put a k).length=s.length-k+put.length:=by
 simp [splicedS];omega
theorem spliced_drop {s put:List UInt8} {a k:Nat} (h:a+k<=s.length) {i:Nat} (hi:a+put.length<=i):(splicedS s put a k).drop i=s.drop (i-put.length+k):=by
 unfold splicedS;have e:(s.take a++put).length=a+put.length:=by simp;omega
 rw [List.drop_append,List.drop_eq_nil_of_le (by omega),List.nil_append,e,List.drop_drop];congr 1;omega
theorem spliced_take {s put:List UInt8} {a k:Nat} (h:a+k<=s.length):(splicedS s put a k).take a=s.take a:=by
 unfold splicedS;rw [List.append_assoc,List.take_append_of_le_length (by simp;omega),List.take_take,Nat.min_self]
def StopR (t:GTable) (s s':List UInt8) (a i:Nat):Prop:=i+3<=a/\∃ d,∀ j,i<=j->j<=i+3->EqC t d (s.drop j) (s'.drop j)
def RestR (t:GTable) (s s':List UInt8) (a b r:Nat):Prop:=r<=b/\(∀ j,r<j->j<b->¬StopR t s s' a j)/\(r=0\/StopR t s s' a r)
theorem nrm_neg {t:GTable} {x x':List UInt8} (h:nrmR (rowR t x)=nrmR (rowR t x')):lstR (rowR t x)<0↔lstR (rowR t x')<0:=by
 have key:∀ {x x':List UInt8},nrmR (rowR t x)=nrmR (rowR t x')->lstR (rowR t x')<0->lstR (rowR t x)<0:=by
  intro x x' h hn;refine Int.not_le.1 λ h0=>?_;have hS:Sh t (lstR (rowR t x')-lstR (rowR t x)) x x':=EqC.sh ⟨h,λ _=>rfl⟩;rcases lst_row (t:=t) x with ⟨a1,_⟩|⟨_,⟨q,hq,e⟩,_⟩
  ·omega
  ·rcases hS q hq with h1|h1
   ·omega
   ·have:=(lst_le (row_mem.2 ⟨q,hq,rfl⟩) h1.2.1).1;omega
 exact ⟨key h.symm,key h⟩
section
variable {t:GTable} (hT:Tab6 t)
include hT
theorem geq_ev {a l:List Int} {lo S:Nat} (h:lo+S<=l.length) (ha:a.length<1000000) (hS:S<1000000):Ev (λ n=>FSl_Equal_int_intx n a (lo,S) l) (decide (a=(l.drop lo).take S)):=by
 have _:=hT;have hl:((l.drop lo).take S).length=S:=by simp;omega
 refine Tot.ev ?_;unfold FSl_Equal_int_intx;by_cases he:a.length=S
 ·refine Tot.iteF (by simp [he]) (Tot.bind (R:=λ y:Unit⊕Bool=>(y=.inl ()/\a=(l.drop lo).take S)\/(y=.inr false/\a≠(l.drop lo).take S)) ?_ ?_)
  ·refine Tot.upto (body:=λ n x=>FSl_Equal_int_intx_L1 n a (lo,S) l x) a.length (λ k x=>x=(k:Int)/\a.take k=((l.drop lo).take S).take k) ?_ ?_ _ ⟨rfl,rfl⟩
   ·rintro k _ hk ⟨rfl,e⟩;have hkb:k<((l.drop lo).take S).length:=by omega
    have hg:l[lo+k]? = some ((l.drop lo).take S)[k]:=by
     rw [← List.getElem?_eq_getElem hkb,List.getElem?_take_of_lt (by omega),List.getElem?_drop]
    unfold FSl_Equal_int_intx_L1;refine Tot.iteT (lt_d hk) (Tot.bindC (idx_lt hk) (Tot.bindC (ixP_at (by omega) hg) (Tot.ite (λ h=>?_) λ h=>?_)))
    ·refine Tot.pure (.inr ⟨rfl,λ he=>?_⟩);have h1:a[k]≠((l.drop lo).take S)[k]:=by simpa using h
     have h2:a[k]? = ((l.drop lo).take S)[k]? := by rw [← he]
     rw [List.getElem?_eq_getElem hk,List.getElem?_eq_getElem hkb] at h2;exact h1 (Option.some.inj h2)
    ·refine Tot.pure ⟨inc64 (by omega),?_⟩;have h1:a[k]=((l.drop lo).take S)[k]:=by simpa using h
     rw [List.take_add_one,List.take_add_one (l:=(l.drop lo).take S),e,List.getElem?_eq_getElem hk,List.getElem?_eq_getElem hkb,h1]
   ·rintro _ ⟨rfl,e⟩;unfold FSl_Equal_int_intx_L1;refine Tot.iteF (by simp) (Tot.pure (.inl ⟨rfl,?_⟩));rw [List.take_length,he] at e;rwa [List.take_of_length_le (by omega)] at e
  ·rintro y (⟨rfl,h⟩|⟨rfl,h⟩)
   ·exact Tot.pure (decide_eq_true h).symm
   ·exact Tot.pure (decide_eq_false h).symm
 ·refine Tot.iteT (by simp;omega) (Tot.pure (decide_eq_false λ h=>he ?_).symm);rw [h,hl]
variable {s:List UInt8} (hs:s.length<=4000) {s':List UInt8} (hs':s'.length<=4000)
include hs
theorem lst_top {i:Nat} (hi:i<=s.length):-1<=lstR (rowR t (s.drop i))/\lstR (rowR t (s.drop i))<=13000000:=lst_range (by decide) λ _ hv=>row_top hT hs hi hv
omit hT hs in
theorem memo_at {i:Nat} (hi:i<=s.length):idx (memoR t s).Costs (i:Int)=some (nrmR (rowR t (s.drop i)))/\idx (memoR t s).Least (i:Int)=some (lstR (rowR t (s.drop i))):=⟨idx_at (by simp only [memoR,List.getElem?_map];rw [List.getElem?_range (by omega)];rfl),idx_at (by simp only [memoR,List.getElem?_map];rw [List.getElem?_range (by omega)];rfl)⟩
omit hs in
theorem has_ev (hl:s.length<=4000):Ev (λ n=>FRv_graph_hasx n (memoR t s) (graphR t)) true:=by
 have hlen:=len6 hT;have hgl:(graphR t).Arcs.length=(statesS t).length:=by simp [graphR]
 have e1:iadd .i64 ((s.length:Nat):Int) 1=((s.length+1:Nat):Int):=inc64 (by omega);have c1:(memoR t s).Costs.length=s.length+1:=by simp [memoR]
 have c2:(memoR t s).Least.length=s.length+1:=by simp [memoR]
 have c3:(memoR t s).Text=s:=rfl;refine Tot.ev ?_;unfold FRv_graph_hasx;rw [c1,c2,c3,e1];refine Tot.iteF (by simp) (Tot.bind (R:=λ y:Unit⊕Bool=>y=.inl ()) ?_ (λ y hy=>by subst hy;exact Tot.pure rfl));refine Tot.upto (body:=λ n x=>FRv_graph_hasx_L1 n (memoR t s) (graphR t) x) (s.length+1) (λ k x=>x=(k:Int)) ?_ ?_ _ rfl
 ·rintro k _ hk rfl;unfold FRv_graph_hasx_L1;rw [c1];refine Tot.iteT (lt_d hk) (Tot.bindC (memo_at (t:=t) (s:=s) (show k<=s.length by omega)).1 (Tot.iteF ?_ (Tot.pure (inc64 (by omega)))));rw [nrm_len,hgl];simp
 ·rintro _ rfl;unfold FRv_graph_hasx_L1;rw [c1];exact Tot.iteF (by simp) (Tot.pure rfl)
include hs'
theorem settled_ev {a i:Nat} (ha:i+3<=a) (h1:a<=s.length) (h2:a<=s'.length) {l ls:List Int} (hC:ColsAt t s' (λ p=>i<=p) l ls) (x0:List UInt8) :
  Tot (λ n=>FRv_settledx n (memoR t s) x0 (i:Int) (offR (statesS t).length (s'.length+1)) ls l) (λ y=>(y.2=true/\∀ j,i<=j->j<=i+3->EqC t y.1 (s.drop j) (s'.drop j))\/(y.2=false/\¬StopR t s s' a i)):=by
 have hlen:=len6 hT;unfold FRv_settledx;refine Tot.bind (R:=λ y:Int⊕(Int×Bool)=>(∃ d,y=.inl d/\∀ j,i<=j->j<=i+3->EqC t d (s.drop j) (s'.drop j))\/(y=.inr (0,false)/\¬StopR t s s' a i)) ?_ ?_
 ·have e3:iadd .i64 (i:Int) 3=((i+3:Nat):Int):=by rw [add64 (by omega) (by omega)];omega
  refine Tot.upto (body:=λ n x=>FRv_settledx_L1 n (memoR t s) x0 (i:Int) (offR (statesS t).length (s'.length+1)) ls l x.1 x.2.1 x.2.2) 4 (λ m x=>x.2.2=((i+m:Nat):Int)/\(∀ j,i<=j->j<i+m->EqC t x.1 (s.drop j) (s'.drop j))/\(x.2.1=false->∀ j,i<=j->j<i+m->lstR (rowR t (s.drop j))<0)/\(x.2.1=true->∃ j,i<=j/\j<i+m/\0<=lstR (rowR t (s.drop j)))) ?_ ?_ _ ⟨rfl,by omega,by omega,λ h=>by cases h⟩
  ·rintro m ⟨sh,kn,j'⟩ hm ⟨e1,g1,g2,g3⟩;simp only at e1 g1 g2 g3;subst e1;have hj1:i+m<=s.length:=by omega
   have hj2:i+m<=s'.length:=by omega
   obtain ⟨m1,m2⟩:=memo_at (t:=t) hj1;have hcol:=hC.col (i+m) (by omega) hj2;have hlst:=idx_at (hC.lst (i+m) (by omega) hj2);have hr1:=lst_top hT hs hj1;have hr2:=lst_top hT hs' hj2;have hlo:(i+m)*(statesS t).length+(statesS t).length<=l.length:=by rw [hC.len];exact part_le (by omega)
   unfold FRv_settledx_L1;rw [e3];refine Tot.iteT (by simp;omega) (Tot.bindC m1 (Tot.bindC (off_at (by omega)) (Tot.bindE (geq_ev hT hlo (by rw [nrm_len];omega) (by omega)) ?_)));rw [hcol];by_cases he:nrmR (rowR t (s.drop (i+m)))=nrmR (rowR t (s'.drop (i+m)))
   ·rw [decide_eq_true he];have hneg:=nrm_neg he;refine Tot.iteF rfl (Tot.bindC m2 ?_);have hJ:∀ sh' kn',EqC t sh' (s.drop (i+m)) (s'.drop (i+m))->(∀ j,i<=j->j<i+m->EqC t sh' (s.drop j) (s'.drop j))->(kn'=false->lstR (rowR t (s.drop (i+m)))<0/\kn=false)->(kn'=true->kn=true\/0<=lstR (rowR t (s.drop (i+m))))->Tot (λ n=>FRv_settledx_J1 n ((i+m:Nat):Int) sh' kn') (Rd2 (λ x:Int×Bool×Int=>x.2.2=((i+(m+1):Nat):Int)/\(∀ j,i<=j->j<i+(m+1)->EqC t x.1 (s.drop j) (s'.drop j))/\(x.2.1=false->∀ j,i<=j->j<i+(m+1)->lstR (rowR t (s.drop j))<0)/\(x.2.1=true->∃ j,i<=j/\j<i+(m+1)/\0<=lstR (rowR t (s.drop j)))) (λ y:Int⊕(Int×Bool)=>(∃ d,y=.inl d/\∀ j,i<=j->j<=i+3->EqC t d (s.drop j) (s'.drop j))\/(y=.inr (0,false)/\¬StopR t s s' a i))):=by
     intro sh' kn' h1 h2 h3 h4;unfold FRv_settledx_J1;refine Tot.pure ⟨inc64 (by omega),λ j q1 q2=>?_,λ hk j q1 q2=>?_,λ hk=>?_⟩
     ·by_cases e:j=i+m
      ·rw [e];exact h1
      ·exact h2 j q1 (by omega)
     ·by_cases e:j=i+m
      ·rw [e];exact (h3 hk).1
      ·exact g2 (h3 hk).2 j q1 (by omega)
     ·rcases h4 hk with h|h
      ·obtain ⟨j,q1,q2,q3⟩:=g3 h;exact ⟨j,q1,by omega,q3⟩
      ·exact ⟨i+m,by omega,by omega,h⟩
    by_cases h0:lstR (rowR t (s.drop (i+m)))<0
    ·have hn':=hneg.1 h0;refine Tot.gF (by simp [h0]) (Tot.iteT (by simp [h0]) (hJ sh kn ⟨he,λ h=>by omega⟩ g1 (λ h=>⟨h0,h⟩) (λ h=>.inl h)))
    ·have hn':¬lstR (rowR t (s'.drop (i+m)))<0:=λ h=>h0 (hneg.2 h);refine Tot.gE (by simp;omega) (Ev.all λ _=>hlst) (Tot.iteF (by simp;omega) (Tot.bindC hlst (Tot.bindC m2 ?_)));rw [sub64 (by omega) (by omega)];by_cases hk:kn=true/\lstR (rowR t (s'.drop (i+m)))-lstR (rowR t (s.drop (i+m)))≠sh
     ·refine Tot.iteT (by simp [hk.1];exact hk.2) (Tot.pure (.inr ⟨rfl,?_⟩));rintro ⟨_,d,hd⟩;obtain ⟨j,q1,q2,q3⟩:=g3 hk.1;have w1:=(hd j q1 (by omega)).2 q3;have w2:=(g1 j q1 q2).2 q3;have w3:=(hd (i+m) (by omega) (by omega)).2 (by omega);exact hk.2 (by omega)
     ·refine Tot.iteF ?_ (hJ _ true ⟨he,λ _=>rfl⟩ (λ j q1 q2=>⟨(g1 j q1 q2).1,λ h=>?_⟩) (λ h=>by cases h) (λ _=>.inr (by omega)))
      ·cases kn with
       | false=>rfl
       | true=>
        have:lstR (rowR t (s'.drop (i+m)))-lstR (rowR t (s.drop (i+m)))=sh:=Decidable.byContradiction λ h=>hk ⟨rfl,h⟩;simp [this]
      ·cases kn with
       | false=>have:=g2 rfl j q1 q2;omega
       | true=>
        have:lstR (rowR t (s'.drop (i+m)))-lstR (rowR t (s.drop (i+m)))=sh:=Decidable.byContradiction λ h=>hk ⟨rfl,h⟩;rw [this];exact (g1 j q1 q2).2 h
   ·rw [decide_eq_false he];refine Tot.iteT rfl (Tot.pure (.inr ⟨rfl,?_⟩));rintro ⟨_,d,hd⟩;exact he (hd (i+m) (by omega) (by omega)).1
  ·rintro ⟨sh,kn,j'⟩ ⟨e1,g1,g2,g3⟩;simp only at e1 g1 g2 g3;subst e1;unfold FRv_settledx_L1;rw [e3];exact Tot.iteF (by simp) (Tot.pure (.inl ⟨sh,rfl,λ j q1 q2=>g1 j q1 (by omega)⟩))
 ·rintro y (⟨d,rfl,h⟩|⟨rfl,h⟩)
  ·exact Tot.pure (.inl ⟨rfl,h⟩)
  ·exact Tot.pure (.inr ⟨rfl,h⟩)
end
end Go.AI
end
section
namespace Go.AI
section
variable {t:GTable} (hT:Tab6 t) {s:List UInt8} (hs:s.length<=4000)
include hT hs
omit hs in
theorem cpy_row {s':List UInt8} {i:Nat} (hi:i<=s'.length) {P:Nat->Prop} {l ls:List Int} (hC:ColsAt t s' P l ls) {x:List UInt8}:cpyG l (nrmR (rowR t x)) (i*(statesS t).length) (statesS t).length=some (spl l (i*(statesS t).length) (nrmR (rowR t x))):=by
 have _:=hT;unfold cpyG;rw [if_pos];rw [nrm_len,hC.len];exact ⟨part_le (by omega),Nat.le_refl _⟩
theorem chg1_ev {put:List UInt8} {a k:Nat} (hak:a+k<=s.length) (hl':(splicedS s put a k).length<=4000) (gr:GGraph) (e1 e2:List Int) {l0 ls0:List Int} (h0:ColsAt t (splicedS s put a k) (λ _=>False) l0 ls0) :
  Tot (λ n=>whl (λ (x:((List Int)×(List Int)×Int))=>FRv_Change_L1 n (memoR t s) ⟨(a:Int),(k:Int),put⟩ (splicedS s put a k) gr (offR (statesS t).length ((splicedS s put a k).length+1),e1,e2) x.1 x.2.1 x.2.2) n (ls0,l0,((a+put.length:Nat):Int))) (λ y=>ColsAt t (splicedS s put a k) (λ p=>a+put.length<=p) y.2 y.1):=by
 have hlen:=len6 hT;have hsl:=spliced_len (put:=put) hak;refine Tot.upto (body:=λ n x=>FRv_Change_L1 n (memoR t s) ⟨(a:Int),(k:Int),put⟩ (splicedS s put a k) gr (offR (statesS t).length ((splicedS s put a k).length+1),e1,e2) x.1 x.2.1 x.2.2) ((splicedS s put a k).length+1-(a+put.length)) (λ m x=>x.2.2=((a+put.length+m:Nat):Int)/\ColsAt t (splicedS s put a k) (λ p=>a+put.length<=p/\p<a+put.length+m) x.2.1 x.1) ?_ ?_ _ ⟨rfl,h0.mono λ p _ h=>by omega⟩
 ·rintro m ⟨ls,l,i'⟩ hm ⟨q1,hC⟩;simp only at q1 hC;subst q1;have hi:a+put.length+m<=(splicedS s put a k).length:=by omega
  have ho:a+m+k<=s.length:=by omega
  have hd:=spliced_drop (put:=put) hak (i:=a+put.length+m) (by omega);have ei:a+put.length+m-put.length+k=a+m+k:=by omega
  rw [ei] at hd;obtain ⟨m1,m2⟩:=memo_at (t:=t) ho;have hll:=hC.ll;unfold FRv_Change_L1;have eo:iadd .i64 (isub .i64 ((a+put.length+m:Nat):Int) ((put.length:Nat):Int)) (k:Int)=((a+m+k:Nat):Int):=by
   rw [sub64 (by omega) (by omega),add64 (by omega) (by omega)];omega
  simp only [eo];have hset:=hC.set hi;rw [hd] at hset;refine Tot.iteT (by simp;omega) (Tot.bindC (off_at (by omega)) (Tot.bindC m1 (Tot.bindC (cpy_row hT hi hC) (Tot.bindC m2 (Tot.bindC (idx_lt (show a+put.length+m<ls.length by omega)) (Tot.bindC (put_at (show a+put.length+m<ls.length by omega)) (Tot.pure ⟨inc64 (by omega),hset.mono λ p _ h=>by omega⟩)))))))
 ·rintro ⟨ls,l,i'⟩ ⟨q1,hC⟩;simp only at q1 hC;subst q1;unfold FRv_Change_L1;refine Tot.iteF (by simp;omega) (Tot.pure (hC.mono λ p h1 h2=>by omega))
theorem chg2_ev {put:List UInt8} {a k:Nat} (hak:a+k<=s.length) (hl':(splicedS s put a k).length<=4000) (e1 e2:List Int) {l0 ls0:List Int} (h0:ColsAt t (splicedS s put a k) (λ p=>a+put.length<=p) l0 ls0) :
  Tot (λ n=>whl (λ (x:((List Int)×(List Int)×Int×Int))=>FRv_Change_L2 n (memoR t s) ⟨(a:Int),(k:Int),put⟩ (splicedS s put a k) (graphR t) (offR (statesS t).length ((splicedS s put a k).length+1),e1,e2) x.1 x.2.1 x.2.2.1 x.2.2.2) n (ls0,l0,0,isub .i64 ((a+put.length:Nat):Int) 1))
   (λ y=>∃ r:Nat,y.2.2.2.1=(r:Int)/\y.2.2.1=((a+put.length-r:Nat):Int)/\ColsAt t (splicedS s put a k) (λ p=>r<=p) y.2.1 y.1/\RestR t s (splicedS s put a k) a (a+put.length) r/\(0<r->r+3<=a/\∀ j,r<=j->j<=r+3->EqC t y.2.2.2.2 (s.drop j) ((splicedS s put a k).drop j))):=by
 have hlen:=len6 hT;have hsl:=spliced_len (put:=put) hak;have e0:isub .i64 ((a+put.length:Nat):Int) 1=((a+put.length:Nat):Int)-1:=sub64 (by omega) (by omega);rw [e0];refine Tot.whl (body:=λ n x=>FRv_Change_L2 n (memoR t s) ⟨(a:Int),(k:Int),put⟩ (splicedS s put a k) (graphR t) (offR (statesS t).length ((splicedS s put a k).length+1),e1,e2) x.1 x.2.1 x.2.2.1 x.2.2.2) (λ m x=>x.2.2.2=(m:Int)-1/\m<=a+put.length/\x.2.2.1=((a+put.length-m:Nat):Int)/\ColsAt t (splicedS s put a k) (λ p=>m<=p) x.2.1 x.1/\∀ j,m<=j->j<a+put.length->¬StopR t s (splicedS s put a k) a j) ?_ (a+put.length) _ ⟨rfl,Nat.le_refl _,by simp,h0,by omega⟩;rintro m ⟨ls,l,cnt,i'⟩ ⟨q1,q2,q3,hC,hN⟩;simp only at q1 q3 hC;subst q1 q3;unfold FRv_Change_L2;cases m with
 | zero=>
  refine Tot.iteF (by simp) (Tot.pure ⟨0,rfl,by simp,hC,⟨by omega,λ j h1 h2=>hN j (by omega) h2,.inl rfl⟩,λ h=>by omega⟩)
 | succ i=>
  have ei:((i+1:Nat):Int)-1=(i:Int):=by omega
  rw [ei];have hi:i<=(splicedS s put a k).length:=by omega
  have hll:=hC.ll;have hset:=(hC.set hi).mono (R:=λ p=>i<=p) λ p _ h=>by omega
  have ec:iadd .i64 ((a+put.length-(i+1):Nat):Int) 1=((a+put.length-i:Nat):Int):=by rw [add64 (by omega) (by omega)];omega
  have hJ:¬StopR t s (splicedS s put a k) a i->Tot (λ n=>FRv_Change_J1 n ((a+put.length-(i+1):Nat):Int) (i:Int) (ls.set i (lstR (rowR t ((splicedS s put a k).drop i)))) (spl l (i*(statesS t).length) (nrmR (rowR t ((splicedS s put a k).drop i)))))
    (Rd2 (λ x:List Int×List Int×Int×Int=>∃ j,j<i+1/\(x.2.2.2=(j:Int)-1/\j<=a+put.length/\x.2.2.1=((a+put.length-j:Nat):Int)/\ColsAt t (splicedS s put a k) (λ p=>j<=p) x.2.1 x.1/\∀ j',j<=j'->j'<a+put.length->¬StopR t s (splicedS s put a k) a j'))
     (λ y:List Int×List Int×Int×Int×Int=>∃ r:Nat,y.2.2.2.1=(r:Int)/\y.2.2.1=((a+put.length-r:Nat):Int)/\ColsAt t (splicedS s put a k) (λ p=>r<=p) y.2.1 y.1/\RestR t s (splicedS s put a k) a (a+put.length) r/\(0<r->r+3<=a/\∀ j,r<=j->j<=r+3->EqC t y.2.2.2.2 (s.drop j) ((splicedS s put a k).drop j)))):=by
   intro hst;unfold FRv_Change_J1;refine Tot.pure ⟨i,by omega,?_,by omega,ec,hset,λ j h1 h2=>?_⟩
   ·show isub .i64 (i:Int) 1=(i:Int)-1;rw [sub64 (by omega) (by omega)]
   ·by_cases e:j=i
    ·rw [e];exact hst
    ·exact hN j (by omega) h2
  have e3:iadd .i64 (i:Int) 3=((i+3:Nat):Int):=by rw [add64 (by omega) (by omega)];omega
  refine Tot.iteT (by simp) (Tot.bindE (col_ev hT hl' hi (hC.lat λ p _ h=>by omega)) (Tot.bindC (idx_lt (show i<ls.length by omega)) (Tot.bindC (put_at (show i<ls.length by omega)) ?_)));rw [e3];by_cases ha:a<i+3
  ·exact Tot.iteT (by simp;omega) (hJ λ h=>by have:=h.1;omega)
  ·refine Tot.iteF (by simp;omega) (Tot.bind (settled_ev hT hs hl' (a:=a) (i:=i) (by omega) (by omega) (by omega) hset _) ?_);rintro ⟨d,ok⟩ (⟨h1,h2⟩|⟨h1,h2⟩)
   ·simp only at h1 h2;subst h1;refine Tot.iteT rfl (Tot.pure ⟨i,rfl,ec,hset,⟨by omega,λ j g1 g2=>hN j (by omega) g2,.inr ⟨by omega,d,h2⟩⟩,λ _=>⟨by omega,h2⟩⟩)
   ·simp only at h1;subst h1;exact Tot.iteF rfl (hJ h2)
theorem chg3_ev {put:List UInt8} {a k:Nat} (hak:a+k<=s.length) (hl':(splicedS s put a k).length<=4000) (e1 e2:List Int) {l0 ls0:List Int} {r:Nat} (hr:r<=a) (h0:ColsAt t (splicedS s put a k) (λ p=>r<=p) l0 ls0) {d cnt:Int} (hS:∀ p,p<r->Sh t d (s.drop p) ((splicedS s put a k).drop p)) :
  Tot (λ n=>whl (λ (x:((List Int)×(List Int)×Int))=>FRv_Change_L3 n (memoR t s) (splicedS s put a k) (offR (statesS t).length ((splicedS s put a k).length+1),e1,e2) (ls0,l0,cnt,(r:Int),d) x.1 x.2.1 x.2.2) n (ls0,l0,0)) (λ y=>ColsAt t (splicedS s put a k) (λ _=>True) y.2 y.1):=by
 have hlen:=len6 hT;have hsl:=spliced_len (put:=put) hak;refine Tot.upto (body:=λ n x=>FRv_Change_L3 n (memoR t s) (splicedS s put a k) (offR (statesS t).length ((splicedS s put a k).length+1),e1,e2) (ls0,l0,cnt,(r:Int),d) x.1 x.2.1 x.2.2) r (λ m x=>x.2.2=(m:Int)/\ColsAt t (splicedS s put a k) (λ p=>r<=p\/p<m) x.2.1 x.1) ?_ ?_ _ ⟨rfl,h0.mono λ p _ h=>by omega⟩
 ·rintro m ⟨ls,l,i'⟩ hm ⟨q1,hC⟩;simp only at q1 hC;subst q1;have hi:m<=(splicedS s put a k).length:=by omega
  obtain ⟨m1,m2⟩:=memo_at (t:=t) (s:=s) (i:=m) (by omega);have hll:=hC.ll;have hE:=(hS m hm).eqc;have hL:=(hS m hm).lst;have r1:=lst_top hT hs (i:=m) (by omega);have r2:=lst_top hT hl' hi;have hset:=(hC.set hi).mono (R:=λ p=>r<=p\/p<m+1) λ p _ h=>by omega
  rw [← hE.1] at hset;have hJ:∀ v,v=lstR (rowR t ((splicedS s put a k).drop m))->Tot (λ n=>FRv_Change_J2 n (m:Int) (ls.set m v) (spl l (m*(statesS t).length) (nrmR (rowR t (s.drop m))))) (Rd2 (λ x:List Int×List Int×Int=>x.2.2=((m+1:Nat):Int)/\ColsAt t (splicedS s put a k) (λ p=>r<=p\/p<m+1) x.2.1 x.1) (λ y=>ColsAt t (splicedS s put a k) (λ _=>True) y.2 y.1)):=by
   rintro v rfl;unfold FRv_Change_J2;exact Tot.pure ⟨inc64 (by omega),hset⟩
  unfold FRv_Change_L3;refine Tot.iteT (lt_d hm) (Tot.bindC (off_at (by omega)) (Tot.bindC m1 (Tot.bindC (cpy_row hT hi hC) (Tot.bindC m2 (Tot.bindC (idx_lt (show m<ls.length by omega)) (Tot.bindC (put_at (show m<ls.length by omega)) (Tot.bindC m2 (Tot.ite (λ h=>?_) λ h=>?_))))))))
  ·have h0:0<=lstR (rowR t (s.drop m)):=by simpa using h
   rw [if_neg (by omega)] at hL;have hgs:(ls.set m (lstR (rowR t (s.drop m))))[m]? = some (lstR (rowR t (s.drop m))):=List.getElem?_set_self (show m<ls.length by omega);refine Tot.bindC (idx_at hgs) (Tot.bindC (idx_at hgs) (Tot.bindC (put_at (by rw [List.length_set];exact (show m<ls.length by omega))) ?_));have ea:iadd .i64 (lstR (rowR t (s.drop m))) d=lstR (rowR t (s.drop m))+d:=add64 (by omega) (by omega);simp only [List.set_set,ea];exact hJ _ hL.symm
  ·have h0:lstR (rowR t (s.drop m))<0:=by simpa using h
   rw [if_pos h0] at hL;exact hJ _ (by omega)
 ·rintro ⟨ls,l,i'⟩ ⟨q1,hC⟩;simp only at q1 hC;subst q1;unfold FRv_Change_L3;exact Tot.iteF (by simp) (Tot.pure (hC.mono λ p _ _=>by omega))
theorem change_ev {put:List UInt8} {a k:Nat} (hak:a+k<=s.length) (hp:put.length<=4000) (hl':(splicedS s put a k).length<=4000) (hx:(splicedS s put a k).all charS=true) :
  Tot (λ n=>FRv_Change n t (memoR t s) ⟨(a:Int),(k:Int),put⟩) (λ y=>y.1=memoR t (splicedS s put a k)/\y.2.2=0/\∃ r,RestR t s (splicedS s put a k) a (a+put.length) r/\y.2.1=((a+put.length-r:Nat):Int)):=by
 have hsl:=spliced_len (put:=put) hak;have c3:(memoR t s).Text=s:=rfl;unfold FRv_Change;have es:isub .i64 ((s.length:Nat):Int) (a:Int)=((s.length-a:Nat):Int):=by rw [sub64 (by omega) (by omega)];omega
 have eak:iadd .i64 (a:Int) (k:Int)=((a+k:Nat):Int):=by rw [add64 (by omega) (by omega)];omega
 have ep:iadd .i64 (a:Int) ((put.length:Nat):Int)=((a+put.length:Nat):Int):=by rw [add64 (by omega) (by omega)];omega
 simp only [c3,es,eak,ep];have hsub:sub s ((a+k:Nat):Int) ((s.length:Nat):Int)=some (s.drop (a+k)):=by
  rw [sub_d (by omega) (by omega) (by omega),Int.toNat_natCast,Int.toNat_natCast,List.take_length]
 have ht:=text_ev (s:=splicedS s put a k) (by omega);rw [textS_ok hx] at ht;refine Tot.iteF (by simp;omega) (Tot.bindC (sub_pre (by omega)) (Tot.bindC (cat_le (by simp;omega)) (Tot.bindC hsub (Tot.bindC (cat_le (by simp;omega)) ?_))));refine Tot.bindE ht (Tot.iteF rfl (Tot.bindE (graph_ev hT) (Tot.bindE (has_ev hT hs) (Tot.iteF rfl (Tot.bindE (empty_ev hT hl') (Tot.bind (chg1_ev hT hs hak hl' _ _ _ (empty_cols _ _)) ?_))))));rintro ⟨ls1,l1⟩ h1;refine Tot.bindC (y:=()) rfl (Tot.bind (chg2_ev hT hs hak hl' _ _ h1) ?_);rintro ⟨ls2,l2,cnt,rst,d⟩ ⟨r,q1,q2,hC,hR,hE⟩;simp only at q1 q2 hC hE;subst q1 q2;have hra:r<=a:=by
  rcases Nat.eq_zero_or_pos r with h|h
  ·omega
  ·have:=(hE h).1;omega
 have hS:∀ p,p<r->Sh t d (s.drop p) ((splicedS s put a k).drop p):=by
  intro p hp';obtain ⟨g1,g2⟩:=hE (by omega);exact Sh.all hT (d:=d) (i:=r) (a:=a) g1 (by omega) (by omega) (spliced_take hak).symm (λ j j1 j2=>(g2 j j1 (by omega)).sh) (r-p) p (by omega)
 refine Tot.bind (chg3_ev hT hs hak hl' _ _ hra hC hS) ?_;rintro ⟨ls3,l3⟩ h3;obtain ⟨g1,g2⟩:=h3.memo λ _ _=>trivial;refine Tot.bindC g1 (Tot.pure ⟨g2,rfl,r,hR,rfl⟩)
end
end Go.AI
end
section
namespace Go.AI
theorem spelt_text {t:GTable} {s:List UInt8} (ht:MadeOK t) (h:Spelt t s):s.all charS=true:=by
 obtain ⟨_,p,hp,rfl⟩:=h;rw [List.all_eq_true];intro b hb;simp only [textOf,List.mem_flatMap] at hb;obtain ⟨k,hk,hb⟩:=hb;have:=hp k hk;have hm:=ruleAt_mem this.1 this.2;have hs:=ht.sound _ hm;simp only [soundS,Bool.and_eq_true] at hs;exact List.all_eq_true.1 hs.1.1.1.1.1.1 b hb
theorem made7_ev {t:GTable} (h6:Tab6 t) {s:List UInt8} (hs:s.length<=40) {y:GSixdotref07Raw} (h1:U8 y.At) (h2:U8 y.Cut) (h3:∀ a∈y.L,U8 a) :
  Tot (λ n=>FR7_Made n t s y) (λ c=>∃ (a k:Nat) (put:List UInt8),c=⟨(a:Int),(k:Int),put⟩/\a+k<=s.length/\(put=[]\/Spelt t put)/\s.length+put.length<=40):=by
 have hrl:=h6.tab.1;unfold FR7_Made;have e1:iadd .i64 ((s.length:Nat):Int) 1=((s.length+1:Nat):Int):=inc64 (by omega);have w1:IntKind.i64.wrap y.At=y.At:=w64 (by unfold U8 at h1;omega) (by unfold U8 at h1;omega);have w2:IntKind.i64.wrap y.Cut=y.Cut:=w64 (by unfold U8 at h2;omega) (by unfold U8 at h2;omega);rw [e1,w1,w2];unfold U8 at h1 h2;obtain ⟨a,ha,hal⟩:∃ a:Nat,irem y.At ((s.length+1:Nat):Int)=(a:Int)/\a<=s.length:=by
  obtain ⟨g1,g2,g3⟩:=rem_range (a:=y.At) (m:=((s.length+1:Nat):Int)) (by omega) (by omega);exact ⟨(irem y.At ((s.length+1:Nat):Int)).toNat,by omega,by omega⟩
 rw [ha];have e2:isub .i64 ((s.length:Nat):Int) (a:Int)=((s.length-a:Nat):Int):=by rw [sub64 (by omega) (by omega)];omega
 rw [e2];have e3:(if 5<((s.length-a:Nat):Int) then 5 else ((s.length-a:Nat):Int))=((min 5 (s.length-a):Nat):Int):=by split<;>omega
 rw [e3];have e4:iadd .i64 ((min 5 (s.length-a):Nat):Int) 1=((min 5 (s.length-a)+1:Nat):Int):=inc64 (by omega);rw [e4];obtain ⟨k,hk,hkl⟩:∃ k:Nat,irem y.Cut ((min 5 (s.length-a)+1:Nat):Int)=(k:Int)/\k<=min 5 (s.length-a):=by
  obtain ⟨g1,g2,g3⟩:=rem_range (a:=y.Cut) (m:=((min 5 (s.length-a)+1:Nat):Int)) (by omega) (by omega);exact ⟨(irem y.Cut ((min 5 (s.length-a)+1:Nat):Int)).toNat,by omega,by omega⟩
 rw [hk];have e5:(if 3<((y.L.length:Nat):Int) then 3 else ((y.L.length:Nat):Int))=((min 3 y.L.length:Nat):Int):=by split<;>omega
 rw [e5];have g1:guardB (!(((s.length+1:Nat):Int)==0))=some ():=by
  unfold guardB;rw [if_pos];simp;omega
 have g2:guardB (!(((min 5 (s.length-a)+1:Nat):Int)==0))=some ():=by
  unfold guardB;rw [if_pos];simp;omega
 refine Tot.bindC g1 (Tot.bindC (sub_pre (by omega)) (Tot.bindC g2 (Tot.bind (spelled_ev (t:=t) (by omega) (λ r hr=>by have:=(h6.tab.2 r hr).2.2.2.2;omega) (l:=y.L.take (min 3 y.L.length)) λ a ha=>h3 a (List.mem_of_mem_take ha)) ?_)));intro put hp;have hpl:=hp.1;have e6:iadd .i64 ((s.length:Nat):Int) ((put.length:Nat):Int)=((s.length+put.length:Nat):Int):=by rw [add64 (by omega) (by omega)];omega
 rw [e6];unfold FR7_Made_J1;refine Tot.ite (λ h=>Tot.pure ⟨a,k,[],rfl,by omega,.inl rfl,by simp;omega⟩) λ h=>Tot.pure ⟨a,k,put,rfl,by omega,.inr hp,?_⟩;have:¬(40:Int)<((s.length+put.length:Nat):Int):=by simpa using h
 omega
theorem spliced_ev {s put:List UInt8} {a k:Nat} (hak:a+k<=s.length) (hs:s.length<=4000) (hp:put.length<=4000):Ev (λ n=>FR7_Spliced n s ⟨(a:Int),(k:Int),put⟩) (splicedS s put a k):=by
 refine Tot.ev ?_;unfold FR7_Spliced;have eak:iadd .i64 (a:Int) (k:Int)=((a+k:Nat):Int):=by rw [add64 (by omega) (by omega)];omega
 simp only [eak];have hsub:sub s ((a+k:Nat):Int) ((s.length:Nat):Int)=some (s.drop (a+k)):=by
  rw [sub_d (by omega) (by omega) (by omega),Int.toNat_natCast,Int.toNat_natCast,List.take_length]
 exact Tot.bindC (sub_pre (by omega)) (Tot.bindC (cat_le (by simp;omega)) (Tot.bindC hsub (Tot.bindC (cat_le (by simp;omega)) (Tot.pure rfl))))
end Go.AI
end
section
namespace Go.AI
theorem WrOK.empty {t:GTable} {s:List UInt8} {w:GWriting} {a e:Int} (h:WrOK t s w a e) (he:e≠0):w=⟨[],[]⟩:=by
 by_cases h1:(textS s).2=0
 ·by_cases h2:costS t startS s<0
  ·exact (h.none h1 h2).1
  ·exact absurd (h.path h1 (by omega)).1 he
 ·exact (h.bad h1).1
theorem spliced_text {s put:List UInt8} {a k:Nat} (h:s.all charS=true) (hp:put.all charS=true):(splicedS s put a k).all charS=true:=by
 unfold splicedS;have g1:(s.take a).all charS=true:=List.all_eq_true.2 λ b hb=>List.all_eq_true.1 h b (List.mem_of_mem_take hb);have g2:(s.drop (a+k)).all charS=true:=List.all_eq_true.2 λ b hb=>List.all_eq_true.1 h b (List.mem_of_mem_drop hb);rw [List.all_append,List.all_append,hp,g1,g2];rfl
section
variable {t:GTable} (hT:Tab6 t) {s:List UInt8} (hs:s.length<=4000) {s':List UInt8} (hs':s'.length<=4000)
include hT hs hs'
end
section
variable {t:GTable} (hT:Tab6 t) {s:List UInt8} (hs:s.length<=4000)
include hT hs
end
theorem rlaw5 {x:GRaw} (hx:RawTabOK x) {l:List Int} (hl:∀ a∈l,U8 a) {ys:List GSixdotref07Raw} (hy:∀ y∈ys,U8 y.At/\U8 y.Cut/\∀ a∈y.L,U8 a):Ev (λ n=>FL7_ReviseScripts n x l ys) true:=by
 obtain ⟨t,⟨ht,_⟩,hE⟩:=made_ev10' hx;have h6:=ht.six;have hrl:=h6.tab.1;refine Tot.ev ?_;unfold FL7_ReviseScripts;obtain ⟨s0,hr,hrE⟩:=spelled_ev (t:=t) (by omega) (λ r hr=>by have:=(h6.tab.2 r hr).2.2.2.2;omega) hl;have hs12:=hr.1;refine Tot.bindE sanity7_ev (Tot.bindE hE (Tot.bindE hrE (Tot.bindE (start_ev h6 (by omega) (spelt_text ht hr)) (Tot.iteF rfl ?_))));refine Tot.bind (R:=λ y:(GMemo×List UInt8)⊕Bool=>∃ s,y=.inl (memoR t s,s)/\s.length<=40/\s.all charS=true) ?_ ?_
 ·refine Tot.whl (body:=λ n x=>FL7_ReviseScripts_L1 n ys true t x.1 x.2.1 x.2.2) (λ m x=>∃ i:Nat,x.2.2=(i:Int)/\m=5-i/\x.1=memoR t x.2.1/\x.2.1.length<=40/\x.2.1.all charS=true) ?_ 5 _ ⟨0,rfl,rfl,rfl,by simp only;omega,spelt_text ht hr⟩;rintro m ⟨mm,s,i'⟩ ⟨i,e1,e2,e3,e4,e5⟩;simp only at e1 e3 e4 e5;subst e1 e2 e3;unfold FL7_ReviseScripts_L1;refine Tot.ite (λ hc=>?_) λ hc=>Tot.pure ⟨s,rfl,e4,e5⟩;obtain ⟨hi,hi5⟩:i<ys.length/\i<5:=by
   simp only [Bool.and_eq_true,decide_eq_true_eq] at hc;omega
  obtain ⟨y1,y2,y3⟩:=hy _ (List.getElem_mem hi);have hs4:s.length<=4000:=by omega
  refine Tot.bindC (idx_lt hi) (Tot.bind (made7_ev h6 e4 y1 y2 y3) ?_);rintro _ ⟨a,k,put,rfl,hak,hput,h40⟩;have hsl:=spliced_len (put:=put) hak;have hs4':(splicedS s put a k).length<=4000:=by omega
  have hpt:put.all charS=true:=by
   rcases hput with rfl|h
   ·rfl
   ·exact spelt_text ht h
  have hst':=spliced_text (a:=a) (k:=k) e5 hpt;refine Tot.bindE (spliced_ev hak hs4 (by omega)) (Tot.bind (change_ev h6 hs4 hak (by omega) hs4' hst') ?_);rintro ⟨m1,c1,e1⟩ ⟨q1,q2,_⟩;simp only at q1 q2;subst q1 q2;refine Tot.gE (by rfl) (memo_ev h6 hs4') (Tot.gE (by rfl) (memo_len h6 hs4' _) ?_);rw [decide_eq_true (rfl:memoR t (splicedS s put a k)=_)];exact Tot.iteF rfl (Tot.pure ⟨5-(i+1),by omega,i+1,inc64 (by omega),rfl,rfl,by simp only;omega,hst'⟩)
 ·rintro _ ⟨s,rfl,e4,e5⟩;have hs4:s.length<=4000:=by omega
  obtain ⟨⟨w,a,e⟩,hW,hWE⟩:=writeT_ev h6 hs4 ht.validT;obtain ⟨⟨w',a',e'⟩,hW',hWE'⟩:=writeR_ev h6 hs4;obtain ⟨rfl,rfl,rfl⟩:=hW.uniq hW';have hsz:=hW.size h6 hs4;simp only at hsz hWE hWE';have c3:(memoR t s).Text=s:=rfl;by_cases he:e=0
  ·subst he;refine Tot.bindE (x:=(w,0)) ?_ (Tot.bindE hWE' (Tot.gE (by rfl) (same_ev w w (by omega) (by omega)) (Tot.pure ?_)))
   ·refine Tot.ev ?_;unfold FRv_Result;simp only [c3];exact Tot.bindE hWE (Tot.iteF rfl (Tot.pure rfl))
   ·rw [decide_eq_true (rfl:w=w)];rfl
  ·have hw:w=⟨[],[]⟩:=hW.empty he;subst hw;refine Tot.bindE (x:=(⟨[],[]⟩,61)) ?_ (Tot.bindE hWE' (Tot.gE (by simp [he]) (same_ev _ _ (by simp) (by simp)) (Tot.pure ?_)))
   ·refine Tot.ev ?_;unfold FRv_Result;simp only [c3];exact Tot.bindE hWE (Tot.iteT (by simp [he]) (Tot.pure rfl))
   ·simp [he]
end Go.AI
end
section
namespace Go.AI
theorem okI_u8 {n:Int} (h:okI .u8 n):U8 n:=by
 unfold okI Lit.wf at h;have:IntKind.u8.min=0/\IntKind.u8.max=255:=by decide
 unfold U8;simp only [Bool.and_eq_true,decide_eq_true_eq] at h;omega
theorem okGRawRule_ok {r:GRawRule} (h:okGRawRule r):RawOK r:=by
 obtain ⟨a,b,c,d,e,f⟩:=h;exact ⟨λ y hy=>okI_u8 (a y hy),λ y hy=>okI_u8 (b y hy),okI_u8 c,okI_u8 d,okI_u8 e,okI_u8 f⟩
theorem okGRaw_ok {x:GRaw} (h:okGRaw x):RawTabOK x:=⟨(okI_u8 h.1).1,λ r hr=>okGRawRule_ok (h.2.2 r hr)⟩
theorem okL_u8 {l:List Int} (h:∀ a∈l,okI .u8 a):∀ a∈l,U8 a:=λ a ha=>okI_u8 (h a ha)
theorem okSpl {y:GSixdotref07Raw} (hy:okGSixdotref07Raw y):U8 y.At/\U8 y.Cut/\∀ a∈y.L,U8 a:=⟨okI_u8 hy.1,okI_u8 hy.2.1,okL_u8 hy.2.2⟩
theorem rlaw5d:∀ x l ys,okGRaw x->(∀ a∈l,okI .u8 a)->(∀ a∈ys,okGSixdotref07Raw a)->∃ n,FL7_ReviseScripts n x l ys=some true:=λ _ _ _ h hl hy=>(rlaw5 (okGRaw_ok h) (okL_u8 hl) λ y hm=>okSpl (hy y hm)).out
end Go.AI
end
section
namespace Go.Proofs.YtjaogfjfamffnaaGreat
open Go.AI Go.ChangeShapes Go.WideShapes Go.ChangeAt Go.RowKit
theorem own:ownKnob Tryz.prog.godebug=none:=by kernel_rfl
set_option maxRecDepth 100000 in
theorem lifted (os:Os) (started:os.Started) (H:Type) (enc:TypeId×Value->H) :
  ReturnsInHanded {} Tryz.checked os 4 .any (Rows.reviseScriptsSpec.pre6 enc Tryz.prog Tryz.f4 Rows.reviseScriptsRow.domain false) (Rows.reviseScriptsSpec.post enc Tryz.prog Tryz.f4 false true false false):=by
 refine returnsInHanded_of_change (C:=Tryz.checked) own started (by kernel_rfl) Tryz.func4
  (ChangeSpec.witness6 (enc:=enc) (C:=Tryz.checked) false ⟨#[],#[.agg #[.int .u8 0,.int .u8 0,.slice none 0 0],.slice none 0 0,.slice none 0 0],[]⟩ 8 (by kernel_rfl) (by kernel_rfl) (by kernel_rfl) (by kernel_rfl)) ?_
 intro W base args ds gs before hval0 hW hcnd _;have hval:∀ (j:Nat) t v,Tryz.f4.params[j]? = some t->args[j]? = some v->Value.okWide Tryz.prog W .any base t v:=hval0;have hW':=hW;obtain ⟨p,q,hA0,hV,rfl,hfz,hnd⟩:=hW;have hA:DataW.TrodAll enc Tryz.prog W 0 (λ _=>true) true Tryz.f4.params.toList args.toList ds p:=hA0;have hlt:=hA.lt;rw [Tryz.params4] at hA hval;obtain ⟨v0,vs0,d0,ds0,p0,q0,hargs,rfl,rfl,h0,r0⟩:=trodAll_cons hA;obtain ⟨v1,vs1,d1,ds1,p1,q1,rfl,rfl,rfl,h1,r1⟩:=trodAll_cons r0;obtain ⟨v2,vs2,d2,ds2,p2,q2,rfl,rfl,rfl,h2,r2⟩:=trodAll_cons r1;obtain ⟨rfl,rfl,rfl⟩:=trodAll_nil r2;obtain rfl:args=#[v0,v1,v2]:=by cases args;simp_all
 obtain ⟨rfl,rfl⟩:=trodVars_none hV;obtain ⟨cs0,hc0,_⟩:=okWide_struct Tryz.underlying24 (hval 0 24 v0 rfl rfl);obtain ⟨a0,k0,rep0⟩:=arg_agg hc0 h0 rd24;obtain ⟨x1,y1,z1,hc1⟩:=okWide_slice Tryz.underlying25 (hval 1 25 v1 rfl rfl);obtain ⟨a1,k1,rep1⟩:=arg_one (y:=λ a=>.sl (a.map eU8)) (by rw [hc1];rfl) h1 rd25 (λ _=>rfl);obtain ⟨x2,y2,z2,hc2⟩:=okWide_slice Tryz.underlying47 (hval 2 47 v2 rfl rfl);obtain ⟨a2,k2,rep2⟩:=arg_one (y:=λ a=>.sl (a.map eGSixdotref07Raw)) (by rw [hc2];rfl) h2 rd47 (λ _=>rfl);clear hA0 hval0;simp only [List.append_nil] at hW' hlt;obtain ⟨n,hn⟩:=rlaw5d a0 a1 a2 k0 k1 k2;refine (law_walk (FL7_ReviseScripts_ok hn) (cr_cons rep0 (cr_cons rep1 (cr_cons rep2 cr_nil)))).mono λ e W' ⟨he,hg,hold⟩=>?_;subst he;exact ⟨_,rfl,post_same (pv:=[]) hW' (λ _ _ _=>(trodAll_cons_mk (shut_bool Tryz.underlying4 _) trodAll_mk0)) (λ sp hsp=>trodAll_cons_mk (stays (by kernel_rfl) (by kernel_rfl) (of_decide_eq_true (by kernel_rfl)) h0 (λ p hp=>hlt p (by simp [hp])) (λ p hp=>hsp p (by simp [hp])) hold) (trodAll_cons_mk (stays (by kernel_rfl) (by kernel_rfl) (of_decide_eq_true (by kernel_rfl)) h1 (λ p hp=>hlt p (by simp [hp])) (λ p hp=>hsp p (by simp [hp])) hold) (trodAll_cons_mk (stays (by kernel_rfl) (by kernel_rfl) (of_decide_eq_true (by kernel_rfl)) h2 (λ p hp=>hlt p (by simp [hp])) (λ p hp=>hsp p (by simp [hp])) hold) trodAll_mk0))) (λ _ _=>rfl) (by simp) (hg _) hold (ok_one (by kernel_rfl) rfl (okWide_bool_mk Tryz.underlying4 _))⟩
theorem over:Rows.reviseScriptsRow.holds Tryz.pinned (OpenSpec.ofChange Rows.reviseScriptsSpec):=
 OpenClaim.holds_of_wide 4 Tryz.f4 rfl rfl rfl rfl rfl rfl rfl ⟨rfl,rfl,rfl,rfl,rfl⟩ rfl rfl rfl rfl rfl (by kernel_rfl) Tryz.func4 (by kernel_rfl)
  (of_decide_eq_true (by kernel_rfl)) (by unfold Func.isWrapper;first|(rw [if_pos (by decide +kernel)];kernel_rfl)|(rw [if_neg (by decide +kernel)];exact ⟨rfl,rfl⟩))
  (λ os started H enc _=>lifted os started H enc)
theorem reviseScripts_holds:Rows.ReviseScriptsSaid:=over
end Go.Proofs.YtjaogfjfamffnaaGreat
end
