/- The theorem: the last one of this text; part 6 of 6 of its proof. It holds with no condition beyond the given statement. -/
import Derived.Test.YtbeojlieknnniaaLE
import Derived.Test.YtbeojlieknnniaaRows
section
namespace Go.AI
def setC (w:GWriter) (p:Nat) (cs:List Int):GWriter:={ w with Columns:=w.Columns.set p ⟨(w.Columns.getD p default).States,cs⟩ }
theorem setC_col {w:GWriter} {p:Nat} (hp:p<w.Columns.length) (cs:List Int) (p':Nat):colS (setC w p cs) p'=colS w p'∧costL (setC w p cs) p'=if p=p' then cs else costL w p':=by
 have h:=colS_set hp ⟨(w.Columns.getD p default).States,cs⟩ p' 0 0 0 []
 unfold colS costL setC
 simp only
 rw [h]
 split
 ·rename_i e;subst e;exact ⟨rfl,rfl⟩
 ·exact ⟨rfl,rfl⟩
theorem setC_qs {t:GTable} {w:GWriter} {p:Nat} (hp:p<w.Columns.length) (cs:List Int) (p':Nat):qsAt t (setC w p cs) p'=qsAt t w p':=by
 unfold qsAt
 rw [(setC_col hp cs p').1]
theorem PI.set {t:GTable} {s:List UInt8} {place:Nat} {w:GWriter} (h:PI t s place w) (hpl:place≤s.length) {cs:List Int} (hc:Col t (s.drop place) (3072*(s.length-place)) (qsAt t w place) cs):PI t s place (setC w place cs):=by
 have hp:place<w.Columns.length:=by rw [h.clen];omega
 refine ⟨⟨h.base.tt,h.base.ss,h.base.st,h.base.al,h.base.arc⟩,?_,λ p=>?_,λ p v hv=>?_,λ p j q h1 h2=>?_,λ p hp'=>?_,λ p h1 h2=>?_,?_⟩
 ·show (w.Columns.set _ _).length=_
  rw [List.length_set];exact h.clen
 ·rw [(setC_col hp cs p).1];exact h.nod p
 ·unfold InC at hv;rw [(setC_col hp cs p).1] at hv;exact h.ok p v hv
 ·unfold InC;rw [(setC_col hp cs p).1];exact h.all p j q h1 h2
 ·rw [(setC_col hp cs p).1];exact h.sort p hp'
 ·rw [setC_qs hp,(setC_col hp cs p).2,if_neg (by omega)];exact h.later p h1 h2
 ·rw [setC_qs hp,(setC_col hp cs place).2,if_pos rfl];exact hc
structure Imp (t:GTable) (s:List UInt8) (place:Nat) (sl:Bool) (B:Nat) (i:Nat) (q:GState) (P:Nat->Prop) (w1 w2:GWriter) (b:Bool):Prop where
 pi:PI t s place w2
 cols:∀ p,colS w2 p=colS w1 p
 last:w2.Last=w1.Last
 low:∀ (j:Nat) v,(costL w1 place)[j]? = some v->0≤v->∃ v',(costL w2 place)[j]? = some v'∧0≤v'∧v'≤v
 fls:b=false->w2=w1
 less:b=true->phi B (costL w2 place)<phi B (costL w1 place)
 rel:sl=false->∀ k:Nat,P k->(stepS t q k).2=true->prt t k≠[]->∀ y,s.drop place=prt t k++y->0≤costS t (stepS t q k).1 y->∃ v,(costL w2 place)[i]? = some v∧0≤v∧v≤costS t (stepS t q k).1 y+(cls t k).length
 sil:sl=true->b=false->∀ k:Nat,P k->(stepS t q k).2=true->prt t k=[]->∃ (i':Nat) (w':Int),(qsAt t w1 place)[i']? = some (stepS t q k).1∧(costL w1 place)[i']? = some w'∧(0≤w'->∃ v,(costL w1 place)[i]? = some v∧0≤v∧v≤w'+(cls t k).length)
section
variable {t:GTable} (hT:Tab6 t) {s:List UInt8} (hs:s.length≤4000)
include hT hs
theorem price1L_ev (sl:Bool) {place:Nat} (hpl:place≤s.length) {B:Nat} (hB:13000000≤B) {w1:GWriter} (h:PI t s place w1) {i:Nat} {q:GState} (hq:(qsAt t w1 place)[i]? = some q) :
  Tot (λ n=>whl (λ (x:(GWriter×Bool×Int))=>FTr_writer_price_1_L1 n (i:Int) sl (place:Int) (place:Int) (arcsOf t q) x.1 x.2.1 x.2.2) n (w1,false,0)) (λ y=>Imp t s place sl B i q (λ _=>True) w1 y.1 y.2):=by
 have hrl:=hT.tab.1
 have hal:(arcsOf t q).length≤t.Rules.length:=by unfold arcsOf;exact Nat.le_trans (List.length_filterMap_le _ _) (by simp)
 obtain ⟨jq,hjq1,hjq2⟩:=(qs_get (h.ok place)).1 hq
 obtain ⟨j2,qq,e1,e2,hr⟩:=h.ok place _ (List.mem_of_getElem? hjq1)
 have e3:j2=jq:=by omega
 subst e3
 rw [hjq2] at e2
 cases e2
 have hqm:q∈statesS t:=List.mem_of_getElem? hjq2
 refine Tot.upto (body:=λ n x=>FTr_writer_price_1_L1 n (i:Int) sl (place:Int) (place:Int) (arcsOf t q) x.1 x.2.1 x.2.2) (arcsOf t q).length (λ m x=>x.2.2=(m:Int)∧Imp t s place sl B i q (λ k=>∃ (m':Nat) (a:GArc),m'<m∧(arcsOf t q)[m']? = some a∧a.Rule=(k:Int)) w1 x.1 x.2.1) ?_ ?_ _ ⟨rfl,h,λ _=>rfl,rfl,λ j v hv h0=>⟨v,hv,h0,Int.le_refl v⟩,λ _=>rfl,(λ h=>by cases h),λ _ k ⟨m',_,hm,_⟩=>by omega,λ _ _ k ⟨m',_,hm,_⟩=>by omega⟩
 ·rintro m ⟨w,b,m'⟩ hm ⟨e1,hI⟩
  simp only at e1 hI
  subst e1
  have ha:(arcsOf t q)[m]? = some (arcsOf t q)[m]:=List.getElem?_eq_getElem hm
  obtain ⟨k,hk,hst,hae⟩:=mem_arcs.1 (List.getElem_mem hm)
  have hW:=hI.pi
  have hqs:qsAt t w place=qsAt t w1 place:=by unfold qsAt;rw [hI.cols]
  have hq':(qsAt t w place)[i]? = some q:=by rw [hqs];exact hq
  obtain ⟨p1,p2,p3⟩:=hT.pr hst
  have hcl:place<w.Columns.length:=by rw [hW.clen];omega
  obtain ⟨v,hv⟩:=hW.col.get (getElem?_lt' hq')
  have hvd:(w.Columns.getD place default).Costs.getD i 0=v:=by rw [List.getD_eq_getElem?_getD (l:=(w.Columns.getD place default).Costs),show (w.Columns.getD place default).Costs[i]? = some v from hv];rfl
  have hil:i<(w.Columns.getD place default).Costs.length:=getElem?_lt' (show (w.Columns.getD place default).Costs[i]? = some v from hv)
  have hP:∀ k':Nat,(∃ (m':Nat) (a:GArc),m'<m+1∧(arcsOf t q)[m']? = some a∧a.Rule=(k':Int))->k'=k∨∃ (m':Nat) (a:GArc),m'<m∧(arcsOf t q)[m']? = some a∧a.Rule=(k':Int):=by
   rintro k' ⟨m',a,h1,h2,h3⟩
   by_cases e:m'=m
   ·subst e
    rw [ha,hae] at h2
    cases h2
    simp only at h3
    left;omega
   ·exact .inr ⟨m',a,by omega,h2,h3⟩
  have hJ:∀ w2 b2,Imp t s place sl B i q (λ k=>∃ (m':Nat) (a:GArc),m'<m+1∧(arcsOf t q)[m']? = some a∧a.Rule=(k:Int)) w1 w2 b2->Tot (λ n=>FTr_writer_price_1_J1 n (m:Int) w2 b2) (Rd2 (λ x:GWriter×Bool×Int=>x.2.2=((m+1:Nat):Int)∧Imp t s place sl B i q (λ k=>∃ (m':Nat) (a:GArc),m'<m+1∧(arcsOf t q)[m']? = some a∧a.Rule=(k:Int)) w1 x.1 x.2.1) (λ y=>Imp t s place sl B i q (λ _=>True) w1 y.1 y.2)):=by
   intro w2 b2 h2
   unfold FTr_writer_price_1_J1
   exact Tot.pure ⟨inc64 (by omega),h2⟩
  have hskip:(sl=false->prt t k≠[]->∀ y,s.drop place=prt t k++y->0≤costS t (stepS t q k).1 y->∃ v,(costL w place)[i]? = some v∧0≤v∧v≤costS t (stepS t q k).1 y+(cls t k).length) ->
    (sl=true->prt t k=[]->∃ (i':Nat) (w':Int),(qsAt t w place)[i']? = some (stepS t q k).1∧(costL w place)[i']? = some w'∧(0≤w'->∃ v,(costL w place)[i]? = some v∧0≤v∧v≤w'+(cls t k).length)) ->
    Imp t s place sl B i q (λ k=>∃ (m':Nat) (a:GArc),m'<m+1∧(arcsOf t q)[m']? = some a∧a.Rule=(k:Int)) w1 w b:=by
   intro g1 g2
   refine ⟨hI.pi,hI.cols,hI.last,hI.low,hI.fls,hI.less,λ hsl k' hk' hst' hp' y hy hc=>?_,λ hsl hb k' hk' hst' hp'=>?_⟩
   ·rcases hP k' hk' with rfl|hk'
    ·exact g1 hsl hp' y hy hc
    ·exact hI.rel hsl k' hk' hst' hp' y hy hc
   ·rcases hP k' hk' with rfl|hk'
    ·have:=g2 hsl hp'
     rw [hI.fls hb] at this
     exact this
    ·exact hI.sil hsl hb k' hk' hst' hp'
  unfold FTr_writer_price_1_L1
  refine Tot.iteT (lt_d hm) (Tot.bindC (idx_at ha) ?_)
  rw [hae]
  refine Tot.bindA (λ n=>prints_eq hT hs hW.base hpl hst n) (Tot.ite (λ hc=>?_) λ hc=>?_)
  ·
   have hcc:(prt t k).isPrefixOf (s.drop place)=false∨(((((place+(prt t k).length:Nat):Int))==(place:Int))==sl)=false:=by
    simp only [Bool.or_eq_true,Bool.not_eq_true'] at hc
    exact hc
   have hz:((((place+(prt t k).length:Nat):Int))==(place:Int))=decide (prt t k=[]):=by
    rw [Bool.eq_iff_iff,beq_iff_eq,decide_eq_true_eq,← List.length_eq_zero_iff];omega
   rw [hz] at hcc
   refine hJ w b (hskip (λ hsl hp y hy _=>?_) (λ hsl hp=>?_))
   ·exfalso
    rcases hcc with h1|h1
    ·rw [← Bool.not_eq_true,List.isPrefixOf_iff_prefix,hy] at h1
     exact h1 (List.prefix_append _ _)
    ·rw [hsl,decide_eq_false hp] at h1;cases h1
   ·exfalso
    rcases hcc with h1|h1
    ·rw [hp] at h1;cases h1
    ·rw [hsl,decide_eq_true hp] at h1;cases h1
  ·have hcc:(prt t k).isPrefixOf (s.drop place)=true∧(((((place+(prt t k).length:Nat):Int))==(place:Int))==sl)=true:=by
    simp only [Bool.or_eq_false_iff,Bool.not_eq_false'] at hc
    exact hc
   obtain ⟨hpf,hsl⟩:=hcc
   have hz:((((place+(prt t k).length:Nat):Int))==(place:Int))=decide (prt t k=[]):=by
    rw [Bool.eq_iff_iff,beq_iff_eq,decide_eq_true_eq,← List.length_eq_zero_iff];omega
   rw [hz,beq_iff_eq] at hsl
   obtain ⟨q1,q2⟩:=prefix_drop hpf
   have q2:=q2 hpl
   have hnm:=closed6 hT hqm hst
   obtain ⟨d,x,f1,f2,f3,f4,f5⟩:=hW.find hT hs hpl (p:=place+(prt t k).length) (by omega) q2 (hr.next hst hpf) hnm
   have hrule:=idx_rule (t:=t) (k:=(k:Int)) (by omega) (by omega)
   refine Tot.bindC (idx_gd default (by rw [hW.clen];omega)) (Tot.bindE f3 ?_)
   rw [hW.base.tt]
   refine Tot.bindC hrule (Tot.bindC (idx_gd default hcl) ?_)
   simp only [Int.toNat_natCast,set_getD]
   have hclen:(cls t k).length=(ruleAt t k).Cells.length:=rfl
   have hsum:iadd .i64 x ((List.length (ruleAt t k).Cells:Nat):Int)=x+((cls t k).length:Nat):=by rw [add64 (by omega) (by omega)]
   rw [hsum]
   have hway:0≤x->(∃ p,Way t q (s.drop place) p∧x+((cls t k).length:Nat)=(lenK t p:Nat))∧x+((cls t k).length:Nat)≤((3072*(s.length-place)+4*finC (costL w place)+4:Nat):Int):=by
    intro h0
    rcases Nat.eq_zero_or_pos (prt t k).length with hz|hz
    ·have hp0:prt t k=[]:=List.length_eq_zero_iff.1 hz
     rw [hz,Nat.add_zero] at f1 f2
     obtain ⟨v',hv',hd⟩:=hW.col.ach d _ f1
     rw [f2] at hv'
     cases hv'
     have hb:=hW.col.bnd d x f2
     refine ⟨?_,by omega⟩
     have:=way_next hst (hd.resolve_left (by omega))
     rwa [hp0,List.nil_append] at this
    ·obtain ⟨g1,g2⟩:=f5 (by omega)
     refine ⟨?_,?_⟩
     ·have:=way_next hst (costS_way (t:=t) (q:=(stepS t q k).1) (x:=s.drop (place+(prt t k).length)) (by omega))
      rw [g1]
      rwa [← q1] at this
     ·have:3072*(s.length-(place+(prt t k).length)+1)≤3072*(s.length-place):=by omega
      omega
   by_cases h0:0≤x
   ·have hg:decide (x≥0)=true:=by simpa using h0
    obtain ⟨u1,u2⟩:=hway h0
    refine Tot.gE hg (Ev.all λ n=>idx_gd 0 hil) ?_
    rw [hvd]
    have hv2:∀ (c:Bool),(if ((decide (x≥0))&&c)=true then idx (w.Columns.getD place default).Costs (i:Int) else some default)=some (if c=true then v else default):=by
     intro c
     rw [hg,Bool.true_and,idx_gd 0 hil,hvd]
     cases c<;>rfl
    refine Tot.bindC (hv2 _) ?_
    by_cases hlt:v<0∨x+((cls t k).length:Nat)<v
    ·refine Tot.iteT ?_ ?_
     ·rw [hg,Bool.true_and,Bool.or_eq_true,decide_eq_true_eq,decide_eq_true_eq]
      by_cases hv0:v<0
      ·exact .inl hv0
      ·right
       rw [if_pos (by simpa using hv0)]
       exact hlt.resolve_left hv0
     ·have hfin:=finC_le (costL w place)
      rw [hW.col.len] at hfin
      have hql:=hW.qlen hT place
      obtain ⟨g1,g2⟩:=hW.col.lower hq' hv u1 hlt u2 (B:=B) (by omega)
      refine Tot.bindC (idx_gd default hcl) (Tot.bindC (idx_gd 0 hil) (Tot.bindC (put_at hil) (hJ _ _ ?_)))
      have hw2:(⟨t,w.S,w.States,w.Arcs,w.Columns.set place ⟨(w.Columns.getD place default).States,(w.Columns.getD place default).Costs.set i (x+((cls t k).length:Nat))⟩,w.Last⟩:GWriter)=setC w place ((costL w place).set i (x+((cls t k).length:Nat))):=by
       unfold setC costL
       rw [← hW.base.tt]
      rw [hw2]
      have hc0:=λ p=>setC_col hcl ((costL w place).set i (x+((cls t k).length:Nat))) p
      have hcp:costL (setC w place ((costL w place).set i (x+((cls t k).length:Nat)))) place=(costL w place).set i (x+((cls t k).length:Nat)):=by rw [(hc0 place).2,if_pos rfl]
      have hlow:∀ (j:Nat) v0,(costL w place)[j]? = some v0->0≤v0->∃ v',((costL w place).set i (x+((cls t k).length:Nat)))[j]? = some v'∧0≤v'∧v'≤v0:=by
       intro j v0 hv0 h00
       by_cases e:i=j
       ·subst e
        rw [hv] at hv0
        cases hv0
        exact ⟨_,List.getElem?_set_self hil,by omega,by omega⟩
       ·exact ⟨v0,by rw [List.getElem?_set_ne e];exact hv0,h00,Int.le_refl _⟩
      refine ⟨hW.set hpl g1,λ p=>(hc0 p).1.trans (hI.cols p),hI.last,λ j v0 hv0 h00=>?_,(λ hb=>by cases hb),λ _=>?_,λ hsl' k' hk' hst' hp' y hy hc=>?_,(λ _ hb=>by cases hb)⟩
      ·obtain ⟨v1,a1,a2,a3⟩:=hI.low j v0 hv0 h00
       obtain ⟨v2,b1,b2,b3⟩:=hlow j v1 a1 a2
       rw [hcp]
       exact ⟨v2,b1,b2,by omega⟩
      ·rw [hcp]
       cases hb:b with
       | false=>rw [hI.fls hb] at g2 ⊢;exact g2
       | true=>have:=hI.less hb;omega
      ·rw [hcp]
       rcases hP k' hk' with rfl|hk'
       ·have hyy:s.drop (place+(prt t k').length)=y:=by rw [q1] at hy;exact List.append_cancel_left hy
        have hlp:0<(prt t k').length:=List.length_pos_iff.2 hp'
        obtain ⟨g3,_⟩:=f5 (by omega)
        rw [hyy] at g3
        exact ⟨_,List.getElem?_set_self hil,by omega,by omega⟩
       ·obtain ⟨v1,a1,a2,a3⟩:=hI.rel hsl' k' hk' hst' hp' y hy hc
        obtain ⟨v2,b1,b2,b3⟩:=hlow i v1 a1 a2
        exact ⟨v2,b1,b2,by omega⟩
    ·refine Tot.iteF ?_ ?_
     ·rw [hg,Bool.true_and,← Bool.not_eq_true,Bool.or_eq_true,decide_eq_true_eq,decide_eq_true_eq]
      have hv0:¬v<0:=λ hh=>hlt (.inl hh)
      rw [if_pos (by simpa using hv0)]
      exact hlt
     ·have hws:(⟨t,w.S,w.States,w.Arcs,w.Columns,w.Last⟩:GWriter)=w:=by rw [← hW.base.tt]
      rw [hws]
      refine hJ w b (hskip (λ _ hp' y hy hc=>?_) λ _ hp'=>?_)
      ·have hyy:s.drop (place+(prt t k).length)=y:=by rw [q1] at hy;exact List.append_cancel_left hy
       have hlp:0<(prt t k).length:=List.length_pos_iff.2 hp'
       obtain ⟨g3,_⟩:=f5 (by omega)
       rw [hyy] at g3
       exact ⟨v,hv,by omega,by omega⟩
      ·rw [hp',List.length_nil,Nat.add_zero] at f1 f2
       exact ⟨d,x,f1,f2,λ _=>⟨v,hv,by omega,by omega⟩⟩
   ·have hg:decide (x≥0)=false:=by simpa using h0
    refine Tot.gF hg (Tot.gF (by rw [hg];rfl) (Tot.iteF (by rw [hg];rfl) ?_))
    have hws:(⟨t,w.S,w.States,w.Arcs,w.Columns,w.Last⟩:GWriter)=w:=by rw [← hW.base.tt]
    rw [hws]
    refine hJ w b (hskip (λ _ hp' y hy hc=>?_) λ _ hp'=>?_)
    ·have hyy:s.drop (place+(prt t k).length)=y:=by rw [q1] at hy;exact List.append_cancel_left hy
     have hlp:0<(prt t k).length:=List.length_pos_iff.2 hp'
     obtain ⟨g3,_⟩:=f5 (by omega)
     rw [hyy] at g3
     omega
    ·rw [hp',List.length_nil,Nat.add_zero] at f1 f2
     exact ⟨d,x,f1,f2,λ h1=>absurd h1 h0⟩
 ·rintro ⟨w,b,m'⟩ ⟨e1,hI⟩
  simp only at e1 hI
  subst e1
  have hall:∀ k:Nat,(stepS t q k).2=true->∃ (m':Nat) (a:GArc),m'<(arcsOf t q).length∧(arcsOf t q)[m']? = some a∧a.Rule=(k:Int):=by
   intro k hst
   obtain ⟨m',hm',e⟩:=List.getElem_of_mem (mem_arcs.2 ⟨k,by have:=stepS_in hst;omega,hst,rfl⟩:(⟨k,indexS (statesS t) (stepS t q k).1⟩:GArc)∈arcsOf t q)
   exact ⟨m',_,hm',by rw [List.getElem?_eq_getElem hm',e],rfl⟩
  unfold FTr_writer_price_1_L1
  exact Tot.iteF (by simp) (Tot.pure ⟨hI.pi,hI.cols,hI.last,hI.low,hI.fls,hI.less,λ hsl k _ hst=>hI.rel hsl k (hall k hst) hst,λ hsl hb k _ hst=>hI.sil hsl hb k (hall k hst) hst⟩)
theorem price1_ev (sl:Bool) {place:Nat} (hpl:place≤s.length) {B:Nat} (hB:13000000≤B) {w1:GWriter} (h:PI t s place w1) {i:Nat} {q:GState} (hq:(qsAt t w1 place)[i]? = some q) :
  Tot (λ n=>FTr_writer_price_1 n (i:Int) sl (place:Int) (place:Int) w1) (λ y=>Imp t s place sl B i q (λ _=>True) w1 y.1 y.2):=by
 have hcl:place<w1.Columns.length:=by rw [h.clen];omega
 obtain ⟨j,g1,g2⟩:=(qs_get (h.ok place)).1 hq
 unfold FTr_writer_price_1
 refine Tot.bindC (idx_gd default hcl) (Tot.bindC (idx_at g1) (Tot.bindC (idx_at (h.base.arc j q g2)) ?_))
 simp only [Int.toNat_natCast,writer_same]
 exact Tot.bind (price1L_ev hT hs sl hpl hB h hq) (λ y hy=>Tot.pure hy)
end
end Go.AI
end
section
namespace Go.AI
structure PB (t:GTable) (s:List UInt8) (m:Nat) (w:GWriter):Prop where
 base:WBase t s w
 clen:w.Columns.length=s.length+1
 nod:∀ p,(colS w p).Nodup
 ok:∀ p v,InC w p v->∃ (j:Nat) (q:GState),v=(j:Int)∧(statesS t)[j]? = some q∧Rch t s p q
 all:∀ p (j:Nat) q,(statesS t)[j]? = some q->Rch t s p q->InC w p (j:Int)
 sort:∀ p,p≤s.length->(colS w p).Pairwise (·≤·)
 later:∀ p,m≤p->p≤s.length->(∀ (i:Nat) q,(qsAt t w p)[i]? = some q->(costL w p)[i]? = some (costS t q (s.drop p)))∧∀ (i:Nat) v,(costL w p)[i]? = some v->v≤((3072*(s.length-p+1):Nat):Int)
theorem PI.pb {t:GTable} {s:List UInt8} {place:Nat} {w:GWriter} (h:PI t s place w):PB t s (place+1) w:=⟨h.base,h.clen,h.nod,h.ok,h.all,h.sort,λ p hp=>h.later p (by omega)⟩
theorem PB.pi {t:GTable} {s:List UInt8} {place:Nat} {w:GWriter} (h:PB t s (place+1) w) (hc:Col t (s.drop place) (3072*(s.length-place)) (qsAt t w place) (costL w place)):PI t s place w:=⟨h.base,h.clen,h.nod,h.ok,h.all,h.sort,λ p hp=>h.later p (by omega),hc⟩
theorem WR.pb {t:GTable} {s:List UInt8} {w:GWriter} (h:WR t s w):PB t s (s.length+1) w:=⟨h.base,h.clen,h.nod,h.ok,h.all,h.sort,λ p hp hp'=>by omega⟩
theorem PB.set {t:GTable} {s:List UInt8} {place:Nat} {w:GWriter} (h:PB t s (place+1) w) (hpl:place≤s.length) {cs:List Int} (hc:Col t (s.drop place) (3072*(s.length-place)) (qsAt t w place) cs):PI t s place (setC w place cs):=by
 have hp:place<w.Columns.length:=by rw [h.clen];omega
 refine ⟨⟨h.base.tt,h.base.ss,h.base.st,h.base.al,h.base.arc⟩,?_,λ p=>?_,λ p v hv=>?_,λ p j q h1 h2=>?_,λ p hp'=>?_,λ p h1 h2=>?_,?_⟩
 ·show (w.Columns.set _ _).length=_
  rw [List.length_set];exact h.clen
 ·rw [(setC_col hp cs p).1];exact h.nod p
 ·unfold InC at hv;rw [(setC_col hp cs p).1] at hv;exact h.ok p v hv
 ·unfold InC;rw [(setC_col hp cs p).1];exact h.all p j q h1 h2
 ·rw [(setC_col hp cs p).1];exact h.sort p hp'
 ·rw [setC_qs hp,(setC_col hp cs p).2,if_neg (by omega)];exact h.later p (by omega) h2
 ·rw [setC_qs hp,(setC_col hp cs place).2,if_pos rfl];exact hc
section
variable {t:GTable} (hT:Tab6 t) {s:List UInt8} (hs:s.length≤4000)
include hT hs
omit hT in
theorem price2_ev {place:Nat} (hpl:place≤s.length) {w:GWriter} (h:PB t s (place+1) w) (hl7:(colS w place).length≤768) (l0:List Int) (hl0:l0.length=(colS w place).length) :
  Tot (λ n=>whl (λ (x:((List Int)×Int))=>FTr_writer_price_L2 n w (place:Int) (w.Columns.getD place default) l0 ⟨colS w place,l0⟩ x.1 x.2) n (l0,0)) (λ w'=>w'=setC w place ((qsAt t w place).map (firstV t (s.drop place)))):=by
 have hcl:place<w.Columns.length:=by rw [h.clen];omega
 refine Tot.upto (body:=λ n x=>FTr_writer_price_L2 n w (place:Int) (w.Columns.getD place default) l0 ⟨colS w place,l0⟩ x.1 x.2) (colS w place).length (λ k x=>x.2=(k:Int)∧x.1.length=(colS w place).length∧∀ (j:Nat) q,j<k->(qsAt t w place)[j]? = some q->x.1[j]? = some (firstV t (s.drop place) q)) ?_ ?_ _ ⟨rfl,hl0,by omega⟩
 ·rintro k ⟨r,k'⟩ hk ⟨e1,e2,e3⟩
  simp only at e1 e2 e3
  subst e1
  have hv:(colS w place)[k]? = some (colS w place)[k]:=List.getElem?_eq_getElem hk
  obtain ⟨j,q,hvj,hq,hr⟩:=h.ok place _ (List.mem_of_getElem? hv)
  have hqk:(qsAt t w place)[k]? = some q:=(qs_get (h.ok place)).2 ⟨j,by rw [← hvj];exact hv,hq⟩
  have hJ:∀ v,v=firstV t (s.drop place) q->∀ r',r'=r.set k v->Tot (λ n=>FTr_writer_price_J1 n (k:Int) r') (Rd2 (λ x:List Int×Int=>x.2=((k+1:Nat):Int)∧x.1.length=(colS w place).length∧∀ (j:Nat) q,j<k+1->(qsAt t w place)[j]? = some q->x.1[j]? = some (firstV t (s.drop place) q)) (λ w'=>w'=setC w place ((qsAt t w place).map (firstV t (s.drop place))))):=by
   rintro v rfl r' rfl
   unfold FTr_writer_price_J1
   refine Tot.pure ⟨inc64 (by omega),by rw [List.length_set];exact e2,λ j' q' hj' hq'=>?_⟩
   by_cases e:k=j'
   ·subst e
    rw [hqk] at hq';cases hq'
    exact List.getElem?_set_self (by omega)
   ·show (r.set k _)[j']? = _
    rw [List.getElem?_set_ne e];exact e3 j' q' (by omega) hq'
  unfold FTr_writer_price_L2
  refine Tot.iteT (lt_d hk) (Tot.bindC (idx_at hv) (Tot.bindC (idx_gd default (by rw [Int.toNat_natCast,List.length_set];exact hcl)) (Tot.bindC (idx_gd 0 (show k<r.length by omega)) (Tot.bindC (put_at (show k<r.length by omega)) ?_))))
  rw [h.base.ss,h.base.st,h.base.tt,drop_nil hs hpl,hvj]
  by_cases hd:s.drop place=[]
  ·refine Tot.gE (decide_eq_true hd) (Ev.all λ n=>idx_at hq) (Tot.gE (decide_eq_true hd) (Ev.all λ n=>accepts_eq n t _) (Tot.ite (λ h=>?_) λ h=>?_))
   ·have ha:acceptsS t q=true:=by simpa [hd] using h
    refine Tot.bindC (idx_gd 0 (by rw [List.length_set];show k<r.length;omega)) (Tot.bindC (put_at (by rw [List.length_set];show k<r.length;omega)) (hJ 0 ?_ _ ?_))
    ·unfold firstV;rw [if_pos ⟨hd,ha⟩]
    ·rw [List.set_set]
   ·have ha:acceptsS t q=false:=by simpa [hd] using h
    refine hJ (-1) ?_ _ rfl
    unfold firstV;rw [if_neg (by rw [ha];simp)]
  ·refine Tot.gF (decide_eq_false hd) (Tot.gF (decide_eq_false hd) (Tot.iteF (by simp [hd]) (hJ (-1) ?_ _ rfl)))
   unfold firstV;rw [if_neg (λ h=>hd h.1)]
 ·rintro ⟨r,k'⟩ ⟨e1,e2,e3⟩
  simp only at e1 e2 e3
  subst e1
  unfold FTr_writer_price_L2
  refine Tot.iteF (by simp) (Tot.pure ?_)
  have hr:r=(qsAt t w place).map (firstV t (s.drop place)):=by
   have hq:(qsAt t w place).length=(colS w place).length:=by simp [qsAt]
   refine List.ext_getElem? λ j=>?_
   rcases Nat.lt_or_ge j (colS w place).length with hj|hj
   ·have hg:(qsAt t w place)[j]? = some (qsAt t w place)[j]:=List.getElem?_eq_getElem (by omega)
    rw [e3 j _ hj hg,List.getElem?_map,hg];rfl
   ·rw [List.getElem?_eq_none (by omega),List.getElem?_eq_none (by rw [List.length_map];omega)]
  subst hr
  unfold setC
  simp only [Int.toNat_natCast,List.set_set]
  rfl
theorem price3_ev {place:Nat} (hpl:place≤s.length) {w1:GWriter} (h:PI t s place w1) :
  Tot (λ n=>whl (λ (x:(GWriter×Int))=>FTr_writer_price_L3 n (place:Int) (w1.Columns.getD place default) x.1 x.2) n (w1,0)) (λ w=>PI t s place w∧(∀ p,colS w p=colS w1 p)∧w.Last=w1.Last∧Done1 t (s.drop place) (qsAt t w place) (costL w place)):=by
 have hql:=h.qlen hT place
 refine Tot.upto (body:=λ n x=>FTr_writer_price_L3 n (place:Int) (w1.Columns.getD place default) x.1 x.2) (colS w1 place).length (λ i x=>x.2=(i:Int)∧PI t s place x.1∧(∀ p,colS x.1 p=colS w1 p)∧x.1.Last=w1.Last∧∀ (j:Nat) q (k:Nat),j<i->(qsAt t w1 place)[j]? = some q->(stepS t q k).2=true->prt t k≠[]->∀ y,s.drop place=prt t k++y->0≤costS t (stepS t q k).1 y->∃ v,(costL x.1 place)[j]? = some v∧0≤v∧v≤costS t (stepS t q k).1 y+(cls t k).length) ?_ ?_ _ ⟨rfl,h,λ _=>rfl,rfl,λ j q k h=>by omega⟩
 ·rintro i ⟨w,i'⟩ hi ⟨e1,hP,hC,hL,hR⟩
  simp only at e1 hP hC hL hR
  subst e1
  have hqs:qsAt t w place=qsAt t w1 place:=by unfold qsAt;rw [hC]
  obtain ⟨q0,hq⟩:∃ q0,(qsAt t w place)[i]? = some q0:=⟨_,List.getElem?_eq_getElem (by rw [hqs,hql.1];exact hi)⟩
  unfold FTr_writer_price_L3
  refine Tot.iteT (lt_d hi) (Tot.bind (price1_ev hT hs false hpl (Nat.le_refl 13000000) hP hq) ?_)
  rintro ⟨w2,b⟩ hI
  refine Tot.pure ⟨inc64 (by omega),hI.pi,λ p=>(hI.cols p).trans (hC p),hI.last.trans hL,λ j q k hj hjq hst hp y hy hc=>?_⟩
  by_cases e:j=i
  ·subst e
   rw [← hqs,hq] at hjq
   cases hjq
   exact hI.rel rfl k trivial hst hp y hy hc
  ·obtain ⟨v,a1,a2,a3⟩:=hR j q k (by omega) hjq hst hp y hy hc
   obtain ⟨v',b1,b2,b3⟩:=hI.low j v a1 a2
   exact ⟨v',b1,b2,by omega⟩
 ·rintro ⟨w,i'⟩ ⟨e1,hP,hC,hL,hR⟩
  simp only at e1 hP hC hL hR
  subst e1
  have hqs:qsAt t w place=qsAt t w1 place:=by unfold qsAt;rw [hC]
  unfold FTr_writer_price_L3
  refine Tot.iteF (nlt_d _) (Tot.pure ⟨hP,hC,hL,⟨λ j q k hj hst hp y hy hc=>?_⟩⟩)
  rw [hqs] at hj
  exact hR j q k (by have:=getElem?_lt' hj;omega) hj hst hp y hy hc
theorem price5_ev {place:Nat} (hpl:place≤s.length) {w1:GWriter} (h:PI t s place w1) :
  Tot (λ n=>whl (λ (x:(GWriter×Bool×Int))=>FTr_writer_price_L5 n (place:Int) (w1.Columns.getD place default) x.1 x.2.1 x.2.2) n (w1,false,0)) (λ y=>PI t s place y.1∧(∀ p,colS y.1 p=colS w1 p)∧y.1.Last=w1.Last∧(∀ (j:Nat) v,(costL w1 place)[j]? = some v->0≤v->∃ v',(costL y.1 place)[j]? = some v'∧0≤v'∧v'≤v)∧(y.2=false->y.1=w1∧Done2 t (qsAt t w1 place) (costL w1 place))∧(y.2=true->phi 13000000 (costL y.1 place)<phi 13000000 (costL w1 place))):=by
 have hql:=h.qlen hT place
 refine Tot.upto (body:=λ n x=>FTr_writer_price_L5 n (place:Int) (w1.Columns.getD place default) x.1 x.2.1 x.2.2) (colS w1 place).length (λ i x=>x.2.2=(i:Int)∧PI t s place x.1∧(∀ p,colS x.1 p=colS w1 p)∧x.1.Last=w1.Last∧(∀ (j:Nat) v,(costL w1 place)[j]? = some v->0≤v->∃ v',(costL x.1 place)[j]? = some v'∧0≤v'∧v'≤v)∧(x.2.1=false->x.1=w1∧∀ (j:Nat) q (k:Nat),j<i->(qsAt t w1 place)[j]? = some q->(stepS t q k).2=true->prt t k=[]->∃ (i':Nat) (w':Int),(qsAt t w1 place)[i']? = some (stepS t q k).1∧(costL w1 place)[i']? = some w'∧(0≤w'->∃ v,(costL w1 place)[j]? = some v∧0≤v∧v≤w'+(cls t k).length))∧(x.2.1=true->phi 13000000 (costL x.1 place)<phi 13000000 (costL w1 place))) ?_ ?_ _ ⟨rfl,h,λ _=>rfl,rfl,λ j v hv h0=>⟨v,hv,h0,Int.le_refl v⟩,λ _=>⟨rfl,λ j q k h=>by omega⟩,(λ h=>by cases h)⟩
 ·rintro i ⟨w,b,i'⟩ hi ⟨e1,hP,hC,hL,hlow,hfl,hle⟩
  simp only at e1 hP hC hL hlow hfl hle
  subst e1
  have hqs:qsAt t w place=qsAt t w1 place:=by unfold qsAt;rw [hC]
  obtain ⟨q0,hq⟩:∃ q0,(qsAt t w place)[i]? = some q0:=⟨_,List.getElem?_eq_getElem (by rw [hqs,hql.1];exact hi)⟩
  unfold FTr_writer_price_L5
  refine Tot.iteT (lt_d hi) (Tot.bind (price1_ev hT hs true hpl (Nat.le_refl 13000000) hP hq) ?_)
  rintro ⟨w2,b2⟩ hI
  simp only at hI
  refine Tot.pure ⟨inc64 (by omega),hI.pi,λ p=>(hI.cols p).trans (hC p),hI.last.trans hL,λ j v hv h0=>?_,λ hb=>?_,λ hb=>?_⟩
  ·obtain ⟨v1,a1,a2,a3⟩:=hlow j v hv h0
   obtain ⟨v2,b1,b2,b3⟩:=hI.low j v1 a1 a2
   exact ⟨v2,b1,b2,by omega⟩
  ·simp only [Bool.or_eq_false_iff] at hb
   obtain ⟨e2,hR⟩:=hfl hb.2
   refine ⟨(hI.fls hb.1).trans e2,λ j q k hj hjq hst hp=>?_⟩
   by_cases e:j=i
   ·subst e
    rw [← hqs,hq] at hjq
    cases hjq
    have:=hI.sil rfl hb.1 k trivial hst hp
    rw [e2] at this
    exact this
   ·exact hR j q k (by omega) hjq hst hp
  ·simp only [Bool.or_eq_true] at hb
   cases hb2:b2 with
   | true=>
    have h1:=hI.less hb2
    cases hbb:b with
    | true=>have:=hle hbb;show phi 13000000 (costL w2 place)<_;omega
    | false=>rw [(hfl hbb).1] at h1;exact h1
   | false=>
    rw [hI.fls hb2]
    exact hle (hb.resolve_left (by rw [hb2];simp))
 ·rintro ⟨w,b,i'⟩ ⟨e1,hP,hC,hL,hlow,hfl,hle⟩
  simp only at e1 hP hC hL hlow hfl hle
  subst e1
  unfold FTr_writer_price_L5
  refine Tot.iteF (nlt_d _) (Tot.pure ⟨hP,hC,hL,hlow,λ hb=>⟨(hfl hb).1,⟨λ j q k hj hst hp=>(hfl hb).2 j q k (by have:=getElem?_lt' hj;omega) hj hst hp⟩⟩,hle⟩)
theorem price4_ev {place:Nat} (hpl:place≤s.length) {w1:GWriter} (h:PI t s place w1) (h1:Done1 t (s.drop place) (qsAt t w1 place) (costL w1 place)) :
  Tot (λ n=>whl (λ (x:GWriter)=>FTr_writer_price_L4 n (place:Int) x) n w1) (λ w=>PB t s place w∧(∀ p,colS w p=colS w1 p)∧w.Last=w1.Last):=by
 refine Tot.whl (body:=λ n x=>FTr_writer_price_L4 n (place:Int) x) (λ m x=>m=phi 13000000 (costL x place)∧PI t s place x∧(∀ p,colS x p=colS w1 p)∧x.Last=w1.Last∧Done1 t (s.drop place) (qsAt t x place) (costL x place)) ?_ _ w1 ⟨rfl,h,λ _=>rfl,rfl,h1⟩
 rintro m w ⟨rfl,hP,hC,hL,hD⟩
 have hcl:place<w.Columns.length:=by rw [hP.clen];omega
 unfold FTr_writer_price_L4
 refine Tot.bindC (idx_gd default hcl) ?_
 simp only [Int.toNat_natCast,writer_same]
 refine Tot.bind (price5_ev hT hs hpl hP) ?_
 rintro ⟨w2,b⟩ ⟨g1,g2,g3,g4,g5,g6⟩
 simp only at g1 g2 g3 g4 g5 g6 ⊢
 cases b with
 | false=>
  obtain ⟨e,hD2⟩:=g5 rfl
  subst e
  refine Tot.iteT rfl (Tot.pure ⟨⟨hP.base,hP.clen,hP.nod,hP.ok,hP.all,hP.sort,λ p h1 h2=>?_⟩,hC,hL⟩)
  rcases Nat.eq_or_lt_of_le h1 with rfl|hlt
  ·refine ⟨λ i q hq=>hP.col.exact (hP.qn hT place) hD hD2 hq,λ i v hv=>?_⟩
   have hb:=(hP.col.top hv).2
   have:=hP.qlen hT place
   omega
  ·exact hP.later p hlt h2
 | true=>
  have hqs:qsAt t w2 place=qsAt t w place:=by unfold qsAt;rw [g2]
  refine Tot.iteF rfl (Tot.pure ⟨_,g6 rfl,rfl,g1,λ p=>(g2 p).trans (hC p),g3.trans hL,⟨λ j q k hj hst hp y hy hc=>?_⟩⟩)
  rw [hqs] at hj
  obtain ⟨v,a1,a2,a3⟩:=hD.rel j q k hj hst hp y hy hc
  obtain ⟨v',b1,b2,b3⟩:=g4 j v a1 a2
  exact ⟨v',b1,b2,by omega⟩
theorem price_ev {w1:GWriter} (h:WR t s w1):Tot (λ n=>FTr_writer_price n w1) (λ w=>PB t s 0 w∧w.Last=w1.Last):=by
 have hlen:=len6 hT
 unfold FTr_writer_price
 rw [h.base.ss]
 refine Tot.bind (R:=λ w=>PB t s 0 w∧w.Last=w1.Last) ?_ (λ w h=>Tot.pure h)
 refine Tot.whl (body:=λ n x=>FTr_writer_price_L1 n x.1 x.2) (λ m x=>x.2=(m:Int)-1∧m≤s.length+1∧PB t s m x.1∧x.1.Last=w1.Last) ?_ (s.length+1) _ ⟨by simp,by omega,h.pb,rfl⟩
 rintro m ⟨w,i'⟩ ⟨e2,e4,e5,e6⟩
 simp only at e2 e5 e6
 subst e2
 unfold FTr_writer_price_L1
 cases m with
 | zero=>exact Tot.iteF (by simp) (Tot.pure ⟨e5,e6⟩)
 | succ i=>
  have ei:((i+1:Nat):Int)-1=(i:Int):=by omega
  rw [ei]
  have hcl:i<w.Columns.length:=by rw [e5.clen];omega
  have hll:(colS w i).length≤768:=by
   have hsub:∀ v∈colS w i,v∈(List.range (statesS t).length).map (λ j:Nat=>(j:Int)):=by
    intro v hv
    obtain ⟨j,q,rfl,hq,_⟩:=e5.ok i v hv
    exact List.mem_map.2 ⟨j,List.mem_range.2 (getElem?_lt' hq),rfl⟩
   have:=(e5.nod i).length_le_of_subset hsub
   rw [List.length_map,List.length_range] at this
   omega
  refine Tot.iteT (by simp) (Tot.bindC (idx_gd default hcl) (Tot.bindC (idx_gd default hcl) (Tot.bindC (mkl_d (by omega) (by show ((colS w i).length:Int).toNat*8≤_;omega)) ?_)))
  rw [show (w.Columns.getD i default).States=colS w i from rfl,Int.toNat_natCast,Int.toNat_natCast]
  refine Tot.bindC (idx_gd default (by rw [List.length_set];exact hcl)) ?_
  rw [getD_set hcl]
  refine Tot.bind (price2_ev hs (show i≤s.length by omega) e5 hll (List.replicate (colS w i).length 0) (by simp)) ?_
  rintro w2 rfl
  have hPI:=e5.set (show i≤s.length by omega) (first_col t (s.drop i) _ (qsAt t w i))
  have hcl2:i<(setC w i ((qsAt t w i).map (firstV t (s.drop i)))).Columns.length:=by rw [hPI.clen];omega
  refine Tot.bindC (idx_gd default hcl2) ?_
  simp only [writer_same]
  refine Tot.bind (price3_ev hT hs (show i≤s.length by omega) hPI) ?_
  rintro w3 ⟨g1,g2,g3,g4⟩
  refine Tot.bind (price4_ev hT hs (show i≤s.length by omega) g1 g4) ?_
  rintro w4 ⟨k1,k2,k3⟩
  refine Tot.pure ⟨i,by omega,?_,by omega,k1,?_⟩
  ·show isub .i64 (i:Int) 1=(i:Int)-1
   rw [sub64 (by omega) (by omega)]
  ·rw [k3,g3];exact e6
end
end Go.AI
end
section
namespace Go.AI
structure WrOK (t:GTable) (s:List UInt8) (w:GWriting) (a e:Int):Prop where
 bad:(textS s).2≠0->w=⟨[],[]⟩∧a=(textS s).1∧e=(textS s).2
 none:(textS s).2=0->costS t startS s<0->w=⟨[],[]⟩∧LastP t s a∧e=61
 path:(textS s).2=0->0≤costS t startS s->e=0∧a=(s.length:Int)∧∃ p,Greedy t startS s p∧w=⟨cellsOf t p,p⟩
theorem WrOK.uniq {t:GTable} {s:List UInt8} {w w':GWriting} {a a' e e':Int} (h:WrOK t s w a e) (h':WrOK t s w' a' e'):w=w'∧a=a'∧e=e':=by
 by_cases h1:(textS s).2=0
 ·by_cases h2:costS t startS s<0
  ·obtain ⟨g1,g2,g3⟩:=h.none h1 h2
   obtain ⟨k1,k2,k3⟩:=h'.none h1 h2
   exact ⟨g1.trans k1.symm,g2.uniq k2,g3.trans k3.symm⟩
  ·obtain ⟨g1,g2,p,g3,g4⟩:=h.path h1 (by omega)
   obtain ⟨k1,k2,p',k3,k4⟩:=h'.path h1 (by omega)
   have:=g3.uniq k3
   subst this
   exact ⟨g4.trans k4.symm,g2.trans k2.symm,g1.trans k1.symm⟩
 ·obtain ⟨g1,g2,g3⟩:=h.bad h1
  obtain ⟨k1,k2,k3⟩:=h'.bad h1
  exact ⟨g1.trans k1.symm,g2.trans k2.symm,g3.trans k3.symm⟩
theorem arcs_sorted (t:GTable) (q:GState):(arcsOf t q).Pairwise (λ a b=>a.Rule<b.Rule):=by
 unfold arcsOf
 refine List.Pairwise.filterMap _ (R:=λ a b=>a<b) (λ a a' hlt b hb b' hb'=>?_) List.pairwise_lt_range
 unfold arcAt at hb hb'
 split at hb
 ·split at hb'
  ·cases hb;cases hb';simp only;omega
  ·cases hb'
 ·cases hb
theorem Goes.app {t:GTable}:∀ {p:List Int} {q q' q'':GState} {p':List Int},Goes t q p q'->Goes t q' p' q''->Goes t q (p++p') q''
 | [],q,q',q'',p',h,h'=>by unfold Goes at h;subst h;exact h'
 | a::p,q,q',q'',p',h,h'=>⟨h.1,Goes.app h.2 h'⟩
theorem cellsOf_snoc (t:GTable) (p:List Int) (k:Int):cellsOf t (p++[k])=cellsOf t p++cls t k:=by simp [cellsOf]
theorem lenC_snoc (t:GTable) (p:List Int) (k:Int):lenK t (p++[k])=lenK t p+(cls t k).length:=by simp [lenK,cellsOf]
section
variable {t:GTable} (hT:Tab6 t) {s:List UInt8} (hs:s.length≤4000)
include hT
omit hT in
theorem PB.pi0 {w:GWriter} {t:GTable} {s:List UInt8} (h:PB t s 0 w) (p:Nat) (hp:p≤s.length):(∀ (i:Nat) q,(qsAt t w p)[i]? = some q->(costL w p)[i]? = some (costS t q (s.drop p)))∧∀ (i:Nat) v,(costL w p)[i]? = some v->v≤((3072*(s.length-p+1):Nat):Int):=h.later p (by omega) hp
theorem PB.find {w:GWriter} (h:PB t s 0 w) {p:Nat} (hp:p≤s.length) {q:GState} (hr:Rch t s p q) (hq:q∈statesS t):Ev (λ n=>FTr_column_find n (w.Columns.getD p default) (indexS (statesS t) q)) (costS t q (s.drop p))∧costS t q (s.drop p)≤((3072*(s.length-p+1):Nat):Int):=by
 obtain ⟨j,hj,hg⟩:=indexS_in hq
 obtain ⟨d,hd,e⟩:=List.getElem_of_mem (h.all p j q hg hr)
 have hd':(colS w p)[d]? = some (j:Int):=by rw [← e];exact List.getElem?_eq_getElem hd
 have hqs:(qsAt t w p)[d]? = some q:=(qs_get (h.ok p)).2 ⟨j,hd',hg⟩
 obtain ⟨k1,k2⟩:=h.pi0 p hp
 have hx:=k1 d q hqs
 have hll:(colS w p).length≤768:=by
  have hsub:∀ v∈colS w p,v∈(List.range (statesS t).length).map (λ j:Nat=>(j:Int)):=by
   intro v hv
   obtain ⟨j,q,rfl,hq,_⟩:=h.ok p v hv
   exact List.mem_map.2 ⟨j,List.mem_range.2 (getElem?_lt' hq),rfl⟩
  have:=(h.nod p).length_le_of_subset hsub
  have:=len6 hT
  simp at *;omega
 refine ⟨?_,k2 d _ hx⟩
 rw [hj]
 exact find_ev (by show (colS w p).length≤1000;omega) (h.sort p hp) (h.nod p) hd' hx
include hs
theorem write2_ev {w:GWriter} (h:PB t s 0 w) {place:Nat} (hpl:place≤s.length) {q:GState} (hr:Rch t s place q) (hq:q∈statesS t) (hc:0<costS t q (s.drop place)) (r0:GWriting) (h1:r0.Cells.length≤13000000) (h2:r0.Path.length≤13000000) :
  Tot (λ n=>whl (λ (x:Int)=>FTr_writer_writingx_L2 n w r0 (place:Int) (costS t q (s.drop place)) (arcsOf t q) x) n 0) (λ y=>∃ k:Nat,nextKC t q (s.drop place) k=costS t q (s.drop place)∧(∀ j:Nat,j<k->nextKC t q (s.drop place) j≠costS t q (s.drop place))∧y=.inl (⟨r0.Cells++cls t k,r0.Path++[(k:Int)]⟩,((place+(prt t k).length:Nat):Int),indexS (statesS t) (stepS t q k).1,costS t (stepS t q k).1 (s.drop (place+(prt t k).length)))):=by
 have hrl:=hT.tab.1
 have hal:(arcsOf t q).length≤t.Rules.length:=by unfold arcsOf;exact Nat.le_trans (List.length_filterMap_le _ _) (by simp)
 refine Tot.upto (body:=λ n x=>FTr_writer_writingx_L2 n w r0 (place:Int) (costS t q (s.drop place)) (arcsOf t q) x) (arcsOf t q).length (λ i x=>x=(i:Int)∧∀ (i':Nat) a (k:Nat),i'<i->(arcsOf t q)[i']? = some a->a.Rule=(k:Int)->nextKC t q (s.drop place) k≠costS t q (s.drop place)) ?_ ?_ _ ⟨rfl,λ i' a k h=>by omega⟩
 ·rintro i x hi ⟨rfl,hI⟩
  have ha:(arcsOf t q)[i]? = some (arcsOf t q)[i]:=List.getElem?_eq_getElem hi
  obtain ⟨k,hk,hst,hae⟩:=mem_arcs.1 (List.getElem_mem hi)
  obtain ⟨p1,p2,p3⟩:=hT.pr hst
  have hJ:nextKC t q (s.drop place) k≠costS t q (s.drop place)->Tot (λ n=>FTr_writer_writingx_J1 n (i:Int)) (Rd2 (λ x=>x=((i+1:Nat):Int)∧∀ (i':Nat) a (k:Nat),i'<i+1->(arcsOf t q)[i']? = some a->a.Rule=(k:Int)->nextKC t q (s.drop place) k≠costS t q (s.drop place)) (λ y:(GWriting×Int×Int×Int)⊕Unit=>∃ k:Nat,nextKC t q (s.drop place) k=costS t q (s.drop place)∧(∀ j:Nat,j<k->nextKC t q (s.drop place) j≠costS t q (s.drop place))∧y=.inl (⟨r0.Cells++cls t k,r0.Path++[(k:Int)]⟩,((place+(prt t k).length:Nat):Int),indexS (statesS t) (stepS t q k).1,costS t (stepS t q k).1 (s.drop (place+(prt t k).length))))):=by
   intro hne
   unfold FTr_writer_writingx_J1
   refine Tot.pure ⟨inc64 (by omega),λ i' a k' hi' hia hak=>?_⟩
   by_cases e:i'=i
   ·subst e
    rw [ha,hae] at hia
    cases hia
    simp only at hak
    have:k=k':=by omega
    subst this
    exact hne
   ·exact hI i' a k' (by omega) hia hak
  unfold FTr_writer_writingx_L2
  refine Tot.iteT (lt_d hi) (Tot.bindC (idx_at ha) ?_)
  rw [hae]
  refine Tot.bindA (λ n=>prints_eq hT hs h.base hpl hst n) (Tot.ite (λ hpf=>?_) λ hpf=>?_)
  ·refine hJ λ he=>?_
   have hpf':(prt t k).isPrefixOf (s.drop place)=false:=by simpa using hpf
   obtain ⟨_,⟨y,hy,_⟩,_⟩:=nextC_pos (t:=t) (q:=q) (x:=s.drop place) (k:=(k:Int)) (by omega)
   rw [← Bool.not_eq_true,List.isPrefixOf_iff_prefix,hy] at hpf'
   exact hpf' (List.prefix_append _ _)
  ·have hpf':(prt t k).isPrefixOf (s.drop place)=true:=by simpa using hpf
   have q2:=(prefix_drop hpf').2 hpl
   obtain ⟨f1,f2⟩:=h.find hT q2 (hr.next hst hpf') (closed6 hT hq hst)
   have f3:=costS_ge t (stepS t q k).1 (s.drop (place+(prt t k).length))
   have hrule:=idx_rule (t:=t) (k:=(k:Int)) (by omega) (by omega)
   have hclen:(cls t k).length=(ruleAt t k).Cells.length:=rfl
   have hcb:=(h.find hT hpl hr hq).2
   have hn:nextKC t q (s.drop place) k=if 0≤costS t (stepS t q k).1 (s.drop (place+(prt t k).length)) then costS t (stepS t q k).1 (s.drop (place+(prt t k).length))+(cls t k).length else -1:=by
    unfold nextKC
    rw [List.drop_drop]
    have hpp:prt t k <+: s.drop place:=List.isPrefixOf_iff_prefix.1 hpf'
    by_cases h0:0≤costS t (stepS t q k).1 (s.drop (place+(prt t k).length))
    ·rw [if_pos ⟨hst,hpp,h0⟩,if_pos h0]
    ·rw [if_neg (λ hh=>h0 hh.2.2),if_neg h0]
   rw [h.base.tt]
   refine Tot.bindC hrule (Tot.bindC (idx_gd default (by rw [h.clen];omega)) (Tot.bindE f1 ?_))
   have hsub:isub .i64 (costS t q (s.drop place)) ((List.length (ruleAt t k).Cells:Nat):Int)=costS t q (s.drop place)-((cls t k).length:Nat):=by rw [sub64 (by omega) (by omega)]
   rw [hsub]
   refine Tot.ite (λ hcond=>hJ λ he=>?_) λ hcond=>?_
   ·simp only [Bool.or_eq_true,decide_eq_true_eq,bne_iff_ne,ne_eq] at hcond
    rw [hn] at he
    split at he<;>omega
   ·simp only [Bool.or_eq_false_iff,decide_eq_false_iff_not,bne_eq_false_iff_eq] at hcond
    refine Tot.bindC (app_le (by omega)) (Tot.bindC (app_le (by simp;omega)) (Tot.pure ⟨k,?_,λ j hj hje=>?_,?_⟩))
    ·rw [hn,if_pos (by omega)];omega
    ·obtain ⟨hsj,_⟩:=nextC_pos (t:=t) (q:=q) (x:=s.drop place) (k:=(j:Int)) (by omega)
     obtain ⟨i',hi',e⟩:=List.getElem_of_mem (mem_arcs.2 ⟨j,by have:=stepS_in hsj;omega,hsj,rfl⟩:(⟨j,indexS (statesS t) (stepS t q j).1⟩:GArc)∈arcsOf t q)
     have hlt:i'<i:=by
      apply Classical.byContradiction
      intro hge
      rcases Nat.eq_or_lt_of_le (Nat.le_of_not_lt hge) with rfl|hgt
      ·rw [hae] at e
       have:=congrArg GArc.Rule e
       simp only at this
       omega
      ·have:=(List.pairwise_iff_getElem.1 (arcs_sorted t q)) i i' hi hi' hgt
       rw [hae,e] at this
       simp only at this
       omega
     exact hI i' _ j hlt (by rw [List.getElem?_eq_getElem hi',e]) rfl hje
    ·rw [← hcond.2]
 ·rintro x ⟨rfl,hI⟩
  exfalso
  obtain ⟨k,hk,he⟩:=cost_step hc
  obtain ⟨hst,_⟩:=nextC_pos (t:=t) (q:=q) (x:=s.drop place) (k:=(k:Int)) (by omega)
  obtain ⟨i',hi',e⟩:=List.getElem_of_mem (mem_arcs.2 ⟨k,hk,hst,rfl⟩:(⟨k,indexS (statesS t) (stepS t q k).1⟩:GArc)∈arcsOf t q)
  exact hI i' _ k hi' (by rw [List.getElem?_eq_getElem hi',e]) rfl he
structure Way1 (t:GTable) (s:List UInt8) (p0:List Int) (place:Nat) (q:GState):Prop where
 goes:Goes t startS p0 q
 text:textOf t p0=s.take place
 le:place≤s.length
 greedy:∀ p1,Greedy t q (s.drop place) p1->Greedy t startS s (p0++p1)
 len:lenK t p0+(costS t q (s.drop place)).toNat≤(costS t startS s).toNat
 plen:p0.length≤lenK t p0
 pos:0≤costS t q (s.drop place)
omit hs in
theorem Way1.next {p0:List Int} {place:Nat} {q:GState} (h:Way1 t s p0 place q) {k:Nat} (hc:0<costS t q (s.drop place)) (hk:nextKC t q (s.drop place) k=costS t q (s.drop place)) (hm:∀ j:Nat,j<k->nextKC t q (s.drop place) j≠costS t q (s.drop place)):Way1 t s (p0++[(k:Int)]) (place+(prt t k).length) (stepS t q k).1:=by
 obtain ⟨g1,⟨y,g2,g3⟩,g4,g5⟩:=nextC_pos (t:=t) (q:=q) (x:=s.drop place) (k:=(k:Int)) (by omega)
 rw [List.drop_drop] at g3 g4 g5
 have hpf:(prt t k).isPrefixOf (s.drop place)=true:=by rw [List.isPrefixOf_iff_prefix,g2];exact List.prefix_append _ _
 obtain ⟨q1,q2⟩:=prefix_drop hpf
 obtain ⟨p1,p2,p3⟩:=hT.pr g1
 refine ⟨h.goes.snoc g1,?_,q2 h.le,λ p' hp'=>?_,?_,?_,g4⟩
 ·rw [textOf_snoc,h.text,List.take_add,q1,List.take_left' rfl]
 ·rw [List.append_assoc]
  exact h.greedy _ (.cons hc hk hm (by rw [List.drop_drop];exact hp'))
 ·rw [lenC_snoc];have:=h.len;omega
 ·rw [lenC_snoc,List.length_append];have:=h.plen;simp only [List.length_cons,List.length_nil];omega
omit hT hs in
theorem Way1.start {t:GTable} {s:List UInt8} (h:0≤costS t startS s):Way1 t s [] 0 startS:=⟨rfl,by simp [textOf],by omega,λ p hp=>by simpa using hp,by simp [lenK,cellsOf],by simp,h⟩
omit hT hs in
theorem Way1.rch {t:GTable} {s:List UInt8} {p0:List Int} {place:Nat} {q:GState} (h:Way1 t s p0 place q):Rch t s place q:=⟨h.le,p0,h.goes,h.text⟩
omit hs in
theorem Rch.mem {i:Nat} {q:GState} (h:Rch t s i q):q∈statesS t:=by
 obtain ⟨j,hj⟩:=Rch.ind (A:=λ _ q=>∃ j:Nat,(statesS t)[j]? = some q) ⟨0,(states_ok hT.tab).1.first⟩ (λ i' q k _ hA hst _=>by
  obtain ⟨j,hj⟩:=hA
  obtain ⟨d,_,hd⟩:=indexS_in (closed6 hT (List.mem_of_getElem? hj) hst)
  exact ⟨d,hd⟩) h
 exact List.mem_of_getElem? hj
theorem write1_ev {w:GWriter} (h:PB t s 0 w) (h0:0≤costS t startS s):Tot (λ n=>FTr_writer_writingx n w) (λ r=>∃ p,Greedy t startS s p∧r=⟨cellsOf t p,p⟩):=by
 have hf:=(states_ok hT.tab).1.first
 have hi0:indexS (statesS t) startS=0:=indexS_get (nod6 hT) hf
 have hS:startS∈statesS t:=List.mem_of_getElem? hf
 obtain ⟨f1,f2⟩:=h.find hT (p:=0) (by omega) (.start t s) hS
 rw [hi0,List.drop_zero] at f1
 rw [List.drop_zero] at f2
 unfold FTr_writer_writingx
 refine Tot.bindC (idx_gd (i:=0) default (by rw [h.clen];omega)) (Tot.bindE f1 ?_)
 refine Tot.bind (R:=λ r=>∃ p,Greedy t startS s p∧r=(⟨cellsOf t p,p⟩:GWriting)) ?_ (λ r hr=>Tot.pure hr)
 refine Tot.whl (body:=λ n x=>FTr_writer_writingx_L1 n w x.1 x.2.1 x.2.2.1 x.2.2.2) (λ m x=>∃ (p0:List Int) (place:Nat) (q:GState),Way1 t s p0 place q∧x=(⟨cellsOf t p0,p0⟩,(place:Int),indexS (statesS t) q,costS t q (s.drop place))∧m=(costS t q (s.drop place)).toNat) ?_ (costS t startS s).toNat _ ⟨[],0,startS,.start h0,by rw [hi0,List.drop_zero];rfl,by rw [List.drop_zero]⟩
 rintro m x ⟨p0,place,q,hW,rfl,rfl⟩
 have hq:=hW.rch.mem hT
 unfold FTr_writer_writingx_L1
 simp only
 by_cases hc:0<costS t q (s.drop place)
 ·obtain ⟨j,hj,hg⟩:=indexS_in hq
  have hlen:=hW.len
  have hpl:=hW.plen
  rw [hj]
  refine Tot.iteT (by simpa using hc) (Tot.bindC (idx_at (h.base.arc j q hg)) (Tot.bind (write2_ev hT hs h hW.le hW.rch hq hc ⟨cellsOf t p0,p0⟩ (by show lenK t p0≤_;omega) (by show p0.length≤_;omega)) ?_))
  rintro y ⟨k,g1,g2,rfl⟩
  have hW2:=hW.next hT hc g1 g2
  obtain ⟨e1,⟨y,e2,e3⟩,e4,e5⟩:=nextC_pos (t:=t) (q:=q) (x:=s.drop place) (k:=(k:Int)) (by omega)
  rw [List.drop_drop] at e5
  obtain ⟨p1,p2,p3⟩:=hT.pr e1
  refine Tot.pure ⟨(costS t (stepS t q k).1 (s.drop (place+(prt t k).length))).toNat,by have:=hW2.pos;omega,p0++[(k:Int)],place+(prt t k).length,(stepS t q k).1,hW2,?_,rfl⟩
  simp only [cellsOf_snoc]
 ·refine Tot.iteF (by simpa using hc) (Tot.pure ⟨p0,?_,rfl⟩)
  have:=hW.greedy [] (.nil (by omega))
  rwa [List.append_nil] at this
theorem writeT_ev (hv:Ev (λ n=>FTb_Valid n t) true):Tot (λ n=>FTr_Write n t s) (λ y=>WrOK t s y.1 y.2.1 y.2.2):=by
 have hf:=(states_ok hT.tab).1.first
 have hi0:indexS (statesS t) startS=0:=indexS_get (nod6 hT) hf
 unfold FTr_Write
 refine Tot.bindE (text_ev (by omega)) ?_
 by_cases hb:(textS s).2=0
 ·refine Tot.iteF (by rw [hb];rfl) (Tot.bindE hv (Tot.iteF rfl (Tot.bind (new_ev hT hs) ?_)))
  rintro w1 ⟨h1,h2,h3⟩
  refine Tot.bind (reach_ev hT hs h1 h2 h3) λ w2 hR=>Tot.bind (price_ev hT hs hR) ?_
  rintro w3 ⟨hP,hL⟩
  have hcol:∀ v,InC w3 0 v->∃ (j:Nat) (q:GState),v=(j:Int)∧(statesS t)[j]? = some q∧Rch t s 0 q:=hP.ok 0
  have hin0:InC w3 0 (0:Nat):=hP.all 0 0 startS hf (.start t s)
  have hfirst:(colS w3 0)[0]? = some ((0:Nat):Int):=by
   obtain ⟨d,hd,e⟩:=List.getElem_of_mem hin0
   cases d with
   | zero=>rw [← e];exact List.getElem?_eq_getElem hd
   | succ d=>
    exfalso
    have h4:=(List.pairwise_iff_getElem.1 (hP.sort 0 (by omega))) 0 (d+1) (by omega) hd (by omega)
    obtain ⟨j,q,e1,_,_⟩:=hcol _ (List.getElem_mem (show 0<(colS w3 0).length by omega))
    have h5:=nodup_at (hP.nod 0) (a:=0) (b:=d+1) (x:=((0:Nat):Int)) (by rw [List.getElem?_eq_getElem (by omega)];congr 1;omega) (by rw [List.getElem?_eq_getElem hd,e])
    omega
  have hqs:(qsAt t w3 0)[0]? = some startS:=(qs_get hcol).2 ⟨0,hfirst,hf⟩
  have hx:=(hP.pi0 0 (by omega)).1 0 startS hqs
  rw [List.drop_zero] at hx
  refine Tot.bindC (idx_gd (i:=0) default (by rw [hP.clen];omega)) (Tot.bindC (idx_at (i:=0) hx) (Tot.ite (λ hc=>?_) λ hc=>?_))
  ·have hneg:costS t startS s<0:=by simpa using hc
   refine Tot.pure ⟨λ h=>absurd hb h,λ _ _=>⟨rfl,?_,rfl⟩,λ _ h=>by omega⟩
   show LastP t s w3.Last
   rw [hL];exact hR.last
  ·have hpos:0≤costS t startS s:=by simpa using hc
   have e0:(⟨w3.T,w3.S,w3.States,w3.Arcs,w3.Columns.set (Int.toNat 0) (w3.Columns.getD 0 default),w3.Last⟩:GWriter)=w3:=writer_same w3 0 default
   rw [e0]
   refine Tot.bind (write1_ev hT hs hP hpos) ?_
   rintro r ⟨p,hp,rfl⟩
   exact Tot.pure ⟨λ h=>absurd hb h,λ _ h=>by omega,λ _ _=>⟨rfl,rfl,p,hp,rfl⟩⟩
 ·refine Tot.iteT (by simpa using hb) (Tot.pure ⟨λ _=>⟨rfl,rfl,rfl⟩,λ h=>absurd h hb,λ h=>absurd h hb⟩)
end
end Go.AI
end
section
namespace Go.AI
section
variable {t:GTable} (hT:Tab6 t) {s:List UInt8} (hs:s.length≤4000)
include hT
theorem aft_next {out:List (List Int)} (hR:∀ i,i≤s.length->RowOK t s i (out.getD i [])) {i:Nat} (hi:i≤s.length) {q:GState} (hq:q∈statesS t) (k:Nat):aftS t s out i q k=nextKC t q (s.drop i) k:=by
 unfold aftS nextKC
 by_cases hst:(stepS t q k).2=true
 ·by_cases hb:(prt t k).isPrefixOf (s.drop i)=true
  ·have q2:=(prefix_drop hb).2 hi
   obtain ⟨m,hm,hmg⟩:=indexS_in (closed6 hT hq hst)
   have hv:=(hR _ q2).val m _ hmg
   have hvv:(out.getD (i+(prt t k).length) []).getD m 0=costS t (stepS t q k).1 (s.drop (i+(prt t k).length)):=by
    rw [List.getD_eq_getElem?_getD (l:=out.getD (i+(prt t k).length) []),hv];rfl
   rw [if_pos ⟨hst,hb⟩,hm,Int.toNat_natCast,hvv,List.drop_drop]
   have hpp:prt t k <+: s.drop i:=List.isPrefixOf_iff_prefix.1 hb
   by_cases h0:0≤costS t (stepS t q k).1 (s.drop (i+(prt t k).length))
   ·rw [if_neg (by omega),if_pos ⟨hst,hpp,h0⟩]
   ·rw [if_pos (by omega),if_neg (λ hh=>h0 hh.2.2)]
  ·rw [if_neg (λ hh=>hb hh.2),if_neg (λ hh=>hb (List.isPrefixOf_iff_prefix.2 hh.2.1))]
 ·rw [if_neg (λ hh=>hst hh.1),if_neg (λ hh=>hst hh.1)]
theorem least_next {q:GState} {x:List UInt8} (hc:0<costS t q x):∃ k:Nat,k<t.Rules.length∧nextKC t q x k=costS t q x∧∀ j:Nat,j<k->nextKC t q x j≠costS t q x:=by
 obtain ⟨p,hp⟩:=greedy_ex hT.one (costS t q x).toNat q x (by omega)
 cases hp with
 | nil h=>omega
 | cons h hk hm hp=>
  obtain ⟨g1,_⟩:=nextC_pos (t:=t) (q:=q) (x:=x) (by rw [hk];omega)
  have:=stepS_in g1
  exact ⟨_,by omega,hk,hm⟩
include hs
theorem write2R_ev {out:List (List Int)} (hol:out.length=s.length+1) (hR:∀ i,i≤s.length->RowOK t s i (out.getD i [])) {i:Nat} (hi:i≤s.length) {q:GState} (hq:q∈statesS t) (w:GResult) {k:Nat} (hkl:k<t.Rules.length) (hk:nextKC t q (s.drop i) k=costS t q (s.drop i)) (hm:∀ j:Nat,j<k->nextKC t q (s.drop i) j≠costS t q (s.drop i)) :
  Tot (λ n=>whl (λ (x:Int)=>FR6_Write_L2 n t out (statesS t) w ⟨s,i,q,statesS t⟩ (costS t q (s.drop i)) x) n 0) (λ y=>y=(k:Int)):=by
 have haft:∀ j:Nat,j≤k->Ev (λ n=>FR6_After n t ⟨s,i,q,statesS t⟩ j out) (nextKC t q (s.drop i) j):=λ j hj=>by
  rw [← aft_next hT hR hi hq]
  exact after_core hT hs hi hol (λ i' _ h2=>rows_top hT hs (hR i' h2)) hq (by omega)
 have hrl:=hT.tab.1
 refine Tot.upto (body:=λ n x=>FR6_Write_L2 n t out (statesS t) w ⟨s,i,q,statesS t⟩ (costS t q (s.drop i)) x) k (λ j x=>x=(j:Int)) ?_ ?_ _ rfl
 ·rintro j x hj rfl
  unfold FR6_Write_L2
  refine Tot.bindE (haft j (by omega)) (Tot.iteT (by simpa using hm j hj) (Tot.pure (inc64 (by omega))))
 ·rintro x rfl
  unfold FR6_Write_L2
  exact Tot.bindE (haft k (by omega)) (Tot.iteF (by simpa using hk) (Tot.pure rfl))
theorem writeR_ev:Tot (λ n=>FR6_Write n t s) (λ y=>WrOK t s y.W y.At y.E):=by
 have hf:=(states_ok hT.tab).1.first
 have hi0:indexS (statesS t) startS=0:=indexS_get (nod6 hT) hf
 have hrl:=hT.tab.1
 have hlen:=len6 hT
 unfold FR6_Write
 refine Tot.bindE (text2_ev (by omega)) ?_
 by_cases hb:(textS s).2=0
 ·refine Tot.iteF (by rw [hb];rfl) (Tot.bind (suffixes_ev hT hs) ?_)
  rintro out ⟨hol,hR⟩
  have h00:(out.getD 0 [])[0]? = some (costS t startS s):=(hR 0 (by omega)).val 0 _ hf
  refine Tot.bindC (idx_gd (i:=0) [] (by omega)) (Tot.bindC (idx_at (i:=0) h00) (Tot.ite (λ hc=>?_) λ hc=>?_))
  ·have hneg:costS t startS s<0:=by simpa using hc
   refine Tot.bind (reached_ev hT hs) λ a ha=>Tot.pure ⟨λ h=>absurd hb h,λ _ _=>⟨rfl,ha,rfl⟩,λ _ h=>by omega⟩
  ·have hpos:0≤costS t startS s:=by simpa using hc
   refine Tot.bindE (states3_ev' hT.tab) (Tot.bindC (y:=startS) rfl (Tot.bind (R:=λ y:GResult=>y.At=(s.length:Int)∧y.E=0∧∃ p,Greedy t startS s p∧y.W=⟨cellsOf t p,p⟩) ?_ ?_))
   ·refine Tot.whl (body:=λ n x=>FR6_Write_L1 n t out (statesS t) x.1 x.2) (λ m x=>∃ (p0:List Int) (place:Nat) (q:GState),Way1 t s p0 place q∧x=(⟨⟨cellsOf t p0,p0⟩,(s.length:Int),0⟩,⟨s,(place:Int),q,statesS t⟩)∧m=(costS t q (s.drop place)).toNat) ?_ (costS t startS s).toNat _ ⟨[],0,startS,.start hpos,rfl,by rw [List.drop_zero]⟩
    rintro m x ⟨p0,place,q,hW,rfl,rfl⟩
    have hq:=hW.rch.mem hT
    have hple:=hW.le
    obtain ⟨j,hj,hg⟩:=indexS_in hq
    have hv:=(hR place hple).val j _ hg
    unfold FR6_Write_L1
    simp only
    refine Tot.bindC (idx_gd [] (by omega)) (Tot.bindE (index_ev (l:=statesS t) (s:=q) (by omega)) ?_)
    rw [hj]
    refine Tot.bindC (idx_at hv) (Tot.ite (λ hc=>?_) λ hc=>?_)
    ·have hc:0<costS t q (s.drop place):=by simpa using hc
     obtain ⟨k,hkl,hk,hm⟩:=least_next hT hc
     have hW2:=hW.next hT hc hk hm
     obtain ⟨e1,⟨y,e2,e3⟩,e4,e5⟩:=nextC_pos (t:=t) (q:=q) (x:=s.drop place) (k:=(k:Int)) (by omega)
     rw [List.drop_drop] at e5
     obtain ⟨p1,p2,p3⟩:=hT.pr e1
     have hrule:=idx_rule (t:=t) (k:=(k:Int)) (by omega) (by omega)
     have htop:=rows_top hT hs (hR 0 (by omega))
     have hst:=htop.2 0 _ h00
     have hlen:=hW.len
     have hpl:=hW.plen
     have hlC:lenK t p0=(cellsOf t p0).length:=rfl
     have hW2l:=hW2.le
     refine Tot.bindC (idx_gd [] (by omega)) (Tot.bindE (index_ev (l:=statesS t) (s:=q) (by omega)) ?_)
     rw [hj]
     refine Tot.bindC (idx_at hv) (Tot.bind (write2R_ev hT hs hol hR hple hq _ hkl hk hm) ?_)
     rintro y rfl
     refine Tot.bindC (app_le (by simp;omega)) (Tot.bindC hrule (Tot.bindC (app_le (by simp only [cls] at *;omega)) (Tot.bindA (λ n=>step3_eq hT.tab.short n q k) (Tot.bindC hrule (Tot.pure ⟨(costS t (stepS t q k).1 (s.drop (place+(prt t k).length))).toNat,by have:=hW2.pos;omega,p0++[(k:Int)],place+(prt t k).length,(stepS t q k).1,hW2,?_,rfl⟩)))))
     have e6:iadd .i64 (place:Int) ((List.length (ruleAt t k).Print:Nat):Int)=((place+(prt t k).length:Nat):Int):=by rw [add64]<;>simp only [prt] at*<;> omega
     rw [cellsOf_snoc,e6]
    ·refine Tot.pure ⟨rfl,rfl,p0,?_,rfl⟩
     have h0:¬ 0<costS t q (s.drop place):=by simpa using hc
     have:=hW.greedy [] (.nil (by omega))
     rwa [List.append_nil] at this
   ·rintro y ⟨h1,h2,h3⟩
    exact Tot.pure ⟨λ h=>absurd hb h,λ _ h=>by omega,λ _ _=>⟨h2,h1,h3⟩⟩
 ·refine Tot.iteT (by simpa using hb) (Tot.pure ⟨λ _=>⟨rfl,rfl,rfl⟩,λ h=>absurd h hb,λ h=>absurd h hb⟩)
theorem costT_ev (hv:Ev (λ n=>FTb_Valid n t) true):Ev (λ n=>FTr_Cost n t s) (if (textS s).2=0 then costS t startS s else -1):=by
 obtain ⟨⟨w,a,e⟩,hW,hE⟩:=writeT_ev hT hs hv
 unfold FTr_Cost
 refine Ev.bind hE ?_
 simp only at hW
 by_cases hb:(textS s).2=0
 ·rw [if_pos hb]
  by_cases hc:costS t startS s<0
  ·obtain ⟨_,_,rfl⟩:=hW.none hb hc
   have:=costS_ge t startS s
   rw [show costS t startS s=-1 by omega]
   exact Ev.iteT rfl Ev.const
  ·obtain ⟨rfl,_,p,hp,rfl⟩:=hW.path hb (by omega)
   rw [(hp.way hT.one (by omega)).2]
   exact Ev.iteF rfl Ev.const
 ·obtain ⟨_,_,rfl⟩:=hW.bad hb
  rw [if_neg hb]
  exact Ev.iteT (by simpa using hb) Ev.const
theorem costR_ev:Ev (λ n=>FR6_Cost n t s) (if (textS s).2=0 then costS t startS s else -1):=by
 obtain ⟨y,hW,hE⟩:=writeR_ev hT hs
 unfold FR6_Cost
 refine Ev.bind hE ?_
 by_cases hb:(textS s).2=0
 ·rw [if_pos hb]
  by_cases hc:costS t startS s<0
  ·obtain ⟨_,_,h3⟩:=hW.none hb hc
   have:=costS_ge t startS s
   rw [show costS t startS s=-1 by omega,h3]
   exact Ev.iteT rfl Ev.const
  ·obtain ⟨h3,_,p,hp,h4⟩:=hW.path hb (by omega)
   rw [(hp.way hT.one (by omega)).2,h3,h4]
   exact Ev.iteF rfl Ev.const
 ·obtain ⟨_,_,h3⟩:=hW.bad hb
  rw [if_neg hb]
  exact Ev.iteT (by rw [h3];simpa using hb) Ev.const
end
theorem ints_ev (a b:List Int) (ha:a.length<9223372036854775807):Ev (λ n=>FR6_Ints n a b) (decide (a=b)):=by
 unfold FR6_Ints
 by_cases hl:a.length=b.length
 ·refine Ev.iteF (by rw [len_ne];simp [hl]) ?_
  refine Ev.bind (ev_scan a.length (λ i=>if a.getD i default=b.getD i default then none else some false) (λ i hi=>Ev.all λ n=>?_) (Ev.all λ n=>?_)) ?_
  ·unfold FR6_Ints_L1
   rw [if_pos (lt_d hi),idx_nd hi,Option.bind_some,idx_nd (by omega),Option.bind_some]
   by_cases h:a.getD i default=b.getD i default
   ·rw [if_neg (by simpa using h),if_pos h,inc64 (by omega)]
   ·rw [if_pos (by simpa using h),if_neg h]
  ·unfold FR6_Ints_L1
   rw [if_neg (by simp)]
  ·rw [same_scan a b hl]
   by_cases e:a=b
   ·rw [if_pos e,decide_eq_true e];exact Ev.const
   ·rw [if_neg e,decide_eq_false e];exact Ev.const
 ·refine Ev.iteT (by rw [len_ne];simp [hl]) ?_
  rw [show decide (a=b)=false by simp;intro h;exact hl (by rw [h])]
  exact Ev.const
theorem same_ev (a b:GWriting) (ha:a.Cells.length<9223372036854775807) (hb:a.Path.length<9223372036854775807):Ev (λ n=>FR6_Same n a b) (decide (a=b)):=by
 unfold FR6_Same
 refine Ev.bind (sameCells_ev a.Cells b.Cells ha) ?_
 refine Ev.guard (λ _=>ints_ev a.Path b.Path hb) ?_
 refine Ev.congr (Ev.const (z:=decide (a=b))) λ n=>?_
 cases a with|mk c p=>cases b with|mk c' p'=>
 simp only [GWriting.mk.injEq,Option.some.injEq]
 by_cases h1:c=c'<;>simp [h1]
end Go.AI
end
section
namespace Go.AI
def Spelt (t:GTable) (s:List UInt8):Prop:=s.length≤12∧∃ p:List Int,(∀ k∈p,0≤k∧k<t.Rules.length)∧textOf t p=s
theorem spelled_ev {t:GTable} (ht:t.Rules.length<1000000) (hpr:∀ r∈t.Rules,r.Print.length≤1000) {l:List Int} (hl:∀ a∈l,U8 a):Tot (λ n=>FR2_Spelled n t l) (Spelt t):=by
 unfold FR2_Spelled
 refine Tot.bind (R:=Spelt t) ?_ λ y hy=>Tot.pure hy
 refine Tot.upto (body:=λ n x=>FR2_Spelled_L1 n t l x.1 x.2) (min (min l.length 12) (t.Rules.length*13)) (λ i x=>x.2=(i:Int)∧Spelt t x.1) ?_ ?_ _ ⟨rfl,by simp,[],by simp,rfl⟩
 ·rintro i ⟨s,x⟩ hi ⟨h1,h2,p,h3,h4⟩
  simp only at h1 h2 h4
  subst h1
  unfold FR2_Spelled_L1
  obtain ⟨a,ham,hai⟩:=idx_in (l:=l) (i:=(i:Int)) (by omega) (by omega)
  have hu:=hl a ham
  have hw:IntKind.i64.wrap a=a:=w64 (by unfold U8 at hu;omega) (by unfold U8 at hu;omega)
  have hrr:=irem_range (a:=a) (m:=((List.length t.Rules:Nat):Int)) hu.1 (by omega)
  have hrule:=idx_rule (t:=t) hrr.1 hrr.2
  have hp:=hpr _ (ruleAt_mem (t:=t) hrr.1 hrr.2)
  refine Tot.iteT (by simp;omega) (Tot.bindC hai (Tot.bindC (guardB_of (by simp;intro h;rw [h] at hi;simp at hi)) ?_))
  rw [hw]
  refine Tot.bindC hrule ?_
  have hJ:∀ s',Spelt t s'->Tot (λ n=>FR2_Spelled_J1 n (i:Int) s') (Rd2 (λ x=>x.2=((i+1:Nat):Int)∧Spelt t x.1) (Spelt t)):=λ s' hs'=>by
   unfold FR2_Spelled_J1
   exact Tot.pure ⟨inc64 (by omega),hs'⟩
  have e1:iadd .i64 ((List.length s:Nat):Int) ((List.length (ruleAt t (irem a ((List.length t.Rules:Nat):Int))).Print:Nat):Int)=((s.length+(ruleAt t (irem a ((List.length t.Rules:Nat):Int))).Print.length:Nat):Int):=by rw [add64]<;>omega
  simp only [e1]
  refine Tot.ite (λ hc=>Tot.bindC (cat_le (by simp only [decide_eq_true_eq] at hc;omega)) (hJ _ ⟨by simp only [decide_eq_true_eq] at hc;rw [List.length_append];omega,p++[irem a ((List.length t.Rules:Nat):Int)],?_,by simp [textOf_snoc,h4]⟩)) (λ hc=>hJ _ ⟨h2,p,h3,h4⟩)
  intro k hk
  rcases List.mem_append.1 hk with hk|hk
  ·exact h3 k hk
  ·cases List.mem_singleton.1 hk;exact hrr
 ·rintro ⟨s,x⟩ ⟨h1,h2⟩
  simp only at h1 h2
  subst h1
  unfold FR2_Spelled_L1
  refine Tot.iteF ?_ (Tot.pure h2)
  simp
  intro h3 h4
  have:t.Rules.length*13≤12∨¬ t.Rules.length*13≤12:=Classical.em _
  apply Classical.byContradiction
  intro h5
  have:0<t.Rules.length:=List.length_pos_iff.2 h5
  omega
theorem text3_ev {t:GTable} (ht:MadeOK t) {l:List Int} (hl:∀ a∈l,U8 a):Tot (λ n=>FR3_Text n t l) (λ r=>r.1.length≤4000):=by
 unfold FR3_Text
 refine Tot.bind (walk_ev ht.tab hl) ?_
 rintro ⟨p,ok⟩ hW
 have hrun:Ev (λ n=>FR3_Run n t p) (runS t p [] [] 0 startS)∧(runS t p [] [] 0 startS).Text.length≤4000:=by
  cases ok with
  | true=>
   have hp:=hW.2.1 rfl
   refine ⟨run3_ev ht (by have:=hp.1;simp only at this;omega),?_⟩
   obtain ⟨s,h1,_,h2⟩:=hp.run
   rw [h2]
   have:=path_len ht h1.mem
   have:=hp.1
   simp only at *;omega
  | false=>
   have hp:=hW.2.2 rfl
   simp only at hp
   subst hp
   exact ⟨run3_ev ht (by simp),by simp [runS]⟩
 exact Tot.bindE hrun.1 (Tot.pure hrun.2)
theorem sanity_ev:Ev (λ n=>FL6_sanity n) true:=Ev.of (λ n m h=>FL6_sanity_le h) (n:=60) (by kernel_rfl)
theorem MadeOK.six {t:GTable} (h:MadeOK t):Tab6 t:=⟨h.tab,λ r hr=>by have:=soundS_len (h.sound r hr);exact ⟨by omega,by omega⟩⟩
theorem MadeOK.validT {t:GTable} (h:MadeOK t):Ev (λ n=>FTb_Valid n t) true:=by
 have:=validT_ev h.small
 rwa [h.valid] at this
end Go.AI
end
section
namespace Go.AI
theorem bstr_u8 {l:List Int} (h:∀ a∈l,U8 a):∃ s,bstr l=some s∧s.length=l.length:=by
 unfold bstr
 rw [if_pos (by
  rw [List.all_eq_true]
  intro a ha
  have:=h a ha
  unfold U8 at this
  simp;omega)]
 exact ⟨_,rfl,by simp⟩
theorem goes_lenC {t:GTable} (hc:∀ r∈t.Rules,1≤r.Cells.length):∀ {p:List Int},(∀ k∈p,0≤k∧k<t.Rules.length)->p.length≤lenK t p
 | [],_=>by simp
 | k::p,h=>by
  have h1:=h k (by simp)
  have h2:=hc _ (ruleAt_mem h1.1 h1.2)
  have h3:=goes_lenC (t:=t) hc (p:=p) λ a ha=>h a (by simp [ha])
  rw [lenC_cons,List.length_cons]
  simp only [cls];omega
theorem Way.mem {t:GTable} {q:GState} {x:List UInt8} {p:List Int} (h:Way t q x p):∀ k∈p,0≤k∧k<t.Rules.length:=by
 obtain ⟨⟨q',h1,_⟩,_⟩:=h
 exact h1.mem
section
variable {t:GTable} (hT:Tab6 t) {s:List UInt8} (hs:s.length≤4000)
include hT hs
theorem cost_top:costS t startS s≤13000000:=by
 obtain ⟨out,⟨_,hR⟩,_⟩:=suffixes_ev hT hs
 have hf:=(states_ok hT.tab).1.first
 exact ((rows_top hT hs (hR 0 (by omega))).2 0 _ ((hR 0 (by omega)).val 0 _ hf)).2
theorem WrOK.size {w:GWriting} {a e:Int} (h:WrOK t s w a e):w.Cells.length≤13000000∧w.Path.length≤13000000:=by
 by_cases h1:(textS s).2=0
 ·by_cases h2:costS t startS s<0
  ·obtain ⟨rfl,_⟩:=h.none h1 h2
   simp
  ·obtain ⟨_,_,p,g3,rfl⟩:=h.path h1 (by omega)
   have g4:=g3.way hT.one (by omega)
   have g5:=goes_lenC hT.one g4.1.mem
   have g6:=cost_top hT hs
   have:lenK t p=(cellsOf t p).length:=rfl
   simp only;omega
 ·obtain ⟨rfl,_⟩:=h.bad h1
  simp
end
theorem law1 {x:GRaw} (hx:RawTabOK x) {l m:List Int} (hl:∀ a∈l,U8 a) (hm:∀ a∈m,U8 a):Ev (λ n=>FL6_TranslateMatchesReference n x l m) true:=by
 obtain ⟨t,ht,hE⟩:=made_ev hx
 have h6:=ht.six
 have hrl:=h6.tab.1
 refine Tot.ev ?_
 unfold FL6_TranslateMatchesReference
 refine Tot.bindE sanity_ev (Tot.bindE hE (Tot.bind (text3_ev ht hl) λ r1 h1=>Tot.bind (spelled_ev (t:=t) (by omega) (λ r hr=>by have:=(h6.tab.2 r hr).2.2.2.2;omega) hl) λ r2 h2=>?_))
 have e:(if 12<((List.length m:Nat):Int) then 12 else ((List.length m:Nat):Int))=((min 12 m.length:Nat):Int):=by split<;>omega
 rw [e]
 refine Tot.bindC (sub_pre (by omega)) ?_
 obtain ⟨s3,h3,h4⟩:=bstr_u8 (l:=m.take (min 12 m.length)) λ a ha=>hm a (List.mem_of_mem_take ha)
 refine Tot.bindC h3 ?_
 have hall:∀ s∈[r1.1,r2,s3],s.length≤4000:=by
  intro s hs
  simp only [List.mem_cons,List.not_mem_nil,or_false] at hs
  rw [List.length_take] at h4
  have:=h2.1
  rcases hs with rfl|rfl|rfl<;>omega
 refine Tot.bind (R:=λ y:Unit⊕Bool=>y=.inl ()) ?_ (λ y hy=>by subst hy;exact Tot.pure rfl)
 refine Tot.upto (body:=λ n i=>FL6_TranslateMatchesReference_L1 n true t r1 r2 s3 i) 3 (λ i x=>x=(i:Int)) ?_ ?_ _ rfl
 ·rintro i x hi rfl
  have hsl:=hall _ (List.getElem_mem (l:=[r1.1,r2,s3]) (n:=i) (by simpa using hi))
  have hix:idx ([r1.1,r2,s3]:List (List UInt8)) (i:Int)=some _:=idx_lt (l:=[r1.1,r2,s3]) (i:=i) (by simpa using hi)
  unfold FL6_TranslateMatchesReference_L1
  refine Tot.iteT (by simp;omega) (Tot.bindC hix ?_)
  generalize [r1.1,r2,s3][i]=s at hsl hix
  refine Tot.bind (writeT_ev h6 hsl ht.validT) ?_
  rintro ⟨w,a,e⟩ hW
  refine Tot.bindC hix (Tot.bind (writeR_ev h6 hsl) ?_)
  rintro ⟨w',a',e'⟩ hW'
  obtain ⟨rfl,rfl,rfl⟩:=hW.uniq hW'
  have hsz:=hW.size h6 hsl
  simp only at hsz
  refine Tot.bindE (same_ev w w (by omega) (by omega)) ?_
  rw [decide_eq_true (rfl:w=w)]
  have hc:(!((!true)||(a != a)||(e != e)))=true:=by simp
  simp only [hc,if_true]
  refine Tot.bindC hix (Tot.bindE (costT_ev h6 hsl ht.validT) (Tot.bindC hix (Tot.bindE (costR_ev h6 hsl) (Tot.iteF ?_ (Tot.pure (inc64 (by omega)))))))
  simp
 ·rintro x rfl
  unfold FL6_TranslateMatchesReference_L1
  exact Tot.iteF rfl (Tot.pure rfl)
theorem Way.last {t:GTable} {s:List UInt8} {p:List Int} (h:Way t startS s p):LastP t s (s.length:Int):=by
 obtain ⟨⟨q,h1,h2⟩,h3⟩:=h
 refine ⟨⟨s.length,rfl,q,⟨by omega,p,h1,by rw [h3,List.take_length]⟩,?_⟩,λ i ⟨q,hq,_⟩=>by have:=hq.1;omega⟩
 unfold acceptsS at h2
 simp only [Bool.and_eq_true] at h2
 unfold clsAt
 rw [if_neg (by omega)]
 exact h2.2
end Go.AI
end
section
namespace Go.AI
structure Valid6 (t:GTable):Prop where
 tab:TabOK t
 valid:validS t=true
theorem Valid6.six {t:GTable} (h:Valid6 t):Tab6 t:=⟨h.tab,λ r hr=>by have:=soundS_len (validS_sound h.valid r hr);exact ⟨by omega,by omega⟩⟩
theorem Valid6.small {t:GTable} (h:Valid6 t):SmallT t:=⟨by have:=h.tab.1;omega,λ r hr=>by have:=soundS_len (validS_sound h.valid r hr);exact ⟨by omega,by omega⟩⟩
theorem Valid6.validT {t:GTable} (h:Valid6 t):Ev (λ n=>FTb_Valid n t) true:=by
 have:=validT_ev h.small
 rwa [h.valid] at this
structure Free (t:GTable):Prop where
 modes:t.Modes=1
 accept:t.Accept=1
 rules:∀ r∈t.Rules,r.From=0∧r.To=0∧r.Left=63∧r.Right=63
def FreeQ (q:GState):Prop:=q.Mode=0∧q.Need=63∧0≤q.Last∧q.Last≤5
theorem has63 {c:Int} (h:0≤c) (h':c≤5):hasS 63 c=true:=by
 have:c=0∨c=1∨c=2∨c=3∨c=4∨c=5:=by omega
 rcases this with rfl|rfl|rfl|rfl|rfl|rfl<;>decide +kernel
theorem Free.step {t:GTable} (h:Free t) {q:GState} (hq:FreeQ q) {k:Int} (h0:0≤k) (h1:k<t.Rules.length):(stepS t q k).2=true∧FreeQ (stepS t q k).1:=by
 obtain ⟨q1,q2,q3,q4⟩:=hq
 obtain ⟨r1,r2,r3,r4⟩:=h.rules _ (ruleAt_mem h0 h1)
 unfold stepS
 rw [if_neg (by simp;omega)]
 show (stepR (ruleAt t k) q).2=true∧FreeQ (stepR (ruleAt t k) q).1
 unfold stepR
 have e63:iand .u8 63 63=63:=by decide +kernel
 rw [r1,r2,r3,r4,q1,q2,has63 q3 q4,e63]
 rw [if_neg (by simp)]
 have hc:=class_range (byteS (ruleAt t k).Print 0)
 have hc2:=class_range (byteS (ruleAt t k).Print ((ruleAt t k).Print.length-1))
 split
 ·rw [if_neg (by simp)]
  exact ⟨rfl,rfl,rfl,q3,q4⟩
 ·rw [has63 (by omega) (by omega),if_neg (by simp)]
  exact ⟨rfl,rfl,rfl,by show 0≤classS _;omega,by show classS _≤5;omega⟩
theorem Free.goes {t:GTable} (h:Free t):∀ (p:List Int) (q:GState),FreeQ q->(∀ k∈p,0≤k∧k<t.Rules.length)->∃ q',Goes t q p q'∧FreeQ q'
 | [],q,hq,_=>⟨q,rfl,hq⟩
 | k::p,q,hq,hk=>by
  have h1:=hk k (by simp)
  obtain ⟨h2,h3⟩:=h.step hq h1.1 h1.2
  obtain ⟨q',h4,h5⟩:=h.goes p _ h3 λ a ha=>hk a (by simp [ha])
  exact ⟨q',⟨h2,h4⟩,h5⟩
theorem Free.way {t:GTable} (h:Free t) {p:List Int} (hk:∀ k∈p,0≤k∧k<t.Rules.length):Way t startS (textOf t p) p:=by
 obtain ⟨q',h1,h2,h3,h4⟩:=h.goes p startS ⟨rfl,rfl,by decide,by decide⟩ hk
 refine ⟨⟨q',h1,?_⟩,rfl⟩
 unfold acceptsS
 rw [h.modes,h.accept,h2,h3]
 decide +kernel
end Go.AI
end
section
namespace Go.AI
theorem okI_u8 {n:Int} (h:okI .u8 n):U8 n:=by
 unfold okI Lit.wf at h
 have:IntKind.u8.min=0∧IntKind.u8.max=255:=by decide
 unfold U8
 simp only [Bool.and_eq_true,decide_eq_true_eq] at h
 omega
theorem okGRawRule_ok {r:GRawRule} (h:okGRawRule r):RawOK r:=by
 obtain ⟨a,b,c,d,e,f⟩:=h
 exact ⟨λ y hy=>okI_u8 (a y hy),λ y hy=>okI_u8 (b y hy),okI_u8 c,okI_u8 d,okI_u8 e,okI_u8 f⟩
theorem okGRaw_ok {x:GRaw} (h:okGRaw x):RawTabOK x:=⟨(okI_u8 h.1).1,λ r hr=>okGRawRule_ok (h.2.2 r hr)⟩
theorem okL_u8 {l:List Int} (h:∀ a∈l,okI .u8 a):∀ a∈l,U8 a:=λ a ha=>okI_u8 (h a ha)
theorem law1d:∀ x l m,okGRaw x->(∀ a∈l,okI .u8 a)->(∀ a∈m,okI .u8 a)->∃ n,FL6_TranslateMatchesReference n x l m=some true:=λ _ _ _ h hl hm=>(law1 (okGRaw_ok h) (okL_u8 hl) (okL_u8 hm)).out
end Go.AI
end
section
namespace Go.Proofs.Ytbeojlieknnniaa
open Go.AI Go.ChangeShapes Go.WideShapes Go.ChangeAt Go.RowKit
theorem own:ownKnob Try.prog.godebug=none:=by kernel_rfl
set_option maxRecDepth 100000 in
theorem lifted (os:Os) (started:os.Started) (H:Type) (enc:TypeId×Value->H) :
  ReturnsInHanded {} Try.checked os 3 .any (Rows.translateMatchesReferenceSpec.pre6 enc Try.prog Try.f3 Rows.translateMatchesReferenceRow.domain false) (Rows.translateMatchesReferenceSpec.post enc Try.prog Try.f3 false true false false):=by
 refine returnsInHanded_of_change (C:=Try.checked) own started (by kernel_rfl) Try.func3
  (ChangeSpec.witness6 (enc:=enc) (C:=Try.checked) false ⟨#[],#[.agg #[.int .u8 0,.int .u8 0,.slice none 0 0],.slice none 0 0,.slice none 0 0],[]⟩ 8 (by kernel_rfl) (by kernel_rfl) (by kernel_rfl) (by kernel_rfl)) ?_
 intro W base args ds gs before hval0 hW hcnd _
 have hval:∀ (j:Nat) t v,Try.f3.params[j]? = some t->args[j]? = some v->Value.okWide Try.prog W .any base t v:=hval0
 have hW':=hW
 obtain ⟨p,q,hA0,hV,rfl,hfz,hnd⟩:=hW
 have hA:DataW.TrodAll enc Try.prog W 0 (λ _=>true) true Try.f3.params.toList args.toList ds p:=hA0
 have hlt:=hA.lt
 rw [Try.params3] at hA hval
 obtain ⟨v0,vs0,d0,ds0,p0,q0,hargs,rfl,rfl,h0,r0⟩:=trodAll_cons hA
 obtain ⟨v1,vs1,d1,ds1,p1,q1,rfl,rfl,rfl,h1,r1⟩:=trodAll_cons r0
 obtain ⟨v2,vs2,d2,ds2,p2,q2,rfl,rfl,rfl,h2,r2⟩:=trodAll_cons r1
 obtain ⟨rfl,rfl,rfl⟩:=trodAll_nil r2
 obtain rfl:args=#[v0,v1,v2]:=by cases args;simp_all
 obtain ⟨rfl,rfl⟩:=trodVars_none hV
 obtain ⟨cs0,hc0,_⟩:=okWide_struct Try.underlying24 (hval 0 24 v0 rfl rfl)
 obtain ⟨a0,k0,rep0⟩:=arg_agg hc0 h0 rd24
 obtain ⟨x1,y1,z1,hc1⟩:=okWide_slice Try.underlying25 (hval 1 25 v1 rfl rfl)
 obtain ⟨a1,k1,rep1⟩:=arg_one (y:=λ a=>.sl (List.map eU8 a)) (by rw [hc1];rfl) h1 rd25 (λ _=>rfl)
 obtain ⟨x2,y2,z2,hc2⟩:=okWide_slice Try.underlying25 (hval 2 25 v2 rfl rfl)
 obtain ⟨a2,k2,rep2⟩:=arg_one (y:=λ a=>.sl (List.map eU8 a)) (by rw [hc2];rfl) h2 rd25 (λ _=>rfl)
 clear hA0 hval0
 simp only [List.append_nil] at hW' hlt
 obtain ⟨n,hn⟩:=law1d a0 a1 a2 k0 k1 k2
 refine (law_walk (FL6_TranslateMatchesReference_ok hn) (cr_cons rep0 (cr_cons rep1 (cr_cons rep2 cr_nil)))).mono λ e W' ⟨he,hg,hold⟩=>?_
 subst he
 exact ⟨_,rfl,post_same (pv:=[]) hW' (λ _ _ _=>(trodAll_cons_mk (shut_bool Try.underlying4 _) trodAll_mk0)) (λ sp hsp=>trodAll_cons_mk (stays (by kernel_rfl) (by kernel_rfl) (of_decide_eq_true (by kernel_rfl)) h0 (λ p hp=>hlt p (by simp [hp])) (λ p hp=>hsp p (by simp [hp])) hold) (trodAll_cons_mk (stays (by kernel_rfl) (by kernel_rfl) (of_decide_eq_true (by kernel_rfl)) h1 (λ p hp=>hlt p (by simp [hp])) (λ p hp=>hsp p (by simp [hp])) hold) (trodAll_cons_mk (stays (by kernel_rfl) (by kernel_rfl) (of_decide_eq_true (by kernel_rfl)) h2 (λ p hp=>hlt p (by simp [hp])) (λ p hp=>hsp p (by simp [hp])) hold) trodAll_mk0))) (λ _ _=>rfl) (by simp) (hg _) hold (ok_one (by kernel_rfl) rfl (okWide_bool_mk Try.underlying4 _))⟩
theorem over:Rows.translateMatchesReferenceRow.holds Try.pinned (OpenSpec.ofChange Rows.translateMatchesReferenceSpec):=
 OpenClaim.holds_of_wide 3 Try.f3 rfl rfl rfl rfl rfl rfl rfl ⟨rfl,rfl,rfl,rfl,rfl⟩ rfl rfl rfl rfl rfl (by kernel_rfl) Try.func3 (by kernel_rfl)
  (of_decide_eq_true (by kernel_rfl)) (by unfold Func.isWrapper;first|(rw [if_pos (by decide +kernel)];kernel_rfl)|(rw [if_neg (by decide +kernel)];exact ⟨rfl,rfl⟩))
  (λ os started H enc _=>lifted os started H enc)
theorem translateMatchesReference_holds:Rows.TranslateMatchesReferenceSaid:=over
end Go.Proofs.Ytbeojlieknnniaa
end
