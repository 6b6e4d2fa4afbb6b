/- Part 3 of 7 of the proof: lemmas about the model and the program's functions, with no condition beyond those that each states. -/
import Derived.Test.YtjaogfjfamffnaaGreatLB
import Derived.Scope
import Derived.Laws.StructEq
import GoSem.Core.View
import GoSem.Op.String
import Derived.KernelRfl
import Derived.Shelf.Sort.Plain
import Derived.Shelf.Slices.In.SortNone
import Derived.Test.YtjaogfjfamffnaaGreatProg
import Derived.Shelf.Lays
section
namespace Go.AI
variable {P:Program} {F F':Nat->Option Obj} {ρ ρ':Nat->Option Loc} {N:Nat->Prop} {H0 F0:Nat->Option Obj} {O objs:List (Option Ob)} {w:World} {w0:W0}
theorem Hn {op:Op} (h:J1 op=true):Jp op=true/\isW op=false:=by
 cases op with
 | call c=>
  obtain ⟨callee,args,ts⟩:=c;cases callee with
  | value f=>cases h
  | invoke r m=>cases h
  | builtin b=>cases b<;>first|exact ⟨rfl,rfl⟩|cases h
 | _=>first|exact ⟨rfl,rfl⟩|cases h
theorem OK {op:Op} (h:J1 op=true) (hm:En op=true):∃ t a,op=.load t a:=by
 cases op with
 | call c=>
  obtain ⟨callee,args,ts⟩:=c;cases callee with
  | value f=>cases h
  | invoke r m=>cases h
  | builtin b=>cases b<;>first|(cases h;done)|(cases hm;done)
 | load t a=>exact ⟨t,a,rfl⟩
 | _=>first|(cases h;done)|(cases hm;done)
theorem Za {Γ:Nat->Ty} {ev:Operand->AV} {op:Op} (h:FV op=true):opA Γ ev objs op=none:=by
 cases op with
 | call c=>
  obtain ⟨callee,args,ts⟩:=c;cases callee with
  | value f=>rfl
  | invoke r m=>cases h
  | builtin b=>cases h
 | _=>cases h
theorem MT {op:Op} (h:FV op=true) (hq:J1 op=true):False:=by
 cases op with
 | call c=>
  obtain ⟨callee,args,ts⟩:=c;cases callee with
  | value f=>cases hq
  | invoke r m=>cases h
  | builtin b=>cases h
 | _=>cases h
structure Jcd (P:Program) (Γ:Cx) (ops:Array Oper) (x i:Nat) (o:Oper) (s s':St) (g:Bool) (v:AV):Prop where
 gd:Cg ops.toList.dropLast s.env o.guard=some g
 dst:CD Γ.nt o.dst=true
 env:s'.env=putA o.dst o.guard.isSome g v s.env
 quiet:J1 o.op=true->(∃ obs:List Ob,s'.objs=s.objs++obs.map some)/\(g=true->∃ e,opA Γ.ty (λ y=>unG (Al s.env y)) s.objs o.op=some e/\Ik true (o.op.operands.toList.map (Al s.env))/\e.ob/\v=e.v)
 call:FV o.op=true->(g=false->∃ obs:List Ob,s'.objs=s.objs++obs.map some)/\(g=true->∀ env,(∀ y∈o.op.operands.toList,Al env y=Al s.env y)->Γ.ext Γ.nt o true ⟨env,s.objs⟩ ⟨putA o.dst o.guard.isSome true v env,s'.objs⟩)
theorem Zb {Γ:Cx} {ops:Array Oper} {x i:Nat} {o:Oper} {s s':St} (hk:J1 o.op=true\/FV o.op=true) (hx:∀ o',ops[x]? = some o'->FV o'.op=true) (h:AZ (cxX Γ ops x) false ops.toList.dropLast o (λ z=>z=s') s):∃ g v,Jcd P Γ ops x i o s s' g v:=by
 unfold AZ at h;split at h
 ·exact h.elim
 rename_i g hg;cases hdst:CD Γ.nt o.dst with
 | false=>rw [show (cxX Γ ops x).nt=Γ.nt from rfl,hdst] at h;exact h.elim
 | true=>
  rw [show (cxX Γ ops x).nt=Γ.nt from rfl,hdst,Jng,cond_false] at h;cases g with
  | false=>
   obtain ⟨v,obs,_,hv⟩:=h.2 rfl;cases hv;exact ⟨false,v,hg,hdst,rfl,λ _=>⟨⟨obs,rfl⟩,λ h=>by cases h⟩,λ _=>⟨λ _=>⟨obs,rfl⟩,λ h=>by cases h⟩⟩
  | true=>
   have hext:∀ st',JkV Γ ops x Γ.nt o true s st'->FV o.op=true/\∃ v,st'=⟨putA o.dst o.guard.isSome true v s.env,st'.objs⟩/\∀ env,(∀ y∈o.op.operands.toList,Al env y=Al s.env y)->Γ.ext Γ.nt o true ⟨env,s.objs⟩ ⟨putA o.dst o.guard.isSome true v env,st'.objs⟩:=by
    rintro st' ⟨h1,v,O1,rfl,h2⟩;exact ⟨hx o h1,v,rfl,h2⟩
   have others:∀ op,o.op=op->(match opA Γ.ty (λ x=>unG (Al s.env x)) s.objs op with
     | some e=>Ik true (op.operands.toList.map (Al s.env))/\(true=true->e.ob)/\(bif (e.upd.isSome&&o.guard.isSome)||(!e.rm.isEmpty&&(o.guard.isSome||(false&&!isW op))) then False else Fb o.dst o.guard.isSome true e s=s')
     | none=>False)->∃ g v,Jcd P Γ ops x i o s s' g v:=by
    intro op hop h;subst hop;split at h
    ·rename_i e he;obtain ⟨h1,h2,h3⟩:=h;have hq:J1 o.op=true:=by
      rcases hk with h|h
      ·exact h
      ·rw [Za h] at he;cases he
     obtain ⟨q2,q3,q1⟩:=VZ (Hn hq).1 he;have hs:Fb o.dst o.guard.isSome true e s=s':=by
      rw [q1,q3] at h3;simpa using h3
     subst hs;refine ⟨true,e.v,hg,hdst,rfl,λ _=>⟨⟨[],?_⟩,λ _=>⟨e,he,h1,h2 rfl,rfl⟩⟩,λ hc=>(MT hc hq).elim⟩;simp [Fb,q1,q2,q3,rmA,CH]
    ·exact h.elim
   rcases h.1 rfl with h|h|h
   ·unfold stepG at h;split at h
    ·obtain ⟨_,h⟩:=h;unfold L6 at h;split at h
     ·obtain ⟨_,m,r,hc,_⟩:=h;exact (hc rfl).elim
     ·exact h.elim
    ·rename_i c y z hop;rcases hk with h|h
     ·rw [hop] at h;cases h
     ·rw [hop] at h;cases h
    ·exact others _ rfl h
   ·exfalso;unfold GI opF at h;split at h
    ·rename_i es he;split at he
     ·rename_i t len parts hop;rcases hk with h|h
      ·rw [hop] at h;cases h
      ·rw [hop] at h;cases h
     ·cases he
    ·exact h
   ·obtain ⟨_,⟨st',h1,rfl⟩|⟨_,h|h⟩⟩:=h
    ·obtain ⟨h1,v,h2,h3⟩:=hext _ h1;refine ⟨true,v,hg,hdst,by rw [h2],λ hq=>(MT h1 hq).elim,λ _=>⟨λ h=>(by cases h),λ _=>h3⟩⟩
    ·exfalso;unfold opK at h;split at h
     ·rename_i esz es he;split at he
      ·rename_i t len parts hop;rcases hk with h|h
       ·rw [hop] at h;cases h
       ·rw [hop] at h;cases h
      ·cases he
     ·exact h
    ·exfalso;split at h
     ·obtain ⟨_,nb,r,o1,hl,_⟩:=h;exact hl
     ·exact h
theorem Jce {t:Ty} {p v:AV} (h:ldX t objs p=some v):∃ k off cells,p=.ptr k off/\obA objs k=some (.box cells)/\CK cells off t=some v/\off+t.size<=cells.length:=by
 unfold ldX at h;split at h
 ·rename_i k off;split at h
  ·rename_i cells hc;cases hb:Nat.ble (off+t.size) cells.length with
   | false=>rw [hb] at h;cases h
   | true=>
    rw [hb,cond_true] at h;exact ⟨k,off,cells,rfl,hc,h,JnN hb⟩
  ·cases h
 ·cases h
theorem Px {Γ:Nat->Ty} {t:TypeId} {a:Operand} {ev:Operand->AV} {k off:Nat} {cells:List AV} {v:AV} (hok:(Γ t).ok=true) (hp:ev a=.ptr k off) (hc:obA objs k=some (.box cells)) (hv:CK cells off (Γ t)=some v):opA Γ ev objs (.load t a)=some ⟨v,[],[],none,off+(Γ t).size<=cells.length⟩:=by
 simp only [opA,hok,cond_true,hp,D7,hc,hv,Bo]
theorem Jcf {Γ:Nat->Ty} {t:TypeId} {a:Operand} {ev:Operand->AV} {e:Eff} (O:List (Option Ob)) (h:opA Γ ev objs (.load t a)=some e):opA Γ ev (objs++O) (.load t a)=some e:=by
 simp only [opA] at h ⊢;cases hok:(Γ t).ok with
 | false=>rw [hok] at h;cases h
 | true=>
  rw [hok,cond_true] at h;rw [cond_true];have hap:∀ k ob,obA objs k=some ob->obA (objs++O) k=some ob:=λ k ob hk=>by rw [AN,if_pos (AU hk)];exact hk
  unfold D7 at h ⊢;split at h
  ·split at h
   ·rename_i hk;rw [hap _ _ hk];exact h
   ·cases h
  ·split at h
   ·rename_i hk;rw [hap _ _ hk];exact h
   ·rename_i hk;rw [hap _ _ hk];exact h
   ·cases h
  ·exact h
  ·cases h
theorem Jcg {ops:Array Oper} {x i:Nat} (hix:i≠x) (hx:x<ops.size-1) (h1:i<x->¬((Region.before ops).getD x 0).testBit i=true) (h2:x<i->¬((Region.before ops).getD i 0).testBit x=true):exX ops x i=false:=by
 rw [← Jnh];intro h;unfold exX at h;simp only [JnR,Jny] at h;rcases h with ((h|h)|h)|h
 ·exact hix (JnE h)
 ·have:=JnN h;omega
 ·exact h1 (JnN h.1) h.2
 ·exact h2 (JnN h.1) h.2
theorem JaM {ops:Array Oper} {x:Nat} (h:ST ops x=true):1<=ops.size/\(∀ o',ops[x]? = some o'->FV o'.op=true) /\
  (∀ (j:Nat) oj,ops[j]? = some oj->(∀ e∈oj.after.toList,Region.binds .any e=true->e.on<j)/\(j<ops.size-1->Jr ops (ops.size-1) j/\(J1 oj.op=true\/FV oj.op=true)/\(FV oj.op=true->j=x))/\(∀ k b,oj.guard=some (k,b)->k<j) /\
   ∀ (i:Nat) oi d,ops[i]? = some oi->i≠j->oi.dst=some d->oj.dst≠some d/\(d∈Dq ops.toList oj->(i<j->Region.waitsFor .any ops j i=true)/\(j<i->Region.waitsFor .any ops i j=true))):=by
 unfold ST at h;simp only [Jny] at h;obtain ⟨⟨h1,hx⟩,h2⟩:=h;have hz:∀ (j:Nat) oj,ops[j]? = some oj->(oj,j)∈ops.toList.zipIdx:=λ j oj hj=>by
  rw [List.mem_zipIdx_iff_getElem?];simpa using hj
 refine ⟨JnN h1,λ o' ho'=>?_,λ j oj hj=>?_⟩
 ·rw [ho'] at hx;exact hx
 have h3:=Jnd.1 h2 _ (hz j oj hj);simp only [Jny] at h3;obtain ⟨⟨⟨h3,h4⟩,h5⟩,h6⟩:=h3;refine ⟨λ e he hb=>?_,λ hjm=>?_,λ k b hg=>?_,λ i oi d hi hne hd=>?_⟩
 ·have:=Array.all_eq_true_iff_forall_mem.1 h3 e (by simpa using he);rw [hb,Jng,Bool.false_or] at this;exact of_decide_eq_true this
 ·have hb:Nat.beq j (ops.size-1)=false:=by
   cases hb:Nat.beq j (ops.size-1) with
   | false=>rfl
   | true=>have:=JnE hb;omega
  rw [hb,Bool.false_or,Jny] at h4;refine ⟨Ee _ _ _ h4.1,?_,λ hc=>?_⟩
  ·cases hjx:Nat.beq j x with
   | true=>rw [hjx,cond_true] at h4;exact .inr h4.2
   | false=>rw [hjx,cond_false] at h4;exact .inl h4.2
  ·cases hjx:Nat.beq j x with
   | true=>exact JnE hjx
   | false=>rw [hjx,cond_false] at h4;exact (MT hc h4.2).elim
 ·rw [hg] at h5;exact of_decide_eq_true h5
 ·have h7:=Jnd.1 h6 _ (hz i oi hi);simp only [JnR,beq_iff_eq] at h7;rcases h7 with h7|h7
  ·exact absurd h7 hne
  rw [hd] at h7;simp only [Jny,bne_iff_ne,ne_eq,JnR,Bool.not_eq_true'] at h7;refine ⟨h7.1,λ hm=>?_⟩;have h8:=h7.2;rw [List.contains_iff_mem.2 hm] at h8;rcases h8 with h8|h8
  ·cases h8
  refine ⟨λ hlt=>?_,λ hlt=>?_⟩
  ·rw [decide_eq_true hlt,cond_true] at h8;exact h8
  ·rw [decide_eq_false (by omega),cond_false] at h8;exact h8
theorem Vo (env:List (Nat×AV)):∃ B,∀ t,B<=t->lkA env t=.top:=by
 induction env with
 | nil=>exact ⟨0,λ t _=>rfl⟩
 | cons p env ih=>
  obtain ⟨B,hB⟩:=ih;obtain ⟨k,v⟩:=p;refine ⟨B+k+1,λ t ht=>?_⟩;rw [BM,if_neg (by omega)];exact hB t (by omega)
theorem Zc (S:Nat->St):∀ n,∃ B,∀ i,i<=n->∀ t,B<=t->lkA (S i).env t=.top:=by
 intro n;induction n with
 | zero=>
  obtain ⟨B,hB⟩:=Vo (S 0).env;refine ⟨B,λ i hi t ht=>?_⟩;have:i=0:=by omega
  subst this;exact hB t ht
 | succ n ih=>
  obtain ⟨B,hB⟩:=ih;obtain ⟨B',hB'⟩:=Vo (S (n+1)).env;refine ⟨B+B',λ i hi t ht=>?_⟩;by_cases e:i=n+1
  ·subst e;exact hB' t (by omega)
  ·exact hB i (by omega) t (by omega)
theorem JfB (f:Nat->AV) (B:Nat) (hf:∀ t,B<=t->f t=.top) (t:Nat):lkA ((List.range B).map λ t=>(t,f t)) t=f t:=by
 have key:∀ (l:List Nat),lkA (l.map λ t=>(t,f t)) t=if t∈l then f t else .top:=by
  intro l;induction l with
  | nil=>rfl
  | cons x l ih=>
   rw [Jns,BM,ih];by_cases e:x=t
   ·subst e;simp
   ·rw [if_neg e];simp [Ne.symm e]
 rw [key];split
 ·rfl
 ·rename_i h;rw [List.mem_range] at h;exact (hf t (by omega)).symm
structure DX (N:Nat->Prop) (H0 F0:Nat->Option Obj) (w0:W0) (nt:Slt) (ops:Array Oper) (x:Nat) (S:Nat->St) (listed:Array Bool) (a:Act) (w:World):Prop where
 size:listed.size=ops.size
 closed:∀ (j:Nat) oj,ops[j]? = some oj->listed.getD j false=true->∀ e∈oj.after.toList,Region.binds .any e=true->listed.getD e.on false=true
 tsz:TS nt w0.kp a.tmps
 mu:Mu w0.w w
 last:listed.getD (ops.size-1) false=false
 ex:∃ F ρ,(RK w0 nt ρ/\Dfr w0 F a.defers)/\Sim N H0 F0 F ρ (if listed.getD x false=true then (S (ops.size-1)).objs else (S 0).objs) w.heap /\
  ∀ t,(∀ (i:Nat) o,i<ops.size-1->ops[i]? = some o->o.dst=some t->listed.getD i false=true->Ai F ρ (lkA (S (i+1)).env t) (a.tmps.getD t undef))/\((∀ (i:Nat) o,i<ops.size-1->ops[i]? = some o->o.dst=some t->listed.getD i false=false)->Ai F ρ (lkA (S 0).env t) (a.tmps.getD t undef))
theorem Jch {Γ:Cx} (hΓ:Kv P Γ) (rd:Option Nat) (n:Nat) {ops:Array Oper} {x:Nat} {Q:St->Prop} {st:St} {a:Act} (hB:ST ops x=true)
  (h:Pk (cxX Γ ops x) false ops.toList.dropLast ops.toList.dropLast (λ s=>Jhr Γ.ty ops x st.env s.env st.objs s.objs/\∃ F,ops[ops.size-1]? = some F/\AZ Γ false ops.toList F Q s) st) (hI:Inv N H0 F0 w0 Γ.nt st a w)
  {Qw:Exit->Act->World->Prop} (hQ:∀ st' a' w',Q st'->Inv N H0 F0 w0 Γ.nt st' a' w'->Qw .normal a' w') :
  wpAnyIn (GF rd) n P .any ops Qw ops.size (Array.replicate ops.size false) a { w with drawn:=w.drawn+1 }:=by
 obtain ⟨S,h0,hst,hend⟩:=Lk _ _ _ h;obtain ⟨hn1,hxc,hops⟩:=JaM hB;have hlen:ops.toList.dropLast.length=ops.size-1:=by simp
 rw [hlen] at hend;obtain ⟨hlds,Fo,hF,hFs⟩:=hend;generalize hm:ops.size-1=m at *;have hget:∀ (i:Nat) o,i<m->ops[i]? = some o->ops.toList.dropLast[i]? = some o:=λ i o hi ho=>by
  rw [List.getElem?_dropLast];rw [if_pos (by simp;omega)];simpa using ho
 have hcf:∀ (i:Nat) o,i<m->ops[i]? = some o->∃ g v,Jcd P Γ ops x i o (S i) (S (i+1)) g v:=λ i o hi ho=>
  Zb ((hops i o ho).2.1 hi).2.1 hxc (hst i o (hget i o hi ho))
 have env_trk:∀ j,j<=m->∀ t,(∃ i o,i<j/\ops[i]? = some o/\o.dst=some t/\lkA (S j).env t=lkA (S (i+1)).env t)\/((∀ i o,i<j->ops[i]? = some o->o.dst≠some t)/\lkA (S j).env t=lkA (S 0).env t):=by
  intro j;induction j with
  | zero=>intro _ t;exact .inr ⟨λ i o hi=>by omega,rfl⟩
  | succ j ih=>
   intro hj t;have hoj:=JnC (show j<ops.size by omega);obtain ⟨g,v,hc⟩:=hcf j _ (by omega) hoj;by_cases hd:(ops[j]).dst=some t
   ·exact .inl ⟨j,_,by omega,hoj,hd,rfl⟩
   ·have hlk:lkA (S (j+1)).env t=lkA (S j).env t:=by
     rw [hc.env];cases hdd:(ops[j]).dst with
     | none=>rfl
     | some d=>
      simp only [putA];rw [BM,if_neg];intro e;subst e;exact hd hdd
    rcases ih (by omega) t with ⟨i,o,h1,h2,h3,h4⟩|⟨h1,h2⟩
    ·exact .inl ⟨i,o,by omega,h2,h3,by rw [hlk,h4]⟩
    ·refine .inr ⟨λ i o hi ho=>?_,by rw [hlk,h2]⟩;by_cases e:i=j
     ·subst e;rw [hoj] at ho;cases ho;exact hd
     ·exact h1 i o (by omega) ho
 have hdd:∀ (i j:Nat) oi oj d,ops[i]? = some oi->ops[j]? = some oj->i≠j->oi.dst=some d->oj.dst≠some d:=λ i j oi oj d hi hj hne hd=>((hops j oj hj).2.2.2 i oi d hi hne hd).1;have hval:∀ (i:Nat),i<=m->∀ y,SQ ops.toList (S 0).env (S m).env i y=Al (S i).env y:=by
  intro i hi y;cases y with
  | tmp t=>
   simp only [SQ,Al];cases hany:(ops.toList.take i).any (λ o=>match o.dst with|some d=>Nat.beq d t|none=>false) with
   | true=>
    rw [cond_true];rw [List.any_eq_true] at hany;obtain ⟨o,ho,hot⟩:=hany;obtain ⟨j,hj⟩:=List.getElem?_of_mem ho;have hji:j<i:=by have:=Ag hj;simp at this;omega
    rw [JnS hji] at hj;have hoj:ops[j]? = some o:=by simpa using hj
    have hdt:o.dst=some t:=by
     cases hdo:o.dst with
     | none=>rw [hdo] at hot;cases hot
     | some d=>rw [hdo] at hot;rw [JnE hot]
    have one:∀ q,j<q->q<=m->lkA (S q).env t=lkA (S (j+1)).env t:=λ q h1 h2=>by
     rcases env_trk q h2 t with ⟨k,ok',q1,q2,q3,q4⟩|⟨q1,_⟩
     ·by_cases hkj:k=j
      ·rw [q4,hkj]
      ·exact absurd q3 (hdd j k o ok' t hoj q2 (Ne.symm hkj) hdt)
     ·exact absurd hdt (q1 j o h1 hoj)
    rw [one i hji hi,one m (by omega) (Jni _)]
   | false=>
    rw [cond_false];rcases env_trk i hi t with ⟨k,ok',q1,q2,q3,q4⟩|⟨_,q2⟩
    ·exfalso;rw [List.any_eq_false] at hany;refine hany ok' ?_ ?_
     ·apply Jnz (i:=k);rw [JnS q1];simpa using q2
     ·simp [q3]
    ·rw [q2]
  | _=>rfl
 have grow:∀ d i,i+d<=m->(i+d<=x\/x<i)->∃ obs:List Ob,(S (i+d)).objs=(S i).objs++obs.map some:=by
  intro d;induction d with
  | zero=>intro i _ _;exact ⟨[],by simp⟩
  | succ d ih=>
   intro i hi hx;obtain ⟨obs,ho⟩:=ih i (by omega) (by omega);have hoi:=JnC (show i+d<ops.size by omega);obtain ⟨g,v,hc⟩:=hcf (i+d) _ (by omega) hoi;have hq:J1 (ops[i+d]).op=true:=by
    obtain ⟨_,h1,h2⟩:=(hops (i+d) _ hoi).2.1 (by omega);rcases h1 with h1|h1
    ·exact h1
    ·have:=h2 h1;omega
   obtain ⟨obs',ho'⟩:=(hc.quiet hq).1;exact ⟨obs++obs',by rw [← Jnq,ho',ho,List.map_append,List.append_assoc]⟩
 have hnox:m<=x->∃ obs:List Ob,(S m).objs=(S 0).objs++obs.map some:=λ hx=>by
  have:=grow m 0 (by omega) (.inl (by omega));simpa using this
 obtain ⟨B,hBd⟩:=Zc S m;have hload:∀ (i:Nat) o t p,i<m->exX ops x i=false->ops[i]? = some o->o.op=.load t p->∃ k off c0 cm v,unG (Al (S i).env p)=.ptr k off/\obA (S 0).objs k=some (.box c0)/\obA (S m).objs k=some (.box cm)/\CK c0 off (Γ.ty t)=some v/\CK cm off (Γ.ty t)=some v/\off+(Γ.ty t).size<=c0.length/\off+(Γ.ty t).size<=cm.length:=by
  intro i o t p hi hix ho hop;obtain ⟨h1,h2⟩:=hlds;rw [← h0] at h1 h2;have hz:(ldL Γ.ty ops x (S 0).env (S m).env (S 0).objs)[i]? = some (ldX (Γ.ty t) (S 0).objs (unG (Al (S i).env p))):=by
   unfold ldL;rw [JnB,List.getElem?_zipIdx,hget i o hi ho];simp [hop,hix,hval i (by omega) p]
  have hz':(ldL Γ.ty ops x (S 0).env (S m).env (S m).objs)[i]? = some (ldX (Γ.ty t) (S m).objs (unG (Al (S i).env p))):=by
   unfold ldL;rw [JnB,List.getElem?_zipIdx,hget i o hi ho];simp [hop,hix,hval i (by omega) p]
  have hsome:=Jnd.1 h2 _ (Jnz hz);cases hv:ldX (Γ.ty t) (S 0).objs (unG (Al (S i).env p)) with
  | none=>rw [hv] at hsome;cases hsome
  | some v=>
   rw [h1,hz',hv] at hz;obtain ⟨k,off,c0,e1,e2,e3,e4⟩:=Jce hv;obtain ⟨k',off',cm,f1,f2,f3,f4⟩:=Jce (Option.some.inj hz);rw [e1] at f1;cases f1;exact ⟨k,off,c0,cm,v,e1,e2,f2,e3,f3,e4,f4⟩
 have hfin:∀ listed a w,DX N H0 F0 w0 Γ.nt ops x S listed a w->(∀ k,k<m->listed.getD k false=true)->Inv N H0 F0 w0 Γ.nt (S m) a w:=by
  intro listed a w hD hl;obtain ⟨F,ρ,hrk,hS,hsl⟩:=hD.ex;rw [hm] at hS hsl;refine ⟨F,ρ,?_,λ t=>?_,hD.tsz,hrk.2,hD.mu,hrk.1⟩
  ·by_cases hx:x<m
   ·rw [if_pos (hl x hx)] at hS;exact hS
   ·obtain ⟨obs,ho⟩:=hnox (by omega);split at hS
    ·exact hS
    ·rw [ho];exact hS.grow _
  ·rcases env_trk m (Jni _) t with ⟨i,o,h1,h2,h3,h4⟩|⟨h1,h2⟩
   ·rw [h4];exact (hsl t).1 i o h1 h2 h3 (hl i h1)
   ·rw [h2];exact (hsl t).2 λ i o hi ho hd=>absurd hd (h1 i o hi ho)
 have main:∀ (fuel:Nat) (listed:Array Bool) (a:Act) (w:World),DX N H0 F0 w0 Γ.nt ops x S listed a w->unl listed ops.size=fuel->wpAnyIn (GF rd) n P .any ops Qw fuel listed a w:=by
  intro fuel;induction fuel with
  | zero=>
   intro listed a w hD hu;have:=Td ops.size hu m (by omega);have h2:=hD.last;rw [hm,this] at h2;cases h2
  | succ fuel ih=>
   intro listed a w hD hu;have hall:Region.ready .any ops listed=[]->∀ k,k<ops.size->listed.getD k false=true:=by
    intro hr k;induction k using Nat.strongRecOn with
    | _ k ihk=>
     intro hk;cases hl:listed.getD k false with
     | true=>rfl
     | false=>
      have:k∈Region.ready .any ops listed:=by
       rw [mem_ready];refine ⟨getD_in (by rw [hD.size];exact hk) hl,_,JnC hk,λ e he hb=>?_⟩;have hlt:=(hops k _ (JnC hk)).1 e (by simpa using he) hb;exact ihk e.on hlt (by omega)
      rw [hr] at this;cases this
   refine ⟨λ hr=>?_,λ i hi=>?_⟩
   ·have:=hall hr m (by omega);have h2:=hD.last;rw [hm,this] at h2;cases h2
   obtain ⟨hun,o,ho,hedges⟩:=mem_ready.1 hi;have hui:=getD_both hun;have hio:=As ho;have hidx:i<listed.size:=by rw [hD.size];exact hio
   have hdirect:∀ k,Region.waitsFor .any ops i k=true->listed.getD k false=true:=λ k hk=>by
    obtain ⟨o',ho',e,he,hb,hon⟩:=Region.waitsFor_spec hk;rw [ho] at ho';cases ho';rw [← hon];exact hedges e he hb
   have hne:∀ k,k≠i->(listed.setIfInBounds i true).getD k false=listed.getD k false:=λ k hk=>by
    rw [JnD,JnD,Jnn (Ne.symm hk)]
   have heq:(listed.setIfInBounds i true).getD i false=true:=by simp [hidx]
   have hunl:=V0 hidx hui ops.size hio;unfold wpOpIn;rw [ho];simp only;by_cases him:i=m
   ·
    subst him;rw [hF] at ho;cases ho;have hl:∀ k,k<i->listed.getD k false=true:=λ k hk=>by
     have hr:=((hops k _ (JnC (show k<ops.size by omega))).2.1 (by omega)).1;exact Df hD.closed hr hdirect
    have hI':=hfin listed a w hD hl;refine XG hΓ rd n (all:=ops) hFs hI' λ st' a' w' hq hI2=>?_;have hfz:fuel=0:=by
     have:unl (listed.setIfInBounds i true) ops.size=0:=by
      have key:∀ q,(∀ k,k<q->(listed.setIfInBounds i true).getD k false=true)->unl (listed.setIfInBounds i true) q=0:=by
       intro q;induction q with
       | zero=>intro _;rfl
       | succ q ihq=>intro hq;simp only [unl];rw [ihq (λ k hk=>hq k (by omega)),if_pos (hq q (by omega))]
      refine key _ λ k hk=>?_;by_cases e:k=i
      ·subst e;exact heq
      ·rw [hne k e];exact hl k (by omega)
     omega
    subst hfz;refine ⟨?_,hQ st' a' w' hq hI2⟩;rw [List.eq_nil_iff_forall_not_mem];intro k hk;obtain ⟨h1,o',ho',_⟩:=mem_ready.1 hk;have hk':=As ho';have:=getD_both h1;by_cases e:k=i
    ·subst e;rw [heq] at this;cases this
    ·rw [hne k e,hl k (by omega)] at this;cases this
   have him:i<m:=by omega
   obtain ⟨g,v0,hc⟩:=hcf i o him ho;obtain ⟨F,ρ,hrk,hS,hsl⟩:=hD.ex;rw [hm] at hS hsl;have hrs:RS F ρ (S i).env a.tmps (Dq ops.toList o):=by
    intro t ht;rcases env_trk i (by omega) t with ⟨k,ok',h1,h2,h3,h4⟩|⟨h1,h2⟩
    ·rw [h4];refine (hsl t).1 k ok' (by omega) h2 h3 (hdirect k ?_);exact (((hops i o ho).2.2.2 k ok' t h2 (by omega) h3).2 ht).1 h1
    ·rw [h2];refine (hsl t).2 λ k ok' hkm hk hd=>?_;rcases Nat.lt_trichotomy k i with hlt|he|hgt
     ·exact absurd hd (h1 k ok' hlt hk)
     ·rw [he];exact hui
     ·cases hl:listed.getD k false with
      | false=>rfl
      | true=>
       obtain ⟨o',ho',e,he,hb,hon⟩:=Region.waitsFor_spec ((((hops i o ho).2.2.2 k ok' t hk (by omega) hd).2 ht).2 hgt);have:=hD.closed k o' ho' hl e (by simpa using he) hb;rw [hon,hui] at this;cases this
   have hSl:CT F ρ (EU (S i).env (Dq ops.toList o)) a.tmps:=JmY hrs;have hev:∀ y∈o.op.operands.toList,Ai F ρ (Al (S i).env y) (a.eval y):=λ y hy=>by
    have:=A4 hSl y;cases y with
    | tmp t=>
     simp only [Al] at this ⊢;rw [MQ,if_pos (by unfold Dq;exact List.mem_append_left _ (Lj hy))] at this;exact this
    | _=>exact this
   have hgd:Cg ops.toList (EU (S i).env (Dq ops.toList o)) o.guard=some g:=by
    have:=hc.gd;unfold Cg at this ⊢;split at this
    ·exact this
    ·rename_i j want hg;have hj:=(hops i o ho).2.2.1 j want hg;have hoj:=JnC (show j<ops.size by omega);rw [hget j _ (by omega) hoj] at this;have hoj':ops.toList[j]? = some ops[j]:=by simp
     rw [hoj'];simp only at this ⊢;split at this
     ·rename_i t ht;rw [ht];simp only;rw [MQ,if_pos (by unfold Dq Pm;rw [hg];simp only [hoj',ht];simp)];exact this
     ·cases this
   have hw:=HJ hSl hgd;rw [hw];have next:∀ (v:Value) (w':World) (F':Nat->Option Obj) (ρ':Nat->Option Loc),FLe F F'->RLe ρ ρ'->Sim N H0 F0 F' ρ' (if (listed.setIfInBounds i true).getD x false=true then (S m).objs else (S 0).objs) w'.heap->(∀ d,o.dst=some d->Ai F' ρ' (lkA (S (i+1)).env d) v)->Mu w w'->wpAnyIn (GF rd) n P .any ops Qw fuel (listed.setIfInBounds i true) (a.put o.dst v) w':=by
    intro v w' F' ρ' hF' hρ' hS' hv hmu;refine ih _ _ _ { size:=by simpa using hD.size,closed:=λ j oj hj hl e he hb=>?_,tsz:=hD.tsz.put hc.dst,mu:=hD.mu.trans hmu,last:=by rw [hm,hne m (by omega)];have:=hD.last;rwa [hm] at this,ex:=⟨F',ρ',⟨hrk.1.mono hρ',by rw [B1];exact hrk.2.mono hF'⟩,by rw [hm];exact hS',λ t=>?_⟩ } (by omega)
    ·by_cases hji:j=i
     ·subst hji;rw [ho] at hj;cases hj;have:=hedges e (by simpa using he) hb;by_cases hee:e.on=j
      ·rw [hee];exact heq
      ·rw [hne _ hee];exact this
     ·rw [hne j hji] at hl;have:=hD.closed j oj hj hl e he hb;by_cases hee:e.on=i
      ·rw [hee];exact heq
      ·rw [hne _ hee];exact this
    ·by_cases hdt:o.dst=some t
     ·have hvl:(a.put o.dst v).tmps.getD t undef=v:=by
       have hd:=hc.dst;rw [hdt] at hd ⊢;have:t<a.tmps.size:=hD.tsz.lt hd;simp [Act.put,this]
      rw [hvl];refine ⟨λ k ok' hkm hk hd _=>?_,λ hno=>?_⟩
      ·by_cases hki:k=i
       ·subst hki;exact hv t hdt
       ·exact absurd hd (hdd i k o ok' t ho hk (Ne.symm hki) hdt)
      ·have:=hno i o (by omega) ho hdt;rw [heq] at this;cases this
     ·have hvl:(a.put o.dst v).tmps.getD t undef=a.tmps.getD t undef:=by
       cases hde:o.dst with
       | none=>rfl
       | some d=>
        have hdne:d≠t:=λ e=>hdt (by rw [hde,e]);rw [JnD,JnD];simp only [Act.put];rw [Jnn hdne]
      rw [hvl];refine ⟨λ k ok' hkm hk hd hl=>?_,λ hno=>?_⟩
      ·have hki:k≠i:=λ e=>by subst e;rw [ho] at hk;cases hk;exact hdt hd
       rw [hne k hki] at hl;exact ((hsl t).1 k ok' (by omega) hk hd hl).mono hF' hρ'
      ·refine ((hsl t).2 λ k ok' hkm hk hd=>?_).mono hF' hρ';have hki:k≠i:=λ e=>by subst e;rw [ho] at hk;cases hk;exact hdt hd
       have:=hno k ok' (by omega) hk hd;rwa [hne k hki] at this
   have hput:∀ (F':Nat->Option Obj) (ρ':Nat->Option Loc) (v:Value) d,o.dst=some d->Ai F' ρ' (bif o.guard.isSome then .gv g v0 else v0) v->Ai F' ρ' (lkA (S (i+1)).env d) v:=λ F' ρ' v d hd hv=>by
    rw [hc.env,hd];simp only [putA];rw [BM,if_pos rfl];exact hv
   by_cases hix:i=x
   ·subst hix;have hcall:FV o.op=true:=hxc o ho;rw [hui] at hS;simp only [JnK,if_false] at hS;obtain ⟨obs0,hobs0⟩:=grow i 0 (by omega) (.inl (by omega));rw [JnM] at hobs0;obtain ⟨obs1,hobs1⟩:=grow (m-(i+1)) (i+1) (by omega) (.inr (by omega));rw [show i+1+(m-(i+1))=m by omega] at hobs1;cases g with
    | false=>
     rw [if_neg (by simp)];refine ⟨λ _ _=>trivial,?_⟩;obtain ⟨obs2,hobs2⟩:=(hc.call hcall).1 rfl;have hgs:o.guard.isSome=true:=by
      cases hgo:o.guard with
      | some y=>rfl
      | none=>have:=hc.gd;rw [hgo] at this;cases this
     refine next undef w F ρ (FLe.refl _) (RLe.refl _) ?_ (λ d hd=>hput F ρ _ d hd (by rw [hgs];exact .gvF _)) (Mu.refl w)
     rw [heq,if_pos rfl,hobs1,hobs2,hobs0];exact ((hS.grow _).grow _).grow _
    | true=>
     rw [if_pos rfl];let f:Nat->AV:=λ t=>@dite _ (∃ k ok',k<m/\ops[k]? = some ok'/\ok'.dst=some t/\listed.getD k false=true) (Classical.propDecidable _) (λ h=>lkA (S (Classical.choose h+1)).env t) λ _=>lkA (S 0).env t;have hf1:∀ k ok' t,k<m->ops[k]? = some ok'->ok'.dst=some t->listed.getD k false=true->f t=lkA (S (k+1)).env t:=λ k ok' t h1 h2 h3 h4=>by
      have hex:∃ k ok',k<m/\ops[k]? = some ok'/\ok'.dst=some t/\listed.getD k false=true:=⟨k,ok',h1,h2,h3,h4⟩;have e:f t=lkA (S (Classical.choose hex+1)).env t:=dif_pos hex;rw [e];obtain ⟨ok2,q1,q2,q3,q4⟩:=Classical.choose_spec hex;by_cases hkk:Classical.choose hex=k
      ·rw [hkk]
      ·exact absurd h3 (hdd _ k ok2 ok' t q2 h2 hkk q3)
     have hf0:∀ t,(∀ (k:Nat) ok',k<m->ops[k]? = some ok'->ok'.dst=some t->listed.getD k false=false)->f t=lkA (S 0).env t:=λ t hno=>by
      have hnex:¬∃ k ok',k<m/\ops[k]? = some ok'/\ok'.dst=some t/\listed.getD k false=true:=by
       rintro ⟨k,ok',h1,h2,h3,h4⟩;rw [hno k ok' h1 h2 h3] at h4;cases h4
      exact dif_neg hnex
     have hfc:∀ t,(∃ k ok',k<m/\ops[k]? = some ok'/\ok'.dst=some t/\listed.getD k false=true)\/∀ (k:Nat) ok',k<m->ops[k]? = some ok'->ok'.dst=some t->listed.getD k false=false:=λ t=>by
      rcases Classical.em (∃ k ok',k<m/\ops[k]? = some ok'/\ok'.dst=some t/\listed.getD k false=true) with h|h
      ·exact .inl h
      ·refine .inr λ k ok' h1 h2 h3=>?_;cases hl:listed.getD k false with
       | false=>rfl
       | true=>exact absurd ⟨k,ok',h1,h2,h3,hl⟩ h
     have hfB:∀ t,B<=t->f t=.top:=λ t ht=>by
      rcases hfc t with ⟨k,ok',h1,h2,h3,h4⟩|hno
      ·rw [hf1 k ok' t h1 h2 h3 h4];exact hBd (k+1) (by omega) t ht
      ·rw [hf0 t hno];exact hBd 0 (by omega) t ht
     have hlk:=JfB f B hfB;have hSlE:CT F ρ ((List.range B).map λ t=>(t,f t)) a.tmps:=λ t=>by
      rw [hlk];rcases hfc t with ⟨k,ok',h1,h2,h3,h4⟩|hno
      ·rw [hf1 k ok' t h1 h2 h3 h4];exact (hsl t).1 k ok' h1 h2 h3 h4
      ·rw [hf0 t hno];exact (hsl t).2 hno
     have hfr:∀ t∈Dq ops.toList o,f t=lkA (S i).env t:=λ t ht=>by
      rcases env_trk i (by omega) t with ⟨k,ok',h1,h2,h3,h4⟩|⟨h1,h2⟩
      ·rw [h4];exact hf1 k ok' t (by omega) h2 h3 (hdirect k ((((hops i o ho).2.2.2 k ok' t h2 (by omega) h3).2 ht).1 h1))
      ·rw [h2];refine hf0 t λ k ok' hkm hk hd=>?_;rcases Nat.lt_trichotomy k i with hlt|he|hgt
       ·exact absurd hd (h1 k ok' hlt hk)
       ·rw [he];exact hui
       ·cases hl:listed.getD k false with
        | false=>rfl
        | true=>
         obtain ⟨o',ho',e,he,hb,hon⟩:=Region.waitsFor_spec ((((hops i o ho).2.2.2 k ok' t hk (by omega) hd).2 ht).2 hgt);have:=hD.closed k o' ho' hl e (by simpa using he) hb;rw [hon,hui] at this;cases this
     have hext:=(hc.call hcall).2 rfl ((List.range B).map λ t=>(t,f t)) λ y hy=>by
      cases y with
      | tmp t=>
       simp only [Al];rw [hlk,hfr t (by unfold Dq;exact List.mem_append_left _ (Lj hy))]
      | _=>rfl
     have hSx:Sim N H0 F0 F ρ (S i).objs w.heap:=by rw [hobs0];exact hS.grow _
     refine hΓ.ext _ _ _ _ _ hext N H0 F0 w0 a w rfl ⟨F,ρ,hSx,hSlE,hD.tsz,hrk.2,hD.mu,hrk.1⟩ hc.dst rd n _ _ λ a' w' hI'=>?_;obtain ⟨F',ρ',hS',hSl',hts',hdf',hmu',hrk'⟩:=hI';have hslot:∀ t,Ai F' ρ' (if o.dst=some t then lkA (S (i+1)).env t else f t) (a'.tmps.getD t undef):=λ t=>by
      have:=hSl' t;cases hd:o.dst with
      | none=>rw [hd] at this;simp only [putA] at this;rw [hlk] at this;simpa using this
      | some d=>
       rw [hd] at this;simp only [putA] at this;rw [BM,hlk] at this;by_cases e:d=t
       ·subst e;rw [if_pos rfl] at this ⊢;rw [hc.env,hd];simp only [putA];rw [BM,if_pos rfl];exact this
       ·rw [if_neg e] at this;rw [if_neg (λ h=>e (Option.some.inj h))];exact this
     refine ih _ _ _ { size:=by simpa using hD.size,closed:=λ j oj hj hl e he hb=>?_,tsz:=hts',mu:=hmu',last:=by rw [hm,hne m (by omega)];have:=hD.last;rwa [hm] at this,ex:=⟨F',ρ',⟨hrk',hdf'⟩,by rw [hm,heq,if_pos rfl,hobs1];exact hS'.grow _,λ t=>?_⟩ } (by omega)
     ·by_cases hji:j=i
      ·subst hji;rw [ho] at hj;cases hj;have:=hedges e (by simpa using he) hb;by_cases hee:e.on=j
       ·rw [hee];exact heq
       ·rw [hne _ hee];exact this
      ·rw [hne j hji] at hl;have:=hD.closed j oj hj hl e he hb;by_cases hee:e.on=i
       ·rw [hee];exact heq
       ·rw [hne _ hee];exact this
     ·have hs:=hslot t;by_cases hdt:o.dst=some t
      ·rw [if_pos hdt] at hs;refine ⟨λ k ok' hkm hk hd _=>?_,λ hno=>?_⟩
       ·by_cases hki:k=i
        ·subst hki;exact hs
        ·exact absurd hd (hdd i k o ok' t ho hk (Ne.symm hki) hdt)
       ·have:=hno i o (by omega) ho hdt;rw [heq] at this;cases this
      ·rw [if_neg hdt] at hs;refine ⟨λ k ok' hkm hk hd hl=>?_,λ hno=>?_⟩
       ·have hki:k≠i:=λ e=>by subst e;rw [ho] at hk;cases hk;exact hdt hd
        rw [hne k hki] at hl;rw [← hf1 k ok' t (by omega) hk hd hl];exact hs
       ·rw [hf0 t λ k ok' hkm hk hd=>by
         have hki:k≠i:=λ e=>by subst e;rw [ho] at hk;cases hk;exact hdt hd
         have:=hno k ok' (by omega) hk hd;rwa [hne k hki] at this] at hs
        exact hs
   ·
    have hq:J1 o.op=true:=by
     obtain ⟨_,h1,h2⟩:=(hops i o ho).2.1 (by omega);rcases h1 with h1|h1
     ·exact h1
     ·exact absurd (h2 h1) hix
    have hSn:Sim N H0 F0 F ρ (if (listed.setIfInBounds i true).getD x false=true then (S m).objs else (S 0).objs) w.heap:=by
     rw [hne x (λ e=>hix e.symm)];exact hS
    cases g with
    | false=>
     rw [if_neg (by simp)];have hgs:o.guard.isSome=true:=by
      cases hgo:o.guard with
      | some y=>rfl
      | none=>have:=hc.gd;rw [hgo] at this;cases this
     exact ⟨λ _ _=>trivial,next undef w F ρ (FLe.refl _) (RLe.refl _) hSn (λ d hd=>hput F ρ _ d hd (by rw [hgs];exact .gvF _)) (Mu.refl w)⟩
    | true=>
     rw [if_pos rfl];obtain ⟨e,he,hgob,hob,rfl⟩:=(hc.quiet hq).2 rfl;have hevu:∀ y∈o.op.operands.toList,Ai F ρ (unG (Al (S i).env y)) (a.eval y):=λ y hy=>C6 rfl _ hgob _ (List.mem_map_of_mem hy) _ (hev y hy);have hrun:∃ v,(execOp a.eval o).run P w=.ok (.value v) w/\Ai F ρ e.v v:=by
      cases hmo:En o.op with
      | false=>
       rw [Pt _ hmo (Hn hq).2] at he;exact (DE hΓ.ty hS (λ k ob h=>by simp [obA] at h) o (Hn hq).1 he hob hevu).2
      | true=>
       have hok:∀ t p,o.op=.load t p->(Γ.ty t).ok=true:=λ t p hop=>by
        rw [hop] at he;simp only [opA] at he;cases hk:(Γ.ty t).ok with
        | true=>rfl
        | false=>rw [hk] at he;cases he
       by_cases hlx:listed.getD x false=true
       ·have hxm:x<m:=by
         rcases Nat.lt_trichotomy x m with h1|h1|h1
         ·exact h1
         ·subst h1;have:=hD.last;rw [hm,hlx] at this;cases this
         ·rw [JnD,Array.getElem?_eq_none (by rw [hD.size];omega)] at hlx;cases hlx
        rw [if_pos hlx] at hS;by_cases hxi:x<i
        ·obtain ⟨obs,ho2⟩:=grow (m-i) i (by omega) (.inr hxi);rw [show i+(m-i)=m by omega] at ho2;obtain ⟨t,p,hop⟩:=OK hq hmo;rw [hop] at he;have he':=Jcf (obs.map some) he;rw [← ho2] at he';exact (DE hΓ.ty hS (λ _ _ h=>h) o (Hn hq).1 (by rw [hop];exact he') hob hevu).2
        ·have hex:exX ops x i=false:=Jcg hix (by omega) (λ _ ht=>by
          have:=Df hD.closed (Ee _ _ _ ht) λ k hk=>by
           obtain ⟨o',ho',e,he,hb,hon⟩:=Region.waitsFor_spec hk;rw [← hon];exact hD.closed x o' ho' hlx e (by simpa using he) hb
          rw [hui] at this;cases this) λ h=>absurd h hxi
         obtain ⟨t,p,hop⟩:=OK hq hmo;obtain ⟨k,off,c0,cm,v,q1,q2,q3,q4,q5,q6,q7⟩:=hload i o t p him hex ho hop;obtain ⟨obs,ho2⟩:=grow i 0 (by omega) (.inl (by omega));rw [JnM] at ho2;have hev':=Px (Γ:=Γ.ty) (t:=t) (a:=p) (ev:=λ y=>unG (Al (S i).env y)) (hok t p hop) q1 (show obA (S i).objs k=some (.box c0) by rw [ho2,AN,if_pos (AU q2)];exact q2) q4;rw [hop,hev'] at he;cases he;exact (DE hΓ.ty hS (λ _ _ h=>h) o (Hn hq).1 (ev:=λ y=>unG (Al (S i).env y)) (e:=⟨v,[],[],none,off+(Γ.ty t).size<=cm.length⟩) (by rw [hop];exact Px (hok t p hop) q1 q3 q5) q7 hevu).2
       ·rw [if_neg hlx] at hS;by_cases hxi:i<x
        ·obtain ⟨obs,ho2⟩:=grow i 0 (by omega) (.inl (by omega));rw [JnM] at ho2;have hSi:=hS.grow (obs.map some);rw [← ho2] at hSi;exact (DE hΓ.ty hSi (λ _ _ h=>h) o (Hn hq).1 he hob hevu).2
        ·have hex:exX ops x i=false:=Jcg hix (by omega) (λ h=>absurd h hxi) λ _ ht=>hlx (Df hD.closed (Ee _ _ _ ht) hdirect);obtain ⟨t,p,hop⟩:=OK hq hmo;obtain ⟨k,off,c0,cm,v,q1,q2,q3,q4,q5,q6,q7⟩:=hload i o t p him hex ho hop;obtain ⟨obs,ho2⟩:=grow (m-i) i (by omega) (.inr (by omega));rw [show i+(m-i)=m by omega] at ho2;have hki:k<(S i).objs.length:=by
          rw [hop] at he;simp only [opA,hok t p hop,cond_true,q1,D7] at he;split at he
          ·rename_i cells hcs;exact AU hcs
          ·cases he
         have q3':=q3;rw [ho2,AN,if_pos hki] at q3';have hev':=Px (Γ:=Γ.ty) (t:=t) (a:=p) (ev:=λ y=>unG (Al (S i).env y)) (hok t p hop) q1 q3' q5;rw [hop,hev'] at he;cases he;exact (DE hΓ.ty hS (λ _ _ h=>h) o (Hn hq).1 (ev:=λ y=>unG (Al (S i).env y)) (e:=⟨v,[],[],none,off+(Γ.ty t).size<=c0.length⟩) (by rw [hop];exact Px (hok t p hop) q1 q2 q4) q6 hevu).2
     obtain ⟨v,hv,hr⟩:=hrun;refine Li (λ c hcd=>by rw [hcd] at hq;cases hq) ?_;unfold Oper.wp;rw [hv,Oper.upon_value];refine next v w F ρ (FLe.refl _) (RLe.refl _) hSn (λ d hd=>hput F ρ _ d hd ?_) (Mu.refl w)
     cases o.guard.isSome with
     | false=>exact hr
     | true=>exact .gvT _ _ hr
 obtain ⟨F,ρ,hS,hSl,hts,hdf⟩:=hI;have hz:∀ k,(Array.replicate ops.size false).getD k false=false:=λ k=>getD_replicate_false _ _;refine main ops.size _ a _ { size:=by simp,closed:=λ j oj _ hl=>(by rw [hz] at hl;cases hl),tsz:=hts,mu:=hdf.2.1,last:=hz _,ex:=⟨F,ρ,⟨hdf.2.2,hdf.1⟩,by rw [hz,h0];exact hS,λ t=>⟨λ i o _ _ _ hl=>(by rw [hz] at hl;cases hl),λ _=>by rw [h0];exact hSl t⟩⟩ } ?_;have:∀ q,unl (Array.replicate ops.size false) q=q:=by
  intro q;induction q with
  | zero=>rfl
  | succ q ih=>simp only [unl,ih,hz];rfl
 exact this _
end Go.AI
end
section
namespace Go.AI
variable {P:Program} {F F':Nat->Option Obj} {ρ ρ':Nat->Option Loc} {N:Nat->Prop} {H0 F0:Nat->Option Obj} {O objs:List (Option Ob)} {w:World} {w0:W0}
theorem XY {Γ:Cx} (hfol:P.follows .mixedOrders=true) (hΓ:Kv P Γ) {rd:Option Nat} (hrd:Γ.rd=rd.isSome):∀ (c:Code) (Q:Ex->St->Prop) (st:St) (a:Act) (w:World),wpA Γ c Q st->Inv N H0 F0 w0 Γ.nt st a w->c.wpIn (GF rd) 0 P (Vn N H0 F0 w0 Γ.nt Q) a w:=by
 intro c;induction c with
 | skip=>intro Q st a w h hI;exact wpIn_skip ⟨.normal,st,rfl,h,hI⟩
 | region id ops draw=>
  intro Q st a w h hI;obtain ⟨s1,hsh,h|⟨hdr,x,hB,h⟩⟩:=h
  rotate_left
  ·subst hdr;exact wpIn_region_any hfol (Jch hΓ rd 0 hB h (F6 rfl hsh hI) λ st' a' w' hq hI'=>⟨.normal,st',rfl,hq,hI'⟩)
  replace hI:=F6 rfl hsh hI;cases draw with
  | false=>exact wpIn_region_list (Jfu hΓ rd 0 ops.toList _ s1 a w h hI λ st' a' w' hq hI'=>⟨.normal,st',rfl,hq.2,hI'⟩)
  | true=>
   have hnd:∀ o∈ops.toList,ndB o.op=true:=by
    obtain ⟨S,_,_,hQS⟩:=Lk _ _ _ h;exact (Xd hQS.1).2
   have hQ:¬LetsOut (Vn N H0 F0 w0 Γ.nt Q):=by
    rintro ⟨a,w,e',st',h1,_⟩;cases e'<;>cases h1
   refine wpIn_region_any hfol (YY hQ hnd _ _ _ _ ?_);cases hB:RB ops with
   | true=>exact Y1 (Q:=λ s=>SR true ops s1.env s.env=true/\Q .normal s) hΓ hB h hI λ st' a' w' hq hI'=>⟨.normal,st',rfl,hq.2,hI'⟩
   | false=>exact XV hΓ hB h hI λ st' a' w' hq hI'=>⟨.normal,st',rfl,hq,hI'⟩
 | seq x y ihx ihy=>
  intro Q st a w h hI;refine wpIn_seq (wpIn_mono (ihx _ st a w h hI) λ e a' w' hp=>?_);obtain ⟨e',st',rfl,hq,hI'⟩:=hp;cases e' with
  | normal=>
   obtain ⟨s1,hsh,hq⟩:=hq;exact ihy Q s1 a' w' hq (F6 rfl hsh hI')
  | exit i=>exact ⟨.exit i,st',rfl,hq,hI'⟩
  | ret=>exact ⟨.ret,st',rfl,hq,hI'⟩
 | cond c x y ihx ihy=>
  intro Q st a w h hI;obtain ⟨F,ρ,hS,hSl,hn,hdf⟩:=hI;simp only [wpA] at h;unfold ZL at h;split at h
  ·rename_i t ht;have hc:=A4 hSl c;rw [ht] at hc;refine wpIn_cond_split hc.bool (λ e=>ihx Q st a w (h.1 e) ⟨F,ρ,hS,hSl,hn,hdf⟩) (λ e=>ihy Q st a w (h.2 e) ⟨F,ρ,hS,hSl,hn,hdf⟩)
  ·exact h.elim
 | block id c ih=>
  intro Q st a w h hI;refine wpIn_block (wpIn_mono (ih _ st a w h hI) λ e a' w' hp=>?_);obtain ⟨e',st',rfl,hq,hI'⟩:=hp;cases e' with
  | normal=>exact ⟨.normal,st',rfl,hq,hI'⟩
  | ret=>exact ⟨.ret,st',rfl,hq,hI'⟩
  | exit i=>
   simp only [II] at hq;show if i=id then _ else _
   cases hb:Nat.beq i id with
   | true=>
    rw [hb,cond_true] at hq;rw [if_pos (JnE hb)];exact ⟨.normal,st',rfl,hq,hI'⟩
   | false=>
    rw [hb,cond_false] at hq;have hne:i≠id:=λ e=>by subst e;simp at hb
    rw [if_neg hne];exact ⟨.exit i,st',rfl,hq,hI'⟩
 | loop c ih=>
  intro Q st a w h hI;obtain ⟨I,n,⟨s0,hsh0,h0⟩,hround⟩:=h;have key:∀ (k m:Nat) (st:St) (a:Act) (w:World),m<k->I m st->Inv N H0 F0 w0 Γ.nt st a w->Code.roundsIn (GF rd) 0 P c (Vn N H0 F0 w0 Γ.nt Q) k a w:=by
   intro k;induction k with
   | zero=>intro m st a w hm;omega
   | succ k ihk=>
    intro m st a w hm hIm hI;refine wpIn_mono (ih _ st a w (hround m st hIm) hI) λ e a' w' hp=>?_;obtain ⟨e',st',rfl,hq,hI'⟩:=hp;cases e' with
    | normal=>
     obtain ⟨m',s1,hm',hsh,hq⟩:=hq;exact ihk m' s1 a' w' (by omega) hq (F6 rfl hsh hI')
    | exit i=>exact ⟨.exit i,st',rfl,hq,hI'⟩
    | ret=>exact ⟨.ret,st',rfl,hq,hI'⟩
  exact wpIn_loop_rounds (n+1) (key (n+1) n s0 a w (by omega) h0 (F6 rfl hsh0 hI))
 | exit id=>intro Q st a w h hI;exact wpIn_exit ⟨.exit id,st,rfl,h,hI⟩
 | ret=>intro Q st a w h hI;exact wpIn_ret ⟨.ret,st,rfl,h,hI⟩
 | scope c ih=>
  intro Q st a w h hI;refine NR (wpIn_mono (ih Q st a w h hI) λ e a' w' hp=>?_);obtain ⟨e',st',rfl,hq,hI'⟩:=hp;cases e'<;>exact ⟨_,st',rfl,hq,hI'⟩
 | label l=>intro Q st a w h hI;exact wpIn_label ⟨.normal,st,rfl,h,hI⟩
 | rangeFunc g ps asg body=>
  intro Q st a w h hI;obtain ⟨s1,hsh,h⟩:=h;exact XX hΓ hrd h (F6 rfl hsh hI)
 | _=>intro Q st a w h;exact h.elim
def JaN (Γ:Nat->Ty) (st:St):ResultVar->Option (AV×Prop)
 | .tmp t=>some (lkA st.env t,True)
 | .cell a t=>bif (Γ t).ok then (match D7 (Γ t) st.objs (lkA st.env a) with
  | some e=>some (e.v,e.ob)
  | none=>none) else none
def Tp (Γ:Nat->Ty) (st:St):List ResultVar->Option (List AV×Prop)
 | []=>some ([],True)
 | r::rs=>match JaN Γ st r,Tp Γ st rs with
  | some (v,p),some (vs,q)=>some (v::vs,p/\q)
  | _,_=>none
def XZ (Γ:Nat->Ty) (rs:List ResultVar) (r:AV) (st:St):Prop:=
 match Tp Γ st rs with
 | some ([v],p)=>p/\Tf st.objs v r/\(ksE (NT v r)).Nodup
 | some (vs,p)=>match r with
  | .tup l=>p/\Y2 st.objs vs l/\(ksE (NU vs l)).Nodup
  | _=>False
 | none=>False
def X0 (Γ:Nat->Ty) (rs:List ResultVar) (r:AV):Ex->St->Prop
 | .exit _,_=>False
 | _,st=>XZ Γ rs r st
def JaO (tmps:Array Value):ResultVar->Sem Value
 | .tmp t=>pure (tmps.getD t undef)
 | .cell a t=>do loadVar t (← asAddr (tmps.getD a undef))
theorem Tq (fn:Func) (tmps:Array Value):results fn tmps=(do let vs ← fn.results.mapM (JaO tmps);pure (if h:vs.size=1 then vs[0] else .tuple vs)):=by
 rfl
theorem Zd {Γ:Nat->Ty} (hΓ:La P Γ) {st:St} {tmps:Array Value} (hS:Sim N H0 F0 F ρ st.objs w.heap) (hSl:CT F ρ st.env tmps) {r:ResultVar} {v:AV} {p:Prop} (h:JaN Γ st r=some (v,p)) (hp:p) :
  ∃ x,(JaO tmps r).run P w=.ok x w/\Ai F ρ v x:=by
 cases r with
 | tmp t=>simp only [JaN,JnI,Prod.mk.injEq] at h;obtain ⟨rfl,rfl⟩:=h;exact ⟨_,rfl,hSl t⟩
 | cell a t=>
  simp only [JaN] at h;cases hok:(Γ t).ok with
  | false=>rw [hok] at h;cases h
  | true=>
   rw [hok,cond_true] at h;split at h
   ·rename_i e he;simp only [JnI,Prod.mk.injEq] at h;obtain ⟨rfl,rfl⟩:=h;obtain ⟨_,_,_,x,hx,hr⟩:=RC (hΓ t hok) hS (λ _ _ h=>h) he hp (hSl a);refine ⟨x,?_,hr⟩;simp only [Instr.loadAt,JaO,Jna] at hx ⊢;cases hv:tmps.getD a undef with
    | pointer q=>
     cases q with
     | none=>rw [hv] at hx;simp [Instr.sureAddr] at hx
     | some q=>rw [hv] at hx;simpa [Instr.sureAddr,asAddr] using hx
    | _=>rw [hv] at hx;simp [Instr.sureAddr] at hx
   ·cases h
theorem Jt {Γ:Nat->Ty} (hΓ:La P Γ) {st:St} {tmps:Array Value} (hS:Sim N H0 F0 F ρ st.objs w.heap) (hSl:CT F ρ st.env tmps):∀ (rs:List ResultVar) (vs:List AV) (p:Prop),Tp Γ st rs=some (vs,p)->p ->
  ∃ xs:List Value,(rs.mapM (JaO tmps)).run P w=.ok xs w/\CR F ρ vs xs:=by
 intro rs;induction rs with
 | nil=>intro vs p h _;cases h;exact ⟨[],rfl,rfl,λ i a v ha=>by simp at ha⟩
 | cons r rs ih=>
  intro vs p h hp;simp only [Tp] at h;split at h
  ·rename_i v p1 vs' q h1 h2;cases h;obtain ⟨x,hx,hr⟩:=Zd hΓ hS hSl h1 hp.1;obtain ⟨xs,hxs,hc⟩:=ih vs' q h2 hp.2;refine ⟨x::xs,?_,by simp [hc.1],λ i a u ha hu=>?_⟩
   ·rw [List.mapM_cons];simp only [Jna,hx,Jm8,hxs,Jnb]
   ·cases i with
    | zero=>simp at ha hu;subst ha;subst hu;exact hr
    | succ i=>exact hc.2 i a u (by simpa using ha) (by simpa using hu)
  ·cases h
theorem JaP {Γ:Cx} (hfol:P.follows .mixedOrders=true) (hΓ:Kv P Γ) (hrd:Γ.rd=false) {f:FuncId} {fn:Func} {c:Code} {args:List AV} {r:AV} (hf:P.funcs[f]? = some fn) (hb:fn.body=some c) (hnm:(fn.name == "runtime.NumGoroutine")=false)
  (hnt:Γ.nt.n=fn.ntmps) (hlen:args.length<=fn.ntmps) (h:wpA Γ c (X0 Γ.ty fn.results.toList r) ⟨(List.range args.length).zip args,[]⟩):AL P f args r:=by
 refine ⟨⟨fn,c,hf,hb,hnm⟩,λ F w vs hvs hF=>?_⟩;have hvl:args.length=vs.size:=by have:=hvs.1;simpa using this
 refine callsIn_wide.1 (callsIn_of_wp_marks (F:=Fence.wide) (n:=0) hf hb trivial ?_ rfl);have hS:Sim (λ b=>w.heap.size<=b) (λ b=>w.heap[b]?) F F noR [] w.heap:={ size:=λ b hb=>hb,old:=λ b _=>rfl,f0:=FLe.refl _,fnew:=λ b o h _=>h,frz:=hF,loc:=λ k L h=>by simp [noR] at h,dom:=λ k L h=>by simp [noR] at h,obj:=λ k L ob h=>by simp [noR] at h,sep:=λ k k' L L' ob ob' h=>by simp [noR] at h,inn:=⟨λ _ _=>none,⟨(λ k c M h=>by cases h),(λ k c M k' L ob h=>by cases h),(λ k c M k' c' M' h=>by cases h),(λ k L sz es h=>by simp [noR] at h)⟩⟩ };have hSl:CT F noR ((List.range args.length).zip args) (vs++Array.replicate (fn.ntmps-vs.size) undef):=by
  intro t;rcases VU (List.range args.length) args t (by simp) with h|⟨i,a,h1,h2,h3⟩
  ·rw [h];exact .top _
  ·rw [h3];have hi:=Ag h2;have:i=t:=by
    rw [List.getElem?_range hi] at h1;exact Option.some.inj h1
   subst this;have hv:vs[i]? = some vs[i]:=JnC (by omega);have:(vs++Array.replicate (fn.ntmps-vs.size) undef).getD i undef=vs[i]:=by
    rw [JnD,Array.getElem?_append_left (by omega),hv];rfl
   rw [this];exact hvs.2 i a _ h2 (by simp)
 refine wpIn_mono (XY (rd:=none) (hrd:=hrd) (w0:=⟨w,λ _=>none,λ _=>none⟩) hfol hΓ c _ _ _ w h ⟨F,noR,hS,hSl,⟨by simp [hnt];omega,λ t v h=>by cases h⟩,Dfr.nil,Mu.refl w,λ j L h=>by cases h⟩) λ e a' w' hp=>?_;obtain ⟨e',st',rfl,hq,F',ρ',hS',hSl',hn',hdf'⟩:=hp;obtain ⟨l,hl1,hl2,hl3⟩:=hdf'.1;have hF0:∀ b,w.heap.size<=b->F b=none:=λ b hb=>by
  cases hf:F b with
  | none=>rfl
  | some o=>have:=As (hF b o hf);omega
 have fin:XZ Γ.ty fn.results.toList r st'->LeavesInM Fence.wide 0 P fn a'.tmps (λ e w'=>∃ v F' ρ,e=.returned v/\Sim (λ b=>w.heap.size<=b) (λ b=>w.heap[b]?) F F' ρ ((Cs true 0 r).2.map some) w'.heap/\Ai F' ρ (Cs true 0 r).1 v/\Mu w w') a'.defers .returning w':=by
  intro hr;rw [hl1];refine RQ (w0:=⟨w,λ _=>none,λ _=>none⟩) (λ b hb=>hb) hF0 l F' w' hl2 hl3 hS' λ F'' w'' hFc hS'' hmu''=>?_;replace hSl':CT F'' ρ' st'.env a'.tmps:=λ t=>(hSl' t).monoC hFc (RLe.refl _);have hmu:Mu w w'':=hdf'.2.1.trans hmu'';clear hS' hl3;revert hS'' hSl';generalize F''=F';generalize w''=w' at hmu ⊢;intro hS' hSl';unfold XZ at hr;have hmap:∀ (xs:List Value),(fn.results.toList.mapM (JaO a'.tmps)).run P w'=.ok xs w'->(results fn a'.tmps).run P w'=.ok (if h:xs.toArray.size=1 then xs.toArray[0] else .tuple xs.toArray) w':=by
   intro xs hxs;rw [Tq,Array.mapM_eq_mapM_toList];simp only [Jna,Sem.run_map,hxs,Jm8,Jnb]
  split at hr
  ·rename_i v p hres;obtain ⟨hp,ho,hnd⟩:=hr;obtain ⟨xs,hxs,hcr⟩:=Jt hΓ.ty hS' hSl' _ _ _ hres hp
   match xs,hcr.1 with
   | [x],_=>
    obtain ⟨g1,g2⟩:=V2 ho 0;refine ⟨x,by rw [hmap _ hxs];rfl,x,F',H8 ρ' (NT v r),rfl,?_,?_⟩
    ·have hi:(Cs true 0 r).2=(CI true 0 r).2:=by
      cases r with
      | tup l=>
       cases v<;>simp [Tf,NS] at ho
       all_goals (rename_i y;cases y<;>simp at ho)
      | _=>rfl
     rw [hi];exact hS'.out (by rw [g1]) hnd g2
    ·have hi:(Cs true 0 r).1=(CI true 0 r).1:=by
      cases r with
      | tup l=>
       cases v<;>simp [Tf,NS] at ho
       all_goals (rename_i y;cases y<;>simp at ho)
      | _=>rfl
     rw [hi];exact ⟨XQ ho (λ j x hx=>by rw [JnM];exact hx) (hcr.2 0 v x rfl rfl),hmu⟩
  ·rename_i vs' p hne hres;split at hr
   ·rename_i l;obtain ⟨hp,ho,hnd⟩:=hr;obtain ⟨xs,hxs,hcr⟩:=Jt hΓ.ty hS' hSl' _ _ _ hres hp;obtain ⟨g1,g2⟩:=Jfw vs' l 0 ho;have hne1:xs.toArray.size≠1:=by
     intro h1;have:vs'.length=1:=by rw [hcr.1];simpa using h1
     match vs',this with
     | [y],_=>exact hne y rfl
    refine ⟨.tuple xs.toArray,by rw [hmap _ hxs,dif_neg hne1],_,F',H8 ρ' (NU vs' l),rfl,hS'.out (by rw [g1];rfl) hnd g2,?_⟩;have:=Jb8 (F:=F') (ρ:=ρ') (E:=NU vs' l) vs' l 0 xs ho (λ j x hx=>by rw [JnM];exact hx) hcr;exact ⟨.tup _ _ (by have:=this.1;simpa using this) λ j a v ha hv=>this.2 j a v ha (by simpa using hv),hmu⟩
   ·exact hr.elim
  ·exact hr.elim
 cases e' with
 | normal=>exact fin hq
 | ret=>exact fin hq
 | exit i=>exact hq.elim
def JhB (Γ:Nat->Ty) (rs:List ResultVar) (r:AV) (objs1:List (Option Ob)) (st:St):Prop:=
 st.objs=objs1/\match Tp Γ st rs with
  | some ([v],p)=>p/\v=r
  | some (vs,p)=>p/\r=.tup vs
  | none=>False
def Vp (nk:Nat) (Γ:Nat->Ty) (rs:List ResultVar) (r:AV) (objs1:List (Option Ob)):Ex->St->Prop
 | .exit _,_=>False
 | _,st=>∃ s',AA nk st s'/\JhB Γ rs r objs1 s'
theorem JaQ {Γ:Cx} (hfol:P.follows .mixedOrders=true) (hΓ:Kv P Γ) (hrd:Γ.rd=false) {f:FuncId} {fn:Func} {c:Code} {args:List AV} {objs objs1:List (Option Ob)} {nb:Nat} {r:AV} (hf:P.funcs[f]? = some fn) (hb:fn.body=some c) (hnm:(fn.name == "runtime.NumGoroutine")=false)
  (hnt:Γ.nt=⟨fn.ntmps,[],nb⟩) (hlen:args.length<=fn.ntmps)
  (h:wpA Γ c (Vp nb Γ.ty fn.results.toList r objs1) ⟨(List.range args.length).zip args,objs⟩):Ce P f args objs nb r objs1:=by
 refine ⟨⟨fn,c,hf,hb,hnm⟩,λ N F ρ w vs hS hvs=>?_⟩;have hvl:args.length=vs.size:=by have:=hvs.1;simpa using this
 refine callsIn_wide.1 (callsIn_of_wp_marks (F:=Fence.wide) (n:=0) hf hb trivial ?_ rfl);have hget:∀ i,i<vs.size->(vs++Array.replicate (fn.ntmps-vs.size) undef)[i]? = vs[i]? := λ i hi=>Array.getElem?_append_left hi;have hSl:CT F ρ ((List.range args.length).zip args) (vs++Array.replicate (fn.ntmps-vs.size) undef):=by
  intro t;rcases VU (List.range args.length) args t (by simp) with h|⟨i,a,h1,h2,h3⟩
  ·rw [h];exact .top _
  ·rw [h3];have hi:=Ag h2;have:i=t:=by
    rw [List.getElem?_range hi] at h1;exact Option.some.inj h1
   subst this;have hv:vs[i]? = some vs[i]:=JnC (by omega);rw [JnD,hget i (by omega),hv];exact hvs.2 i a _ h2 (by simp)
 have hts:TS Γ.nt (λ _=>none) (vs++Array.replicate (fn.ntmps-vs.size) undef):=by
  rw [hnt];exact ⟨by simp;omega,λ t v ht=>by cases ht⟩
 have hrk:RK ⟨w,λ _=>none,λ j=>if j<nb then ρ j else none⟩ Γ.nt ρ:=λ j L hj=>by
  simp only at hj;split at hj
  ·rename_i hlt;exact ⟨by rw [hnt];exact hlt,hj⟩
  ·cases hj
 refine wpIn_mono (XY (rd:=none) (hrd:=hrd) (w0:=⟨w,λ _=>none,λ j=>if j<nb then ρ j else none⟩) hfol hΓ c _ _ _ w h ⟨F,ρ,hS,hSl,hts,Dfr.nil,Mu.refl w,hrk⟩) λ e a' w' hp=>?_
 obtain ⟨e',st',rfl,hq,hI⟩:=hp;have hN:∀ b,w.heap.size<=b->N b:=hS.size;have hF0:∀ b,w.heap.size<=b->F b=none:=λ b hb=>by
  cases hf:F b with
  | none=>rfl
  | some o=>have:=As (hS.frz b o hf);omega
 have fin:(∃ s',AA nb st' s'/\JhB Γ.ty fn.results.toList r objs1 s')->LeavesInM Fence.wide 0 P fn a'.tmps (λ e w'=>∃ v F' ρ',e=.returned v/\Sim N (λ b=>w.heap[b]?) F F' ρ' objs1 w'.heap/\(∀ j,j<nb->∀ L,ρ j=some L->ρ' j=some L)/\Ai F' ρ' r v/\Mu w w') a'.defers .returning w':=by
  rintro ⟨s',hsh,ho,hr⟩;obtain ⟨F',ρ',hS',hSl',hn',hdf'⟩:=F6 (by rw [hnt]) hsh hI;obtain ⟨l,hl1,hl2,hl3⟩:=hdf'.1;rw [hl1];refine RQ (w0:=⟨w,λ _=>none,λ j=>if j<nb then ρ j else none⟩) hN hF0 l F' w' hl2 hl3 hS' λ F'' w'' hFc hS'' hmu''=>?_
  replace hSl':CT F'' ρ' s'.env a'.tmps:=λ t=>(hSl' t).monoC hFc (RLe.refl _);have hmu:Mu w w'':=hdf'.2.1.trans hmu'';have hrk':=hdf'.2.2;clear hS' hl3 hI;revert hS'' hSl';generalize F''=F';generalize w''=w' at hmu ⊢;intro hS' hSl';have hmap:∀ (xs:List Value),(fn.results.toList.mapM (JaO a'.tmps)).run P w'=.ok xs w'->(results fn a'.tmps).run P w'=.ok (if h:xs.toArray.size=1 then xs.toArray[0] else .tuple xs.toArray) w':=by
   intro xs hxs;rw [Tq,Array.mapM_eq_mapM_toList];simp only [Jna,Sem.run_map,hxs,Jm8,Jnb]
  have hS1:Sim N (λ b=>w.heap[b]?) F F' ρ' objs1 w'.heap:=by rw [← ho];exact hS'
  have hkeep:∀ j,j<nb->∀ L,ρ j=some L->ρ' j=some L:=λ j hj L hL=>(hrk' j L (by simp only;rw [if_pos hj];exact hL)).2;split at hr
  ·rename_i v p hres;obtain ⟨hp,rfl⟩:=hr;obtain ⟨xs,hxs,hcr⟩:=Jt hΓ.ty hS' hSl' _ _ _ hres hp
   match xs,hcr.1 with
   | [x],_=>exact ⟨x,by rw [hmap _ hxs];rfl,x,F',ρ',rfl,hS1,hkeep,hcr.2 0 v x rfl rfl,hmu⟩
  ·rename_i vs' p hne hres;obtain ⟨hp,rfl⟩:=hr;obtain ⟨xs,hxs,hcr⟩:=Jt hΓ.ty hS' hSl' _ _ _ hres hp;have hne1:xs.toArray.size≠1:=by
    intro h1;have:vs'.length=1:=by rw [hcr.1];simpa using h1
    match vs',this with
    | [y],_=>exact hne y rfl
   exact ⟨.tuple xs.toArray,by rw [hmap _ hxs,dif_neg hne1],_,F',ρ',rfl,hS1,hkeep,.tup _ _ (by simpa using hcr.1) λ j a v ha hv=>hcr.2 j a v ha (by simpa using hv),hmu⟩
  ·exact hr.elim
 cases e' with
 | normal=>exact fin hq
 | ret=>exact fin hq
 | exit i=>exact hq.elim
end Go.AI
end
section
namespace Go.AI
variable {P:Program} {F F':Nat->Option Obj} {ρ ρ':Nat->Option Loc} {w:World}
def V9 (P:Program) (t:TypeId):Prop:=(∃ k,P.underlying t=some (.int k))\/P.underlying t=some .bool\/P.underlying t=some .string
theorem IK {t:TypeId} (h:V9 P t) {cs:Array Value} {o:Nat} {v:Value} (hv:cs[o]? = some v):(part t cs o).run P w=.ok v w:=by
 have hag:(isAgg t).run P w=.ok false w:=by
  rcases h with ⟨k,h⟩|h|h<;>rw [QA w h]<;>rfl
 simp only [part,Jna,hag,Jm8,JnK,if_false,hv,Jnb]
def JfC (P:Program) (t:TypeId):TK->Prop
 | .int _=>∃ k,P.underlying t=some (.int k)
 | .bool=>P.underlying t=some .bool
 | .string=>P.underlying t=some .string
 | _=>False
theorem Tr {t:TypeId} {k:TK} (h:JfC P t k):V9 P t:=by
 cases k with
 | int _=>exact .inl h
 | bool=>exact .inr (.inl h)
 | string=>exact .inr (.inr h)
 | _=>exact h.elim
theorem Py (d:Nat) (xs ys:Array Value):∀ (fs:List Field) (ks:List TK) (i:Nat) (l l':List AV) (r:Bool),fs.length=ks.length ->
  (∀ (j:Nat) f k,fs[j]? = some f->ks[j]? = some k->f.name ≠ "_"/\f.offset=i+j/\JfC P f.type k)->A3 ks l l'=some r ->
  (∀ (j:Nat) a,l[j]? = some a->∃ v,xs[i+j]? = some v/\Ai F ρ a v)->(∀ (j:Nat) a,l'[j]? = some a->∃ v,ys[i+j]? = some v/\Ai F ρ a v)->(Op.eqFields (d+1) xs ys fs).run P w=.ok r w:=by
 intro fs;induction fs with
 | nil=>
  intro ks i l l' r hn _ h _ _;cases ks with
  | cons=>cases hn
  | nil=>
   cases l with
   | cons=>simp [A3] at h
   | nil=>cases l' with
    | cons=>simp [A3] at h
    | nil=>simp [A3] at h;subst h;rfl
 | cons f fs ih=>
  intro ks i l l' r hn hf h hl hl';cases ks with
  | nil=>cases hn
  | cons k ks=>
   obtain ⟨hname,hoff,hfit⟩:=hf 0 f k rfl rfl;have hrec:∀ (m m':List AV) (x y:AV) (r':Bool),l=x::m->l'=y::m'->A3 ks m m'=some r'->(Op.eqFields (d+1) xs ys fs).run P w=.ok r' w:=by
    intro m m' x y r' e1 e2 hr';subst e1;subst e2;refine ih ks (i+1) m m' r' (by simpa using hn) (λ j f k hf' hk'=>?_) hr' (λ j a ha=>?_) (λ j a ha=>?_)
    ·obtain ⟨a1,a2,a3⟩:=hf (j+1) f k (by simpa using hf') (by simpa using hk');exact ⟨a1,by omega,a3⟩
    ·obtain ⟨v,h1,h2⟩:=hl (j+1) a (by simpa using ha);exact ⟨v,by rw [← h1];congr 1;omega,h2⟩
    ·obtain ⟨v,h1,h2⟩:=hl' (j+1) a (by simpa using ha);exact ⟨v,by rw [← h1];congr 1;omega,h2⟩
   have step:∀ (x y:AV) (m m':List AV) (b r':Bool),l=x::m->l'=y::m'->A3 ks m m'=some r'->r=(b&&r')->(∀ u v,Ai F ρ x u->Ai F ρ y v->(Op.equalIn (d+1) f.type u v).run P w=.ok b w)->(Op.eqFields (d+1) xs ys (f::fs)).run P w=.ok r w:=by
    intro x y m m' b r' e1 e2 hr' hb hrun;obtain ⟨u,hu1,hu2⟩:=hl 0 x (by rw [e1];rfl);obtain ⟨v,hv1,hv2⟩:=hl' 0 y (by rw [e2];rfl);have hpl:=Tr hfit;simp only [Op.eqFields];rw [if_pos hname];have hp1:=IK (P:=P) (w:=w) hpl (o:=f.offset) (cs:=xs) (v:=u) (by rw [hoff];simpa using hu1);have hp2:=IK (P:=P) (w:=w) hpl (o:=f.offset) (cs:=ys) (v:=v) (by rw [hoff];simpa using hv1);simp only [Jna,hp1,hp2,Jm8,hrun u v hu2 hv2];cases b with
    | false=>simp [hb]
    | true=>simp only [Jng,JnK,if_false];rw [hrec m m' x y r' e1 e2 hr',hb];rfl
   unfold A3 at h;split at h
   ·rename_i heq;cases heq
   ·rename_i k0 ks0 k1 a xs0 k2 b ys0 e0;cases e0;split at h
    ·rename_i r' hr';cases hk:(k1==k2) with
     | false=>rw [hk] at h;cases h
     | true=>
      rw [hk,cond_true] at h;have:k1=k2:=by simpa using hk
      subst this;cases h;refine step _ _ _ _ (a==b) r' rfl rfl hr' rfl λ u v hu hv=>?_;rw [hu.int,hv.int];obtain ⟨k3,hk3⟩:=hfit;exact run_equalIn_int w d f.type k1 k3 a b hk3
    ·cases h
   ·rename_i ks0 a xs0 b ys0 e0;cases e0;split at h
    ·rename_i r' hr';cases h;refine step _ _ _ _ (a==b) r' rfl rfl hr' rfl λ u v hu hv=>?_;rw [hu.bool,hv.bool];exact run_equalIn_bool' w d f.type a b hfit
    ·cases h
   ·rename_i ks0 a xs0 b ys0 e0;cases e0;split at h
    ·rename_i r' hr';cases h;refine step _ _ _ _ (a==b) r' rfl rfl hr' rfl λ u v hu hv=>?_;rw [hu.str,hv.str,run_equalIn_string w d f.type _ _ hfit,DD,DD]
    ·cases h
   ·cases h
theorem SC {t:TypeId} {fields:Array Field} {ks:List TK} (hd:P.underlying t=some (.struct fields)) (hst:P.stoodInHeld t=false) (hg:P.eqGuardType P.depth t=false) (hn:fields.size=ks.length)
  (hf:∀ (j:Nat) f k,fields[j]? = some f->ks[j]? = some k->f.name ≠ "_"/\f.offset=j/\JfC P f.type k):VP P t ks:=by
 intro l l' r xs ys F ρ w x y h hx hy;have hfo:P.fieldsOf t=fields:=by simp [Program.fieldsOf,hd]
 have hrun:(Op.equalIn 10000 t (.agg xs) (.agg ys)).run P w=.ok r w:=by
  rw [run_equalIn_struct w 9999 t xs ys (by rw [hfo];exact hd) hst,hfo];cases hx with
  | agg _ _ hxl hxr=>
   cases hy with
   | agg _ _ hyl hyr=>
    refine Py (F:=F) (ρ:=ρ) 9998 xs ys fields.toList ks 0 l l' r (by simpa using hn) (λ j f k h1 h2=>?_) h (λ j a ha=>?_) (λ j a ha=>?_)
    ·obtain ⟨a1,a2,a3⟩:=hf j f k (by simpa using h1) h2;exact ⟨a1,by omega,a3⟩
    ·have hj:=Ag ha;refine ⟨xs[j],?_,hxr j a _ ha (JnC (by omega))⟩;rw [JnM];exact JnC (by omega)
    ·have hj:=Ag ha;refine ⟨ys[j],?_,hyr j a _ ha (JnC (by omega))⟩;rw [JnM];exact JnC (by omega)
 constructor
 ·simp only [Jna,run_eqGuard_agg w .eql t x y xs ys hg,Jm8];rw [run_eql_struct,hrun];rfl
 ·simp only [Jna,run_eqGuard_agg w .neq t x y xs ys hg,Jm8];rw [run_neq_struct,hrun];rfl
def Inf (P:Program) (t:TypeId) (s b:Nat) (z:Value):Prop:=∃ i,P.info? t=some i/\i.size=s/\i.bytes=b/\i.zero=some z
theorem AR {t:TypeId} {z:Value} {s b:Nat} (h:(P.info? t).map (λ i=>(i.zero,i.size,i.bytes))=some (some z,s,b)):Inf P t s b z:=by
 rw [JnA] at h;obtain ⟨i,h1,h2⟩:=h;simp only [Prod.mk.injEq] at h2;exact ⟨i,h1,h2.2.1,h2.2.2,h2.1⟩
def JhC (P:Program) (fields:Array Field) (i o s:Nat):Prop:=∃ f j,fields[i]? = some f/\f.offset=o/\P.info? f.type=some j/\j.size=s/\s≠0/\∃ e,P.underlying f.type=some e/\(s=1->K9 e=false)
theorem CZ {fields:Array Field} {t:TypeId} {i o s b:Nat} {z:Value} {e:TypeDesc} (h:Inf P t s b z) (hu:P.underlying t=some e) (hf:(fields[i]?).map (λ f=>(f.type,f.offset))=some (t,o):=by rfl) (h0:s≠0:=by decide) (h1:s=1->K9 e=false:=by decide):JhC P fields i o s:=by
 obtain ⟨j,g1,g2,_⟩:=h;rw [JnA] at hf;obtain ⟨f,q1,q2⟩:=hf;simp only [Prod.mk.injEq] at q2;obtain ⟨rfl,rfl⟩:=q2;exact ⟨f,j,q1,rfl,g1,g2,h0,e,hu,h1⟩
def StF (P:Program) (fields:Array Field) (k:Nat) (offs:List (Nat×Nat)):Prop:=∀ (i o s:Nat),offs[i]? = some (o,s)->JhC P fields (k+i) o s
theorem Id {fields:Array Field} {k:Nat}:StF P fields k []:=λ i o s h=>by simp at h
theorem A0 {fields:Array Field} {k o s:Nat} {offs:List (Nat×Nat)} (h:JhC P fields k o s) (ht:StF P fields (k+1) offs):StF P fields k ((o,s)::offs):=λ i o' s' hi=>by
 cases i with
 | zero=>simp only [Jnu,JnI,Prod.mk.injEq] at hi;obtain ⟨rfl,rfl⟩:=hi;exact h
 | succ i=>
  have:=ht i o' s' (by simpa using hi);rwa [Jnq,Nat.add_comm 1 i] at this
theorem stF {fields:Array Field} {offs:List (Nat×Nat)} (h:StF P fields 0 offs) (hl:fields.size=offs.length:=by rfl):Iy P (.struct fields) (.struct offs):=⟨fields,rfl,hl,λ i o s hi=>by have:=h i o s hi;rwa [JnM] at this⟩
theorem slK {elem:TypeId} {esz eb:Nat} {ez:List D} {z:Value} (h:Inf P elem esz eb z) (hu:ez=[.int .u8 0]->P.underlying elem=some (.int .u8):=by (intro h;cases h)) (hz:z.cells.toList=ez.map D.val:=by rfl) (hp:ez.all D.isPlain=true:=by rfl) (hl:ez.length=esz:=by rfl):Iy P (.slice elem) (.slice esz eb ez):=by
 obtain ⟨i,g1,g2,g3,g4⟩:=h;exact ⟨elem,i,z,rfl,g1,g2,g3,g4,hz,hp,hl,hu⟩
theorem arK {elem:TypeId} {n esz eb:Nat} {z:Value} (h:Inf P elem esz eb z):Iy P (.array n elem) (.array n esz):=by
 obtain ⟨i,g1,g2,_⟩:=h;exact ⟨elem,i,rfl,g1,g2⟩
theorem tfM {t:TypeId} {y:Ty} {b:Nat} {z:Value} {d:TypeDesc} (h:Inf P t y.size b z) (hu:P.underlying t=some d) (hk:Iy P d y.kind) (he:y.eqk≠[]->VP P t y.eqk:=by exact λ h=>absurd rfl h) (ha:K9 d=y.agg:=by rfl) (hz:z.cells.toList=y.zero.map D.val:=by rfl) (hp:y.zero.all D.isPlain=true:=by rfl) (h1:y.agg=false->y.size=1:=by first|exact λ _=>rfl|(intro h;cases h)) (h0:1<=y.size:=by decide):AD P t y:=by
 obtain ⟨i,g1,g2,_,g4⟩:=h;exact ⟨⟨i,z,g1,g2,g4,hz⟩,hp,⟨d,hu,ha,hk⟩,h1,h0,he⟩
end Go.AI
end
section
namespace Go.AI
variable {P:Program} {F F':Nat->Option Obj} {ρ ρ':Nat->Option Loc} {w:World}
theorem NV {t:TypeId} (h:V9 P t) (e:Bool) (n:Nat) (v:Value):(Instr.checkKey e (n+1) t v).run P w=.ok () w:=by
 rcases h with ⟨k,h⟩|h|h<;>simp only [Instr.checkKey,Jna,run_underlying h,Jm8]<;>rfl
theorem R9 (e:Bool) (n:Nat) (cs:Array Value):∀ (fs:List Field),(∀ f∈fs,V9 P f.type/\∃ v,cs[f.offset]? = some v) ->
  (forIn fs PUnit.unit λ (f:Field) (_:PUnit)=>(do
   if f.name ≠ "_" then Instr.checkKey e (n+1) f.type (← part f.type cs f.offset)
   pure (ForInStep.yield PUnit.unit):Sem (ForInStep PUnit))).run P w=.ok PUnit.unit w:=by
 intro fs;induction fs with
 | nil=>intro _;rfl
 | cons f fs ih=>
  intro h;obtain ⟨hp,v,hv⟩:=h f (by simp);have ih':=ih λ g hg=>h g (by simp [hg]);rw [List.forIn_cons];by_cases hn:f.name ≠ "_"
  ·simp only [hn,ne_eq,not_false_eq_true,if_true,Jna,IK (w:=w) hp hv,Jm8,NV (w:=w) hp e n v,Jnb];simpa using ih'
  ·simp only [hn,if_false,Jna,Jm8,Jnb];simpa using ih'
theorem Ze (s:ByteArray):(s==s)=true:=by
 show (s.data==s.data)=true;simp
theorem Ju:∀ (ks:List TK) (l l':List AV) (r:Bool),A3 ks l l'=some r->l.length=ks.length/\l'.length=ks.length:=by
 intro ks;induction ks with
 | nil=>
  intro l l' r h;cases l with
  | cons=>simp [A3] at h
  | nil=>cases l' with
   | cons=>simp [A3] at h
   | nil=>exact ⟨rfl,rfl⟩
 | cons k ks ih=>
  intro l l' r h;unfold A3 at h;split at h
  ·rename_i heq;cases heq
  ·rename_i e0;cases e0;split at h
   ·rename_i r' hr';obtain ⟨a,b⟩:=ih _ _ _ hr';simp [a,b]
   ·cases h
  ·rename_i e0;cases e0;split at h
   ·rename_i r' hr';obtain ⟨a,b⟩:=ih _ _ _ hr';simp [a,b]
   ·cases h
  ·rename_i e0;cases e0;split at h
   ·rename_i r' hr';obtain ⟨a,b⟩:=ih _ _ _ hr';simp [a,b]
   ·cases h
  ·cases h
theorem Wa (n:Nat):∀ (ks:List TK) (a b:List D) (xs ys:List Value),A3 ks (a.map .d) (b.map .d)=some true->a.length=xs.length->b.length=ys.length ->
  (∀ (i:Nat) (x:D) (u:Value),a[i]? = some x->xs[i]? = some u->BU F x u)->(∀ (i:Nat) (x:D) (u:Value),b[i]? = some x->ys[i]? = some u->BU F x u)->((ys.zip xs).all λ (y,x)=>Instr.sameBits n y x)=true:=by
 intro ks;induction ks with
 | nil=>
  intro a b xs ys h h1 h2 _ _;obtain ⟨e1,e2⟩:=Ju _ _ _ _ h;have:xs=[]:=Jnl.1 (by rw [← h1];simpa using e1);subst this;simp
 | cons k ks ih=>
  intro a b xs ys h h1 h2 ha hb;obtain ⟨e1,e2⟩:=Ju _ _ _ _ h
  match a,e1 with
  | x::a,_=>
   match b,e2 with
   | y::b,_=>
    match xs,h1 with
    | u::xs,h1=>
     match ys,h2 with
     | v::ys,h2=>
      have hxu:=ha 0 x u rfl rfl;have hyv:=hb 0 y v rfl rfl;have rest:∀ r',A3 ks (a.map .d) (b.map .d)=some r'->r'=true->((ys.zip xs).all λ (y,x)=>Instr.sameBits n y x)=true:=λ r' hr' e=>by
       subst e;exact ih a b xs ys hr' (by simpa using h1) (by simpa using h2) (λ i x u hx hu=>ha (i+1) x u (by simpa using hx) (by simpa using hu)) (λ i x u hx hu=>hb (i+1) x u (by simpa using hx) (by simpa using hu))
      have fin:∀ r',A3 ks (a.map .d) (b.map .d)=some r'->r'=true->Instr.sameBits n v u=true->(((v::ys).zip (u::xs)).all λ (y,x)=>Instr.sameBits n y x)=true:=λ r' hr' e hs=>by
       simp only [List.zip_cons_cons,List.all_cons,hs,rest r' hr' e,Bool.and_self]
      simp only [Jns] at h;unfold A3 at h;split at h
      ·rename_i heq;cases heq
      ·rename_i k0 ks0 k1 p xs0 k2 q ys0 e0 e3 e4;cases e0;simp only [List.cons.injEq,AV.d.injEq] at e3 e4;obtain ⟨rfl,rfl⟩:=e3;obtain ⟨rfl,rfl⟩:=e4;split at h
       ·rename_i r' hr';cases hk:(k1==k2) with
        | false=>rw [hk] at h;cases h
        | true=>
         rw [hk] at h;simp only [cond_true,JnI,Jny,beq_iff_eq] at h hk;cases hxu;cases hyv;refine fin r' hr' h.2 ?_;simp only [Instr.sameBits,Jny,beq_iff_eq];exact ⟨hk.symm,h.1.symm⟩
       ·cases h
      ·rename_i e0 e3 e4;cases e0;simp only [List.cons.injEq,AV.d.injEq] at e3 e4;obtain ⟨rfl,rfl⟩:=e3;obtain ⟨rfl,rfl⟩:=e4;split at h
       ·rename_i r' hr';simp only [JnI,Jny,beq_iff_eq] at h;cases hxu;cases hyv;refine fin r' hr' h.2 ?_;simp only [Instr.sameBits,beq_iff_eq];exact h.1.symm
       ·cases h
      ·rename_i e0 e3 e4;cases e0;simp only [List.cons.injEq,AV.d.injEq] at e3 e4;obtain ⟨rfl,rfl⟩:=e3;obtain ⟨rfl,rfl⟩:=e4;split at h
       ·rename_i r' hr';simp only [JnI,Jny,beq_iff_eq] at h;cases hxu;cases hyv;refine fin r' hr' h.2 ?_;obtain ⟨h,_⟩:=h;subst h;simp only [Instr.sameBits];exact Ze _
       ·cases h
      ·cases h
theorem QH {cs:List D} {x:Value} (h:KV F true cs x):∃ vs:Array Value,x=.agg vs/\Ai F ρ (.agg (cs.map .d)) (.agg vs)/\cs.length=vs.size/\∀ (i:Nat) (x:D) (u:Value),cs[i]? = some x->vs[i]? = some u->BU F x u:=by
 obtain ⟨vs,h1,h2,h3⟩:=h;refine ⟨vs,h1,.agg _ _ (by simpa using h2) λ i a v ha hv=>?_,h2,h3⟩;simp only [JnB,JnA] at ha;obtain ⟨d,hd,rfl⟩:=ha;exact .d _ _ (h3 i d v hd hv)
theorem UF {t:TypeId} {fields:Array Field} {ks:List TK} (hd:P.underlying t=some (.struct fields)) (hst:P.stoodInHeld t=false) (hn:fields.size=ks.length)
  (hf:∀ (j:Nat) f k,fields[j]? = some f->ks[j]? = some k->f.name ≠ "_"/\f.offset=j/\JfC P f.type k):Kr P t true ks:=by
 have hfo:P.fieldsOf t=fields:=by simp [Program.fieldsOf,hd]
 refine ⟨λ F a x w b hx hs=>?_,⟨_,hd,λ F a b x y r hx hy h=>?_⟩,λ F a b x y r w hx hy h=>?_,λ F a b x y hx hy h=>?_⟩
 ·obtain ⟨vs,rfl,_,hl,hv⟩:=QH (ρ:=λ _=>none) hx;obtain ⟨r,hr⟩:=Option.isSome_iff_exists.1 hs;have hlen:=(Ju _ _ _ _ hr).1;show (Instr.checkKey b (9999+1) t (.agg vs)).run P w=_;rw [Instr.checkKey];simp only [Jna,run_underlying hd,Jm8];have:=R9 (P:=P) (w:=w) b 9998 vs fields.toList (λ f hfm=>by
   obtain ⟨j,hj⟩:=List.mem_iff_getElem?.1 hfm;have hj':fields[j]? = some f:=by simpa using hj
   have hjl:j<ks.length:=by rw [← hn];exact As hj'
   obtain ⟨_,h2,h3⟩:=hf j f _ hj' (Jnx hjl);refine ⟨Tr h3,?_⟩;rw [h2];exact ⟨_,JnC (by simp at hlen;omega)⟩)
  simp at this ⊢;rw [this];rfl
 ·obtain ⟨vs,rfl,_⟩:=QH (ρ:=λ _=>none) hx;rfl
 ·obtain ⟨xs,rfl,hxr,hxl,_⟩:=QH (ρ:=λ _=>none) hx;obtain ⟨ys,rfl,hyr,hyl,_⟩:=QH (ρ:=λ _=>none) hy;show (Op.equalIn 10000 t (.agg xs) (.agg ys)).run P w=.ok r w;rw [run_equalIn_struct w 9999 t xs ys (by rw [hfo];exact hd) hst,hfo];cases hxr with
  | agg _ _ hxl' hxr=>
   cases hyr with
   | agg _ _ hyl' hyr=>
    refine Py (F:=F) (ρ:=λ _=>none) 9998 xs ys fields.toList ks 0 _ _ r (by simpa using hn) (λ j f k h1 h2=>?_) h (λ j a ha=>?_) (λ j a ha=>?_)
    ·obtain ⟨a1,a2,a3⟩:=hf j f k (by simpa using h1) h2;exact ⟨a1,by omega,a3⟩
    ·have hj:=Ag ha;refine ⟨xs[j],?_,hxr j a _ ha (JnC (by omega))⟩;rw [JnM];exact JnC (by omega)
    ·have hj:=Ag ha;refine ⟨ys[j],?_,hyr j a _ ha (JnC (by omega))⟩;rw [JnM];exact JnC (by omega)
 ·obtain ⟨xs,rfl,_,hxl,hxv⟩:=QH (ρ:=λ _=>none) hx;obtain ⟨ys,rfl,_,hyl,hyv⟩:=QH (ρ:=λ _=>none) hy;have hlen:=Ju _ _ _ _ h;simp only [Jnr] at hlen;show Instr.sameBits (9999+1) (.agg ys) (.agg xs)=true;rw [Instr.sameBits];simp only [Jny,beq_iff_eq];refine ⟨by omega,?_⟩;exact Wa 9999 ks a b xs.toList ys.toList h (by simpa using hxl) (by simpa using hyl) (λ i x u hx hu=>hxv i x u hx (by simpa using hu)) (λ i x u hx hu=>hyv i x u hx (by simpa using hu))
end Go.AI
end
section
namespace Go.AI
def An (k:IntKind) (a b:Int):Int:=k.wrap (a+b)
def DL (k:IntKind) (a b:Int):Int:=k.wrap (a-b)
def Ln (k:IntKind) (a b:Int):Int:=k.wrap (a*b)
def JfD (k:IntKind) (a b:Int):Int:=k.wrap (a.tdiv b)
def Bd (a b:Int):Int:=a.tmod b
def CW (k:IntKind) (a b:Int):Int:=k.wrap (BitVec.ofInt k.bits a &&& BitVec.ofInt k.bits b).toNat
def Ts (k:IntKind) (a b:Int):Int:=k.wrap (a*2 ^ (min b.toNat k.bits))
def Tt (k:IntKind) (a b:Int):Int:=a.fdiv (2 ^ (min b.toNat k.bits))
def idx {α:Type} (xs:List α) (i:Int):Option α:=if 0<=i then xs[i.toNat]? else none
def app {α:Type} (eb:Nat) (xs ys:List α):Option (List α):=if (xs.length+ys.length)*eb<=70368744177664 then some (xs++ys) else none
def cat (x y:List UInt8):Option (List UInt8):=if x.length+y.length<=9223372036854775807 then some (x++y) else none
def sub {α:Type} (xs:List α) (l h:Int):Option (List α):=if 0<=l/\l<=h/\h<=xs.length then some ((xs.take h.toNat).drop l.toNat) else none
def put {α:Type} (xs:List α) (i:Int) (y:α):Option (List α):=if 0<=i/\i<xs.length then some (xs.set i.toNat y) else none
def NW (s:List UInt8) (i:Int):Option Int:=if 0<=i/\i<s.length then some (s[i.toNat]?.getD 0).toNat else none
def Bu (b:Bool):Option Unit:=if b then some () else none
def mkl {α:Type} (eb:Nat) (n:Int) (z:α):Option (List α):=if 0<=n/\n.toNat*eb<=70368744177664 then some (List.replicate n.toNat z) else none
def Zf (x:Int):List Int->List Int
 | []=>[x]
 | y::l=>if x<=y then x::y::l else y::Zf x l
def Lp:List Int->List Int
 | []=>[]
 | x::l=>Zf x (Lp l)
def ZX (xs:List Int):Option (List Int):=if xs.length<4611686018427387904 then some (Lp xs) else none
def G0 {κ α:Type} [DecidableEq κ] (k:κ):List (κ×α)->Option α
 | []=>none
 | p::r=>if k=p.1 then some p.2 else G0 k r
def MU {κ α:Type} [DecidableEq κ] (k:κ) (v:α):List (κ×α)->List (κ×α)
 | []=>[(k,v)]
 | p::r=>if k=p.1 then (k,v)::r else p::MU k v r
theorem bind_some {α β:Type} {x:Option α} {f:α->Option β} {r:β} (h:x.bind f=some r):∃ a,x=some a/\f a=some r:=Option.bind_eq_some_iff.1 h
theorem EV {α:Type} {xs:List α} {i:Int} {x:α} (h:idx xs i=some x):0<=i/\i<xs.length/\xs[i.toNat]? = some x:=by
 unfold idx at h;split at h
 ·rename_i h0;have:=(List.getElem?_eq_some_iff.1 h).1;exact ⟨h0,by omega,h⟩
 ·cases h
theorem Tu {α:Type} {eb:Nat} {xs ys zs:List α} (h:app eb xs ys=some zs):(xs.length+ys.length)*eb<=70368744177664/\zs=xs++ys:=by
 unfold app at h;split at h
 ·rename_i h0;cases h;exact ⟨h0,rfl⟩
 ·cases h
def whl {σ ρ:Type} (body:σ->Option (σ⊕ρ)):Nat->σ->Option ρ
 | 0,_=>none
 | n+1,x=>match body x with
  | none=>none
  | some (.inl y)=>whl body n y
  | some (.inr r)=>some r
end Go.AI
end
section
namespace Go.AI
def Az (f:Func):Code:=f.body.getD .skip
def Jci:Code->Nat->Code
 | .seq a b,i=>bif Nat.beq i 0 then a else b
 | .cond _ a b,i=>bif Nat.beq i 0 then a else b
 | .block _ c,_=>c
 | .loop c,_=>c
 | .scope c,_=>c
 | .rangeFunc _ _ a b,i=>bif Nat.beq i 0 then a else b
 | _,_=>.skip
def nav:List Nat->Code->Code
 | [],c=>c
 | i::p,c=>nav p (Jci c i)
def Bt:Code->List Oper
 | .region _ ops _=>ops.toList
 | _=>[]
def Ft:Code->Array Oper
 | .region _ ops _=>ops
 | _=>#[]
def Tv:Code->Bool
 | .region _ _ d=>d
 | _=>false
def RR:Code->Bool
 | .region _ _ _=>true
 | _=>false
def Wb:Code->Operand
 | .cond c _ _=>c
 | _=>.tmp 0
def Ba (Γ:Cx) (C:Code) (p:List Nat) (i:Nat) (K:St->Prop) (s:St):Prop:=Pk Γ (Tv (nav p C)) (Bt (nav p C)) ((Bt (nav p C)).drop i) K s
theorem Tw {Γ:Cx} {d:Bool} {all:List Oper} {o:Oper} {Q Q':St->Prop} {s:St} (hQ:∀ s,Q s->Q' s) (h:AZ Γ d all o Q s):AZ Γ d all o Q' s:=by
 unfold AZ at h ⊢;cases hg:Cg all s.env o.guard with
 | none=>rw [hg] at h;exact h.elim
 | some g=>
  rw [hg] at h;simp only at h ⊢;cases hdst:CD Γ.nt o.dst with
  | false=>rw [hdst] at h;exact h.elim
  | true=>
   rw [hdst] at h;simp only [Jng,cond_false] at h ⊢;refine ⟨λ hgt=>?_,λ hgf=>by obtain ⟨v,obs,hm,hq⟩:=h.2 hgf;exact ⟨v,obs,hm,hQ _ hq⟩⟩;rcases h.1 hgt with h|h|h
   case inr.inr=>
    refine .inr (.inr ?_);obtain ⟨hdr,⟨st',h1,h2⟩|⟨hgn,h⟩⟩:=h
    ·exact ⟨hdr,.inl ⟨st',h1,hQ _ h2⟩⟩
    refine ⟨hdr,.inr ⟨hgn,?_⟩⟩;rcases h with h|h
    ·left;split at h
     ·obtain ⟨h1,h2⟩:=h;exact ⟨h1,h2.imp (hQ _) (hQ _)⟩
     ·exact h.elim
    ·right;split at h
     ·obtain ⟨h1,nb,r,O1,g1,g2,g3,g4,g5⟩:=h;exact ⟨h1,nb,r,O1,g1,g2,g3,g4,hQ _ g5⟩
     ·exact h.elim
   case inr.inl=>
    refine .inr (.inl ?_);unfold GI at h ⊢;split at h
    ·exact ⟨h.1,hQ _ h.2⟩
    ·exact h.elim
   refine .inl ?_;unfold stepG at h ⊢;split at h
   ·obtain ⟨h1,h⟩:=h;unfold L6 at h ⊢;split at h
    ·obtain ⟨hob,m,r,hcall,hflat,hq⟩:=h;exact ⟨h1,hob,m,r,hcall,hflat,hQ _ hq⟩
    ·exact h.elim
   ·split at h
    ·exact ⟨h.1,hQ _ h.2⟩
    ·exact h.elim
   ·split at h
    ·rename_i e he;obtain ⟨h1,h2,h3⟩:=h;refine ⟨h1,h2,?_⟩;cases hc:((e.upd.isSome&&o.guard.isSome)||(!e.rm.isEmpty&&(o.guard.isSome||(d&&!isW o.op)))) with
     | true=>rw [hc] at h3;exact h3.elim
     | false=>rw [hc,cond_false] at h3;rw [cond_false];exact hQ _ h3
    ·exact h.elim
theorem Vq {Γ:Cx} {d:Bool} {all:List Oper} {Q Q':St->Prop} (hQ:∀ s,Q s->Q' s):∀ (l:List Oper) (s:St),Pk Γ d all l Q s->Pk Γ d all l Q' s:=by
 intro l;induction l with
 | nil=>intro s h;exact hQ s h
 | cons o l ih=>intro s h;exact Tw ih h
theorem X1 {Γ:Cx}:∀ {c:Code} {Q Q':Ex->St->Prop} {s:St},(∀ e s,Q e s->Q' e s)->wpA Γ c Q s->wpA Γ c Q' s:=by
 intro c;induction c with
 | skip=>intro Q Q' s hQ h;exact hQ _ _ h
 | region id ops d=>
  intro Q Q' s hQ h;obtain ⟨s',h1,h2|⟨hd,x,h3,h4⟩⟩:=h
  ·exact ⟨s',h1,.inl (Vq (λ s hs=>⟨hs.1,hQ _ s hs.2⟩) _ _ h2)⟩
  ·refine ⟨s',h1,.inr ⟨hd,x,h3,Vq (λ s hs=>⟨hs.1,?_⟩) _ _ h4⟩⟩;obtain ⟨F,q1,q2⟩:=hs.2;exact ⟨F,q1,Tw (λ s hs=>hQ _ s hs) q2⟩
 | seq a b iha ihb=>
  intro Q Q' s hQ h;refine iha (λ e s h=>?_) h;cases e with
  | normal=>obtain ⟨s',h1,h2⟩:=h;exact ⟨s',h1,ihb hQ h2⟩
  | exit i=>exact hQ _ _ h
  | ret=>exact hQ _ _ h
 | cond c a b iha ihb=>
  intro Q Q' s hQ h;simp only [wpA] at h ⊢;unfold ZL at h ⊢;split at h
  ·exact ⟨λ e=>iha hQ (h.1 e),λ e=>ihb hQ (h.2 e)⟩
  ·exact h.elim
 | block id c ih=>
  intro Q Q' s hQ h;refine ih (λ e s h=>?_) h;cases e with
  | normal=>exact hQ _ _ h
  | ret=>exact hQ _ _ h
  | exit i=>
   simp only [II] at h ⊢;cases hb:Nat.beq i id with
   | true=>rw [hb] at h;exact hQ _ _ h
   | false=>rw [hb] at h;exact hQ _ _ h
 | loop c ih=>
  intro Q Q' s hQ h;obtain ⟨I,n,h0,h⟩:=h;refine ⟨I,n,h0,λ n s hI=>ih (λ e s h=>?_) (h n s hI)⟩;cases e with
  | normal=>exact h
  | exit i=>exact hQ _ _ h
  | ret=>exact hQ _ _ h
 | exit id=>intro Q Q' s hQ h;exact hQ _ _ h
 | ret=>intro Q Q' s hQ h;exact hQ _ _ h
 | scope c ih=>intro Q Q' s hQ h;exact ih (s:=s) hQ h
 | label l=>intro Q Q' s hQ h;exact hQ _ _ h
 | rangeFunc g ps asg body=>
  intro Q Q' s hQ h;obtain ⟨s',h1,h2⟩:=h;refine ⟨s',h1,?_⟩;unfold VO at h2 ⊢;split at h2
  ·rename_i f caps hg;obtain ⟨js,ts,nb,r,O1,j,q1,q2,q3,q4,q5,q6,q7⟩:=h2;refine ⟨js,ts,nb,r,O1,j,q1,q2,q3,q4,q5,q6,?_⟩;unfold Jhs at q7 ⊢;split at q7
   ·exact hQ _ _ q7
   ·exact q7.elim
   ·split at q7
    ·exact hQ _ _ q7
    ·exact hQ _ _ q7
    ·exact q7.elim
  ·exact h2.elim
 | _=>intro Q Q' s hQ h;exact h.elim
variable {Γ:Cx} {C:Code} {p p0 p1:List Nat} {Q:Ex->St->Prop} {s s':St} {K:St->Prop}
theorem JhD (h:nav p C=.seq (nav p0 C) (nav p1 C)) (hw:wpA Γ (nav p0 C) (UD Γ.nt.nk (wpA Γ (nav p1 C) Q) Q) s):wpA Γ (nav p C) Q s:=by rw [h];exact hw
theorem Jcj (id:Nat) (h:nav p C=.block id (nav p0 C)) (hw:wpA Γ (nav p0 C) (II id Q) s):wpA Γ (nav p C) Q s:=by rw [h];exact hw
theorem JfE (t:Bool) (h:nav p C=.cond (Wb (nav p C)) (nav p0 C) (nav p1 C)) (hc:Al s.env (Wb (nav p C))=.d (.bool t)) (h1:t=true->wpA Γ (nav p0 C) Q s) (h2:t=false->wpA Γ (nav p1 C) Q s):wpA Γ (nav p C) Q s:=by
 rw [h];simp only [wpA,hc,ZL];exact ⟨h1,h2⟩
theorem JfF (i:Nat) (h:nav p C=.exit i) (hq:Q (.exit i) s):wpA Γ (nav p C) Q s:=by rw [h];exact hq
theorem JhE (h:nav p C=.ret) (hq:Q .ret s):wpA Γ (nav p C) Q s:=by rw [h];exact hq
theorem JfG (h:nav p C=.skip) (hq:Q .normal s):wpA Γ (nav p C) Q s:=by rw [h];exact hq
def Zg (C:Code) (p:List Nat) (s0:St) (Q:Ex->St->Prop):Ex->St->Prop:=λ e s=>SR (Tv (nav p C)) (Ft (nav p C)) s0.env s.env=true/\Q e s
theorem Vr (h:RR (nav p C)=true) (hs:AA Γ.nt.nk s s') (hk:Ba Γ C p 0 (Zg C p s' Q .normal) s'):wpA Γ (nav p C) Q s:=by
 unfold Ba Zg at hk;cases hc:nav p C with
 | region id ops d=>rw [hc] at hk;exact ⟨s',hs,.inl hk⟩
 | _=>rw [hc] at h;cases h
theorem Wc (n:Nat) (h:Nat.ble (Bt (nav p C)).length n=true) (hk:K s):Ba Γ C p n K s:=by
 unfold Ba;rw [List.drop_eq_nil_of_le (JnN h)];exact hk
theorem Jck {id:Nat} (h:Q .normal s):II id Q (.exit id) s:=by
 show bif Nat.beq id id then _ else _
 have:Nat.beq id id=true:=Nat.beq_refl id;rw [this];exact h
theorem Jcl {id i:Nat} (hn:Nat.beq i id=false) (h:Q (.exit i) s):II id Q (.exit i) s:=by
 show bif Nat.beq i id then _ else _
 rw [hn];exact h
def Aw {σ ρ:Type} (nk:Nat) (st:σ->St) (E:ρ->Ex->St->Prop) (z:σ⊕ρ):Ex->St->Prop
 | .normal,s=>∃ y,z=.inl y/\AA nk s (st y)
 | e,s=>∃ r,z=.inr r/\E r e s
theorem Jcm {σ ρ:Type} {nk:Nat} {st:σ->St} {E:ρ->Ex->St->Prop} {y:σ} (h:AA nk s (st y)):Aw nk st E (.inl y) .normal s:=⟨y,rfl,h⟩
theorem Zh {σ ρ:Type} {nk:Nat} {st:σ->St} {E:ρ->Ex->St->Prop} {r:ρ} {i:Nat} (h:E r (.exit i) s):Aw nk st E (.inr r) (.exit i) s:=⟨r,rfl,h⟩
theorem JaR {σ ρ:Type} {nk:Nat} {st:σ->St} {E:ρ->Ex->St->Prop} {r:ρ} (h:E r .ret s):Aw nk st E (.inr r) .ret s:=⟨r,rfl,h⟩
theorem JfH {σ ρ:Type} {body:σ->Option (σ⊕ρ)} {n:Nat} {x:σ} {r:ρ} (st:σ->St) (E:ρ->Ex->St->Prop) (h:nav p C=.loop (nav p0 C)) (hr:whl body n x=some r) (hs:AA Γ.nt.nk s (st x))
  (hb:∀ x z,body x=some z->wpA Γ (nav p0 C) (Aw Γ.nt.nk st E z) (st x)) (hE:∀ e s,E r e s->Q e s):wpA Γ (nav p C) Q s:=by
 rw [h];refine ⟨λ m s=>∃ x,s=st x/\whl body m x=some r,n,⟨_,hs,x,rfl,hr⟩,?_⟩;rintro m _ ⟨x,rfl,hm⟩;cases m with
 | zero=>cases hm
 | succ m=>
  unfold whl at hm;split at hm
  ·cases hm
  ·rename_i y hy;have:=hb x _ hy;refine X1 ?_ this;intro e s' hq;cases e with
   | normal=>
    obtain ⟨y',e1,hsh⟩:=hq;cases e1;exact ⟨m,_,Nat.lt_succ_self m,hsh,y,rfl,hm⟩
   | exit i=>obtain ⟨_,e1,_⟩:=hq;cases e1
   | ret=>obtain ⟨_,e1,_⟩:=hq;cases e1
  ·rename_i r' hy;cases hm;have:=hb x _ hy;refine X1 ?_ this;intro e s' hq;cases e with
   | normal=>obtain ⟨_,e1,_⟩:=hq;cases e1
   | exit i=>obtain ⟨r',e1,he⟩:=hq;cases e1;exact hE _ _ he
   | ret=>obtain ⟨r',e1,he⟩:=hq;cases e1;exact hE _ _ he
end Go.AI
end
section
namespace Go.AI
def Tx (op:BinOp) (x y:AV):Bool:=
 match op with
 | .quo=>match y with | .d (.int _ b)=>!(b==0)|_=>false
 | .rem=>match y with | .d (.int _ b)=>!(b==0)|_=>false
 | .shl=>match y with | .d (.int _ b)=>decide (0<=b)|_=>false
 | .shr=>match y with | .d (.int _ b)=>decide (0<=b)|_=>false
 | .add=>match x with | .d (.int _ _)=>true|_=>false
 | _=>true
def Zi (ty:Nat->Ty) (ev:Operand->AV) (objs:List (Option Ob)):Op->Bool
 | .move _=>true
 | .assign _=>true
 | .alloc _=>true
 | .box _ _=>true
 | .build _ _=>true
 | .nilCheck _=>true
 | .unOp _ _ _=>true
 | .fieldAddr _ _ _=>true
 | .field _ _ _=>true
 | .extract _ _=>true
 | .makeMap _ _=>true
 | .load t a=>match ev a with
  | .ptr k off=>match obA objs k with
   | some (.box cells)=>Nat.ble (off+(ty t).size) cells.length
   | _=>false
  | .dptr e off=>Nat.ble (off+(ty t).size) e.length
  | _=>false
 | .store t a v=>match ev a with
  | .ptr k off=>match obA objs k with
   | some (.box cells)=>Nat.beq (Ar (ev v)).length (ty t).size&&Nat.ble (off+(ty t).size) cells.length
   | _=>false
  | _=>false
 | .binOp op _ x y _=>Tx op (ev x) (ev y)
 | .convert s _ x=>match (ty s).kind,ev x with
  | .int _,.d (.int _ _)=>true
  | .string,.d (.str _)=>true
  | _,_=>false
 | .call ⟨.builtin .len,_,_⟩=>true
 | .call ⟨.builtin .min,_,_⟩=>true
 | .call ⟨.builtin .max,_,_⟩=>true
 | .buildSlice _ _ parts=>parts.toList.all λ p=>(Ar (ev p.2)).all OG
 | .indexAddr t x i=>match (ty t).kind,ev x,ev i with
  | .array n _,.ptr _ _,.d (.int _ m)=>decide (0<=m)&&decide (m<n)
  | .array n _,.eptr _ _ _ _,.d (.int _ m)=>decide (0<=m)&&decide (m<n)
  | .array n _,.dptr _ _,.d (.int _ m)=>decide (0<=m)&&decide (m<n)
  | _,_,_=>false
 | _=>false
theorem DM {v:AV} {e:Eff} (h:val v=some e):e.ob:=by cases h;trivial
theorem HL {v:AV} {ob:Prop} {e:Eff} (h:Bo v ob=some e) (ho:ob):e.ob:=by cases h;exact ho
theorem AO {α:Type} {b:Bool} {x:Option α} {e:α} (h:(bif b then x else none)=some e):b=true/\x=some e:=by
 cases b with
 | true=>exact ⟨rfl,h⟩
 | false=>cases h
theorem JfI {op:BinOp} {k k' k'':IntKind} {a b:Int} {e:Eff} (h:YG op k a b=some e) (ho:Tx op (.d (.int k' a)) (.d (.int k'' b))=true):e.ob:=by
 cases op<;>simp only [YG] at h<;>first|exact DM h|(refine HL h ?_;simpa [Tx] using ho)|cases h
theorem JfJ {t:Ty} {op:BinOp} {x y:AV} {e:Eff} (h:Jai t op x y=some e) (ho:Tx op x y=true):e.ob:=by
 unfold Jai at h;split at h
 ·split at h
  ·exact HL h (by simpa [Tx] using ho)
  ·exact HL h (by simpa [Tx] using ho)
  ·obtain ⟨_,h⟩:=AO h;exact JfI h ho
 ·cases op<;>simp only [W8] at h<;>first|exact DM h|(simp [Tx] at ho;done)|cases h
 ·split at h
  ·obtain ⟨_,h⟩:=AO h;split at h
   ·exact DM h
   ·exact DM h
   ·cases h
  ·cases h
 ·obtain ⟨_,h⟩:=AO h;split at h
  ·exact DM h
  ·exact DM h
  ·cases h
 ·cases h
theorem JfK {objs:List (Option Ob)} {v:AV} {r:Rd D} (hd:OG v=true) (h:Km objs v=some r):r.ob/\r.ks=[]:=by
 cases v with
 | d x=>cases x<;>(cases h;exact ⟨trivial,rfl⟩)
 | _=>cases hd
theorem Jcn {objs:List (Option Ob)}:∀ {l:List AV} {r:Rd (List D)},l.all OG=true->EQ objs l=some r->r.ob/\r.ks=[]:=by
 intro l;induction l with
 | nil=>intro r _ h;cases h;exact ⟨trivial,rfl⟩
 | cons v l ih=>
  intro r hd h;simp only [List.all_cons,Jny] at hd;simp only [EQ] at h;split at h
  ·rename_i r1 r2 h1 h2;cases h;obtain ⟨a1,a2⟩:=JfK hd.1 h1;obtain ⟨b1,b2⟩:=ih hd.2 h2;exact ⟨⟨a1,b1⟩,by simp [a2,b2]⟩
  ·cases h
theorem Jco {objs:List (Option Ob)} {esz:Nat}:∀ {parts:List (Nat×AV)} {es:List (List D)} {r:Rd (List (List D))},(parts.all λ p=>(Ar p.2).all OG)=true->Kp objs esz es parts=some r->r.ob:=by
 intro parts;induction parts with
 | nil=>intro es r _ h;cases h;trivial
 | cons p parts ih=>
  intro es r hd h;obtain ⟨i,v⟩:=p;simp only [List.all_cons,Jny] at hd;simp only [Kp] at h;split at h
  ·rename_i r1 h1;obtain ⟨_,h⟩:=AO h;split at h
   ·rename_i r2 h2;cases h;exact ⟨(Jcn hd.1 h1).1,ih hd.2 h2⟩
   ·cases h
  ·cases h
theorem Tz {ty:Nat->Ty} {ev:Operand->AV} {objs:List (Option Ob)} {op:Op} {e:Eff} (ho:Zi ty ev objs op=true) (h:opA ty ev objs op=some e):e.ob:=by
 cases op with
 | move x=>exact DM h
 | assign x=>exact DM h
 | alloc t=>obtain ⟨_,h⟩:=AO h;cases h;trivial
 | box t v=>obtain ⟨_,h⟩:=AO h;cases h;trivial
 | build t parts=>
  obtain ⟨_,h⟩:=AO h;split at h
  ·exact DM h
  ·cases h
 | nilCheck x=>
  simp only [opA] at h;split at h<;>first|exact DM h|cases h
 | unOp op t x=>
  cases op<;>simp only [opA] at h<;>first|(split at h<;>first|exact DM h|cases h)|cases h
 | fieldAddr t x f=>
  obtain ⟨_,h⟩:=AO h;unfold MJ at h;split at h
  ·split at h
   ·split at h<;>first|exact DM h|cases h
   ·cases h
  ·cases h
 | field t x f=>
  simp only [opA] at h;obtain ⟨_,h⟩:=AO h;unfold SO at h;split at h
  ·split at h
   ·split at h
    ·split at h<;>first|exact DM h|cases h
    ·cases h
   ·cases h
  ·cases h
 | extract x i=>
  simp only [opA] at h;split at h
  ·split at h
   ·exact DM h
   ·cases h
  ·cases h
 | makeMap t r=>
  cases r with
  | none=>
   obtain ⟨_,h⟩:=AO h;split at h
   ·cases h;trivial
   ·cases h
  | some x=>
   obtain ⟨_,h⟩:=AO h;split at h
   ·cases h;trivial
   ·cases h
 | load t a=>
  obtain ⟨_,h⟩:=AO h;simp only [Zi] at ho;split at ho
  ·rename_i k off ha;rw [ha] at h;simp only [D7] at h;split at ho
   ·rename_i cells hc;rw [hc] at h;simp only at h;split at h
    ·exact HL h (JnN ho)
    ·cases h
   ·cases ho
  ·rename_i e' off ha;rw [ha] at h;simp only [D7] at h;split at h
   ·exact HL h (JnN ho)
   ·cases h
  ·cases ho
 | store t a v=>
  obtain ⟨_,h⟩:=AO h;simp only [Zi] at ho;split at ho
  ·rename_i k off ha;rw [ha] at h;simp only [Fy] at h;split at ho
   ·rename_i cells hc;rw [hc] at h;simp only at h;obtain ⟨_,h⟩:=AO h;cases h;simp only [Jny] at ho;exact ⟨JnE ho.1,JnN ho.2⟩
   ·cases ho
  ·cases ho
 | binOp op t x y t'=>exact JfJ h ho
 | convert a b x=>
  obtain ⟨_,h⟩:=AO h;simp only [Zi] at ho;split at ho
  ·rename_i k1 k2 n hk hx;rw [hk,hx] at h;unfold U1 at h;split at h
   ·rename_i heq _;cases heq
   ·exact DM h
   ·exact DM h
   ·cases h
  ·rename_i n hk hx;rw [hk,hx] at h;unfold U1 at h;split at h
   ·rename_i heq _;cases heq
   ·exact DM h
   ·exact DM h
   ·cases h
  ·cases ho
 | call c=>
  obtain ⟨callee,args,ts⟩:=c;cases callee with
  | value f=>cases ho
  | invoke r m=>cases ho
  | builtin b=>
   cases b<;>first|(cases ho;done)|skip
   all_goals simp only [opA] at h
   ·split at h
    ·obtain ⟨_,h⟩:=AO h;unfold YH at h;split at h<;>first|exact DM h|cases h
    ·cases h
   ·split at h
    ·exact DM h
    ·cases h
   ·split at h
    ·exact DM h
    ·cases h
 | buildSlice t len parts=>
  obtain ⟨_,h⟩:=AO h;split at h
  ·obtain ⟨_,h⟩:=AO h;split at h
   ·rename_i r hr;cases h;refine Jco (parts:=parts.toList.map λ p=>(p.1,ev p.2)) ?_ hr;rw [List.all_map];exact ho
   ·cases h
  ·cases h
 | indexAddr t x i=>
  obtain ⟨_,h⟩:=AO h;simp only [Zi] at ho;split at ho
  ·rename_i n esz k off k' m hk hx hi;rw [hk,hx,hi] at h;simp only [Ko,UB] at h;exact HL h (by simpa using ho)
  ·rename_i n esz a b c d k' m hk hx hi;rw [hk,hx,hi] at h;simp only [Ko,UB] at h;exact HL h (by simpa using ho)
  ·rename_i n esz a b k' m hk hx hi;rw [hk,hx,hi] at h;simp only [Ko,UB] at h;exact HL h (by simpa using ho)
  ·cases ho
 | _=>cases ho
end Go.AI
end
section
namespace Go.AI
def Pz:AV->Bool
 | .gv _ _=>false
 | _=>true
theorem NH {g:Bool}:∀ {l:List AV},l.all Pz=true->Ik g l:=by
 intro l;induction l with
 | nil=>intro _;trivial
 | cons v l ih=>
  intro h;simp only [List.all_cons,Jny] at h;cases v<;>first|exact ih h.2|(cases h.1;done)
def JfL:Op->Bool
 | .pick _ _ _=>true
 | .call ⟨.value _,_,_⟩=>true
 | _=>false
def Jcp (Γ:Cx) (all:List Oper) (o:Oper) (st:St):Option St:=
 match Cg all st.env o.guard with
 | none=>none
 | some g=>bif CD Γ.nt o.dst&&!JfL o.op&&Zi Γ.ty (λ x=>unG (Al st.env x)) st.objs o.op&&(o.op.operands.toList.map (Al st.env)).all Pz&&!(o.guard.isSome&&isW o.op) then
   (match opA Γ.ty (λ x=>unG (Al st.env x)) st.objs o.op with
   | some e=>bif (e.upd.isSome&&o.guard.isSome)||!e.rm.isEmpty then none else some (Fb o.dst o.guard.isSome g e st)
   | none=>none)
  else none
theorem TA {Γ:Cx} {d:Bool} {o:Oper} {Q:St->Prop} {st:St} {g:Bool} (hpc:JfL o.op=false) (h:match opA Γ.ty (λ x=>unG (Al st.env x)) st.objs o.op with
   | some e=>Ik g (o.op.operands.toList.map (Al st.env))/\(g=true->e.ob)/\(bif (e.upd.isSome&&o.guard.isSome)||(!e.rm.isEmpty&&(o.guard.isSome||(d&&!isW o.op))) then False else Q (Fb o.dst o.guard.isSome g e st))
   | none=>False):stepG Γ d o Q st g:=by
 unfold stepG;split
 ·rename_i hop;rw [hop] at hpc;cases hpc
 ·rename_i hop;rw [hop] at hpc;cases hpc
 ·exact h
theorem Jcq {Γ:Cx} {d:Bool} {all:List Oper} {o:Oper} {st st':St} {Q:St->Prop} (h:Jcp Γ all o st=some st') (hq:Q st'):AZ Γ d all o Q st:=by
 unfold Jcp at h;unfold AZ;cases hg:Cg all st.env o.guard with
 | none=>rw [hg] at h;cases h
 | some g=>
  rw [hg] at h;obtain ⟨hc,h⟩:=AO h;simp only [Jny,Bool.not_eq_true'] at hc;obtain ⟨⟨⟨⟨h1,h2⟩,h3⟩,h4⟩,h5⟩:=hc;simp only [h1,Jng,cond_false];split at h
  ·rename_i e he;cases hb:(e.upd.isSome&&o.guard.isSome)||!e.rm.isEmpty with
   | true=>rw [hb] at h;cases h
   | false=>
    rw [hb,cond_false] at h;cases h;simp only [Jnw,Bool.not_eq_false'] at hb;obtain ⟨hb1,hb2⟩:=hb;have hrm:e.rm=[]:=isEmpty_nil hb2;refine ⟨λ _=>.inl (TA h2 ?_),λ hgf=>?_⟩
    ·rw [he];refine ⟨NH h4,λ _=>Tz h3 he,?_⟩;rw [hb1,hrm];exact hq
    ·have hgs:o.guard.isSome=true:=by
      cases hgo:o.guard with
      | none=>rw [hgo] at hg;cases hg;cases hgf
      | some x=>rfl
     have hupd:e.upd=none:=by
      rw [hgs,Bool.and_true] at hb1;cases hu:e.upd with
      | none=>rfl
      | some x=>rw [hu] at hb1;cases hb1
     refine ⟨e.v,e.obs,λ hm=>?_,?_⟩
     ·rw [hgs,Bool.true_and] at h5;exact Vf h5 hm he
     ·subst hgf;simp only [Fb,hrm,hupd,rmA,CH] at hq;exact hq
  ·cases h
def JaS (Γ:Cx) (all:List Oper):List Oper->St->Option St
 | [],st=>some st
 | o::l,st=>match Jcp Γ all o st with
  | some st'=>JaS Γ all l st'
  | none=>none
variable {Γ:Cx} {C:Code} {p p0 p1:List Nat} {Q:Ex->St->Prop} {s s':St} {K:St->Prop} {i:Nat}
theorem JfM {d:Bool} {all:List Oper}:∀ (l m:List Oper) (st:St),JaS Γ all l st=some s'->Pk Γ d all m K s'->Pk Γ d all (l++m) K st:=by
 intro l;induction l with
 | nil=>intro m st h hk;cases h;exact hk
 | cons o l ih=>
  intro m st h hk;simp only [JaS] at h;split at h
  ·rename_i st1 h1;exact Jcq h1 (ih m st1 h hk)
  ·cases h
theorem JkW (n j:Nat) (h:JaS Γ (Bt (nav p C)) (((Bt (nav p C)).drop i).take n) s=some s') (hj:i+n=j) (hk:Ba Γ C p j K s'):Ba Γ C p i K s:=by
 unfold Ba at hk ⊢;have:(Bt (nav p C)).drop i=((Bt (nav p C)).drop i).take n++(Bt (nav p C)).drop j:=by
  rw [← hj,← List.drop_drop,List.take_append_drop]
 rw [this];exact JfM _ _ _ h hk
def F9 (x:Option Eff) (v:AV) (obs:List Ob) (rm:List Nat) (upd:Option (Nat×Ob)):Prop:=∃ ob,x=some ⟨v,obs,rm,upd,ob⟩/\ob
def PA (Γ:Cx) (c:Code) (i:Nat) (s:St):Option Eff:=
 match (Bt c)[i]? with
 | some o=>opA Γ.ty (λ x=>unG (Al s.env x)) s.objs o.op
 | none=>none
def Oi (Γ:Cx) (c:Code) (i:Nat) (v:AV) (obs:List Ob) (rm:List Nat) (upd:Option (Nat×Ob)) (s:St):Option St:=
 match (Bt c)[i]? with
 | some o=>bif o.guard.isNone&&CD Γ.nt o.dst&&!JfL o.op&&(o.op.operands.toList.map (Al s.env)).all Pz&&!(!rm.isEmpty&&(Tv c&&!isW o.op)) then some ⟨putA o.dst false true v s.env,CH (rmA s.objs rm) upd++obs.map some⟩ else none
 | none=>none
theorem Dw {all:List Oper} {o:Oper} (h:all[i]? = some o):all.drop i=o::all.drop (i+1):=by
 have hl:=Ag h;rw [Jnx hl] at h;cases h;exact List.drop_eq_getElem_cons hl
theorem Jmo {v:AV} {obs:List Ob} {rm:List Nat} {upd:Option (Nat×Ob)} {x:Option Eff} (j:Nat) (hx:PA Γ (nav p C) i s=x) (ho:F9 x v obs rm upd) (hn:Oi Γ (nav p C) i v obs rm upd s=some s') (hj:i+1=j) (hk:Ba Γ C p j K s'):Ba Γ C p i K s:=by
 subst hj;unfold Ba at hk ⊢;unfold PA at hx;unfold Oi at hn;split at hn
 ·rename_i o hi;rw [hi] at hx;obtain ⟨hc,hn⟩:=AO hn;simp only [Jny,Bool.not_eq_true'] at hc;obtain ⟨⟨⟨⟨h1,h2⟩,h3⟩,h4⟩,h5⟩:=hc;cases hn;rw [Dw hi];show AZ _ _ _ _ _ _;have hgN:o.guard=none:=by simpa using h1
  unfold AZ;rw [hgN];simp only [Cg,h2,Jng,cond_false];refine ⟨λ _=>.inl (TA h3 ?_),λ h=>by cases h⟩;obtain ⟨ob,e1,hob⟩:=ho;simp only [hx,e1];refine ⟨NH h4,λ _=>hob,?_⟩;rw [hgN];simp only [Option.isSome_none,Bool.and_false,Bool.false_or,h5,cond_false];exact hk
 ·cases hn
def Ho (g:Bool):List Bool->Prop
 | []=>True
 | b::r=>(g=true->b=true)/\Ho g r
theorem Ef {g:Bool}:Ho g []:=trivial
theorem Cc {g b:Bool} {r:List Bool} (h:g=true->b=true) (hr:Ho g r):Ho g (b::r):=⟨h,hr⟩
def gvs:List AV->List Bool
 | []=>[]
 | .gv g _::r=>g::gvs r
 | _::r=>gvs r
theorem TB {g:Bool}:∀ {l:List AV},Ho g (gvs l)->Ik g l:=by
 intro l;induction l with
 | nil=>intro _;trivial
 | cons v l ih=>
  intro h;cases v<;>first|exact ih h|exact ⟨h.1,ih h.2⟩
def gAt (c:Code) (i:Nat) (s:St):Option Bool:=
 match (Bt c)[i]? with
 | some o=>match o.guard with
  | some x=>Cg (Bt c) s.env (some x)
  | none=>none
 | none=>none
def Jv (c:Code) (i:Nat) (s:St):List Bool:=
 match (Bt c)[i]? with
 | some o=>gvs (o.op.operands.toList.map (Al s.env))
 | none=>[]
def MV (Γ:Cx) (c:Code) (i:Nat) (g:Bool) (v:AV) (obs:List Ob) (s:St):Option St:=
 match (Bt c)[i]? with
 | some o=>bif o.guard.isSome&&CD Γ.nt o.dst&&!JfL o.op&&(En o.op||obs.isEmpty) then some ⟨putA o.dst true g v s.env,s.objs++obs.map some⟩ else none
 | none=>none
theorem Jg4 {g:Bool} {v:AV} {obs:List Ob} {x:Option Eff} {gs:List Bool} (j:Nat) (hg:gAt (nav p C) i s=some g) (hx:PA Γ (nav p C) i s=x) (ho:g=true->F9 x v obs [] none) (hgs:Jv (nav p C) i s=gs) (hi:Ho g gs) (hn:MV Γ (nav p C) i g v obs s=some s') (hj:i+1=j) (hk:Ba Γ C p j K s'):Ba Γ C p i K s:=by
 subst hj;unfold Ba at hk ⊢;unfold PA at hx;unfold MV at hn;unfold gAt at hg;unfold Jv at hgs;split at hn
 ·rename_i o hii;rw [hii] at hx hg hgs;simp only at hx hg hgs;obtain ⟨hc,hn⟩:=AO hn;simp only [Jny,Bool.not_eq_true'] at hc;obtain ⟨⟨⟨h1,h2⟩,h3⟩,h4⟩:=hc;cases hn;rw [Dw hii];show AZ _ _ _ _ _ _;unfold AZ;cases hgo:o.guard with
  | none=>rw [hgo] at h1;cases h1
  | some y=>
   rw [hgo] at hg;simp only at hg;simp only [hg,h2,Jng,cond_false];refine ⟨λ hgt=>.inl (TA h3 ?_),λ hgf=>⟨v,obs,λ hm=>?_,?_⟩⟩
   ·obtain ⟨ob,e1,hob⟩:=ho hgt;simp only [hx,e1];refine ⟨TB (by rw [hgs];exact hi),λ _=>hob,?_⟩;simp only [Option.isSome_none,Bool.false_and,List.isEmpty_nil,Jng,Bool.or_self,cond_false,hgo];exact hk
   ·rw [hm,Bool.false_or] at h4;exact isEmpty_nil h4
   ·subst hgf;exact hk
 ·cases hn
def OL (c:Code) (i:Nat) (s:St):Option Eff:=
 match (Bt c)[i]? with
 | some o=>match o.op with
  | .pick x y z=>Ic (Al s.env x) (Al s.env y) (Al s.env z)
  | _=>none
 | none=>none
def Vs (Γ:Cx) (c:Code) (i:Nat) (v:AV) (s:St):Option St:=
 match (Bt c)[i]? with
 | some o=>bif o.guard.isNone&&CD Γ.nt o.dst then some ⟨putA o.dst false true v s.env,s.objs⟩ else none
 | none=>none
def Wd (Γ:Cx) (c:Code) (i:Nat) (g:Bool) (v:AV) (s:St):Option St:=
 match (Bt c)[i]? with
 | some o=>bif o.guard.isSome&&CD Γ.nt o.dst then some ⟨putA o.dst true g v s.env,s.objs⟩ else none
 | none=>none
theorem Jg5 {v:AV} {x:Option Eff} (j:Nat) (hx:OL (nav p C) i s=x) (ho:F9 x v [] [] none) (hn:Vs Γ (nav p C) i v s=some s') (hj:i+1=j) (hk:Ba Γ C p j K s'):Ba Γ C p i K s:=by
 subst hj;unfold Ba at hk ⊢;unfold OL at hx;unfold Vs at hn;split at hn
 ·rename_i o hi;rw [hi] at hx;simp only at hx;obtain ⟨hc,hn⟩:=AO hn;simp only [Jny] at hc;obtain ⟨h1,h2⟩:=hc;cases hn;obtain ⟨ob,e1,hob⟩:=ho;rw [Dw hi];show AZ _ _ _ _ _ _;have hgN:o.guard=none:=by simpa using h1
  split at hx
  ·rename_i a b c hop;unfold AZ;rw [hgN];simp only [Cg,h2,Jng,cond_false];refine ⟨λ _=>.inl ?_,λ h=>by cases h⟩;unfold stepG;rw [hop];have:opA Γ.ty (Al s.env) s.objs (.pick a b c)=some ⟨v,[],[],none,ob⟩:=by rw [← e1,← hx];rfl
   simp only [this];refine ⟨λ _=>hob,?_⟩;rw [hgN];simpa [Fb,rmA,CH] using hk
  ·rw [← hx] at e1;cases e1
 ·cases hn
theorem JhF {g:Bool} {v:AV} {x:Option Eff} (j:Nat) (hg:gAt (nav p C) i s=some g) (hx:OL (nav p C) i s=x) (ho:g=true->F9 x v [] [] none) (hn:Wd Γ (nav p C) i g v s=some s') (hj:i+1=j) (hk:Ba Γ C p j K s'):Ba Γ C p i K s:=by
 subst hj;unfold Ba at hk ⊢;unfold OL at hx;unfold gAt at hg;unfold Wd at hn;split at hn
 ·rename_i o hi;rw [hi] at hx hg;simp only at hx hg;obtain ⟨hc,hn⟩:=AO hn;simp only [Jny] at hc;obtain ⟨h1,h2⟩:=hc;cases hn;rw [Dw hi];show AZ _ _ _ _ _ _;cases hgo:o.guard with
  | none=>rw [hgo] at h1;cases h1
  | some y=>
   rw [hgo] at hg;simp only at hg;unfold AZ;rw [hgo];simp only [hg,h2,Jng,cond_false];refine ⟨λ hgt=>.inl ?_,λ hgf=>⟨v,[],λ _=>rfl,?_⟩⟩
   ·obtain ⟨ob,e1,hob⟩:=ho hgt;split at hx
    ·rename_i a b c hop;unfold stepG;rw [hop];have:opA Γ.ty (Al s.env) s.objs (.pick a b c)=some ⟨v,[],[],none,ob⟩:=by rw [← e1,← hx];rfl
     simp only [this];refine ⟨λ _=>hob,?_⟩;rw [hgo];simpa [Fb,rmA,CH] using hk
    ·rw [← hx] at e1;cases e1
   ·subst hgf;simpa using hk
 ·cases hn
end Go.AI
end
section
namespace Go.AI
def Ie:List (Nat×Nat)->Prop
 | []=>True
 | (a,b)::r=>a<=b/\Ie r
theorem leZ:Ie []:=trivial
theorem leK {a b:Nat} {r:List (Nat×Nat)} (h:a<=b) (hr:Ie r):Ie ((a,b)::r):=⟨h,hr⟩
theorem PC {l m:List (Nat×Nat)} (h:Ie (l++m)):Ie l/\Ie m:=by
 induction l with
 | nil=>exact ⟨trivial,h⟩
 | cons a l ih=>exact ⟨⟨h.1,(ih h.2).1⟩,(ih h.2).2⟩
def xD (objs:List (Option Ob)):AV->Option (D×List Nat×List (Nat×Nat))
 | .d .nil=>some (.sl [],[],[])
 | .d x=>some (x,[],[])
 | .osl k sz lo n=>match obA objs k with
  | some (.arr sz' es)=>bif Nat.beq sz sz' then some (.sl ((es.drop lo).take n),[k],[(lo+n,es.length)]) else none
  | _=>none
 | _=>none
def xDs (objs:List (Option Ob)):List AV->Option (List D×List Nat×List (Nat×Nat))
 | []=>some ([],[],[])
 | v::vs=>match xD objs v,xDs objs vs with
  | some (x,k,o),some (xs,ks,os)=>some (x::xs,k++ks,o++os)
  | _,_=>none
def xA (objs:List (Option Ob)):AV->Option (AV×List Nat×List (Nat×Nat))
 | .agg l=>match xDs objs l with
  | some (x,k,o)=>some (.agg (x.map .d),k,o)
  | none=>none
 | .ptr k off=>match obA objs k with
  | some (.box cells)=>match xDs objs cells with
   | some (x,ks,o)=>bif ks.contains k then none else some (.dptr x off,k::ks,o)
   | none=>none
  | _=>none
 | .eptr k sz i off=>match obA objs k with
  | some (.arr sz' es)=>bif Nat.beq sz sz' then some (.dptr (es[i]?.getD []) off,[k],[(i+1,es.length)]) else none
  | some (.narr sz' es)=>bif Nat.beq sz sz' then some (.dptr ((es[i]?.getD []).map ofN) off,[k],[(i+1,es.length),(Ph es,0)]) else none
  | _=>none
 | .dptr e off=>some (.dptr e off,[],[])
 | .osl k sz lo n=>match obA objs k with
  | some (.narr sz' es)=>bif Nat.beq sz sz' then some (.d (.sl (((es.drop lo).take n).map λ e=>e.map ofN)),[k],[(lo+n,es.length),(Ph es,0)]) else none
  | _=>match xD objs (.osl k sz lo n) with
   | some (x,k,o)=>some (.d x,k,o)
   | none=>none
 | v=>match xD objs v with
  | some (x,k,o)=>some (.d x,k,o)
  | none=>none
def xAs (objs:List (Option Ob)):List AV->Option (List AV×List Nat×List (Nat×Nat))
 | []=>some ([],[],[])
 | v::vs=>match xA objs v,xAs objs vs with
  | some (x,k,o),some (xs,ks,os)=>some (x::xs,k++ks,o++os)
  | _,_=>none
theorem Jcr {objs:List (Option Ob)} {v:AV} {x:D} {ks:List Nat} {o:List (Nat×Nat)} (h:xD objs v=some (x,ks,o)) (ho:Ie o):∃ ob,Km objs v=some ⟨x,ks,ob⟩/\ob:=by
 unfold xD at h;split at h
 ·cases h;exact ⟨_,rfl,trivial⟩
 ·rename_i y hy;cases h;refine ⟨True,?_,trivial⟩;unfold Km;split
  ·rename_i e;cases e;exact absurd rfl hy
  ·rename_i e;cases e;rfl
  ·rename_i e;cases e
  ·rename_i e1 _;exact absurd rfl (e1 _)
 ·rename_i k sz lo n;split at h
  ·rename_i sz' es hob;obtain ⟨hb,h⟩:=AO h;cases h;refine ⟨_,?_,ho.1⟩;simp only [Km,hob,hb,cond_true]
  ·cases h
 ·cases h
theorem QI {objs:List (Option Ob)}:∀ {l:List AV} {x:List D} {ks:List Nat} {o:List (Nat×Nat)},xDs objs l=some (x,ks,o)->Ie o->∃ ob,EQ objs l=some ⟨x,ks,ob⟩/\ob:=by
 intro l;induction l with
 | nil=>intro x ks o h _;cases h;exact ⟨_,rfl,trivial⟩
 | cons v l ih=>
  intro x ks o h ho;simp only [xDs] at h;split at h
  ·rename_i a b c a' b' c' h1 h2;cases h;obtain ⟨o1,o2⟩:=PC ho;obtain ⟨p1,e1,q1⟩:=Jcr h1 o1;obtain ⟨p2,e2,q2⟩:=ih h2 o2;exact ⟨p1/\p2,by simp only [EQ,e1,e2],q1,q2⟩
  ·cases h
theorem JkX {objs:List (Option Ob)} {v x:AV} {ks:List Nat} {o:List (Nat×Nat)} (h:xA objs v=some (x,ks,o)) (ho:Ie o):∃ ob,Pi objs v=some ⟨x,ks,ob⟩/\ob:=by
 unfold xA at h;split at h
 ·split at h
  ·rename_i h1;cases h;obtain ⟨p1,e1,q1⟩:=QI h1 ho;exact ⟨_,by simp only [Pi,e1],q1⟩
  ·cases h
 ·rename_i k off;split at h
  ·rename_i cells hk;split at h
   ·rename_i x ks' o' h1;cases hc:ks'.contains k with
    | true=>rw [hc] at h;cases h
    | false=>
     rw [hc,cond_false] at h;cases h;obtain ⟨p1,e1,q1⟩:=QI h1 ho;refine ⟨k ∉ ks'/\p1,by simp only [Pi,hk,e1],?_,q1⟩;intro hm;rw [List.contains_iff_mem.2 hm] at hc;cases hc
   ·cases h
  ·cases h
 ·rename_i k sz i off;split at h
  ·rename_i sz' es hk;obtain ⟨hb,h⟩:=AO h;cases h;exact ⟨sz=sz'/\i<es.length,by simp only [Pi,hk],JnE hb,ho.1⟩
  ·rename_i sz' es hk;obtain ⟨hb,h⟩:=AO h;cases h;exact ⟨sz=sz'/\i<es.length/\Ph es=0,by simp only [Pi,hk],JnE hb,ho.1,Nat.le_zero.1 ho.2.1⟩
  ·cases h
 ·cases h;exact ⟨_,rfl,trivial⟩
 ·rename_i k sz lo n;split at h
  ·rename_i sz' es hk;obtain ⟨hb,h⟩:=AO h;cases h;exact ⟨lo+n<=es.length/\Ph es=0,by simp only [Pi,hk,hb,cond_true],ho.1,Nat.le_zero.1 ho.2.1⟩
  ·rename_i hne;split at h
   ·rename_i h1;cases h;obtain ⟨p1,e1,q1⟩:=Jcr h1 ho;exact ⟨p1,by simp only [Pi,e1],q1⟩
   ·cases h
 ·rename_i hn1 hn2 hn3 hn4 hn5;split at h
  ·rename_i h1;cases h;obtain ⟨p1,e1,q1⟩:=Jcr h1 ho;refine ⟨p1,?_,q1⟩;unfold Pi;split
   ·exact absurd rfl (hn1 _)
   ·exact absurd rfl (hn2 _ _)
   ·exact absurd rfl (hn3 _ _ _ _)
   ·exact absurd rfl (hn4 _ _)
   ·exact absurd rfl (hn5 _ _ _ _)
   ·rw [e1]
  ·cases h
theorem Jcs {objs:List (Option Ob)}:∀ {l:List AV} {x:List AV} {ks:List Nat} {o:List (Nat×Nat)},xAs objs l=some (x,ks,o)->Ie o->∃ ob,Oe objs l=some ⟨x,ks,ob⟩/\ob:=by
 intro l;induction l with
 | nil=>intro x ks o h _;cases h;exact ⟨_,rfl,trivial⟩
 | cons v l ih=>
  intro x ks o h ho;simp only [xAs] at h;split at h
  ·rename_i a b c a' b' c' h1 h2;cases h;obtain ⟨o1,o2⟩:=PC ho;obtain ⟨p1,e1,q1⟩:=JkX h1 o1;obtain ⟨p2,e2,q2⟩:=ih h2 o2;exact ⟨p1/\p2,by simp only [Oe,e1,e2],q1,q2⟩
  ·cases h
def MW (c:Code) (i:Nat) (s:St):Option (FuncId×List AV×List Nat×List (Nat×Nat)):=
 match (Bt c)[i]? with
 | some o=>match o.op with
  | .call ⟨.value (.func f),args,_⟩=>match xAs s.objs (args.toList.map λ x=>unG (Al s.env x)) with
   | some (x,ks,os)=>some (f,x,ks,os)
   | none=>none
  | _=>none
 | none=>none
def Vt:List AV->List Nat
 | []=>[]
 | .own _ es::r=>es.length::Vt r
 | _::r=>Vt r
def X2:AV->List Nat
 | .own _ es=>[es.length]
 | .agg l=>Vt l
 | _=>[]
def X3:List AV->List Nat
 | []=>[]
 | v::r=>X2 v++X3 r
def L9:AV->List Nat
 | .tup l=>X3 l
 | v=>X2 v
def ilC (m:Bool) (n:Nat):List Nat->List AV->List AV×List Nat
 | ls,[]=>([],ls)
 | ls,.own sz es::r=>bif m then (.osl n sz 0 (ls.headD 0)::(ilC m (n+1) ls.tail r).1,(ilC m (n+1) ls.tail r).2) else (.d (.sl es)::(ilC m n ls.tail r).1,(ilC m n ls.tail r).2)
 | ls,.d x::r=>(.d x::(ilC m n ls r).1,(ilC m n ls r).2)
 | ls,_::r=>(.top::(ilC m n ls r).1,(ilC m n ls r).2)
def ilA (m:Bool) (n:Nat) (ls:List Nat):AV->AV×List Nat
 | .own sz es=>bif m then (.osl n sz 0 (ls.headD 0),ls.tail) else (.d (.sl es),ls.tail)
 | .agg l=>(.agg (ilC m n ls l).1,(ilC m n ls l).2)
 | .d x=>(.d x,ls)
 | _=>(.top,ls)
def ilT (m:Bool) (n:Nat):List Nat->List AV->List AV
 | _,[]=>[]
 | ls,v::r=>(ilA m n ls v).1::ilT m (n+(CI m n v).2.length) (ilA m n ls v).2 r
def ilR (m:Bool) (n:Nat) (ls:List Nat):AV->AV
 | .tup l=>.tup (ilT m n ls l)
 | v=>(ilA m n ls v).1
theorem JhG (m:Bool):∀ (l:List AV) (n:Nat) (rest:List Nat),ilC m n (Vt l++rest) l=((Bn m n l).1,rest):=by
 intro l;induction l with
 | nil=>intro n rest;rfl
 | cons v l ih=>
  intro n rest;cases v<;>simp only [Vt,List.cons_append,ilC,Bn,List.headD_cons,List.tail_cons,ih]<;>try rfl
  cases m<;>simp only [cond_true,cond_false]
theorem Zj (m:Bool) (v:AV) (n:Nat) (rest:List Nat):ilA m n (X2 v++rest) v=((CI m n v).1,rest):=by
 cases v with
 | own sz es=>cases m<;>rfl
 | agg l=>simp only [X2,ilA,CI,JhG]
 | _=>rfl
theorem JhH (m:Bool):∀ (l:List AV) (n:Nat),ilT m n (X3 l) l=(DC m n l).1:=by
 intro l;induction l with
 | nil=>intro n;rfl
 | cons v l ih=>intro n;simp only [X3,ilT,DC,Zj,ih]
theorem Jct (m:Bool) (n:Nat) (r:AV) {ls:List Nat} (h:L9 r=ls):ilR m n ls r=(Cs m n r).1:=by
 subst h;cases r with
 | tup l=>simp only [L9,ilR,Cs,JhH]
 | own sz es=>have:=Zj m (.own sz es) n [];simp only [List.append_nil] at this;simp only [L9,ilR,Cs,this]
 | agg l=>have:=Zj m (.agg l) n [];simp only [List.append_nil] at this;simp only [L9,ilR,Cs,this]
 | _=>rfl
def RT (Γ:Cx) (c:Code) (i:Nat) (m:Bool) (ls:List Nat) (r:AV) (s:St):Option St:=
 match (Bt c)[i]? with
 | some o=>bif o.guard.isNone&&CD Γ.nt o.dst&&(o.op.operands.toList.map (Al s.env)).all Pz then some ⟨putA o.dst false true (ilR m s.objs.length ls r) s.env,s.objs++(Cs m s.objs.length r).2.map some⟩ else none
 | none=>none
def We (Γ:Cx) (c:Code) (i:Nat) (g m:Bool) (ls:List Nat) (r:AV) (s:St):Option St:=
 match (Bt c)[i]? with
 | some o=>bif o.guard.isSome&&CD Γ.nt o.dst then some ⟨putA o.dst true g (ilR m s.objs.length ls r) s.env,s.objs++(Cs m s.objs.length r).2.map some⟩ else none
 | none=>none
variable {Γ:Cx} {C:Code} {p p0 p1:List Nat} {Q:Ex->St->Prop} {s s':St} {K:St->Prop} {i:Nat} {nk:Nat}
theorem ZY {o:Oper} {f:FuncId} {args:Array Operand} {ts:Array TypeId} (hop:o.op=.call ⟨.value (.func f),args,ts⟩) {env:List (Nat×AV)} (h:(o.op.operands.toList.map (Al env)).all Pz=true):(args.toList.map (Al env)).all Pz=true:=by
 rw [hop] at h;simp only [Op.operands,Call.operands] at h;simp only [Array.toList_append,List.map_append,List.all_append,Jny] at h;exact h.2
theorem Jcu (j:Nat) (m:Bool) {f:FuncId} {xs ys:List AV} {ks:List Nat} {obl:List (Nat×Nat)} {r:AV} (hc:MW (nav p C) i s=some (f,xs,ks,obl)) (hob:Ie obl) (hxs:xs=ys) (hr:Γ.calls f ys r) (hf:ks=[]\/ML r) {ls:List Nat} (hls:L9 r=ls) (hn:RT Γ (nav p C) i m ls r s=some s') (hj:i+1=j) (hk:Ba Γ C p j K s'):Ba Γ C p i K s:=by
 subst hj;subst hxs;unfold Ba at hk ⊢;unfold MW at hc;unfold RT at hn;rw [Jct m _ r hls] at hn;split at hn
 ·rename_i o hi;rw [hi] at hc;simp only at hc;obtain ⟨hcc,hn⟩:=AO hn;simp only [Jny] at hcc;obtain ⟨⟨h1,h2⟩,h3⟩:=hcc;cases hn;rw [Dw hi];show AZ _ _ _ _ _ _;have hgN:o.guard=none:=by simpa using h1
  split at hc
  ·rename_i f' args ts hop;split at hc
   ·rename_i x ks' os hx;cases hc;obtain ⟨ob,e1,q1⟩:=Jcs hx hob;unfold AZ;rw [hgN];simp only [Cg,h2,Jng,cond_false];refine ⟨λ _=>.inl ?_,λ h=>by cases h⟩;unfold stepG;rw [hop];refine ⟨NH (ZY hop h3),?_⟩;unfold L6;rw [e1];refine ⟨λ _=>q1,m,r,λ _=>hr,?_,?_⟩
    ·rcases hf with rfl|hf
     ·trivial
     ·cases ks.isEmpty<;>first|trivial|exact hf
    ·rw [hgN];exact hk
   ·cases hc
  ·cases hc
 ·cases hn
theorem JkY {g:Bool} {gs:List Bool} (j:Nat) (m:Bool) {f:FuncId} {xs ys:List AV} {ks:List Nat} {obl:List (Nat×Nat)} {r:AV} (hg:gAt (nav p C) i s=some g) (hc:MW (nav p C) i s=some (f,xs,ks,obl)) (hob:Ie obl) (hxs:xs=ys) (hr:g=true->Γ.calls f ys r) (hf:ks=[]\/ML r) (hgs:Jv (nav p C) i s=gs) (hi:Ho g gs) {ls:List Nat} (hls:L9 r=ls) (hn:We Γ (nav p C) i g m ls r s=some s') (hj:i+1=j) (hk:Ba Γ C p j K s'):Ba Γ C p i K s:=by
 subst hj;subst hxs;unfold Ba at hk ⊢;unfold MW at hc;unfold gAt at hg;unfold Jv at hgs;unfold We at hn;rw [Jct m _ r hls] at hn;split at hn
 ·rename_i o hii;rw [hii] at hc hg hgs;simp only at hc hg hgs;obtain ⟨hcc,hn⟩:=AO hn;simp only [Jny] at hcc;obtain ⟨h1,h2⟩:=hcc;cases hn;rw [Dw hii];show AZ _ _ _ _ _ _;cases hgo:o.guard with
  | none=>rw [hgo] at h1;cases h1
  | some y=>
   rw [hgo] at hg;simp only at hg;split at hc
   ·rename_i f' args ts hop;split at hc
    ·rename_i x ks' os hx;cases hc;obtain ⟨ob,e1,q1⟩:=Jcs hx hob;unfold AZ;rw [hgo];simp only [hg,h2,Jng,cond_false];refine ⟨λ hgt=>.inl ?_,λ hgf=>⟨(Cs m s.objs.length r).1,(Cs m s.objs.length r).2,(λ hm=>by rw [hop] at hm;cases hm),?_⟩⟩
     ·unfold stepG;rw [hop];refine ⟨?_,?_⟩
      ·have:=TB (g:=g) (l:=o.op.operands.toList.map (Al s.env)) (by rw [hgs];exact hi);rw [hop] at this;simp only [Op.operands,Call.operands,Array.toList_append,List.map_append] at this;exact this
      ·unfold L6;rw [e1];refine ⟨λ _=>q1,m,r,hr,?_,?_⟩
       ·rcases hf with rfl|hf
        ·trivial
        ·cases ks.isEmpty<;>first|trivial|exact hf
       ·rw [hgo];exact hk
     ·subst hgf;exact hk
    ·cases hc
   ·cases hc
 ·cases hn
def Jcv (ty:Nat->Ty) (s:St):ResultVar->Option AV
 | .tmp t=>some (lkA s.env t)
 | .cell a t=>match lkA s.env a with
  | .ptr k off=>match obA s.objs k with
   | some (.box cells)=>bif (ty t).ok&&Nat.ble (off+(ty t).size) cells.length then CK cells off (ty t) else none
   | _=>none
  | _=>none
def TC (ty:Nat->Ty) (s:St):List ResultVar->Option (List AV)
 | []=>some []
 | r::rs=>match Jcv ty s r,TC ty s rs with
  | some v,some vs=>some (v::vs)
  | _,_=>none
theorem Jcw {ty:Nat->Ty} {r:ResultVar} {v:AV} (h:Jcv ty s r=some v):∃ q,JaN ty s r=some (v,q)/\q:=by
 cases r with
 | tmp t=>cases h;exact ⟨_,rfl,trivial⟩
 | cell a t=>
  simp only [Jcv] at h;split at h
  ·rename_i k off ha;split at h
   ·rename_i cells hc;obtain ⟨hb,h⟩:=AO h;simp only [Jny] at hb;refine ⟨_,?_,JnN hb.2⟩;simp only [JaN,hb.1,cond_true,ha,D7,hc,h,Bo]
   ·cases h
  ·cases h
theorem Wf {ty:Nat->Ty}:∀ {rs:List ResultVar} {vs:List AV},TC ty s rs=some vs->∃ q,Tp ty s rs=some (vs,q)/\q:=by
 intro rs;induction rs with
 | nil=>intro vs h;cases h;exact ⟨_,rfl,trivial⟩
 | cons r rs ih=>
  intro vs h;simp only [TC] at h;split at h
  ·rename_i v vs' h1 h2;cases h;obtain ⟨p1,e1,q1⟩:=Jcw h1;obtain ⟨p2,e2,q2⟩:=ih h2;exact ⟨p1/\p2,by simp only [Tp,e1,e2],q1,q2⟩
  ·cases h
theorem JkZ {ty:Nat->Ty} {rs:List ResultVar} {v r:AV} (ks:List Nat) (h:TC ty s rs=some [v]) (ho:Tf s.objs v r) (hks:ksE (NT v r)=ks) (hnd:ks.Nodup):XZ ty rs r s:=by
 have hn:(ksE (NT v r)).Nodup:=by rw [hks];exact hnd
 obtain ⟨q,e,hq⟩:=Wf h;unfold XZ;rw [e];exact ⟨hq,ho,hn⟩
theorem Jk0 {ty:Nat->Ty} {rs:List ResultVar} {vs l:List AV} (h:TC ty s rs=some vs) (hl:Nat.beq vs.length 1=false) (ho:Y2 s.objs vs l) (ks:List Nat) (hks:ksE (NU vs l)=ks) (hnd:ks.Nodup):XZ ty rs (.tup l) s:=by
 have hn:(ksE (NU vs l)).Nodup:=by rw [hks];exact hnd
 obtain ⟨q,e,hq⟩:=Wf h;unfold XZ;rw [e];split
 ·rename_i heq;simp only [JnI,Prod.mk.injEq] at heq;obtain ⟨rfl,_⟩:=heq;cases hl
 ·rename_i heq;simp only [JnI,Prod.mk.injEq] at heq;obtain ⟨rfl,rfl⟩:=heq;exact ⟨hq,ho,hn⟩
 ·rename_i heq;cases heq
theorem Zk {objs:List (Option Ob)} {x:D}:NS objs (.d x) (.d x):=by
 cases x<;>first|rfl|exact .inl rfl
theorem JaT {objs:List (Option Ob)}:NS objs (.d .nil) (.d (.sl [])):=.inr rfl
theorem JaU {objs:List (Option Ob)} {sz:Nat}:NS objs (.d .nil) (.own sz []):=rfl
theorem Jcx {α:Type} {enc:α->List D} {xs:List α} {objs:List (Option Ob)} {k sz:Nat} (h:obA objs k=some (.arr sz (xs.map enc))):NS objs (.osl k sz 0 xs.length) (.own sz (xs.map enc)):=by
 have hb:Nat.beq sz sz=true:=Nat.beq_refl sz;simp only [NS,h,hb,cond_true,Jnr,JnM,Jni,List.drop_zero,true_and];exact (List.take_of_length_le (by simp)).symm
def MX (c:Code) (i:Nat) (s:St):Option (FuncId×List AV×List Nat):=
 match (Bt c)[i]? with
 | some o=>match o.op with
  | .call ⟨.value (.func f),args,_⟩=>some (f,args.toList.map λ x=>unG (Al s.env x),AY s.objs (args.toList.map λ x=>unG (Al s.env x)))
  | _=>none
 | none=>none
def Vu (Γ:Cx) (c:Code) (i:Nat) (ord:List Nat) (nb:Nat) (r:AV) (O1:List (Option Ob)) (s:St):Option St:=
 match (Bt c)[i]? with
 | some o=>bif !Tv c&&o.guard.isNone&&CD Γ.nt o.dst&&(o.op.operands.toList.map (Al s.env)).all Pz&&Nat.ble nb ord.length&&Nat.ble nb O1.length&&ord.all (λ k=>Nat.blt k s.objs.length) then
   some ⟨putA o.dst false true (R7 (Dd ord s.objs.length nb) r) s.env,Gg s.objs ord nb O1⟩ else none
 | none=>none
theorem Jk1 {f:FuncId} {xs ys:List AV} {ord:List Nat} {O0 O1:List (Option Ob)} {nb:Nat} {r:AV} (hc:MX (nav p C) i s=some (f,xs,ord)) (hxs:xs.map (NQ ord)=ys) (hO:HH s.objs ord=O0) (hr:Γ.lent f ys O0 nb r O1) (hn:Vu Γ (nav p C) i ord nb r O1 s=some s') (hk:Ba Γ C p (i+1) K s'):Ba Γ C p i K s:=by
 subst hxs;subst hO;unfold Ba at hk ⊢;unfold MX at hc;unfold Vu at hn;split at hn
 ·rename_i o hi;rw [hi] at hc;simp only at hc;obtain ⟨hcc,hn⟩:=AO hn;simp only [Jny,Bool.not_eq_true'] at hcc;obtain ⟨⟨⟨⟨⟨⟨h0,h1⟩,h2⟩,h3⟩,h4⟩,h5⟩,h6⟩:=hcc;cases hn;rw [Dw hi];show AZ _ _ _ _ _ _;have hgN:o.guard=none:=by simpa using h1
  split at hc
  ·rename_i f' args ts hop;cases hc;unfold AZ;rw [hgN];simp only [Cg,h2,Jng,cond_false];refine ⟨λ _=>.inr (.inr ?_),λ h=>by cases h⟩;unfold ZK;refine ⟨h0,.inr ⟨hgN,.inr ?_⟩⟩;rw [hop];refine ⟨NH (ZY hop h3),nb,r,O1,hr,JnN h4,JnN h5,λ k hk=>?_,hk⟩;have:=Jnd.1 h6 k hk;have:=JnN this;omega
  ·cases hc
 ·cases hn
theorem Jk2 {P:Program} (hfol:P.follows .mixedOrders=true) (hΓ:Kv P Γ) (hrd:Γ.rd=false) {f:FuncId} {fn:Func} {args:List AV} {r:AV} (hf:P.funcs[f]? = some fn) (hb:fn.body=some (Az fn)) (hnm:(fn.name == "runtime.NumGoroutine")=false)
  (hnt:Γ.nt.n=fn.ntmps) (hlen:Nat.ble args.length fn.ntmps=true) (hs:(⟨(List.range args.length).zip args,[]⟩:St)=s) (h:wpA Γ (nav [] (Az fn)) (X0 Γ.ty fn.results.toList r) s):AL P f args r:=
 JaP hfol hΓ hrd hf hb hnm hnt (JnN hlen) (by rw [hs];exact h)
theorem JfN {P:Program} (hfol:P.follows .mixedOrders=true) (hΓ:Kv P Γ) (hrd:Γ.rd=false) {f:FuncId} {fn:Func} {args:List AV} {objs objs1:List (Option Ob)} {nb:Nat} {r:AV} (hf:P.funcs[f]? = some fn) (hb:fn.body=some (Az fn)) (hnm:(fn.name == "runtime.NumGoroutine")=false)
  (hnt:Γ.nt=⟨fn.ntmps,[],nb⟩) (hlen:Nat.ble args.length fn.ntmps=true)
  (hs:(⟨(List.range args.length).zip args,objs⟩:St)=s) (h:wpA Γ (nav [] (Az fn)) (Vp nb Γ.ty fn.results.toList r objs1) s):Ce P f args objs nb r objs1:=
 JaQ hfol hΓ hrd hf hb hnm hnt (JnN hlen) (by rw [hs];exact h)
theorem Jg6 (ts:List Nat) (h:gcA nk ts s=s'):AA nk s s':=by subst h;exact .gc ts
theorem JfO:AA nk s s:=.refl s
def GK (s:St) (k:Nat):List AV:=
 match obA s.objs k with
 | some (.box cells)=>cells
 | _=>[]
def Oj (s:St) (k:Nat):Bool:=
 match obA s.objs k with
 | some (.box _)=>true
 | _=>false
theorem MY {k:Nat} (h:Oj s k=true):obA s.objs k=some (.box (GK s k)):=by
 unfold Oj at h;unfold GK;split at h
 ·rename_i hh;rw [hh]
 ·cases h
theorem BO (k i sz:Nat) (h:(Oj s k,(GK s k)[i]?)=(true,some (.d .nil))):AA nk s ⟨s.env,s.objs.set k (some (.box ((GK s k).set i (.osl s.objs.length sz 0 0))))++[some (.arr sz [])]⟩:=by
 simp only [Prod.mk.injEq] at h;exact .nilc k i sz _ (MY h.1) h.2
def TD (s:St):AV->Option (Nat×Nat×Nat×Nat×List (List D))
 | .osl k sz lo n=>match obA s.objs k with
  | some (.arr sz' es)=>bif Nat.beq sz sz' then some (k,sz,lo,n,es) else none
  | _=>none
 | _=>none
theorem TE {v:AV} {k sz lo n:Nat} {es:List (List D)} (h:TD s v=some (k,sz,lo,n,es)):v=.osl k sz lo n/\obA s.objs k=some (.arr sz es):=by
 unfold TD at h;split at h
 ·split at h
  ·rename_i hob;obtain ⟨hb,h1⟩:=AO h;clear h;have h:=h1;have:=JnE hb;subst this;simp only [JnI,Prod.mk.injEq] at h;obtain ⟨rfl,rfl,rfl,rfl,rfl⟩:=h;exact ⟨rfl,hob⟩
  ·cases h
 ·cases h
theorem JhI (t:Nat) (E:List (List D)) {k sz lo n:Nat} {es:List (List D)} (h:TD s (lkA s.env t)=some (k,sz,lo,n,es)) (hE:(es.drop lo).take n=E) (hn:lo+n<=es.length):AA nk s ⟨(t,.d (.sl E))::s.env,s.objs.set k none⟩:=by
 subst hE;obtain ⟨h1,h2⟩:=TE h;exact .frzA t k sz lo n es h1 h2 hn
theorem JfP (kb i:Nat) (E:List (List D)) {k sz lo n:Nat} {es:List (List D)} (h:(Oj s kb,((GK s kb)[i]?).bind (TD s))=(true,some (k,sz,lo,n,es))) (hE:(es.drop lo).take n=E) (hn:lo+n<=es.length):AA nk s ⟨s.env,(s.objs.set k none).set kb (some (.box ((GK s kb).set i (.d (.sl E)))))⟩:=by
 subst hE;simp only [Prod.mk.injEq,Option.bind_eq_some_iff] at h;obtain ⟨h0,v,hv,h⟩:=h;obtain ⟨h1,h2⟩:=TE h;subst h1;exact .frzC kb i k sz lo n _ es (MY h0) hv h2 hn
theorem JfQ (kb i:Nat) (E:List (List D)) (M:Nat) {k sz lo n:Nat} {es:List (List D)} (h:(Oj s kb,((GK s kb)[i]?).bind (TD s))=(true,some (k,sz,lo,n,es))) (hE:(es.drop lo).take n=E) (hn:lo+n<=es.length) (hM:n=M):AA nk s ⟨s.env,(s.objs.set k none).set kb (some (.box ((GK s kb).set i (.osl s.objs.length sz 0 M))))++[some (.arr sz E)]⟩:=by
 subst hE;subst hM;simp only [Prod.mk.injEq,Option.bind_eq_some_iff] at h;obtain ⟨h0,v,hv,h⟩:=h;obtain ⟨h1,h2⟩:=TE h;subst h1;exact .subC kb i k sz lo n _ es (MY h0) hv h2 hn
theorem JhJ (t k sz lo n m:Nat) (h:lkA s.env t=.osl k sz lo n) (e:n=m):AA nk s ⟨(t,.osl k sz lo m)::s.env,s.objs⟩:=by
 subst e;have:=AA.dup (nk:=nk) (st:=s) t;rwa [h] at this
theorem PD {α:Type} {enc:α->List D} {xs:List α}:((xs.map enc).drop 0).take xs.length=xs.map enc:=by
 rw [List.drop_zero];exact List.take_of_length_le (by simp)
theorem TF {α:Type} {enc:α->List D} {xs:List α}:AV.d (.sl (((xs.map enc).drop 0).take xs.length))=AV.d (.sl (xs.map enc)):=by rw [PD]
theorem D9 {a b:AV} {l m:List AV} (h:a=b) (h':l=m):a::l=b::m:=by rw [h,h']
theorem Jk3 {l m:List AV} (h:l=m):AV.agg l=AV.agg m:=by rw [h]
def PE (Γ:Cx) (c:Code) (i:Nat) (s:St):Option (List (List D)):=
 match (Bt c)[i]? with
 | some o=>opF Γ.ty (λ x=>unG (Al s.env x)) o.op
 | none=>none
def ZZ (Γ:Cx) (c:Code) (i:Nat) (es:List (List D)) (s:St):Option St:=
 match (Bt c)[i]? with
 | some o=>bif o.guard.isNone&&CD Γ.nt o.dst&&(o.op.operands.toList.map (Al s.env)).all Pz then some ⟨putA o.dst false true (.d (.sl es)) s.env,s.objs⟩ else none
 | none=>none
theorem Jk4 (j:Nat) (es:List (List D)) (hx:PE Γ (nav p C) i s=some es) (hn:ZZ Γ (nav p C) i es s=some s') (hj:i+1=j) (hk:Ba Γ C p j K s'):Ba Γ C p i K s:=by
 subst hj;unfold Ba at hk ⊢;unfold PE at hx;unfold ZZ at hn;split at hn
 ·rename_i o hi;rw [hi] at hx;simp only at hx;obtain ⟨hc,hn⟩:=AO hn;simp only [Jny] at hc;obtain ⟨⟨h1,h2⟩,h3⟩:=hc;cases hn;rw [Dw hi];show AZ _ _ _ _ _ _;have hgN:o.guard=none:=by simpa using h1
  unfold AZ;rw [hgN];simp only [Cg,h2,Jng,cond_false];refine ⟨λ _=>.inr (.inl ?_),λ h=>by cases h⟩;unfold GI;rw [hx];refine ⟨NH h3,?_⟩;rw [hgN];exact hk
 ·cases hn
def Jcy (Γ:Cx) (c:Code) (i:Nat) (s:St):Option (AV×List Ob):=
 match (Bt c)[i]? with
 | some o=>bif Zi Γ.ty (λ x=>unG (Al s.env x)) s.objs o.op then (match opA Γ.ty (λ x=>unG (Al s.env x)) s.objs o.op with
  | some ⟨v,obs,[],none,_⟩=>some (v,obs)
  | _=>none) else none
 | none=>none
theorem Jk5 {v:AV} {obs:List Ob} (h:Jcy Γ (nav p C) i s=some (v,obs)):F9 (PA Γ (nav p C) i s) v obs [] none:=by
 unfold Jcy at h;unfold PA;split at h
 ·rename_i o hi
  try rw [hi]
  obtain ⟨hb,h⟩:=AO h;split at h
  ·rename_i he;cases h;exact ⟨_,he,Tz hb he⟩
  ·cases h
 ·cases h
theorem BA {α:Type} {g:Bool} {x y:Option α} {z:α} (h:(if g=true then x else y)=some z):g=true->x=some z:=λ e=>by rw [if_pos e] at h;exact h
end Go.AI
end
section
namespace Go.AI
def Af (n:Int):List D:=[.int .i64 n]
def eU8 (n:Int):List D:=[.int .u8 n]
def eB (b:Bool):List D:=[.bool b]
def eS (s:List UInt8):List D:=[.str s]
def eL {α:Type} (e:α->List D) (l:List α):List D:=[.sl (l.map e)]
variable {α κ:Type} {enc:α->List D} {objs:List (Option Ob)}
theorem F9.of {x:Option Eff} {v:AV} {obs:List Ob} {rm:List Nat} {upd:Option (Nat×Ob)} {ob:Prop} (h:x=some ⟨v,obs,rm,upd,ob⟩) (ho:ob):F9 x v obs rm upd:=⟨ob,h,ho⟩
theorem Wg {xs:List α} {i:Int} {x:α} (h:idx xs i=some x):(xs.map enc)[i.toNat]? = some (enc x):=by
 rw [JnB,(EV h).2.2];rfl
theorem JfR {xs:List α} {i:Int} {x:α} {esz eb:Nat} {ez:List D} (h:idx xs i=some x) (hl:Nat.beq (enc x).length esz=true):F9 (UB (.slice esz eb ez) (.d (.sl (xs.map enc))) i) (.dptr (enc x) 0) [] [] none:=by
 obtain ⟨h0,h1,_⟩:=EV h;refine .of (ob:=0<=i/\i<(xs.map enc).length/\(enc x).length=esz) ?_ ⟨h0,by simpa using h1,JnE hl⟩;simp only [UB,Bo,Wg (enc:=enc) h,Jne]
theorem JfS {xs:List α} {i:Int} {x:α} {esz eb k:Nat} {ez:List D} (h:idx xs i=some x):F9 (UB (.slice esz eb ez) (.osl k esz 0 xs.length) i) (.eptr k esz (0+i.toNat) 0) [] [] none:=by
 obtain ⟨h0,h1,_⟩:=EV h;exact .of rfl ⟨h0,h1,rfl⟩
theorem JhK {xs:List α} {i:Int} {x:α} {k sz off:Nat} {t:Ty} {v:AV} (hk:obA objs k=some (.arr sz (xs.map enc))) (h:idx xs i=some x) (hv:CK ((enc x).map .d) off t=some v) (hl:Nat.ble (off+t.size) (enc x).length=true) :
  F9 (D7 t objs (.eptr k sz (0+i.toNat) off)) v [] [] none:=by
 obtain ⟨h0,h1,_⟩:=EV h;have e:=Wg (enc:=enc) h;refine .of (ob:=sz=sz/\0+i.toNat<(xs.map enc).length/\off+t.size<=(enc x).length) ?_ ⟨rfl,?_,JnN hl⟩
 ·simp only [D7,hk,JnM,e,Jne,hv,Bo]
 ·have:=Ag e;omega
theorem JhL {xs zs:List α} {i:Int} {x y:α} {k sz off:Nat} {t:Ty} {v:AV} {r:List D} {ks:List Nat} {obl:List (Nat×Nat)} (hk:obA objs k=some (.arr sz (xs.map enc))) (h:idx xs i=some x) (hz:put xs i y=some zs) (hx:xDs objs (Ar v)=some (r,ks,obl)) (hob:Ie obl)
  (hc:(BW v&&(Ar v).all Fr&&!ks.contains k)=true) (hy:GH (enc x) off r=enc y) (hl:(Nat.beq r.length t.size&&Nat.ble (off+t.size) sz)=true) :
  F9 (Fy t objs (.eptr k sz (0+i.toNat) off) v) .top [] ks (some (k,.arr sz (zs.map enc))):=by
 obtain ⟨h0,h1,_⟩:=EV h;have e:=Wg (enc:=enc) h;obtain ⟨ob,e1,q1⟩:=QI hx hob;simp only [Jny] at hl;have hzz:zs=xs.set i.toNat y:=by
  unfold put at hz;split at hz
  ·cases hz;rfl
  ·cases hz
 refine .of (ob:=sz=sz/\r.length=t.size/\0+i.toNat<(xs.map enc).length/\off+t.size<=sz/\ob) ?_ ⟨rfl,JnE hl.1,?_,JnN hl.2,q1⟩
 ·simp only [Fy,hk,e1,hc,cond_true,JnM,e,Jne,hy,hzz,List.map_set]
 ·have:=Ag e;omega
theorem JhM {xs ys zs:List α} {eb:Nat} (h:app eb xs ys=some zs):(xs.length+(ys.map enc).length)*eb<=70368744177664/\xs.length+(ys.map enc).length=zs.length/\zs=xs++ys:=by
 obtain ⟨h1,h2⟩:=Tu h;subst h2;exact ⟨by simpa using h1,by simp,rfl⟩
theorem Jcz {xs ys zs:List α} {esz eb k:Nat} {E:List (List D)} {ob:Prop} (hk:obA objs k=some (.arr esz (xs.map enc))) (hE:E=ys.map enc) (hl:∀ y,(enc y).length=esz) (ho:ob) (h:app eb xs ys=some zs) :
  F9 (CV esz eb objs (.osl k esz 0 xs.length) E ob) (.osl objs.length esz 0 zs.length) [.arr esz (zs.map enc)] [k] none:=by
 subst hE;obtain ⟨h1,h2,h3⟩:=JhM (enc:=enc) h;subst h3;have hb:Nat.beq esz esz=true:=Nat.beq_refl esz;refine .of (ob:=0+xs.length<=(xs.map enc).length/\(∀ e∈ys.map enc,e.length=esz)/\(xs.length+(ys.map enc).length)*eb<=70368744177664/\ob) ?_ ⟨by simp,?_,h1,ho⟩
 ·simp only [CV,hk,hb,Bool.true_or,Bool.and_self,cond_true,List.drop_zero,h2];have e1:List.take xs.length (xs.map enc)=List.map enc xs:=List.take_of_length_le (by simp);simp only [e1,List.map_append]
 ·intro e he;simp only [Jno] at he;obtain ⟨y,_,rfl⟩:=he;exact hl y
theorem JhN {x y z:List UInt8} (h:cat x y=some z):F9 (W8 .add x y) (.d (.str z)) [] [] none:=by
 unfold cat at h;split at h
 ·rename_i h0;cases h;exact .of rfl (by show ((x.length+y.length:Nat):Int)<=9223372036854775807;omega)
 ·cases h
theorem JfT {s:List UInt8} {i b:Int} (h:NW s i=some b):F9 (Bo (.d (.int .u8 (s[i.toNat]?.getD 0).toNat)) (0<=i/\i<s.length)) (.d (.int .u8 b)) [] [] none:=by
 unfold NW at h;split at h
 ·rename_i h0;cases h;exact .of rfl h0
 ·cases h
theorem JfU {s z:List UInt8} {l h:Int} (hz:sub s l h=some z):F9 (Bo (.d (.str ((s.take h.toNat).drop l.toNat))) (0<=l/\l<=h/\h<=s.length)) (.d (.str z)) [] [] none:=by
 unfold sub at hz;split at hz
 ·rename_i h0;cases hz;exact .of rfl h0
 ·cases hz
theorem JhO {xs zs:List α} {l h:Int} {esz:Nat} (hz:sub xs l h=some zs) (hl:∀ y,(enc y).length=esz):F9 (Bo (.d (.sl (((xs.map enc).take h.toNat).drop l.toNat))) (0<=l/\l<=h/\h<=(xs.map enc).length/\∀ e∈xs.map enc,e.length=esz)) (.d (.sl (zs.map enc))) [] [] none:=by
 unfold sub at hz;split at hz
 ·rename_i h0;cases hz;refine .of (ob:=0<=l/\l<=h/\h<=(xs.map enc).length/\∀ e∈xs.map enc,e.length=esz) ?_ ⟨h0.1,h0.2.1,by simpa using h0.2.2,?_⟩
  ·simp only [Bo,List.map_drop,List.map_take]
  ·intro e he;simp only [Jno] at he;obtain ⟨y,_,rfl⟩:=he;exact hl y
 ·cases hz
theorem Jk6 {zs:List α} {n:Int} {z:α} {esz eb:Nat} {ez:List D} (h:mkl eb n z=some zs) (he:enc z=ez):F9 (some ⟨.osl objs.length esz 0 n.toNat,[.arr esz (List.replicate n.toNat ez)],[],none,0<=n/\n=n/\n.toNat*eb<=70368744177664⟩) (.osl objs.length esz 0 zs.length) [.arr esz (zs.map enc)] [] none:=by
 unfold mkl at h;split at h
 ·rename_i h0;cases h;refine .of (ob:=0<=n/\n=n/\n.toNat*eb<=70368744177664) ?_ ⟨h0.1,rfl,h0.2⟩;simp [he]
 ·cases h
theorem JhP {xs:List α} {esz eb:Nat} {ez:List D}:F9 (YH (.slice esz eb ez) (.d (.sl (xs.map enc)))) (.d (.int .i64 xs.length)) [] [] none:=by
 refine .of (ob:=True) ?_ trivial;simp only [YH,val,Jnr]
theorem JhQ {xs zs:List α} {l h:Int} {esz eb k:Nat} {ez:List D} (hz:sub xs l h=some zs):F9 (Bo (.osl k esz (0+l.toNat) (h.toNat-l.toNat)) (0<=l/\l<=h/\h<=(xs.length:Int)/\esz=esz)) (.osl k esz (0+l.toNat) (h.toNat-l.toNat)) [] [] none:=by
 unfold sub at hz;split at hz
 ·rename_i h0;exact .of rfl ⟨h0.1,h0.2.1,h0.2.2,rfl⟩
 ·cases hz
theorem JfV {xs zs:List α} {l h:Int} (hz:sub xs l h=some zs):((xs.map enc).drop (0+l.toNat)).take (h.toNat-l.toNat)=zs.map enc:=by
 unfold sub at hz;split at hz
 ·cases hz;rw [JnM,List.map_drop,List.map_take,List.take_drop];by_cases hh:l.toNat<=h.toNat
  ·rw [Nat.add_sub_cancel' hh]
  ·rename_i h0;omega
 ·cases hz
theorem JhR {xs zs:List α} {l h:Int} (hz:sub xs l h=some zs):(0+l.toNat)+(h.toNat-l.toNat)<=(xs.map enc).length:=by
 unfold sub at hz;split at hz
 ·rename_i h0;simp;omega
 ·cases hz
theorem JfW {xs zs:List α} {l h:Int} (hz:sub xs l h=some zs):h.toNat-l.toNat=zs.length:=by
 unfold sub at hz;split at hz
 ·rename_i h0;cases hz;simp;omega
 ·cases hz
theorem Bb {xs zs:List α} {i:Int} {y:α} (hz:put xs i y=some zs):xs.length=zs.length:=by
 unfold put at hz;split at hz
 ·cases hz;simp
 ·cases hz
theorem SD {b:Bool} {u:Unit} (h:Bu b=some u):b=true:=by
 unfold Bu at h;split at h
 ·assumption
 ·cases h
theorem MZ {b:Int} {u:Unit} (h:Bu (!(b==0))=some u):b≠0:=by
 have:=SD h;simpa using this
theorem IL {b:Int} {u:Unit} (h:Bu (decide (0<=b))=some u):0<=b:=by
 have:=SD h;simpa using this
theorem Jg7 {v:AV} {ob:Prop} (h:ob):F9 (Bo v ob) v [] [] none:=.of rfl h
theorem JcA {t x y:Bool}:F9 (Ic (.d (.bool t)) (.gv t (.d (.bool x))) (.d (.bool y))) (.d (.bool (bif t then x else y))) [] [] none:=.of rfl ⟨trivial,λ h=>h,trivial⟩
theorem JfX {t x y:Bool}:F9 (Ic (.d (.bool t)) (.d (.bool x)) (.gv (!t) (.d (.bool y)))) (.d (.bool (bif t then x else y))) [] [] none:=.of rfl ⟨trivial,trivial,λ h=>h⟩
theorem JcB {c a b:AV} {t x y:Bool} {r q q':Prop} (hc:W9 c=some (t,r)) (ha:unP t a=some (x,q)) (hb:unP (!t) b=some (y,q')) (hr:r) (hq:q) (hq':q'):F9 (Ic c a b) (.d (.bool (bif t then x else y))) [] [] none:=by
 refine .of (ob:=r/\q/\q') ?_ ⟨hr,hq,hq'⟩;simp only [Ic,hc,ha,hb,Bo]
variable {encK:κ->List D} [DecidableEq κ]
def Fe (encK:κ->List D) (enc:α->List D) (m:List (κ×α)):List (List D×List D):=m.map λ p=>(encK p.1,enc p.2)
theorem Jg8 {ks:List TK} (heq:∀ a b,A3 ks ((encK a).map .d) ((encK b).map .d)=some (decide (a=b))) (k:κ) (m:List (κ×α)):SP ks (encK k) (Fe encK enc m)=(G0 k m).map enc:=by
 induction m with
 | nil=>rfl
 | cons p m ih=>
  have:eqK ks (encK k) (encK p.1)=decide (k=p.1):=by simp only [eqK,heq,Jne]
  simp only [Fe,Jns,SP,this,G0];by_cases h:k=p.1
  ·simp only [h,decide_true,cond_true,if_true,Option.map_some]
  ·simp only [h,decide_false,cond_false,if_false];exact ih
theorem Jk7 {ks:List TK} (heq:∀ a b,A3 ks ((encK a).map .d) ((encK b).map .d)=some (decide (a=b))) (k:κ) (v:α) (m:List (κ×α)):UC ks (encK k) (enc v) (Fe encK enc m)=Fe encK enc (MU k v m):=by
 induction m with
 | nil=>rfl
 | cons p m ih=>
  have:eqK ks (encK k) (encK p.1)=decide (k=p.1):=by simp only [eqK,heq,Jne]
  simp only [Fe,Jns,UC,this,MU];by_cases h:k=p.1
  ·simp only [h,decide_true,cond_true,if_true,Jns]
  ·simp only [h,decide_false,cond_false,if_false,Jns];congr 1
theorem JcC {ks:List TK} (heq:∀ a b,A3 ks ((encK a).map .d) ((encK b).map .d)=some (decide (a=b))) (k:κ) (m:List (κ×α)):Qy ks (encK k) (Fe encK enc m):=by
 refine ⟨by rw [heq];rfl,λ p hp=>?_⟩;simp only [Fe,Jno] at hp;obtain ⟨q,_,rfl⟩:=hp;simp only [heq,Option.isSome_some]
theorem JcD {ks:List TK} {k:Nat} {m:List (κ×α)} {key:κ} {l:List AV} {z:α} {vz:List D} {e1:α->D} (heq:∀ a b,A3 ks ((encK a).map .d) ((encK b).map .d)=some (decide (a=b))) (he:∀ x,enc x=[e1 x]) (hz:vz=[e1 z]) (hk:obA objs k=some (.map true false (Fe encK enc m))) (hx:xDs objs l=some (encK key,[],[])) (ok:Bool) :
  F9 (MK (.map ks true false vz) objs (.mp k) (.agg l) ok) (bif ok then .tup [.d (e1 ((G0 key m).getD z)),.d (.bool (G0 key m).isSome)] else .d (e1 ((G0 key m).getD z))) [] [] none:=by
 obtain ⟨ob,e2,q⟩:=QI hx leZ;have hv:kvV false ((SP ks (encK key) (Fe encK enc m)).getD vz)=.d (e1 ((G0 key m).getD z)):=by
  rw [Jg8 heq,hz];cases G0 key m with
  | none=>rfl
  | some x=>simp only [Option.map_some,Jne,he];rfl
 have hs:(SP ks (encK key) (Fe encK enc m)).isSome=(G0 key m).isSome:=by rw [Jg8 heq];cases G0 key m<;>rfl
 refine .of (ob:=ob/\Qy ks (encK key) (Fe encK enc m)) ?_ ⟨q,JcC heq key m⟩;simp only [MK,hk,kvA,cond_true,e2,List.isEmpty_nil,beq_self_eq_true,Bool.and_self,Bo,hv,hs]
theorem JfY {ks:List TK} {k:Nat} {m:List (κ×α)} {key:κ} {l:List AV} {v:AV} {y:α} {vz:List D} {e1:α->D} (heq:∀ a b,A3 ks ((encK a).map .d) ((encK b).map .d)=some (decide (a=b))) (he:∀ x,enc x=[e1 x]) (hz:Nat.beq vz.length 1=true) (hk:obA objs k=some (.map true false (Fe encK enc m))) (hx:xDs objs l=some (encK key,[],[])) (hv:v=.d (e1 y)) (hvx:xDs objs [v]=some (enc y,[],[])) :
  F9 (L5 (.map ks true false vz) objs (.mp k) (.agg l) v) .top [] [] (some (k,.map true false (Fe encK enc (MU key y m)))):=by
 obtain ⟨ob,e2,q⟩:=QI hx leZ;obtain ⟨ob',e3,q'⟩:=QI hvx leZ;have hkv:kvA objs false v=some ⟨enc y,[],ob'⟩:=by subst hv;exact e3
 refine .of (ob:=ob/\ob'/\Qy ks (encK key) (Fe encK enc m)/\k ∉ ([]:List Nat)/\(enc y).length=vz.length) ?_ ⟨q,q',JcC heq key m,by simp,by rw [he,JnE hz];rfl⟩;simp only [L5,hk,kvA,cond_true,e2];simp only [kvA] at hkv;rw [hkv];simp only [Jk7 heq];rfl
end Go.AI
end
section
namespace Go.AI
variable {Γ:Cx} {C:Code} {p p0 p1:List Nat} {Q:Ex->St->Prop} {s s':St} {K:St->Prop} {i:Nat} {nk:Nat}
variable {α β:Type} {enc:β->List D} {encN:α->List AV} {objs:List (Option Ob)}
def nL {γ:Type} (sz:Nat) (e:γ->List D) (l:List γ):List AV:=[.own sz (l.map e)]
def OM (Γ:Cx) (c:Code) (i:Nat) (s:St):Option (Nat×List (List D)):=
 match (Bt c)[i]? with
 | some o=>opK Γ.ty (λ x=>unG (Al s.env x)) o.op
 | none=>none
def Z0 (Γ:Cx) (c:Code) (i:Nat) (obj:Bool) (esz:Nat) (es:List (List D)) (s:St):Option St:=
 match (Bt c)[i]? with
 | some o=>bif !Tv c&&o.guard.isNone&&CD Γ.nt o.dst&&(o.op.operands.toList.map (Al s.env)).all Pz then (bif obj then some ⟨putA o.dst false true (.osl s.objs.length esz 0 es.length) s.env,s.objs++[some (.arr esz es)]⟩ else some ⟨putA o.dst false true (.d (.sl es)) s.env,s.objs⟩) else none
 | none=>none
theorem Jk8 (j:Nat) (obj:Bool) {esz:Nat} (es:List (List D)) (hx:OM Γ (nav p C) i s=some (esz,es)) (hn:Z0 Γ (nav p C) i obj esz es s=some s') (hj:i+1=j) (hk:Ba Γ C p j K s'):Ba Γ C p i K s:=by
 subst hj;unfold Ba at hk ⊢;unfold OM at hx;unfold Z0 at hn;split at hn
 ·rename_i o hi;rw [hi] at hx;simp only at hx;obtain ⟨hc,hn⟩:=AO hn;simp only [Jny,Bool.not_eq_true'] at hc;obtain ⟨⟨⟨h0,h1⟩,h2⟩,h3⟩:=hc;rw [Dw hi];show AZ _ _ _ _ _ _;have hgN:o.guard=none:=by simpa using h1
  unfold AZ;rw [hgN];simp only [Cg,h2,Jng,cond_false];refine ⟨λ _=>.inr (.inr ⟨h0,.inr ⟨hgN,.inl ?_⟩⟩),λ h=>by cases h⟩;rw [hx];refine ⟨NH h3,?_⟩;cases obj with
  | true=>rw [cond_true] at hn;cases hn;exact .inr hk
  | false=>rw [cond_false] at hn;cases hn;exact .inl hk
 ·cases hn
def PF (s:St) (k:Nat):Option (Nat×List (List D)):=
 match obA s.objs k with
 | some (.arr sz es)=>some (sz,es)
 | _=>none
def DW (s:St) (k:Nat):Option (Nat×List (List AV)):=
 match obA s.objs k with
 | some (.narr sz es)=>some (sz,es)
 | _=>none
theorem M0 {k sz:Nat} {es:List (List D)} (h:PF s k=some (sz,es)):obA s.objs k=some (.arr sz es):=by
 unfold PF at h;split at h
 ·rename_i hh;cases h;exact hh
 ·cases h
theorem Dx {k sz:Nat} {es:List (List AV)} (h:DW s k=some (sz,es)):obA s.objs k=some (.narr sz es):=by
 unfold DW at h;split at h
 ·rename_i hh;cases h;exact hh
 ·cases h
def JhS:AV->AV->Bool
 | .own 0 [],.own _ []=>true
 | _,_=>false
def TG:List AV->List AV->Bool
 | [],[]=>true
 | a::l,b::m=>JhS a b&&TG l m
 | _,_=>false
def Wh:List (List AV)->List (List AV)->Bool
 | [],[]=>true
 | a::l,b::m=>TG a b&&Wh l m
 | _,_=>false
theorem JfZ {a b:AV} (h:JhS a b=true):a=.own 0 []/\∃ s,b=.own s []:=by
 unfold JhS at h;split at h
 ·exact ⟨rfl,_,rfl⟩
 ·cases h
theorem TH:∀ {l m:List AV},TG l m=true->l.length=m.length/\∀ (j:Nat) (a a':AV),l[j]? = some a->m[j]? = some a'->a=a'\/(a=.own 0 []/\∃ s,a'=.own s []):=by
 intro l;induction l with
 | nil=>intro m h;cases m with|nil=>exact ⟨rfl,λ j a a' h=>by simp at h⟩|cons=>cases h
 | cons a l ih=>
  intro m h;cases m with
  | nil=>cases h
  | cons b m=>
   simp only [TG,Jny] at h;obtain ⟨h1,h2⟩:=ih h.2;refine ⟨by simp [h1],λ j x y hx hy=>?_⟩;cases j with
   | zero=>simp at hx hy;subst hx;subst hy;exact .inr (JfZ h.1)
   | succ j=>exact h2 j x y (by simpa using hx) (by simpa using hy)
theorem JaV:∀ {l m:List (List AV)},Wh l m=true->l.length=m.length/\∀ (i:Nat) (e e':List AV),l[i]? = some e->m[i]? = some e'->e.length=e'.length/\∀ (j:Nat) (a a':AV),e[j]? = some a->e'[j]? = some a'->a=a'\/(a=.own 0 []/\∃ s,a'=.own s []):=by
 intro l;induction l with
 | nil=>intro m h;cases m with|nil=>exact ⟨rfl,λ j a a' h=>by simp at h⟩|cons=>cases h
 | cons a l ih=>
  intro m h;cases m with
  | nil=>cases h
  | cons b m=>
   simp only [Wh,Jny] at h;obtain ⟨h1,h2⟩:=ih h.2;refine ⟨by simp [h1],λ j x y hx hy=>?_⟩;cases j with
   | zero=>simp at hx hy;subst hx;subst hy;exact TH h.1
   | succ j=>exact h2 j x y (by simpa using hx) (by simpa using hy)
theorem JcE (k:Nat) (E:List (List AV)) {sz:Nat} {es:List (List D)} (h:PF s k=some (sz,es)) (hb:Wh (es.map λ e=>e.map toN) E=true):AA nk s ⟨s.env,s.objs.set k (some (.narr sz E))⟩:=by
 have ho:=M0 h;obtain ⟨h1,h2⟩:=JaV hb;have a:=AA.toN (nk:=nk) (st:=s) k sz es ho;have b:=AA.reown (nk:=nk) (st:=⟨s.env,s.objs.set k (some (.narr sz (es.map λ e=>e.map toN)))⟩) k sz (es.map λ e=>e.map toN) E (AQ ho) h1 h2;have:=AA.trans a b;simpa using this
theorem JhT (k:Nat) {sz:Nat} {xss yss:List α} {row:List AV} {y:α} (h:DW s k=some (sz,xss.map encN++[row])) (hy:yss=xss++[y]) (hb:TG row (encN y)=true):AA nk s ⟨s.env,s.objs.set k (some (.narr sz (yss.map encN)))⟩:=by
 have ho:=Dx h;subst hy;refine AA.reown k sz _ _ ho (by simp) λ i e e' hi hi'=>?_;rw [List.map_append] at hi';by_cases hlt:i<(xss.map encN).length
 ·rw [JnF hlt] at hi hi';rw [hi] at hi';cases hi';exact ⟨rfl,λ j a a' ha ha'=>.inl (by rw [ha] at ha';exact Option.some.inj ha')⟩
 ·rw [JnQ (by omega)] at hi hi';have:i-(xss.map encN).length=0:=by have:=Ag hi;simp at this;simp at *;omega
  rw [this] at hi hi';simp at hi hi';subst hi;subst hi';exact TH hb
theorem Jf0 {eb:Nat} {xss yss:List α} {y:α} (h:app eb xss [y]=some yss):yss=xss++[y]:=(Tu h).2
theorem Jf1 {xss yss:List α} {y:α} {esz eb k:Nat} {e:List D} {ob:Prop} (hk:obA objs k=some (.narr esz (xss.map encN))) (hl:Nat.beq e.length esz=true) (ho:ob) (h:app eb xss [y]=some yss) :
  F9 (CV esz eb objs (.osl k esz 0 xss.length) [e] ob) (.osl objs.length esz 0 yss.length) [.narr esz (xss.map encN++[e.map toN])] [k] none:=by
 obtain ⟨h1,h2⟩:=Tu h;subst h2;have hb:Nat.beq esz esz=true:=Nat.beq_refl esz;have h0:Nat.beq 0 0=true:=rfl;refine .of (ob:=xss.length<=(xss.map encN).length/\(∀ e'∈[e],e'.length=esz)/\(xss.length+[e].length)*eb<=70368744177664/\ob) ?_ ⟨by simp,?_,by simpa using h1,ho⟩
 ·simp only [CV,hk,hb,h0,Bool.and_self,cond_true];have e1:List.take xss.length (xss.map encN)=List.map encN xss:=List.take_of_length_le (by simp);simp [e1]
 ·intro e' he;simp at he;subst he;exact JnE hl
theorem JhU {xss:List α} {x:α} {row:List AV} {n:Int} {k sz off:Nat} {t:Ty} {v:AV} (hk:obA objs k=some (.narr sz ((xss.map encN).set n.toNat row))) (h:idx xss n=some x) (hv:CK row off t=some v) (hs:(Ar v).all Fr=true) (hl:Nat.ble (off+t.size) row.length=true) :
  F9 (D7 t objs (.eptr k sz (0+n.toNat) off)) v [] [] none:=by
 obtain ⟨h0,h1,_⟩:=EV h;have hlt:n.toNat<(xss.map encN).length:=by simp;omega
 have hi:((xss.map encN).set n.toNat row)[n.toNat]? = some row:=JnJ hlt;refine .of (ob:=sz=sz/\0+n.toNat<((xss.map encN).set n.toNat row).length/\off+t.size<=row.length/\(Ar v).all Fr=true) ?_ ⟨rfl,?_,JnN hl,hs⟩
 ·simp only [D7,hk,JnM,hi,Jne,hv,Bo]
 ·simp only [JnP,JnM];exact hlt
theorem JhV {xss:List α} {x:α} {row row':List AV} {n:Int} {k sz off:Nat} {t:Ty} {v:AV} (hk:obA objs k=some (.narr sz ((xss.map encN).set n.toNat row))) (h:idx xss n=some x) (hc:(BW v&&(Ar v).all Fr)=true) (hy:splice row off (Ar v)=row') (hl:(Nat.beq (Ar v).length t.size&&Nat.ble (off+t.size) sz)=true) :
  F9 (Fy t objs (.eptr k sz (0+n.toNat) off) v) .top [] [] (some (k,.narr sz ((xss.map encN).set n.toNat row'))):=by
 obtain ⟨h0,h1,_⟩:=EV h;have hlt:n.toNat<(xss.map encN).length:=by simp;omega
 have hi:((xss.map encN).set n.toNat row)[n.toNat]? = some row:=JnJ hlt;simp only [Jny] at hl;refine .of (ob:=sz=sz/\(Ar v).length=t.size/\0+n.toNat<((xss.map encN).set n.toNat row).length/\off+t.size<=sz) ?_ ⟨rfl,JnE hl.1,?_,JnN hl.2⟩
 ·simp only [Fy,hk,hc,cond_true,JnM,hi,Jne,hy,List.set_set]
 ·simp only [JnP,JnM];exact hlt
theorem Z1 (t:Nat) {k sz:Nat} {xss:List α} {encD:α->List D} (h:(lkA s.env t,DW s k)=(.osl k sz 0 xss.length,some (sz,xss.map encN))) (hd:∀ x,(encN x).map ofN=encD x) (hn:∀ x,(encN x).all isN=true):AA nk s ⟨(t,.d (.sl (xss.map encD)))::s.env,s.objs.set k none⟩:=by
 simp only [Prod.mk.injEq] at h;have ho:=Dx h.2;have hlen:xss.length=(xss.map encN).length:=by simp
 have ht:=h.1;rw [hlen] at ht;have:=AA.frz (nk:=nk) (st:=s) t k sz _ ht ho (λ e he a ha=>by
  simp only [Jno] at he;obtain ⟨x,_,rfl⟩:=he;exact Jnd.1 (hn x) a ha)
 have e1:(List.map (λ e=>List.map ofN e) (xss.map encN))=xss.map encD:=by
  rw [List.map_map];exact Jnv λ x _=>hd x
 rw [e1] at this;exact this
theorem IM {O:List (Option Ob)} {k:Nat} {ob:Ob} (h:obA O k=some ob):O.set k (some ob)=O:=by
 unfold obA at h;split at h
 ·rename_i hk;cases h;apply Jnm;intro i;rw [List.getElem?_set];split
  ·rename_i e;subst e;split
   ·exact hk.symm
   ·rename_i hl;have:=Ag hk;omega
  ·rfl
 ·cases h
inductive Pl (f:AV->AV):List (Option Ob)->List (Option Ob)->Prop
 | z:Pl f [] []
 | o (ob:Option Ob) {l m:List (Option Ob)} (h:Pl f l m):Pl f (ob::l) (ob::m)
 | n (sz:Nat) {es es':List (List AV)} {l m:List (Option Ob)} (he:es.map (λ e=>e.map f)=es') (h:Pl f l m):Pl f (some (.narr sz (es.map λ e=>e.map f))::l) (some (.narr sz es')::m)
theorem Pl.eq {f:AV->AV} {l m:List (Option Ob)} (h:Pl f l m):l=m:=by
 induction h with
 | z=>rfl
 | o ob _ ih=>rw [ih]
 | n sz he _ ih=>rw [he,ih]
theorem nrM {f:AV->AV} {xss:List α} (hc:∀ x,(encN x).map f=encN x):(xss.map encN).map (λ e=>e.map f)=xss.map encN:=by
 rw [List.map_map];exact Jnv λ x _=>hc x
theorem nrH {f:AV->AV} {es:List (List AV)} {n:Nat} {row row':List AV} (he:es.map (λ e=>e.map f)=es) (hr:row.map f=row'):(es.set n row).map (λ e=>e.map f)=es.set n row':=by
 rw [List.map_set,he,hr]
theorem JhW (ts ord:List Nat) {raw:List (Option Ob)} (hp:Pl (Pj ord) raw s'.objs) (h:gcA nk ts s=⟨s'.env,raw⟩):AA nk s s':=by
 rw [hp.eq] at h;exact Jg6 ts h
theorem Zl {N:Nat->Prop} {H0 F0 F:Nat->Option Obj} {ρ:Nat->Option Loc} {O:List (Option Ob)} {h:Array Obj} (hS:Sim N H0 F0 F ρ O h) {k:Nat} {ds:List D} (ho:obA O k=some (.box (ds.map .d))):Sim N H0 F0 F ρ (O.set k (some (.arr 1 (ds.map λ x=>[x])))) h:=by
 have hrep:∀ L,ρ k=some L->Cd F ρ h L (.arr 1 (ds.map λ x=>[x])):=λ L hL=>by
  obtain ⟨⟨p1,p2,cs,t,fr,p3,p4,p5,p6⟩,_⟩:=hS.obj k L _ hL ho;simp only [Jnr] at p2;refine ⟨λ e he=>?_,by simp;omega,cs,t,fr,p3,p4,p5,λ i e hi j x hx=>?_⟩
  ·simp only [Jno] at he;obtain ⟨x,_,rfl⟩:=he;rfl
  ·simp only [JnB,JnA] at hi;obtain ⟨y,h1,rfl⟩:=hi;have hj:j=0:=by have:=Ag hx;simpa using this
   subst hj;simp at hx;subst hx;have hil:=Ag h1;have hv:cs[i]? = some cs[i]:=JnC (by omega);refine ⟨cs[i],by rw [p1,JnM,Nat.mul_one];exact hv,?_⟩;have:=p6 i (.d y) cs[i] (by rw [JnB,h1];rfl) hv;cases this with
   | d _ _ h=>exact h
 refine hS.retable (by simp) (λ j L ob hj hob=>?_) ?_
 ·by_cases e:j=k
  ·subst e;rw [AQ ho] at hob;cases hob;exact ⟨_,ho,.inr (hrep L hj)⟩
  ·rw [AM e] at hob;exact ⟨ob,hob,.inl rfl⟩
 ·obtain ⟨σ,hσ⟩:=hS.inn;refine ⟨σ,hσ.new,λ k' c M j L ob hM hj hob=>?_,hσ.sep,λ j L sz' es' hj hob i e m isz xs hi hm cs t fr v hb hv=>?_⟩
  ·by_cases e:j=k
   ·subst e;exact hσ.obj k' c M j L _ hM hj ho
   ·rw [AM e] at hob;exact hσ.obj k' c M j L ob hM hj hob
  ·by_cases e:j=k
   ·subst e;rw [AQ ho] at hob;cases hob
   ·rw [AM e] at hob;exact hσ.rep j L sz' es' hj hob i _ m isz xs hi hm cs t fr v hb hv
theorem Jf2 (k:Nat) (ds:List D) (h:obA s.objs k=some (.box (ds.map .d))):AA nk s ⟨s.env,s.objs.set k (some (.arr 1 (ds.map λ x=>[x])))⟩:=
 AA.sem λ _ _ _ _ _ _ _ _ hI=>by
  obtain ⟨F,ρ,hS,hSl,hn,hd⟩:=hI;exact ⟨F,ρ,Zl hS h,hSl,hn,hd⟩
theorem Jk9 (t k sz:Nat) (h:lkA s.env t=.ptr k 0):AA nk s ⟨(t,.eptr k sz 0 0)::s.env,s.objs⟩:=
 AA.sem λ _ _ _ _ _ a _ _ hI=>by
  obtain ⟨F,ρ,hS,hSl,hn,hd⟩:=hI;refine ⟨F,ρ,hS,λ q=>?_,hn,hd⟩;show Ai F ρ (lkA ((t,AV.eptr k sz 0 0)::s.env) q) _;rw [BM];by_cases e:t=q
  ·subst e;rw [if_pos rfl];have:=hSl t;rw [h] at this;generalize a.tmps.getD t undef=u at this;cases this with
   | ptr _ _ L hL=>have:=Ai.eptr (F:=F) k sz 0 0 L hL;simpa using this
  ·rw [if_neg e];exact hSl q
theorem Jla (k:Nat) {sz:Nat} {xss:List α} {x:α} {n:Int} (h:DW s k=some (sz,xss.map encN)) (hx:idx xss n=some x):AA nk s ⟨s.env,s.objs.set k (some (.narr sz ((xss.map encN).set n.toNat (encN x))))⟩:=by
 have ho:=Dx h;have e:(xss.map encN).set n.toNat (encN x)=xss.map encN:=by
  apply Jnm;intro i;rw [List.getElem?_set];split
  ·rename_i e;subst e;split
   ·rw [JnB,(EV hx).2.2];rfl
   ·rename_i hl;rw [JnT (by simpa using hl)]
  ·rfl
 rw [e,IM ho];exact AA.sem λ _ _ _ _ _ _ _ _ h=>h
theorem ltN {xss:List α} {x:α} {n:Int} (hx:idx xss n=some x):n.toNat<(xss.map encN).length:=by
 obtain ⟨h0,h1,_⟩:=EV hx;simp only [Jnr];omega
theorem Z2 (k j isz:Nat) (row':List AV) {sz:Nat} {es:List (List AV)} {n:Nat} {row:List AV} {ys:List β} (hn:n<es.length) (h:DW s k=some (sz,es.set n row)) (hj:row[j]? = some (.own isz (ys.map enc))) (hr:row.set j (.osl s.objs.length isz 0 ys.length)=row') :
  AA nk s ⟨s.env,s.objs.set k (some (.narr sz (es.set n row')))++[some (.arr isz (ys.map enc))]⟩:=by
 have ho:=Dx h;have:=AA.out (nk:=nk) (st:=s) k sz n j isz _ _ _ ho (JnJ hn) hj;rw [List.set_set,Jnr,hr] at this;exact this
theorem Jf3 (m:Nat) {O:List (Option Ob)} (h:O=s.objs.set m none):AA nk s ⟨s.env,O⟩:=by
 subst h;refine AA.sem λ _ _ _ _ _ _ _ _ hI=>?_;obtain ⟨F,ρ,hS,hSl,hn,hd⟩:=hI;refine ⟨F,ρ,hS.table (by simp) λ j L ob hj hob=>?_,hSl,hn,hd⟩;by_cases e:j=m
 ·subst e;rw [BN] at hob;split at hob
  ·cases hob
  ·exact hob
 ·rwa [AM e] at hob
theorem Jf4 (k j m isz:Nat) (row':List AV) {sz:Nat} {es:List (List AV)} {n:Nat} {row:List AV} {zs:List β} (h:(DW s k,PF s m)=(some (sz,es.set n row),some (isz,zs.map enc))) (hj:row[j]? = some (.osl m isz 0 zs.length)) (hr:row.set j (.own isz (zs.map enc))=row') :
  AA nk s ⟨s.env,(s.objs.set m none).set k (some (.narr sz (es.set n row')))⟩:=by
 simp only [Prod.mk.injEq] at h;have ho:=Dx h.1;have hm:=M0 h.2;by_cases hn:n<es.length
 ·have hlen:zs.length=(zs.map enc).length:=by simp
  rw [hlen] at hj;have:=AA.inn (nk:=nk) (st:=s) k sz n j m isz _ row (zs.map enc) ho (JnJ hn) hj hm;rw [List.set_set,hr] at this;exact this
 ·have e1:∀ r:List AV,es.set n r=es:=λ r=>List.set_eq_of_length_le (by omega);rw [e1] at ho ⊢;have hne:m≠k:=λ e=>by subst e;rw [ho] at hm;cases hm
  have ho':obA (s.objs.set m none) k=some (.narr sz es):=by rw [AM (Ne.symm hne)];exact ho
  rw [IM ho'];exact Jf3 m rfl
theorem JhX (k:Nat) {sz:Nat} {xss:List α} {n:Int} {row:List AV} (y:α) (h:DW s k=some (sz,(xss.map encN).set n.toNat row)) (hy:row=encN y):AA nk s ⟨s.env,s.objs.set k (some (.narr sz ((xss.set n.toNat y).map encN)))⟩:=by
 have ho:=Dx h;subst hy;rw [List.map_set,IM ho];exact AA.sem λ _ _ _ _ _ _ _ _ h=>h
theorem JcF {γ:Type} {l:List γ} {i:Nat} {x:γ} (h:l[i]? = some x):l.set i x=l:=by
 apply Jnm;intro q;rw [List.getElem?_set];split
 ·rename_i e;subst e;split
  ·exact h.symm
  ·rename_i hl;rw [JnT (by omega)]
 ·rfl
theorem Jf5 (b i k sz n m:Nat) (h:(Oj s b,(GK s b)[i]?)=(true,some (.osl k sz 0 n))) (e:n=m):AA nk s ⟨s.env,s.objs.set b (some (.box ((GK s b).set i (.osl k sz 0 m))))⟩:=by
 subst e;simp only [Prod.mk.injEq] at h;rw [JcF h.2,IM (MY h.1)];exact AA.sem λ _ _ _ _ _ _ _ _ h=>h
theorem Jf6 (k j m isz n1 n2:Nat) (row':List AV) {sz:Nat} {es:List (List AV)} {n:Nat} {row:List AV} (h:DW s k=some (sz,es.set n row)) (hj:row[j]? = some (.osl m isz 0 n1)) (e:n1=n2) (hr:row.set j (.osl m isz 0 n2)=row'):AA nk s ⟨s.env,s.objs.set k (some (.narr sz (es.set n row')))⟩:=by
 have ho:=Dx h;subst e;rw [JcF hj] at hr;subst hr;rw [IM ho];exact AA.sem λ _ _ _ _ _ _ _ _ h=>h
theorem PG (kb i k:Nat) {sz:Nat} {xss:List α} {encD:α->List D} (h0:(Oj s kb,(GK s kb)[i]?)=(true,some (.osl k sz 0 xss.length))) (h:DW s k=some (sz,xss.map encN)) (hd:∀ x,(encN x).map ofN=encD x) (hN:∀ x,(encN x).all isN=true) :
  AA nk s ⟨s.env,(s.objs.set k none).set kb (some (.box ((GK s kb).set i (.d (.sl (xss.map encD))))))⟩:=by
 have ho:=Dx h;simp only [Prod.mk.injEq] at h0;have hb:=MY h0.1;have hi:=h0.2;generalize GK s kb=cells at hb hi;refine AA.sem λ _ _ _ _ _ _ _ _ hI=>?_;obtain ⟨F,ρ,hS,hSl,hn,hdf⟩:=hI;have hlen:xss.length=(xss.map encN).length:=by simp
 rw [hlen] at hi;obtain ⟨F',h1,h2,h3⟩:=Vj hS ho (λ e he a ha=>by
  simp only [Jno] at he;obtain ⟨x,_,rfl⟩:=he;exact Jnd.1 (hN x) a ha)
 have e1:(List.map (λ e=>List.map ofN e) (xss.map encN))=xss.map encD:=by
  rw [List.map_map];exact Jnv λ x _=>hd x
 rw [e1] at h3;have hne:kb≠k:=λ e1=>by subst e1;rw [hb] at ho;cases ho
 have hb':obA (s.objs.set k none) kb=some (.box cells):=by rw [AM hne];exact hb
 refine ⟨F',ρ,?_,hSl.mono h1 (RLe.refl _),hn,hdf.1.mono h1,hdf.2⟩;refine h2.retable (by simp) (λ q L ob hq hob=>?_) (by obtain ⟨σ,hσ⟩:=h2.inn;exact ⟨σ,hσ.box hb'⟩);by_cases e1:q=kb
 ·subst e1;rw [AQ hb'] at hob;cases hob;refine ⟨_,hb',.inr ?_⟩;obtain ⟨p1,p2,cs,t,fr,p3,p4,p5,p6⟩:=(hS.obj q L _ hq hb).1;refine ⟨p1,by simpa using p2,cs,t,fr,p3,p4,p5,λ i' a' v ha' hv=>?_⟩;by_cases e2:i'=i
  ·subst e2;rw [JnJ (Ag hi)] at ha';cases ha';exact .d _ _ (h3 v (p6 i' _ v hi hv))
  ·rw [JnO (Ne.symm e2)] at ha';exact (p6 i' a' v ha' hv).mono h1 (RLe.refl _)
 ·rw [AM e1] at hob;exact ⟨ob,hob,.inl rfl⟩
theorem JhY (k n:Nat) (x:α) {sz:Nat} {z:List D} (h:PF s k=some (sz,List.replicate n z)) (hb:TG (z.map toN) (encN x)=true):AA nk s ⟨s.env,s.objs.set k (some (.narr sz ((List.replicate n x).map encN)))⟩:=by
 have ho:=M0 h;have a:=AA.toN (nk:=nk) (st:=s) k sz _ ho;obtain ⟨h1,h2⟩:=TH hb;have b:=AA.reown (nk:=nk) (st:=⟨s.env,s.objs.set k (some (.narr sz ((List.replicate n z).map λ e=>e.map toN)))⟩) k sz _ ((List.replicate n x).map encN) (AQ ho) (by simp) λ i e e' hi hi'=>by
  simp only [List.map_replicate,List.getElem?_replicate] at hi hi';split at hi
  ·rename_i hl;rw [if_pos hl] at hi';cases hi;cases hi';exact ⟨h1,λ j a a' ha ha'=>h2 j a a' ha ha'⟩
  ·cases hi
 have:=AA.trans a b;simpa using this
theorem TI (k:Nat) {x:α} {n:Int} {zs:List α} {sz:Nat} {z:List D} (hm:List.replicate n.toNat x=zs) (h:PF s k=some (sz,List.replicate n.toNat z)) (hb:TG (z.map toN) (encN x)=true):AA nk s ⟨s.env,s.objs.set k (some (.narr sz (zs.map encN)))⟩:=by
 rw [← hm];exact JhY k n.toNat x h hb
end Go.AI
end
section
namespace Go.AI
variable {Γ:Cx} {C:Code} {p:List Nat} {Q:Ex->St->Prop} {s s':St} {K:St->Prop} {i:Nat} {nk:Nat}
variable {α β ζ:Type}
theorem Cf {x:Option α} {d:α} (h:x.isSome=true):x=some (x.getD d):=by
 cases x with
 | none=>cases h
 | some x=>rfl
structure WP (Γ:Cx) (C:Code) (p:List Nat) (Q:Ex->St->Prop) (s:St):Prop where
 out:wpA Γ (nav p C) Q s
structure RF (Γ:Cx) (C:Code) (p:List Nat) (i:Nat) (Q:Ex->St->Prop) (s:St):Prop where
 out:Ba Γ C p i (Q .normal) s
structure PQ (Q:Ex->St->Prop) (e:Ex) (s:St):Prop where
 out:Q e s
structure RA (ty:Nat->Ty) (rs:List ResultVar) (r:AV) (s:St):Prop where
 out:XZ ty rs r s
theorem IN (k:Nat):∀ (p:List Nat) (C:Code),nav (p++[k]) C=Jci (nav p C) k:=by
 intro p;induction p with
 | nil=>intro C;rfl
 | cons a p ih=>intro C;exact ih (Jci C a)
def Z3:Code->Bool
 | .seq _ _=>true
 | _=>false
def JcG:Code->Bool
 | .cond _ _ _=>true
 | _=>false
def Jg9 (id:Nat):Code->Bool
 | .block i _=>Nat.beq i id
 | _=>false
def TJ:Code->Bool
 | .loop _=>true
 | _=>false
theorem Jf7 (h:Z3 (nav p C)=true):nav p C=.seq (nav (p++[0]) C) (nav (p++[1]) C):=by
 rw [IN,IN];cases hc:nav p C<;>rw [hc] at h<;>first|rfl|cases h
theorem JcH (h:JcG (nav p C)=true):nav p C=.cond (Wb (nav p C)) (nav (p++[0]) C) (nav (p++[1]) C):=by
 rw [IN,IN];cases hc:nav p C<;>rw [hc] at h<;>first|rfl|cases h
theorem Jf8 {id:Nat} (h:Jg9 id (nav p C)=true):nav p C=.block id (nav (p++[0]) C):=by
 rw [IN];cases hc:nav p C with
 | block j c=>rw [hc] at h;have:=JnE h;subst this;rfl
 | _=>rw [hc] at h;cases h
theorem JcI (h:TJ (nav p C)=true):nav p C=.loop (nav (p++[0]) C):=by
 rw [IN];cases hc:nav p C<;>rw [hc] at h<;>first|rfl|cases h
theorem sq (hw:WP Γ C (p++[0]) (UD Γ.nt.nk (wpA Γ (nav (p++[1]) C) Q) Q) s) (h:Z3 (nav p C)=true:=by kernel_rfl):WP Γ C p Q s:=⟨JhD (Jf7 h) hw.out⟩
theorem rg (hs:AA Γ.nt.nk s s') (hk:RF Γ C p 0 (Zg C p s' Q) s') (h:RR (nav p C)=true:=by kernel_rfl):WP Γ C p Q s:=⟨Vr h hs hk.out⟩
theorem rz (hk:RF Γ C p 0 (Zg C p s Q) s) (h:RR (nav p C)=true:=by kernel_rfl):WP Γ C p Q s:=⟨Vr h JfO hk.out⟩
theorem sr (hk:RF Γ C (p++[0]) 0 (Zg C (p++[0]) s (UD Γ.nt.nk (wpA Γ (nav (p++[1]) C) Q) Q)) s) (h:(Z3 (nav p C)&&RR (nav (p++[0]) C))=true:=by kernel_rfl):WP Γ C p Q s:=by
 simp only [Jny] at h;exact sq (rz hk h.2) h.1
theorem ae {s0:St} (hk:PQ Q .normal s) (h:Nat.ble (Bt (nav p C)).length i=true:=by kernel_rfl) (hd:SR (Tv (nav p C)) (Ft (nav p C)) s0.env s.env=true:=by kernel_rfl):RF Γ C p i (Zg C p s0 Q) s:=⟨Wc i h ⟨hd,hk.out⟩⟩
theorem en {s0:St} {p':List Nat} (hk:WP Γ C p' Q s) (h:Nat.ble (Bt (nav p C)).length i=true:=by kernel_rfl) (hd:SR (Tv (nav p C)) (Ft (nav p C)) s0.env s.env=true:=by kernel_rfl):RF Γ C p i (Zg C p s0 (UD Γ.nt.nk (wpA Γ (nav p' C) Q) Q)) s:=⟨Wc i h ⟨hd,⟨s,.refl s,hk.out⟩⟩⟩
theorem bk (id:Nat) (hw:WP Γ C (p++[0]) (II id Q) s) (h:Jg9 id (nav p C)=true:=by kernel_rfl):WP Γ C p Q s:=⟨Jcj id (Jf8 h) hw.out⟩
def Jlb:Code->Bool
 | .scope _=>true
 | _=>false
def Jlc:Code->Bool
 | .label _=>true
 | _=>false
theorem sc (hw:WP Γ C (p++[0]) Q s) (h:Jlb (nav p C)=true:=by kernel_rfl):WP Γ C p Q s:=by
 have hw:=hw.out;rw [IN] at hw;refine ⟨?_⟩;cases hc:nav p C with
 | scope c=>rw [hc] at hw;exact hw
 | _=>rw [hc] at h;cases h
theorem lbl (hq:PQ Q .normal s) (h:Jlc (nav p C)=true:=by kernel_rfl):WP Γ C p Q s:=by
 refine ⟨?_⟩;cases hc:nav p C with
 | label c=>exact hq.out
 | _=>rw [hc] at h;cases h
theorem ex (k:Nat) (hq:PQ Q (.exit k) s) (h:nav p C=.exit k:=by kernel_rfl):WP Γ C p Q s:=⟨JfF k h hq.out⟩
theorem re (hq:PQ Q .ret s) (h:nav p C=.ret:=by kernel_rfl):WP Γ C p Q s:=⟨JhE h hq.out⟩
theorem sk (hq:PQ Q .normal s) (h:nav p C=.skip:=by kernel_rfl):WP Γ C p Q s:=⟨JfG h hq.out⟩
theorem cn {c:Bool} {x y:Option ζ} {r:ζ} (H:(if c=true then x else y)=some r) (h1:x=some r->WP Γ C (p++[0]) Q s) (h2:y=some r->WP Γ C (p++[1]) Q s) (h:JcG (nav p C)=true:=by kernel_rfl) (hc:Al s.env (Wb (nav p C))=.d (.bool c):=by kernel_rfl):WP Γ C p Q s:=by
 refine ⟨JfE c (JcH h) hc (λ e=>?_) (λ e=>?_)⟩
 ·rw [if_pos e] at H;exact (h1 H).out
 ·rw [if_neg (by rw [e];simp)] at H;exact (h2 H).out
theorem sj {σ ζ:Type} (sJ:σ->St) (F:σ->Option ζ) (z:ζ) (hb:∀ x,F x=some z->WP Γ C (p++[1]) Q (sJ x)) (ha:(∀ x,F x=some z->WP Γ C (p++[1]) Q (sJ x))->WP Γ C (p++[0]) (UD Γ.nt.nk (wpA Γ (nav (p++[1]) C) Q) Q) s) (h:Z3 (nav p C)=true:=by kernel_rfl):WP Γ C p Q s:=sq (ha hb) h
theorem lp {σ ρ:Type} {body:σ->Option (σ⊕ρ)} {n:Nat} {x:σ} {r:ρ} (st:σ->St) (E:ρ->Ex->St->Prop) (hr:whl body n x=some r) (hs:AA Γ.nt.nk s (st x))
  (hb:∀ x z,body x=some z->WP Γ C (p++[0]) (Aw Γ.nt.nk st E z) (st x)) (hE:∀ e s,E r e s->PQ Q e s) (h:TJ (nav p C)=true:=by kernel_rfl):WP Γ C p Q s:=⟨JfH st E (JcI h) hr hs (λ x z hx=>(hb x z hx).out) (λ e s he=>(hE e s he).out)⟩
theorem fo {P:Program} {fn:Func} {f:FuncId} {args:List AV} {r:AV} (hfol:P.follows .mixedOrders=true) (hΓ:Kv P Γ) (hf:P.funcs[f]? = some fn) (h:WP Γ (Az fn) [] (X0 Γ.ty fn.results.toList r) s)
  (hb:fn.body=some (Az fn):=by kernel_rfl) (hnm:(fn.name == "runtime.NumGoroutine")=false:=by kernel_rfl) (hnt:Γ.nt.n=fn.ntmps:=by kernel_rfl) (hlen:Nat.ble args.length fn.ntmps=true:=by kernel_rfl) (hs:(⟨(List.range args.length).zip args,[]⟩:St)=s:=by kernel_rfl) (hrd:Γ.rd=false:=by kernel_rfl):AL P f args r:=
 Jk2 hfol hΓ hrd hf hb hnm hnt hlen hs h.out
theorem Gk {c a b:AV} {t x y z:Bool} {r q q':Prop} (hc:W9 c=some (t,r)) (ha:unP t a=some (x,q)) (hb:unP (!t) b=some (y,q')) (hr:r) (hq:q) (hq':q') (hz:(bif t then x else y)=z:=by kernel_rfl):F9 (Ic c a b) (.d (.bool z)) [] [] none:=hz▸JcB hc ha hb hr hq hq'
theorem bx {G:Prop} {x:Option α} {f:α->Option β} {r:β} (h:x.bind f=some r) (k:∀ a,x=some a->f a=some r->G):G:=by obtain ⟨a,h1,h2⟩:=bind_some h;exact k a h1 h2
theorem qs (hs:AA Γ.nt.nk s s') (h:WP Γ C p Q s'):PQ (UD Γ.nt.nk (wpA Γ (nav p C) Q) Q) .normal s:=⟨s',hs,h.out⟩
theorem qz (h:WP Γ C p Q s):PQ (UD Γ.nt.nk (wpA Γ (nav p C) Q) Q) .normal s:=⟨s,.refl s,h.out⟩
theorem qx {B:St->Prop} {k:Nat} (h:PQ Q (.exit k) s):PQ (UD nk B Q) (.exit k) s:=⟨h.out⟩
theorem qr {B:St->Prop} (h:PQ Q .ret s):PQ (UD nk B Q) .ret s:=⟨h.out⟩
theorem qN {id:Nat} (h:PQ Q .normal s):PQ (II id Q) .normal s:=⟨h.out⟩
theorem qH {id:Nat} (h:PQ Q .normal s):PQ (II id Q) (.exit id) s:=⟨Jck h.out⟩
theorem qX {id k:Nat} (hn:Nat.beq k id=false) (h:PQ Q (.exit k) s):PQ (II id Q) (.exit k) s:=⟨Jcl hn h.out⟩
theorem qR {id:Nat} (h:PQ Q .ret s):PQ (II id Q) .ret s:=⟨h.out⟩
theorem og {σ ρ:Type} {st:σ->St} {E:ρ->Ex->St->Prop} {y:σ} (h:AA nk s (st y)):PQ (Aw nk st E (.inl y)) .normal s:=⟨Jcm h⟩
theorem oe {σ ρ:Type} {st:σ->St} {E:ρ->Ex->St->Prop} {r:ρ} {k:Nat} (h:E r (.exit k) s):PQ (Aw nk st E (.inr r)) (.exit k) s:=⟨Zh h⟩
theorem or {σ ρ:Type} {st:σ->St} {E:ρ->Ex->St->Prop} {r:ρ} (h:E r .ret s):PQ (Aw nk st E (.inr r)) .ret s:=⟨JaR h⟩
theorem pr {ty:Nat->Ty} {rs:List ResultVar} {r:AV} (h:RA ty rs r s):PQ (X0 ty rs r) .ret s:=⟨h.out⟩
def nxP (Γ:Cx) (C:Code) (p:List Nat) (i n:Nat) (s:St):St:=(JaS Γ (Bt (nav p C)) (((Bt (nav p C)).drop i).take n) s).getD s
theorem ck (n:Nat) (hk:RF Γ C p (i+n) Q (nxP Γ C p i n s)) (h:(JaS Γ (Bt (nav p C)) (((Bt (nav p C)).drop i).take n) s).isSome=true:=by kernel_rfl):RF Γ C p i Q s:=⟨JkW n _ (Cf h) rfl hk.out⟩
def Hp (_:St) (x:Option Eff) (v:AV) (obs:List Ob) (rm:List Nat) (upd:Option (Nat×Ob)):Prop:=F9 x v obs rm upd
theorem sp {v:AV} {obs:List Ob} {rm:List Nat} {upd:Option (Nat×Ob)} {x:Option Eff} (ho:Hp s x v obs rm upd) (hk:RF Γ C p (i+1) Q ((Oi Γ (nav p C) i v obs rm upd s).getD s)) (hx:PA Γ (nav p C) i s=x:=by kernel_rfl) (hn:(Oi Γ (nav p C) i v obs rm upd s).isSome=true:=by kernel_rfl):RF Γ C p i Q s:=⟨Jmo _ hx ho (Cf hn) rfl hk.out⟩
def opV (Γ:Cx) (c:Code) (i:Nat) (s:St):AV:=match PA Γ c i s with
 | some e=>e.v
 | none=>.top
theorem so {ob:Prop} (ho:ob) (hk:RF Γ C p (i+1) Q ((Oi Γ (nav p C) i (opV Γ (nav p C) i s) [] [] none s).getD s)) (hx:PA Γ (nav p C) i s=Bo (opV Γ (nav p C) i s) ob:=by kernel_rfl) (hn:(Oi Γ (nav p C) i (opV Γ (nav p C) i s) [] [] none s).isSome=true:=by kernel_rfl):RF Γ C p i Q s:=sp (Jg7 ho) hk hx hn
theorem sG {g:Bool} {v:AV} {obs:List Ob} {x:Option Eff} {gs:List Bool} (ho:g=true->Hp s x v obs [] none) (hi:Ho g gs) (hk:RF Γ C p (i+1) Q ((MV Γ (nav p C) i g v obs s).getD s)) (hg:gAt (nav p C) i s=some g:=by kernel_rfl) (hx:PA Γ (nav p C) i s=x:=by kernel_rfl) (hgs:Jv (nav p C) i s=gs:=by kernel_rfl) (hn:(MV Γ (nav p C) i g v obs s).isSome=true:=by kernel_rfl):RF Γ C p i Q s:=⟨Jg4 _ hg hx ho hgs hi (Cf hn) rfl hk.out⟩
theorem soG {g:Bool} {ob:Prop} {gs:List Bool} (ho:g=true->ob) (hi:Ho g gs) (hk:RF Γ C p (i+1) Q ((MV Γ (nav p C) i g (opV Γ (nav p C) i s) [] s).getD s)) (hg:gAt (nav p C) i s=some g:=by kernel_rfl) (hx:PA Γ (nav p C) i s=Bo (opV Γ (nav p C) i s) ob:=by kernel_rfl) (hgs:Jv (nav p C) i s=gs:=by kernel_rfl) (hn:(MV Γ (nav p C) i g (opV Γ (nav p C) i s) [] s).isSome=true:=by kernel_rfl):RF Γ C p i Q s:=sG (λ e=>Jg7 (ho e)) hi hk hg hx hgs hn
def plV (Γ:Cx) (c:Code) (i:Nat) (s:St):AV×List Ob:=(Jcy Γ c i s).getD (.top,[])
theorem gp (g:Bool) {gs:List Bool} (hi:Ho g gs) (hk:RF Γ C p (i+1) Q ((MV Γ (nav p C) i g (plV Γ (nav p C) i s).1 (plV Γ (nav p C) i s).2 s).getD s)) (hg:gAt (nav p C) i s=some g:=by kernel_rfl) (hp:(Jcy Γ (nav p C) i s).isSome=true:=by kernel_rfl) (hgs:Jv (nav p C) i s=gs:=by kernel_rfl) (hn:(MV Γ (nav p C) i g (plV Γ (nav p C) i s).1 (plV Γ (nav p C) i s).2 s).isSome=true:=by kernel_rfl):RF Γ C p i Q s:=
 ⟨Jg4 _ hg rfl (λ _=>Jk5 (Cf (d:=(.top,[])) hp)) hgs hi (Cf hn) rfl hk.out⟩
def gl (Γ:Cx) (c:Code) (g:Bool):Nat->Nat->St->Option (List Bool×St)
 | 0,_,s=>some ([],s)
 | n+1,i,s=>match gAt c i s,(Jcy Γ c i s).isSome,MV Γ c i g (plV Γ c i s).1 (plV Γ c i s).2 s with
  | some g',true,some s1=>match gl Γ c g n (i+1) s1 with
   | some (l,s2)=>some (g'::(Jv c i s++l),s2)
   | none=>none
  | _,_,_=>none
theorem Vv {g:Bool}:∀ {l:List Bool},(∀ b∈l,b=g)->Ho g l:=by
 intro l;induction l with
 | nil=>intro _;trivial
 | cons b l ih=>intro h;exact ⟨λ e=>by rw [h b (by simp)];exact e,ih λ x hx=>h x (by simp [hx])⟩
theorem Jld {g:Bool}:∀ (n i:Nat) (s:St) (l:List Bool) (s2:St),gl Γ (nav p C) g n i s=some (l,s2)->(∀ b∈l,b=g)->RF Γ C p (i+n) Q s2->RF Γ C p i Q s:=by
 intro n;induction n with
 | zero=>intro i s l s2 h _ hk;cases h;exact hk
 | succ n ih=>
  intro i s l s2 h hl hk;simp only [gl] at h;split at h
  ·rename_i g' s1 h1 h2 h3;split at h
   ·rename_i l' s2' h4;cases h;have e:g'=g:=hl g' (by simp);subst e;have hlast:=ih (i+1) s1 l' s2 h4 (λ b hb=>hl b (by simp [hb])) (by rw [Jnq,Nat.add_comm 1 n];exact hk);refine gp g' (Vv λ b hb=>hl b (by simp [hb])) ?_ h1 h2 rfl (by rw [h3];rfl);rw [h3];exact hlast
   ·cases h
  ·cases h
theorem gc (n:Nat) (g:Bool) (hk:RF Γ C p (i+n) Q ((gl Γ (nav p C) g n i s).getD ([],s)).2) (h1:(gl Γ (nav p C) g n i s).isSome=true:=by kernel_rfl) (h2:((gl Γ (nav p C) g n i s).getD ([],s)).1=List.replicate ((gl Γ (nav p C) g n i s).getD ([],s)).1.length g:=by kernel_rfl):RF Γ C p i Q s:=by
 refine Jld n i s _ _ (Cf (d:=([],s)) h1) (λ b hb=>?_) hk;have hb':b∈((gl Γ (nav p C) g n i s).getD ([],s)).1:=hb;rw [h2] at hb';exact List.eq_of_mem_replicate hb'
def bo:AV->Bool
 | .d (.bool b)=>b
 | .gv _ (.d (.bool b))=>b
 | _=>false
def pkO (c:Code) (i:Nat) (s:St):AV×AV×AV:=
 match (Bt c)[i]? with
 | some o=>match o.op with
  | .pick x y z=>(Al s.env x,Al s.env y,Al s.env z)
  | _=>(.top,.top,.top)
 | none=>(.top,.top,.top)
def pkT (c:Code) (i:Nat) (s:St):Bool:=bo (pkO c i s).1
def pkX (c:Code) (i:Nat) (s:St):Bool:=bo (pkO c i s).2.1
def pkY (c:Code) (i:Nat) (s:St):Bool:=bo (pkO c i s).2.2
def pkV (c:Code) (i:Nat) (s:St):AV:=.d (.bool (bif pkT c i s then pkX c i s else pkY c i s))
theorem pA (hk:RF Γ C p (i+1) Q ((Vs Γ (nav p C) i (pkV (nav p C) i s) s).getD s)) (h:OL (nav p C) i s=Ic (.d (.bool (pkT (nav p C) i s))) (.gv (pkT (nav p C) i s) (.d (.bool (pkX (nav p C) i s)))) (.d (.bool (pkY (nav p C) i s))):=by kernel_rfl) (hn:(Vs Γ (nav p C) i (pkV (nav p C) i s) s).isSome=true:=by kernel_rfl):RF Γ C p i Q s:=⟨Jg5 _ h JcA (Cf hn) rfl hk.out⟩
theorem pO (hk:RF Γ C p (i+1) Q ((Vs Γ (nav p C) i (pkV (nav p C) i s) s).getD s)) (h:OL (nav p C) i s=Ic (.d (.bool (pkT (nav p C) i s))) (.d (.bool (pkX (nav p C) i s))) (.gv (!(pkT (nav p C) i s)) (.d (.bool (pkY (nav p C) i s)))):=by kernel_rfl) (hn:(Vs Γ (nav p C) i (pkV (nav p C) i s) s).isSome=true:=by kernel_rfl):RF Γ C p i Q s:=⟨Jg5 _ h JfX (Cf hn) rfl hk.out⟩
theorem pG {g:Bool} {v:AV} {x:Option Eff} (ho:g=true->F9 x v [] [] none) (hk:RF Γ C p (i+1) Q ((Wd Γ (nav p C) i g v s).getD s)) (hg:gAt (nav p C) i s=some g:=by kernel_rfl) (hx:OL (nav p C) i s=x:=by kernel_rfl) (hn:(Wd Γ (nav p C) i g v s).isSome=true:=by kernel_rfl):RF Γ C p i Q s:=⟨JhF _ hg hx ho (Cf hn) rfl hk.out⟩
theorem sF (hk:RF Γ C p (i+1) Q ((ZZ Γ (nav p C) i ((PE Γ (nav p C) i s).getD []) s).getD s)) (hx:(PE Γ (nav p C) i s).isSome=true:=by kernel_rfl) (hn:(ZZ Γ (nav p C) i ((PE Γ (nav p C) i s).getD []) s).isSome=true:=by kernel_rfl):RF Γ C p i Q s:=⟨Jk4 _ _ (Cf hx) (Cf hn) rfl hk.out⟩
theorem sK (obj:Bool) (hk:RF Γ C p (i+1) Q ((Z0 Γ (nav p C) i obj ((OM Γ (nav p C) i s).getD (0,[])).1 ((OM Γ (nav p C) i s).getD (0,[])).2 s).getD s)) (hx:(OM Γ (nav p C) i s).isSome=true:=by kernel_rfl) (hn:(Z0 Γ (nav p C) i obj ((OM Γ (nav p C) i s).getD (0,[])).1 ((OM Γ (nav p C) i s).getD (0,[])).2 s).isSome=true:=by kernel_rfl):RF Γ C p i Q s:=⟨Jk8 _ obj _ (Cf (d:=(0,[])) hx) (Cf hn) rfl hk.out⟩
theorem ca (m:Bool) {f:FuncId} {ys:List AV} {r:AV} (hr:Γ.calls f ys r) (hk:RF Γ C p (i+1) Q ((RT Γ (nav p C) i m (L9 r) r s).getD s)) (hc:MW (nav p C) i s=some (f,ys,[],[]):=by kernel_rfl) (hn:(RT Γ (nav p C) i m (L9 r) r s).isSome=true:=by kernel_rfl):RF Γ C p i Q s:=⟨Jcu _ m hc leZ rfl hr (.inl rfl) rfl (Cf hn) rfl hk.out⟩
theorem cb (m:Bool) {f:FuncId} {xs ys:List AV} {ks:List Nat} {obl:List (Nat×Nat)} {r:AV} {ls:List Nat} (hob:Ie obl) (hxs:xs=ys) (hr:Γ.calls f ys r) (hf:ks=[]\/ML r) (hls:L9 r=ls) (hk:RF Γ C p (i+1) Q ((RT Γ (nav p C) i m ls r s).getD s)) (hc:MW (nav p C) i s=some (f,xs,ks,obl):=by kernel_rfl) (hn:(RT Γ (nav p C) i m ls r s).isSome=true:=by kernel_rfl):RF Γ C p i Q s:=⟨Jcu _ m hc hob hxs hr hf hls (Cf hn) rfl hk.out⟩
theorem cG (m:Bool) {g:Bool} {gs:List Bool} {f:FuncId} {xs ys:List AV} {ks:List Nat} {obl:List (Nat×Nat)} {r:AV} {ls:List Nat} (hob:Ie obl) (hxs:xs=ys) (hr:g=true->Γ.calls f ys r) (hf:ks=[]\/ML r) (hi:Ho g gs) (hls:L9 r=ls) (hk:RF Γ C p (i+1) Q ((We Γ (nav p C) i g m ls r s).getD s)) (hg:gAt (nav p C) i s=some g:=by kernel_rfl) (hc:MW (nav p C) i s=some (f,xs,ks,obl):=by kernel_rfl) (hgs:Jv (nav p C) i s=gs:=by kernel_rfl) (hn:(We Γ (nav p C) i g m ls r s).isSome=true:=by kernel_rfl):RF Γ C p i Q s:=⟨JkY _ m hg hc hob hxs hr hf hgs hi hls (Cf hn) rfl hk.out⟩
theorem Ap (e:α->List D) {xs:List α} {n:Int} {x:α} (h:idx xs n=some x):Hp s (Bo (.dptr ((xs.map e)[n.toNat]?.getD []) 0) (0<=n/\n<(xs.map e).length/\((xs.map e)[n.toNat]?.getD []).length=(e x).length)) (.dptr (e x) 0) [] [] none:=
 JfR (esz:=(e x).length) (eb:=0) (ez:=[]) h (Nat.beq_refl _)
theorem Av (k esz:Nat) {xs:List α} {n:Int} {x:α} (h:idx xs n=some x):Hp s (Bo (.eptr k esz (0+n.toNat) 0) (0<=n/\n<(xs.length:Nat)/\esz=esz)) (.eptr k esz (0+n.toNat) 0) [] [] none:=JfS (esz:=esz) (eb:=0) (ez:=[]) h
def ldV (l:List D) (off:Nat) (t:Ty):AV:=(CK (l.map .d) off t).getD .top
theorem C0 (e:α->List D) (k off:Nat) (t:Ty) {xs:List α} {n:Int} {x:α} (h:idx xs n=some x) (hk:obA s.objs k=some (.arr (e x).length (xs.map e)):=by kernel_rfl) (hv:(CK ((e x).map .d) off t).isSome=true:=by kernel_rfl) (hl:Nat.ble (off+t.size) (e x).length=true:=by kernel_rfl) :
  Hp s (D7 t s.objs (.eptr k (e x).length (0+n.toNat) off)) (ldV (e x) off t) [] [] none:=JhK hk h (Cf hv) hl
def stV (c:Code) (i:Nat) (s:St):AV:=
 match (Bt c)[i]? with
 | some o=>match o.op with
  | .store _ _ v=>unG (Al s.env v)
  | _=>.top
 | none=>.top
def stR (c:Code) (i:Nat) (s:St):List D:=((xDs s.objs (Ar (stV c i s))).getD ([],[],[])).1
theorem stA (e:α->List D) (k off:Nat) (t:Ty) {xs zs:List α} {n:Int} {x y:α} (h:idx xs n=some x) (hz:put xs n y=some zs) (hk:RF Γ C p (i+1) Q ((Oi Γ (nav p C) i .top [] [] (some (k,.arr (e x).length (zs.map e))) s).getD s))
  (h1:obA s.objs k=some (.arr (e x).length (xs.map e)):=by kernel_rfl) (h2:xDs s.objs (Ar (stV (nav p C) i s))=some (stR (nav p C) i s,[],[]):=by kernel_rfl) (h3:(BW (stV (nav p C) i s)&&(Ar (stV (nav p C) i s)).all Fr)=true:=by kernel_rfl) (h4:GH (e x) off (stR (nav p C) i s)=e y:=by kernel_rfl) (h5:(Nat.beq (stR (nav p C) i s).length t.size&&Nat.ble (off+t.size) (e x).length)=true:=by kernel_rfl)
  (hx:PA Γ (nav p C) i s=Fy t s.objs (.eptr k (e x).length (0+n.toNat) off) (stV (nav p C) i s):=by kernel_rfl) (hn:(Oi Γ (nav p C) i .top [] [] (some (k,.arr (e x).length (zs.map e))) s).isSome=true:=by kernel_rfl):RF Γ C p i Q s:=
 sp (JhL h1 h hz h2 leZ (by rw [h3];rfl) h4 h5) hk hx hn
theorem JcJ (e:α->List D) (k esz:Nat) {xs ys zs:List α} {eb:Nat} (h:app eb xs ys=some zs) (hk:obA s.objs k=some (.arr esz (xs.map e)):=by kernel_rfl) (hl:∀ y,(e y).length=esz:=by intro _;rfl):Hp s (CV esz eb s.objs (.osl k esz 0 xs.length) (ys.map e) True) (.osl s.objs.length esz 0 zs.length) [.arr esz (zs.map e)] [k] none:=Jcz hk rfl hl trivial h
theorem Cv (e:α->List D) (k esz:Nat) {xs ys zs:List α} {eb:Nat} (h:app eb xs ys=some zs) (hk:obA s.objs k=some (.arr esz (xs.map e)):=by kernel_rfl) (hl:∀ y,(e y).length=esz:=by intro _;rfl):Hp s (CV esz eb s.objs (.osl k esz 0 xs.length) (((ys.map e).drop 0).take ys.length) (0+ys.length<=(ys.map e).length)) (.osl s.objs.length esz 0 zs.length) [.arr esz (zs.map e)] [k] none:=Jcz hk PD hl (by simp) h
theorem QJ {x y z:List UInt8} (h:cat x y=some z):Hp s (W8 .add x y) (.d (.str z)) [] [] none:=JhN h
theorem HD {t:List UInt8} {n b:Int} (h:NW t n=some b):Hp s (Bo (.d (.int .u8 (t[n.toNat]?.getD 0).toNat)) (0<=n/\n<t.length)) (.d (.int .u8 b)) [] [] none:=JfT h
theorem Il {t z:List UInt8} {l h:Int} (hz:sub t l h=some z):Hp s (Bo (.d (.str ((t.take h.toNat).drop l.toNat))) (0<=l/\l<=h/\h<=t.length)) (.d (.str z)) [] [] none:=JfU hz
theorem JcK (e:α->List D) (esz:Nat) {xs zs:List α} {l h:Int} (hz:sub xs l h=some zs) (hl:∀ y,(e y).length=esz:=by intro _;rfl):Hp s (Bo (.d (.sl (((xs.map e).take h.toNat).drop l.toNat))) (0<=l/\l<=h/\h<=(xs.map e).length/\∀ y∈xs.map e,y.length=esz)) (.d (.sl (zs.map e))) [] [] none:=JhO hz hl
theorem JhZ (k esz:Nat) {xs zs:List α} {l h:Int} (hz:sub xs l h=some zs):Hp s (Bo (.osl k esz (0+l.toNat) (h.toNat-l.toNat)) (0<=l/\l<=h/\h<=(xs.length:Int)/\esz=esz)) (.osl k esz (0+l.toNat) (h.toNat-l.toNat)) [] [] none:=JhQ (eb:=0) (ez:=[]) hz
theorem TL (e:α->List D) (esz:Nat) {zs:List α} {n:Int} {z:α} {eb:Nat} (h:mkl eb n z=some zs):Hp s (some ⟨.osl s.objs.length esz 0 n.toNat,[.arr esz (List.replicate n.toNat (e z))],[],none,0<=n/\n=n/\n.toNat*eb<=70368744177664⟩) (.osl s.objs.length esz 0 zs.length) [.arr esz (zs.map e)] [] none:=Jk6 h rfl
theorem AB (e:α->List D) (xs:List α):Hp s (val (.d (.int .i64 (xs.map e).length))) (.d (.int .i64 xs.length)) [] [] none:=JhP (esz:=0) (eb:=0) (ez:=[])
theorem cl (ls:List Nat) {f:FuncId} {ys:List AV} {r:AV} (hr:Γ.calls f ys r) (hk:RF Γ C p (i+1) Q ((RT Γ (nav p C) i true ls r s).getD s)) (hls:L9 r=ls:=by simp only [L9,X3,X2,Vt,Jnr,List.nil_append,List.append_nil,List.cons_append]) (hc:MW (nav p C) i s=some (f,ys,[],[]):=by kernel_rfl) (hn:(RT Γ (nav p C) i true ls r s).isSome=true:=by kernel_rfl):RF Γ C p i Q s:=⟨Jcu _ true hc leZ rfl hr (.inl rfl) hls (Cf hn) rfl hk.out⟩
theorem Cj {encN:α->List AV} {xss:List α} {x:α} {row:List AV} {n:Int} {k sz off:Nat} {t:Ty} {v:AV} (h:idx xss n=some x) (hk:obA s.objs k=some (.narr sz ((xss.map encN).set n.toNat row)):=by kernel_rfl) (hv:CK row off t=some v:=by kernel_rfl) (hs:(Ar v).all Fr=true:=by kernel_rfl) (hl:Nat.ble (off+t.size) row.length=true:=by kernel_rfl) :
  Hp s (D7 t s.objs (.eptr k sz (0+n.toNat) off)) v [] [] none:=JhU hk h hv hs hl
theorem Lq {encN:α->List AV} {xss:List α} {x:α} {row row':List AV} {n:Int} {k sz off:Nat} {t:Ty} {v:AV} (h:idx xss n=some x) (hk:obA s.objs k=some (.narr sz ((xss.map encN).set n.toNat row)):=by kernel_rfl) (hc:(BW v&&(Ar v).all Fr)=true:=by kernel_rfl) (hy:splice row off (Ar v)=row':=by kernel_rfl) (hl:(Nat.beq (Ar v).length t.size&&Nat.ble (off+t.size) sz)=true:=by kernel_rfl) :
  Hp s (Fy t s.objs (.eptr k sz (0+n.toNat) off) v) .top [] [] (some (k,.narr sz ((xss.map encN).set n.toNat row'))):=JhV hk h hc hy hl
theorem Jf9 {encN:α->List AV} {xss yss:List α} {y:α} {esz eb k:Nat} {e:List D} (h:app eb xss [y]=some yss) (hk:obA s.objs k=some (.narr esz (xss.map encN)):=by kernel_rfl) (hl:Nat.beq e.length esz=true:=by kernel_rfl) :
  Hp s (CV esz eb s.objs (.osl k esz 0 xss.length) [e] True) (.osl s.objs.length esz 0 yss.length) [.narr esz (xss.map encN++[e.map toN])] [k] none:=Jf1 hk hl trivial h
theorem TM {κ:Type} [DecidableEq κ] {encK:κ->List D} {enc:α->List D} {ks:List TK} {k:Nat} {m:List (κ×α)} {key:κ} {l:List AV} {z:α} {vz:List D} {e1:α->D} (heq:∀ a b,A3 ks ((encK a).map .d) ((encK b).map .d)=some (decide (a=b))) (ok:Bool) (he:∀ x,enc x=[e1 x]:=by intro _;rfl) (hz:vz=[e1 z]:=by kernel_rfl) (hk:obA s.objs k=some (.map true false (Fe encK enc m)):=by kernel_rfl) (hx:xDs s.objs l=some (encK key,[],[]):=by kernel_rfl) :
  Hp s (MK (.map ks true false vz) s.objs (.mp k) (.agg l) ok) (bif ok then .tup [.d (e1 ((G0 key m).getD z)),.d (.bool (G0 key m).isSome)] else .d (e1 ((G0 key m).getD z))) [] [] none:=JcD heq he hz hk hx ok
theorem SE {κ:Type} [DecidableEq κ] {encK:κ->List D} {enc:α->List D} {ks:List TK} {k:Nat} {m:List (κ×α)} {key:κ} {l:List AV} {v:AV} {y:α} {vz:List D} {e1:α->D} (heq:∀ a b,A3 ks ((encK a).map .d) ((encK b).map .d)=some (decide (a=b))) (he:∀ x,enc x=[e1 x]:=by intro _;rfl) (hz:Nat.beq vz.length 1=true:=by kernel_rfl) (hk:obA s.objs k=some (.map true false (Fe encK enc m)):=by kernel_rfl) (hx:xDs s.objs l=some (encK key,[],[]):=by kernel_rfl) (hv:v=.d (e1 y):=by kernel_rfl) (hvx:xDs s.objs [v]=some (enc y,[],[]):=by kernel_rfl) :
  Hp s (L5 (.map ks true false vz) s.objs (.mp k) (.agg l) v) .top [] [] (some (k,.map true false (Fe encK enc (MU key y m)))):=JfY heq he hz hk hx hv hvx
def Z4:AV->Bool
 | .d _=>true
 | .agg l=>l.all OG
 | _=>false
theorem TN (l m:List (Option (Nat×Nat×Nat))):ksE (l++m)=ksE l++ksE m:=by
 induction l with
 | nil=>rfl
 | cons a l ih=>cases a<;>simp [ksE,ih]
theorem JcL {a:AV} (h:OG a=true):ksE (MR a a)=[]:=by
 cases a with
 | d x=>cases x<;>rfl
 | _=>cases h
theorem Jga {objs:List (Option Ob)} {a:AV} (h:OG a=true):NS objs a a:=by
 cases a with
 | d x=>exact Zk
 | _=>cases h
theorem Jle {objs:List (Option Ob)}:∀ {l:List AV},l.all OG=true->JaF objs l l/\ksE (Te l l)=[]:=by
 intro l;induction l with
 | nil=>intro _;exact ⟨trivial,rfl⟩
 | cons a l ih=>
  intro h;simp only [List.all_cons,Jny] at h;obtain ⟨h1,h2⟩:=ih h.2;exact ⟨⟨Jga h.1,h1⟩,by simp only [Te,TN,JcL h.1,h2,List.append_nil]⟩
theorem JcM {objs:List (Option Ob)} {a:AV} (h:Z4 a=true):Tf objs a a/\ksE (NT a a)=[]:=by
 cases a with
 | d x=>exact ⟨Zk,JcL (a:=.d x) rfl⟩
 | agg l=>exact Jle h
 | _=>cases h
theorem Jha {objs:List (Option Ob)}:∀ {l:List AV},l.all Z4=true->Y2 objs l l/\ksE (NU l l)=[]:=by
 intro l;induction l with
 | nil=>intro _;exact ⟨trivial,rfl⟩
 | cons a l ih=>
  intro h;simp only [List.all_cons,Jny] at h;obtain ⟨h1,h2⟩:=ih h.2;obtain ⟨h3,h4⟩:=JcM (objs:=objs) h.1;exact ⟨⟨h3,h1⟩,by simp only [NU,TN,h4,h2,List.append_nil]⟩
theorem rd {ty:Nat->Ty} {rs:List ResultVar} {r:AV} (hd:Z4 r=true:=by kernel_rfl) (h:TC ty s rs=some [r]:=by kernel_rfl):RA ty rs r s:=⟨JkZ [] h (JcM hd).1 (JcM (objs:=[]) hd).2 (by simp)⟩
theorem rdT {ty:Nat->Ty} {rs:List ResultVar} {l:List AV} (hd:l.all Z4=true:=by kernel_rfl) (h:TC ty s rs=some l:=by kernel_rfl) (hl:Nat.beq l.length 1=false:=by kernel_rfl):RA ty rs (.tup l) s:=⟨Jk0 h hl (Jha hd).1 [] (Jha (objs:=[]) hd).2 (by simp)⟩
structure OV (s:St) (a r:AV):Prop where
 out:NS s.objs a r
structure OC (s:St) (a r:List AV):Prop where
 out:JaF s.objs a r
structure OA (s:St) (a r:AV):Prop where
 out:Tf s.objs a r
structure OT (s:St) (a r:List AV):Prop where
 out:Y2 s.objs a r
theorem c0:OC s [] []:=⟨trivial⟩
theorem c1 {a r:AV} {l m:List AV} (h:OV s a r) (h':OC s l m):OC s (a::l) (r::m):=⟨⟨h.out,h'.out⟩⟩
theorem a1 {l m:List AV} (h:OC s l m):OA s (.agg l) (.agg m):=⟨h.out⟩
theorem ad {x:D} {r:AV} (h:OV s (.d x) r):OA s (.d x) r:=⟨h.out⟩
theorem ao {k sz lo n:Nat} {r:AV} (h:OV s (.osl k sz lo n) r):OA s (.osl k sz lo n) r:=⟨h.out⟩
theorem t0:OT s [] []:=⟨trivial⟩
theorem t1 {a r:AV} {l m:List AV} (h:OA s a r) (h':OT s l m):OT s (a::l) (r::m):=⟨⟨h.out,h'.out⟩⟩
theorem vd {x:D}:OV s (.d x) (.d x):=⟨Zk⟩
theorem vn:OV s (.d .nil) (.d (.sl [])):=⟨JaT⟩
theorem vz {sz:Nat}:OV s (.d .nil) (.own sz []):=⟨JaU⟩
theorem vo {enc:α->List D} {xs:List α} {k sz:Nat} (h:obA s.objs k=some (.arr sz (xs.map enc)):=by kernel_rfl):OV s (.osl k sz 0 xs.length) (.own sz (xs.map enc)):=⟨Jcx h⟩
theorem rO {ty:Nat->Ty} {rs:List ResultVar} {v r:AV} (ks:List Nat) (ho:OA s v r) (h:TC ty s rs=some [v]:=by kernel_rfl) (hks:ksE (NT v r)=ks:=by kernel_rfl) (hnd:ks.Nodup:=by decide):RA ty rs r s:=⟨JkZ ks h ho.out hks hnd⟩
theorem rT {ty:Nat->Ty} {rs:List ResultVar} {vs l:List AV} (ks:List Nat) (ho:OT s vs l) (h:TC ty s rs=some vs:=by kernel_rfl) (hl:Nat.beq vs.length 1=false:=by kernel_rfl) (hks:ksE (NU vs l)=ks:=by kernel_rfl) (hnd:ks.Nodup:=by decide):RA ty rs (.tup l) s:=⟨Jk0 h hl ho.out ks hks hnd⟩
structure RL (nk:Nat) (ty:Nat->Ty) (rs:List ResultVar) (r:AV) (O1:List (Option Ob)) (s:St):Prop where
 out:∃ s',AA nk s s'/\JhB ty rs r O1 s'
def Jmp (vs:List AV):AV:=match vs with
 | [v]=>v
 | vs=>.tup vs
theorem rl {ty:Nat->Ty} {rs:List ResultVar} {r:AV} {O1:List (Option Ob)} (sh:AA nk s s') (h:(TC ty s' rs).map Jmp=some r:=by kernel_rfl) (hO:s'.objs=O1:=by kernel_rfl):RL nk ty rs r O1 s:=by
 refine ⟨s',sh,hO,?_⟩;cases hb:TC ty s' rs with
 | none=>rw [hb] at h;cases h
 | some vs=>
  rw [hb] at h;obtain ⟨p,e1,q1⟩:=Wf hb;rw [e1];simp only [Option.map_some,JnI] at h
  match vs,h with
  | [],h=>exact ⟨q1,h.symm⟩
  | [v],h=>exact ⟨q1,h⟩
  | v::v'::l,h=>exact ⟨q1,h.symm⟩
theorem pL {ty:Nat->Ty} {rs:List ResultVar} {r:AV} {O1:List (Option Ob)} (h:RL nk ty rs r O1 s):PQ (Vp nk ty rs r O1) .ret s:=⟨h.out⟩
theorem pL' {ty:Nat->Ty} {rs:List ResultVar} {r:AV} {O1:List (Option Ob)} (h:RL nk ty rs r O1 s):PQ (Vp nk ty rs r O1) .normal s:=⟨h.out⟩
theorem fl {P:Program} {fn:Func} {f:FuncId} {args:List AV} {O0 O1:List (Option Ob)} {nb:Nat} {r:AV} (hfol:P.follows .mixedOrders=true) (hΓ:Kv P Γ) (hf:P.funcs[f]? = some fn) (h:WP Γ (Az fn) [] (Vp nb Γ.ty fn.results.toList r O1) s)
  (hb:fn.body=some (Az fn):=by kernel_rfl) (hnm:(fn.name == "runtime.NumGoroutine")=false:=by kernel_rfl) (hnt:Γ.nt=⟨fn.ntmps,[],nb⟩:=by kernel_rfl) (hlen:Nat.ble args.length fn.ntmps=true:=by kernel_rfl) (hs:(⟨(List.range args.length).zip args,O0⟩:St)=s:=by kernel_rfl) (hrd:Γ.rd=false:=by kernel_rfl):Ce P f args O0 nb r O1:=
 JfN hfol hΓ hrd hf hb hnm hnt hlen hs h.out
theorem lt (ord:List Nat) {f:FuncId} {ys:List AV} {O0 O1:List (Option Ob)} {nb:Nat} {r:AV} (hr:Γ.lent f ys O0 nb r O1) (hk:RF Γ C p (i+1) Q ((Vu Γ (nav p C) i ord nb r O1 s).getD s)) (hc:MX (nav p C) i s=some (f,((MX (nav p C) i s).getD (0,[],[])).2.1,ord):=by kernel_rfl)
  (hxs:((MX (nav p C) i s).getD (0,[],[])).2.1.map (NQ ord)=ys:=by kernel_rfl) (hO:HH s.objs ord=O0:=by kernel_rfl) (hn:(Vu Γ (nav p C) i ord nb r O1 s).isSome=true:=by kernel_rfl):RF Γ C p i Q s:=⟨Jk1 hc hxs hO hr (Cf hn) hk.out⟩
theorem leM {enc:α->List D} {xs:List α}:0+xs.length<=(xs.map enc).length:=by simp
theorem ltP (ord:List Nat) {f:FuncId} {ys:List AV} {O0 O1 raw0:List (Option Ob)} {nb:Nat} {r:AV} (hr:Γ.lent f ys O0 nb r O1) (hp0:Pl (Pj ord) raw0 O0) (hk:RF Γ C p (i+1) Q ((Vu Γ (nav p C) i ord nb r O1 s).getD s)) (hc:MX (nav p C) i s=some (f,((MX (nav p C) i s).getD (0,[],[])).2.1,ord):=by kernel_rfl)
  (hxs:((MX (nav p C) i s).getD (0,[],[])).2.1.map (NQ ord)=ys:=by kernel_rfl) (hO:HH s.objs ord=raw0:=by kernel_rfl) (hn:(Vu Γ (nav p C) i ord nb r O1 s).isSome=true:=by kernel_rfl):RF Γ C p i Q s:=lt ord hr hk hc hxs (hO.trans hp0.eq) hn
theorem tb {f:AV->AV} {raw:List (Option Ob)} (O:List (Option Ob)) (hp:Pl f raw O) (hk:RF Γ C p i Q ⟨s.env,O⟩) (h:s.objs=raw:=by kernel_rfl):RF Γ C p i Q s:=by
 rw [hp.eq] at h;rw [← h] at hk;exact hk
theorem QK (esz:Nat) {α:Type} {zs:List α} {n:Int} {z:α} {eb:Nat} {ez:List D} (h:mkl eb n z=some zs):Hp s (some ⟨.osl s.objs.length esz 0 n.toNat,[.arr esz (List.replicate n.toNat ez)],[],none,0<=n/\n=n/\n.toNat*eb<=70368744177664⟩) (.osl s.objs.length esz 0 n.toNat) [.arr esz (List.replicate n.toNat ez)] [] none:=by
 have:0<=n/\n.toNat*eb<=70368744177664:=by
  unfold mkl at h;split at h
  ·assumption
  ·cases h
 exact .of rfl ⟨this.1,rfl,this.2⟩
theorem Lr {α:Type} {zs:List α} {n:Int} {z:α} {eb:Nat} (h:mkl eb n z=some zs):List.replicate n.toNat z=zs:=by
 unfold mkl at h;split at h
 ·exact Option.some.inj h
 ·cases h
theorem FY {α:Type} {zs:List α} {n:Int} {z:α} {eb:Nat} (h:mkl eb n z=some zs):n.toNat=zs.length:=by
 rw [← Lr h];simp
theorem Vw {a b:Nat} {u:Unit} (h:Bu (decide (a=b))=some u):a=b:=of_decide_eq_true (SD h)
theorem Wi (k sz off m:Nat) {j:Nat} {n:Int} {u:Unit} (h:Bu (decide (0<=n/\n<(m:Nat)))=some u):Hp s (Bo (bif Nat.beq sz sz then .eptr k sz (j+n.toNat) off else .eptr k sz j (off+n.toNat*sz)) (0<=n/\n<(m:Nat))) (.eptr k sz (j+n.toNat) off) [] [] none:=by
 have hb:Nat.beq sz sz=true:=Nat.beq_refl sz;rw [hb];exact .of rfl ((of_decide_eq_true (SD h)))
theorem leN {encN:α->List AV} {xs:List α}:0+xs.length<=(xs.map encN).length:=by simp
theorem Jh0 {encN:α->List AV} {xs:List α} {n:Int} {x:α} (h:idx xs n=some x):0+n.toNat+1<=(xs.map encN).length:=by
 have:=ltN (encN:=encN) h;omega
theorem Jgb {encN:α->List AV} {xs:List α} (h:∀ x,(encN x).all isN=true):Ph (xs.map encN)<=0:=by
 unfold Ph;rw [Nat.le_zero,Jnl,List.filter_eq_nil_iff];intro a ha;obtain ⟨l,hl,ha⟩:=List.mem_flatten.1 ha;obtain ⟨x,_,rfl⟩:=Jno.1 hl;have:=Jnd.1 (h x) a ha;simp [this]
theorem Jmq {encN:α->List AV} {encD:α->List D} {xs:List α} (h:∀ x,(encN x).map ofN=encD x):(xs.map encN).map (List.map ofN)=xs.map encD:=by
 rw [List.map_map];exact Jnv λ x _=>h x
theorem Jlf {encN:α->List AV} {encD:α->List D} {xs:List α} (h:∀ x,(encN x).map ofN=encD x):AV.d (.sl ((((xs.map encN).drop 0).take xs.length).map (List.map ofN)))=AV.d (.sl (xs.map encD)):=by
 rw [List.drop_zero,List.take_of_length_le (by simp),Jmq h]
theorem JcN {encN:α->List AV} {encD:α->List D} {xs:List α} {n:Int} {x:α} {o:Nat} (h:idx xs n=some x) (hd:∀ x,(encN x).map ofN=encD x):AV.dptr (((xs.map encN)[0+n.toNat]?.getD []).map ofN) o=.dptr (encD x) o:=by
 obtain ⟨_,_,h2⟩:=EV h;rw [JnM,JnB,h2];exact congrArg (AV.dptr · o) (hd x)
end Go.AI
end
section
namespace Go.AI
variable {P:Program} {F F':Nat->Option Obj} {ρ ρ':Nat->Option Loc} {N:Nat->Prop} {H0 F0:Nat->Option Obj} {O objs:List (Option Ob)} {w:World} {w0:W0} {Γ:Nat->Ty} {nt:Slt} {o:Oper} {st:St}
theorem JaW (hΓ:La P Γ) {d:Operand} {t:TypeId} {k sz eb n:Nat} {ez:List D} {es:List (List D)} (hop:o.op=.call ⟨.builtin .clear,#[d],#[t]⟩) (hok:(Γ t).ok=true) (hkind:(Γ t).kind=.slice sz eb ez)
  (hd:Al st.env d=.osl k sz 0 n) (ho:obA st.objs k=some (.arr sz es)) (hnl:n=es.length) :
  VW P nt o true st ⟨putA o.dst false true (.tup []) st.env,st.objs.set k (some (.arr sz (List.replicate n ez)))⟩:=by
 intro N H0 F0 w0 a w _ hI hdst K Qw hK;obtain ⟨F,ρ,hS,hSl,hn,hdf⟩:=hI;obtain ⟨desc,hde,_,hk⟩:=(hΓ t hok).desc;rw [hkind] at hk;obtain ⟨elem,i,z,rfl,p1,p2,p3,p4,p5,p6,p7,_⟩:=hk;have hdr:=A4 hSl d;rw [hd] at hdr;generalize hxd:a.eval d=xd at hdr;have hER:=Pp (F:=F) (len:=n) p5 p6 p7;have hcs:(Builtin.zeroCells z.cells n).size=n*sz:=by
  have hzs:z.cells.size=sz:=by have:=congrArg List.length p5;simp at this;omega
  simp [Builtin.zeroCells,hzs]
 have hzc:(Array.range (n*sz)).map (z.cells[· % z.cells.size]!)=Builtin.zeroCells z.cells n:=by
  have hzs:z.cells.size=sz:=by have:=congrArg List.length p5;simp at this;omega
  simp [Builtin.zeroCells,hzs]
 rw [hzc] at hER;have htup:Ai F ρ (.tup []) (.tuple #[]):=.tup [] #[] rfl λ i a v h=>by simp at h
 have fin:∀ w',Sim N H0 F0 F ρ (st.objs.set k (some (.arr sz (List.replicate n ez)))) w'.heap->Mu w w'->(execOp a.eval o).run P w=.ok (.value (.tuple #[])) w'->o.wp P a w K Qw:=by
  intro w' hS' hmu hr;unfold Oper.wp;rw [hr,Oper.upon_value];exact hK _ _ ⟨F,ρ,hS',hSl.putA hn hdst htup,hn.put hdst,by rw [B1];exact ⟨hdf.1,hdf.2.1.trans hmu,hdf.2.2⟩⟩
 have hexec:∀ w',(Builtin.clear_ #[t] o.type #[xd]).run P w=.ok (.tuple #[]) w'->(execOp a.eval o).run P w=.ok (.value (.tuple #[])) w':=by
  intro w' hr;simp only [execOp,hop,resolve,invoke,builtin,Jna,Jnb,Jm8,List.map_toArray,Jns,List.map_nil,hxd,hr]
 by_cases h0:n=0
 ·subst h0;have hes:es=[]:=Jnl.1 hnl.symm;refine fin w ?_ (Mu.refl w) (hexec w ?_)
  ·refine hS.table (by simp) λ j L ob' hj hob'=>?_;by_cases e:j=k
   ·subst e;rw [BN,if_pos ⟨rfl,AU ho⟩] at hob';cases hob';rw [ho,hes];rfl
   ·rw [BN,if_neg (λ hh=>e hh.1)] at hob';exact hob'
  ·have:∃ ad cap,xd=.slice ad 0 cap:=by cases hdr<;>exact ⟨_,_,rfl⟩
   obtain ⟨ad,cap,rfl⟩:=this;cases ad<;>simp [Builtin.clear_,run_underlying hde]
 ·cases hdr with
  | osl0=>exact absurd rfl h0
  | osl _ _ _ _ cap L hL hc hss hz=>
   obtain ⟨⟨g1,g2,cur,t0,fr,g3,g4,g5,g6⟩,gN,gF⟩:=hS.obj k L _ hL ho;have hin:L.base+n*sz<=cur.size:=by rw [hnl];omega
   have hst:=Ch P L.b (L.base+0*sz) t0 fr (Builtin.zeroCells z.cells n).toList 0 cur w g3 (by simp [hcs];omega) (by rw [g4];exact g5) (hER.ones (by rw [hcs];simp));simp only [Nat.zero_mul,Nat.add_zero] at hst;refine fin { w with heap:=w.heap.setIfInBounds L.b (.cells (BV cur L.base (Builtin.zeroCells z.cells n).toList) t0 fr) } ?_ (Mu.set g3) (hexec _ ?_)
   ·have:=hS.rewrite (k':=k) (L':=L) (x:=.cells (BV cur L.base (Builtin.zeroCells z.cells n).toList) t0 fr) (O':=st.objs.set k (some (.arr sz (List.replicate n ez)))) hL ho (by rw [CY hL];exact RLe.refl _) rfl (λ j ob' hj hob'=>by
     rw [BN,if_neg (λ hh=>hj hh.1)] at hob';exact ⟨hob',hj⟩) (by simp) (by simpa using AU ho) (λ ob' hob'=>by
     rw [BN,if_pos ⟨rfl,AU ho⟩] at hob';cases hob';have hps:(BV cur L.base (Builtin.zeroCells z.cells n).toList).size=L.size:=by rw [BI,g4]
     refine ⟨hER.1,by simp;rw [← g4];exact hin,_,t0,fr,by rw [Ds,if_pos ⟨rfl,As g3⟩],hps,g5,λ i e hi j x hx=>?_⟩;have hil:=Ag hi;simp only [List.length_replicate] at hil;have hjs:j<sz:=by
      have:=Ag hx;have he:e.length=sz:=hER.1 e (Jnz hi);omega
     obtain ⟨u,hu,hdu⟩:=hER.2.2 i e hi j x hx;have hb:i*sz+j<n*sz:=by
      have:(i+1)*sz<=n*sz:=Jnc _ hil;rw [JnL,Nat.one_mul] at this;omega
     refine ⟨u,?_,hdu⟩;rw [Fd _ _ _ _ (by simp [hcs];omega)];simp only [Array.length_toList,hcs];rw [if_pos (by omega),show L.base+i*sz+j-L.base=0+i*sz+j by omega];simpa using hu) (λ ob' hob'=>by
     rw [BN,if_pos ⟨rfl,AU ho⟩] at hob';cases hob';rfl)
    rw [CY hL] at this;exact this
   ·have e1:∃ m,n=m+1:=⟨n-1,by omega⟩;obtain ⟨m,rfl⟩:=e1;simp only [Builtin.clear_,List.getElem?_toArray,Jnu,Jna,run_underlying hde,Jm8,Ct w p1 p4,Nat.zero_mul,Nat.add_zero,hst,Jnb]
def Jh1 (P:Program) (t:TypeId) (name:String) (f:FuncId):Bool:=
 match P.info? t,P.underlying t with
 | some i,some d=>(match i.methods.find? (·.name==name) with
  | some m=>m.path.isEmpty&&(match m.func with|some (f',b)=>Nat.beq f' f&&!b|none=>false)
  | none=>false)&&(match d with | .pointer _=>false|_=>true)
 | _,_=>false
theorem JcO {t:TypeId} {name:String} {f:FuncId} (h:Jh1 P t name f=true) (v:Value) (w:World):∀ n,(method (n+1) t v name).run P w=.ok (f,v) w:=by
 intro n;unfold Jh1 at h;split at h
 ·rename_i i d hi hd;simp only [Jny] at h;obtain ⟨h1,h2⟩:=h;split at h1
  ·rename_i m hm;simp only [Jny] at h1;obtain ⟨hp,hf⟩:=h1;have hp:m.path.toList=[]:=by simpa using hp
   split at hf
   ·rename_i f' b hmf;simp only [Jny,Bool.not_eq_true'] at hf;obtain ⟨e1,rfl⟩:=hf;have e1:=JnE e1;subst e1;have hpe:m.path.isEmpty=true:=by simpa using hp
    have hrec:(receiverAt t (.val v) false (some ((name.splitOn ".").getLastD name))).run P w=.ok v w:=by
     simp only [receiverAt,Jna,run_underlying hd,Jm8];cases d with
     | pointer e=>cases h2
     | _=>rfl
    unfold method;simp only [Jna,run_typeInfo w hi,Jm8,hm,hp,follow,Jnb,hmf,hpe,if_true,hrec]
   ·cases hf
  ·cases h1
 ·cases h
def SF (ev:Operand->AV):Op->Option ((Nat×String)⊕FuncId)×List AV
 | .call ⟨.value x,args,_⟩=>match ev x with
  | .clo f l=>(some (.inr f),args.toList.map ev++l)
  | _=>(none,[])
 | .call ⟨.invoke x m,args,_⟩=>match ev x with
  | .ifc t v=>(some (.inl (t,m)),v::args.toList.map ev)
  | _=>(none,[])
 | _=>(none,[])
def Jh2 (P:Program) (c:Option ((Nat×String)⊕FuncId)) (f:FuncId):Bool:=
 match c with
 | some (.inl (t,m))=>Jh1 P t m f
 | some (.inr f')=>Nat.beq f' f
 | none=>false
theorem JcP {f:FuncId} {c:Option ((Nat×String)⊕FuncId)} {xs:List AV} {nb:Nat} {r:AV} {O1:List (Option Ob)} (hc:SF (Al st.env) o.op=(c,xs)) (hm:Jh2 P c f=true)
  (hcall:Ce P f (xs.map (NQ (AY st.objs xs))) (HH st.objs (AY st.objs xs)) nb r O1) (hnb:nb<=(AY st.objs xs).length) (hnb1:nb<=O1.length) (hord:∀ k∈AY st.objs xs,k<st.objs.length) :
  VW P nt o true st ⟨putA o.dst false true (R7 (Dd (AY st.objs xs) st.objs.length nb) r) st.env,Gg st.objs (AY st.objs xs) nb O1⟩:=by
 intro N H0 F0 w0 a w _ hI hdst K Qw hK;obtain ⟨F,ρ,hS,hSl,hn,hdf⟩:=hI;have hk:∀ v w' F' ρ'',FLe F F'->RLe ρ ρ''->Sim N H0 F0 F' ρ'' (Gg st.objs (AY st.objs xs) nb O1) w'.heap->Ai F' ρ'' (R7 (Dd (AY st.objs xs) st.objs.length nb) r) v->Mu w w'->K (a.put o.dst v) w':=
  λ v w' F' ρ'' hF hρ hS' hv hmu=>hK _ _ ⟨F',ρ'',hS',(hSl.mono hF hρ).putA hn hdst hv,hn.put hdst,by rw [B1];exact ⟨hdf.1.mono hF,hdf.2.1.trans hmu,hdf.2.2.mono hρ⟩⟩
 have hev:∀ x,Ai F ρ (Al st.env x) (a.eval x):=A4 hSl;unfold SF at hc;split at hc
 ·rename_i x args ts hop;split at hc
  ·rename_i f' l hx;cases hc;have e1:=JnE hm;subst e1;have hxr:=hev x;rw [hx] at hxr;generalize hxv:a.eval x=xv at hxr;cases hxr with
   | clo _ _ vs hl hr=>
    have hcr0:=MP (args:=args) (a:=a) (λ x _=>hev x);refine Lh (vs:=args.map a.eval++vs) (λ fn c hf hb hnm=>?_) hS ⟨by simp [hl],λ i y v hy hv=>?_⟩ hcall hnb hnb1 hord hk
    ·simp only [execOp,hop,resolve,hxv,Deferred.ofValue,Jna,Jnb,Jm8,invoke,callFunc,run_program,hf,hnm,hb,JnK,if_false,Option.isNone_some,Array.empty_append,Array.append_empty]
    ·rw [Array.toList_append] at hv;have hl0:=hcr0.1;by_cases hi:i<(args.toList.map (Al st.env)).length
     ·rw [JnF hi] at hy;rw [JnF (by omega)] at hv;exact hcr0.2 i y v hy hv
     ·rw [JnQ (by omega)] at hy;rw [JnQ (by omega)] at hv;exact hr _ y v hy (by rw [hl0];simpa using hv)
  ·cases hc;cases hm
 ·rename_i x m args ts hop;split at hc
  ·rename_i t v0 hx;cases hc;have hxr:=hev x;rw [hx] at hxr;generalize hxv:a.eval x=xv at hxr;cases hxr with
   | ifc _ _ y hy=>
    have hcr0:=MP (args:=args) (a:=a) (λ x _=>hev x);refine Lh (vs:=#[y]++args.map a.eval) (λ fn c hf hb hnm=>?_) hS ⟨by simp,λ i z v hz hv=>?_⟩ hcall hnb hnb1 hord hk
    ·obtain ⟨n,hn'⟩:∃ n,P.types.size+Made.depth=n+1:=⟨P.types.size+(Made.depth-1),by simp [Made.depth]⟩;have hmet:=JcO hm y w n;rw [← hn'] at hmet;have hex:(#[Value.iface t y]++args.map a.eval).extract 1 (#[Value.iface t y]++args.map a.eval).size=args.map a.eval:=by
      apply Array.ext';simp [Array.toList_extract];exact List.take_of_length_le (by simp)
     have h0:(#[Value.iface t y]++args.map a.eval)[0]? = some (Value.iface t y):=by rw [Array.getElem?_append_left (by simp)];rfl
     simp only [execOp,hop,resolve,hxv,Jna,Jnb,Jm8,invoke,h0,hex,callMethod,Jna,run_program,Jm8,hmet,callFunc,hf,hnm,hb,JnK,if_false,Option.isNone_some,Jnb]
    ·rw [Array.toList_append] at hv;cases i with
     | zero=>simp at hz hv;subst hz;subst hv;exact hy
     | succ i=>exact hcr0.2 i z v (by simpa using hz) (by simpa using hv)
  ·cases hc;cases hm
 ·cases hc;cases hm
def Zm:TK->Bool
 | .other=>false
 | _=>true
theorem JaX (hΓ:La P Γ) {t:TypeId} {x:Operand} (hop:o.op=.makeInterface t x) (hok:(Γ t).ok=true) (hk:Zm (Γ t).kind=true):VW P nt o true st ⟨putA o.dst false true (.ifc t (Al st.env x)) st.env,st.objs⟩:=by
 intro N H0 F0 w0 a w _ hI hdst K Qw hK;obtain ⟨F,ρ,hS,hSl,hn,hdf⟩:=hI;obtain ⟨d,hd,_,hf⟩:=(hΓ t hok).desc;have hni:∀ l,d≠.interface l:=λ l e=>by
  subst e;cases hkk:(Γ t).kind<;>rw [hkk] at hf hk<;>simp [Iy,Zm] at hf hk
 have hr:(execOp a.eval o).run P w=.ok (.value (.iface t (a.eval x))) w:=by
  simp only [execOp,hop,Instr.makeInterface,Jna,run_underlying hd,Jm8];cases d with
  | interface l=>exact absurd rfl (hni l)
  | _=>rfl
 unfold Oper.wp;rw [hr,Oper.upon_value];exact hK _ _ ⟨F,ρ,hS,hSl.putA hn hdst (.ifc _ _ _ (A4 hSl x)),hn.put hdst,by rw [B1];exact hdf⟩
theorem JcQ {f:FuncId} {cap:Array Operand} (hop:o.op=.makeFunc (.func f) #[] cap):VW P nt o true st ⟨putA o.dst false true (.clo f (cap.toList.map (Al st.env))) st.env,st.objs⟩:=by
 intro N H0 F0 w0 a w _ hI hdst K Qw hK;obtain ⟨F,ρ,hS,hSl,hn,hdf⟩:=hI;have hr:(execOp a.eval o).run P w=.ok (.value (.func (.func f) #[] (cap.map a.eval))) w:=by
  simp only [execOp,hop,Instr.makeFunc,Jna,Jnb,Jm8,List.map_toArray,List.map_nil]
 have hc:=MP (args:=cap) (a:=a) λ x _=>A4 hSl x;unfold Oper.wp;rw [hr,Oper.upon_value];exact hK _ _ ⟨F,ρ,hS,hSl.putA hn hdst (.clo f _ _ (by simp) λ i x v hx hv=>hc.2 i x v hx (by simpa using hv)),hn.put hdst,by rw [B1];exact hdf⟩
end Go.AI
end
section
namespace Go.AI
variable {P:Program} {Γ:Cx} {C:Code} {p:List Nat} {Q:Ex->St->Prop} {s s':St} {K:St->Prop} {i:Nat}
variable {α β ζ:Type}
structure XOK (P:Program) (Γ:Cx):Prop where
 ty:La P Γ.ty
 ext:Γ.ext=Ve P
def JaY (Γ:Cx) (c:Code) (o:Oper):Bool:=!Tv c&&o.guard.isNone&&CD Γ.nt o.dst&&ndB o.op
theorem M1 (hX:XOK P Γ) {o:Oper} (ho:(Bt (nav p C))[i]? = some o) (h0:JaY Γ (nav p C) o=true) (hx:VW P Γ.nt o true s s') (hk:RF Γ C p (i+1) Q s'):RF Γ C p i Q s:=by
 refine ⟨?_⟩;have hk:=hk.out;unfold Ba at hk ⊢;simp only [JaY,Jny,Bool.not_eq_true'] at h0;obtain ⟨⟨⟨h1,h2⟩,h3⟩,h4⟩:=h0;rw [Dw ho];show AZ _ _ _ _ _ _;have hgN:o.guard=none:=by simpa using h2
 unfold AZ;rw [hgN];simp only [Cg,h3,Jng,cond_false];exact ⟨λ _=>.inr (.inr ⟨h1,.inl ⟨s',by rw [hX.ext];exact hx.ok h4,hk⟩⟩),λ h=>by cases h⟩
def nxI (Γ:Cx) (c:Code) (i:Nat) (s:St):Option St:=
 match (Bt c)[i]? with
 | some o=>bif JaY Γ c o then (match o.op with
  | .makeInterface t x=>bif (Γ.ty t).ok&&Zm (Γ.ty t).kind then some ⟨putA o.dst false true (.ifc t (Al s.env x)) s.env,s.objs⟩ else none
  | .makeFunc (.func f) first cap=>bif first.toList.isEmpty then some ⟨putA o.dst false true (.clo f (cap.toList.map (Al s.env))) s.env,s.objs⟩ else none
  | _=>none) else none
 | none=>none
theorem xm (hX:XOK P Γ) (hk:RF Γ C p (i+1) Q ((nxI Γ (nav p C) i s).getD s)) (h:(nxI Γ (nav p C) i s).isSome=true:=by kernel_rfl):RF Γ C p i Q s:=by
 have h:=Cf (d:=s) h;generalize (nxI Γ (nav p C) i s).getD s=s' at h hk;unfold nxI at h;split at h
 ·rename_i o ho;obtain ⟨h0,h⟩:=AO h;split at h
  ·rename_i t x hop;obtain ⟨h1,h⟩:=AO h;simp only [Jny] at h1;cases h;exact M1 hX ho h0 (JaX hX.ty hop h1.1 h1.2) hk
  ·rename_i f first cap hop
   obtain ⟨h1,h⟩:=AO h;cases h;have:first=#[]:=by have:=List.isEmpty_iff.1 h1;simpa using this
   subst this;exact M1 hX ho h0 (JcQ hop) hk
  ·cases h
 ·cases h
def UG (c:Code) (i:Nat) (s:St):Option ((Option ((Nat×String)⊕FuncId)×List AV)×List Nat):=
 match (Bt c)[i]? with
 | some o=>some (SF (Al s.env) o.op,AY s.objs (SF (Al s.env) o.op).2)
 | none=>none
def nxC (Γ:Cx) (c:Code) (i:Nat) (ord:List Nat) (nb:Nat) (r:AV) (O1:List (Option Ob)) (s:St):Option St:=
 match (Bt c)[i]? with
 | some o=>bif JaY Γ c o&&Nat.ble nb ord.length&&Nat.ble nb O1.length&&ord.all (λ k=>Nat.blt k s.objs.length) then
   some ⟨putA o.dst false true (R7 (Dd ord s.objs.length nb) r) s.env,Gg s.objs ord nb O1⟩ else none
 | none=>none
theorem xc (hX:XOK P Γ) (ord:List Nat) {f:FuncId} {ys:List AV} {O0 O1:List (Option Ob)} {nb:Nat} {r:AV} (hr:Ce P f ys O0 nb r O1) (hk:RF Γ C p (i+1) Q ((nxC Γ (nav p C) i ord nb r O1 s).getD s))
  (hc:UG (nav p C) i s=some (((UG (nav p C) i s).getD ((none,[]),[])).1,ord):=by kernel_rfl) (hm:Jh2 P ((UG (nav p C) i s).getD ((none,[]),[])).1.1 f=true:=by kernel_rfl)
  (hxs:((UG (nav p C) i s).getD ((none,[]),[])).1.2.map (NQ ord)=ys:=by kernel_rfl) (hO:HH s.objs ord=O0:=by kernel_rfl) (hn:(nxC Γ (nav p C) i ord nb r O1 s).isSome=true:=by kernel_rfl):RF Γ C p i Q s:=by
 generalize ((UG (nav p C) i s).getD ((none,[]),[])).1=cx at hc hm hxs;have hn:=Cf (d:=s) hn;generalize (nxC Γ (nav p C) i ord nb r O1 s).getD s=s' at hn hk;unfold UG at hc;unfold nxC at hn;split at hn
 ·rename_i o ho;rw [ho] at hc;simp only [JnI,Prod.mk.injEq] at hc;obtain ⟨hc,hord⟩:=hc;rw [hc] at hord;obtain ⟨h0,hn⟩:=AO hn;simp only [Jny] at h0;obtain ⟨⟨⟨h1,h2⟩,h3⟩,h4⟩:=h0;cases hn;subst hord;subst hxs;subst hO;refine M1 hX ho h1 (JcP (c:=cx.1) (xs:=cx.2) (by rw [hc]) hm hr (JnN h2) (JnN h3) λ k hk=>?_) hk;have:=JnN (Jnd.1 h4 k hk);omega
 ·cases hn
def Jhb (objs:List (Option Ob)) (v:AV) (ys:List (List D)):Prop:=∃ ob,J0 objs v=some (ys,ob)/\ob
theorem Jlg {objs:List (Option Ob)} {ys:List (List D)}:Jhb objs (.d (.sl ys)) ys:=⟨_,rfl,trivial⟩
def Jh3 (c:Code) (i:Nat):Option (Operand×Operand×Nat):=
 match (Bt c)[i]? with
 | some o=>match o.op with
  | .call ⟨.builtin .copy,args,ts⟩=>match args.toList,ts.toList with
   | [d,x],[t,_]=>some (d,x,t)
   | _,_=>none
  | _=>none
 | none=>none
def cpV (c:Code) (i:Nat) (s:St):AV×AV:=match Jh3 c i with
 | some (d,x,_)=>(Al s.env d,Al s.env x)
 | none=>(.top,.top)
def Jgc (Γ:Cx) (c:Code) (i k sz:Nat) (zs:List (List D)) (n:Nat) (s:St):Option St:=
 match (Bt c)[i]?,Jh3 c i with
 | some o,some (_,_,t)=>bif JaY Γ c o&&(Γ.ty t).ok&&(match (Γ.ty t).kind with | .slice z _ _=>Nat.beq z sz|_=>false)&&Nat.ble 1 sz then some ⟨putA o.dst false true (.d (.int .i64 (n:Int))) s.env,s.objs.set k (some (.arr sz zs))⟩ else none
 | _,_=>none
def Jgd (c:Code) (i:Nat):Option (Operand×Nat):=
 match (Bt c)[i]? with
 | some o=>match o.op with
  | .call ⟨.builtin .clear,args,ts⟩=>match args.toList,ts.toList with
   | [d],[t]=>some (d,t)
   | _,_=>none
  | _=>none
 | none=>none
def clV (c:Code) (i:Nat) (s:St):AV:=match Jgd c i with
 | some (d,_)=>Al s.env d
 | none=>.top
def nxZ (Γ:Cx) (c:Code) (i k sz:Nat) (ez:List D) (zs:List (List D)) (s:St):Option St:=
 match (Bt c)[i]?,Jgd c i with
 | some o,some (_,t)=>bif JaY Γ c o&&(Γ.ty t).ok then (match (Γ.ty t).kind with
  | .slice z _ _=>bif Nat.beq z sz then some ⟨putA o.dst false true (.tup []) s.env,s.objs.set k (some (.arr sz zs))⟩ else none
  | _=>none) else none
 | _,_=>none
def clZ (Γ:Cx) (c:Code) (i:Nat):List D:=match Jgd c i with
 | some (_,t)=>(match (Γ.ty t).kind with
  | .slice _ _ ez=>ez
  | _=>[])
 | none=>[]
theorem xz (hX:XOK P Γ) (enc:α->List D) {xs:List α} (z:α) (k sz:Nat) (hk:RF Γ C p (i+1) Q ((nxZ Γ (nav p C) i k sz (enc z) ((List.replicate xs.length z).map enc) s).getD s))
  (hd:clV (nav p C) i s=.osl k sz 0 xs.length:=by kernel_rfl) (ho:obA s.objs k=some (.arr sz (xs.map enc)):=by kernel_rfl) (hz:clZ Γ (nav p C) i=enc z:=by kernel_rfl) (hn:(nxZ Γ (nav p C) i k sz (enc z) ((List.replicate xs.length z).map enc) s).isSome=true:=by kernel_rfl):RF Γ C p i Q s:=by
 have hn:=Cf (d:=s) hn;generalize (nxZ Γ (nav p C) i k sz (enc z) ((List.replicate xs.length z).map enc) s).getD s=s' at hn hk;unfold nxZ at hn;split at hn
 ·rename_i o d t hoo hcl;obtain ⟨h0,hn⟩:=AO hn;simp only [Jny] at h0;obtain ⟨h1,h2⟩:=h0;split at hn
  ·rename_i z' eb ez hkd;obtain ⟨h3,hn⟩:=AO hn;have:=JnE h3;subst this;cases hn;unfold clV at hd;unfold clZ at hz;rw [hcl] at hd hz;simp only [hkd] at hd hz;subst hz;unfold Jgd at hcl;rw [hoo] at hcl;simp only at hcl;split at hcl
   ·rename_i args ts hop;split at hcl
    ·rename_i d' t1 ha ht;cases hcl;have ha:args=#[d]:=by rw [← Array.toArray_toList (xs:=args),ha]
     have ht:ts=#[t]:=by rw [← Array.toArray_toList (xs:=ts),ht]
     subst ha;subst ht;have hx:=JaW (nt:=Γ.nt) hX.ty hop h2 hkd hd ho (by simp);rw [List.map_replicate] at hk;exact M1 hX hoo h1 hx hk
    ·cases hcl
   ·cases hcl
  ·cases hn
 ·cases hn
theorem xcP (hX:XOK P Γ) (ord:List Nat) {f:FuncId} {ys:List AV} {O0 O1 raw0:List (Option Ob)} {nb:Nat} {r:AV} (hr:Ce P f ys O0 nb r O1) (hp0:Pl (Pj ord) raw0 O0) (hk:RF Γ C p (i+1) Q ((nxC Γ (nav p C) i ord nb r O1 s).getD s))
  (hc:UG (nav p C) i s=some (((UG (nav p C) i s).getD ((none,[]),[])).1,ord):=by kernel_rfl) (hm:Jh2 P ((UG (nav p C) i s).getD ((none,[]),[])).1.1 f=true:=by kernel_rfl)
  (hxs:((UG (nav p C) i s).getD ((none,[]),[])).1.2.map (NQ ord)=ys:=by kernel_rfl) (hO:HH s.objs ord=raw0:=by kernel_rfl) (hn:(nxC Γ (nav p C) i ord nb r O1 s).isSome=true:=by kernel_rfl):RF Γ C p i Q s:=xc hX ord hr hk hc hm hxs (hO.trans hp0.eq) hn
end Go.AI
end
section
namespace Go.AI
variable {α:Type}
def JcR (n:Nat) (l h m:Int):Option Unit:=Bu (decide (0<=l)&&decide (l<=h)&&decide (h<=m)&&decide (m<=n))
def inB (n:Nat) (i:Int):Option Unit:=Bu (decide (0<=i)&&decide (i<n))
def ixP (xs:List α) (e:Nat×Nat) (i:Int):Option α:=(inB e.2 i).bind λ _=>idx xs ((e.1+i.toNat:Nat):Int)
def spl {β:Type} (es:List β) (lo:Nat) (ys:List β):List β:=es.take lo++ys++es.drop (lo+ys.length)
def JaZ (xs ys:List α) (lo n:Nat):Option (List α):=if lo+n<=xs.length/\ys.length<=n then some (spl xs lo ys) else none
def QL (ys:List α) (xs:List (Nat×Nat)):List (List α):=xs.map λ x=>(ys.drop x.1).take x.2
def Ja0 (ys:List α) (xs:List (Nat×Nat)):Option Unit:=Bu (xs.all λ x=>decide (x.1+x.2<=ys.length))
end Go.AI
end
section
namespace Go.AI
variable {P:Program} {nt:Slt} {o:Oper} {st:St}
variable {Γ:Cx} {C:Code} {p:List Nat} {Q:Ex->St->Prop} {s s':St} {i:Nat} {α:Type}
theorem Jh4 (k sz n:Nat) {l h m:Int} {y:Unit} (hg:JcR n l h m=some y):Hp s (Bo (.osl k sz (0+l.toNat) (h.toNat-l.toNat)) (0<=l/\l<=h/\h<=m/\m<=(n:Int)/\sz=sz)) (.osl k sz (0+l.toNat) (h.toNat-l.toNat)) [] [] none:=by
 unfold JcR Bu at hg;split at hg
 ·rename_i hc;simp only [Jny,decide_eq_true_eq] at hc;exact .of rfl ⟨hc.1.1.1,hc.1.1.2,hc.1.2,hc.2,rfl⟩
 ·cases hg
theorem JcS {n:Nat} {i:Int} {y:Unit} (h:inB n i=some y):0<=i/\i<n:=by
 unfold inB Bu at h;split at h
 ·rename_i hc;simpa using hc
 ·cases h
theorem FZ (k esz lo n:Nat) {i:Int} {y:Unit} (h:inB n i=some y):Hp s (Bo (.eptr k esz (lo+i.toNat) 0) (0<=i/\i<(n:Nat)/\esz=esz)) (.eptr k esz (lo+i.toNat) 0) [] [] none:=
 .of rfl ⟨(JcS h).1,(JcS h).2,rfl⟩
def HM (k sz:Nat) (x:Nat×Nat):List AV:=[.osl k sz x.1 x.2]
theorem QM {xs:List (Nat×Nat)} {x:Nat×Nat} {n:Int} (k kb sz:Nat) {t:Ty} (h:idx xs n=some x) (hk:obA s.objs k=some (.narr 1 (xs.map (HM kb sz))):=by kernel_rfl) (hv:CK (HM kb sz x) 0 t=some (.osl kb sz x.1 x.2):=by kernel_rfl) (hl:Nat.ble (0+t.size) 1=true:=by kernel_rfl) :
  Hp s (D7 t s.objs (.eptr k 1 (0+n.toNat) 0)) (.osl kb sz x.1 x.2) [] [] none:=by
 have e:xs.map (HM kb sz)=(xs.map (HM kb sz)).set n.toNat (HM kb sz x):=by
  obtain ⟨h0,h1,h2⟩:=EV h;apply Jnm;intro j;rw [List.getElem?_set];split
  ·rename_i e;subst e;split
   ·rw [JnB,h2];rfl
   ·rename_i hl;rw [JnT (by omega)]
  ·rfl
 rw [e] at hk;exact Cj (encN:=HM kb sz) h hk hv rfl hl
theorem Jh5 {xs zs:List (Nat×Nat)} {n:Int} (k kb sz lo m:Nat) {t:Ty} (hz:put xs n (lo,m)=some zs) (hk:obA s.objs k=some (.narr 1 (xs.map (HM kb sz))):=by kernel_rfl) (hl:Nat.beq t.size 1=true:=by kernel_rfl) :
  Hp s (Fy t s.objs (.eptr k 1 (0+n.toNat) 0) (.osl kb sz lo m)) .top [] [] (some (k,.narr 1 (zs.map (HM kb sz)))):=by
 unfold put at hz;split at hz
 ·rename_i h0;cases hz;have hg:xs[n.toNat]? = some (xs[n.toNat]'(by omega)):=Jnx (by omega);have hi:idx xs n=some (xs[n.toNat]'(by omega)):=by unfold idx;rw [if_pos h0.1,hg]
  have e:xs.map (HM kb sz)=(xs.map (HM kb sz)).set n.toNat (HM kb sz (xs[n.toNat]'(by omega))):=by
   apply Jnm;intro j;rw [List.getElem?_set];split
   ·rename_i e;subst e;split
    ·rw [JnB,hg];rfl
    ·rename_i hl;rw [JnT (by omega)]
   ·rfl
  rw [e] at hk;have hs:=JnE hl;have:=Lq (s:=s) (row':=HM kb sz (lo,m)) (t:=t) (off:=0) (v:=.osl kb sz lo m) hi hk rfl rfl (by rw [hs];rfl);rwa [← List.map_set] at this
 ·cases hz
theorem M3 (e:α->List D) (k off:Nat) (t:Ty) {xs:List α} {j:Nat} {x:α} (h:idx xs (j:Int)=some x) (hk:obA s.objs k=some (.arr (e x).length (xs.map e)):=by kernel_rfl) (hv:(CK ((e x).map .d) off t).isSome=true:=by kernel_rfl) (hl:Nat.ble (off+t.size) (e x).length=true:=by kernel_rfl) :
  Hp s (D7 t s.objs (.eptr k (e x).length j off)) (ldV (e x) off t) [] [] none:=by
 have:=C0 e k off t h hk hv hl;rwa [JnM,JnH] at this
theorem stP (e:α->List D) (k off j:Nat) (t:Ty) {xs zs:List α} {x y:α} (h:idx xs (j:Int)=some x) (hz:put xs (j:Int) y=some zs) (hk:RF Γ C p (i+1) Q ((Oi Γ (nav p C) i .top [] [] (some (k,.arr (e x).length (zs.map e))) s).getD s))
  (h1:obA s.objs k=some (.arr (e x).length (xs.map e)):=by kernel_rfl) (h2:xDs s.objs (Ar (stV (nav p C) i s))=some (stR (nav p C) i s,[],[]):=by kernel_rfl) (h3:(BW (stV (nav p C) i s)&&(Ar (stV (nav p C) i s)).all Fr)=true:=by kernel_rfl) (h4:GH (e x) off (stR (nav p C) i s)=e y:=by kernel_rfl) (h5:(Nat.beq (stR (nav p C) i s).length t.size&&Nat.ble (off+t.size) (e x).length)=true:=by kernel_rfl)
  (hx:PA Γ (nav p C) i s=Fy t s.objs (.eptr k (e x).length j off) (stV (nav p C) i s):=by kernel_rfl) (hn:(Oi Γ (nav p C) i .top [] [] (some (k,.arr (e x).length (zs.map e))) s).isSome=true:=by kernel_rfl):RF Γ C p i Q s:=
 stA e k off t h hz hk h1 h2 h3 h4 h5 (by rw [JnM,JnH];exact hx) hn
section
variable {N:Nat->Prop} {H0 F0 F:Nat->Option Obj} {ρ:Nat->Option Loc} {O:List (Option Ob)} {nk:Nat}
theorem PH {h:Array Obj} (hS:Sim N H0 F0 F ρ O h) {k sz:Nat} {es es':List (List AV)} (ho:obA O k=some (.narr sz es)) (hl:es.length=es'.length)
  (hr:∀ (i:Nat) (e e':List AV),es[i]? = some e->es'[i]? = some e'->e.length=e'.length/\∀ (j:Nat) (a a':AV),e[j]? = some a->e'[j]? = some a'->L7 a'=false/\∀ v,(L7 a=false->Ai F ρ a v)->(a=.own 0 []->∃ ad,v=.slice ad 0 0)->Ai F ρ a' v):Sim N H0 F0 F ρ (O.set k (some (.narr sz es'))) h:=by
 have hget:∀ (i:Nat) (e':List AV),es'[i]? = some e'->∃ e,es[i]? = some e/\e.length=e'.length:=λ i e' hi=>by
  have:=Ag hi;have hi0:es[i]? = some es[i]:=Jnx (by omega);exact ⟨_,hi0,(hr i _ e' hi0 hi).1⟩
 have hgetc:∀ (i:Nat) (e':List AV) (j:Nat) (a':AV),es'[i]? = some e'->e'[j]? = some a'->∃ e a,es[i]? = some e/\e[j]? = some a/\L7 a'=false/\∀ v,(L7 a=false->Ai F ρ a v)->(a=.own 0 []->∃ ad,v=.slice ad 0 0)->Ai F ρ a' v:=λ i e' j a' hi hj=>by
  obtain ⟨e,h1,h2⟩:=hget i e' hi;have:=Ag hj;have hj0:e[j]? = some e[j]:=Jnx (by omega);exact ⟨e,_,h1,hj0,(hr i e e' h1 hi).2 j _ a' hj0 hj⟩
 obtain ⟨σ,hσ⟩:=hS.inn;refine hS.retable (by simp) (λ q L ob hq hob=>?_) ⟨σ,hσ.new,λ k' c M q L ob hM hq hob=>?_,hσ.sep,λ q L sz' es2 hq hob i e' j isz xs hi hj cs t fr v hb hv=>?_⟩
 ·by_cases e1:q=k
  ·subst e1;rw [AQ ho] at hob;cases hob;refine ⟨_,ho,.inr ?_⟩;obtain ⟨p1,p2,cs,t,fr,p3,p4,p5,p6⟩:=(hS.obj q L _ hq ho).1;refine ⟨λ e' he=>?_,by rw [← hl];exact p2,cs,t,fr,p3,p4,p5,λ i e' hi j a' ha=>?_⟩
   ·obtain ⟨i,hi⟩:=List.mem_iff_getElem?.1 he;obtain ⟨e,h1,h2⟩:=hget i e' hi;rw [← h2];exact p1 e (Jnz h1)
   ·obtain ⟨e,a,h1,h2,_,h4⟩:=hgetc i e' j a' hi ha;obtain ⟨v,hv,hd⟩:=p6 i e h1 j a h2;refine ⟨v,hv,λ _=>h4 v hd λ ea=>?_⟩;subst ea;rcases hσ.rep q L sz es hq ho i e j 0 [] h1 h2 cs t fr v p3 hv with h5|⟨_,_,_,_,_,_,h6,_⟩
    ·exact h5.2
    ·omega
  ·rw [AM e1] at hob;exact ⟨ob,hob,.inl rfl⟩
 ·by_cases e1:q=k
  ·subst e1;exact hσ.obj k' c M q L _ hM hq ho
  ·rw [AM e1] at hob;exact hσ.obj k' c M q L ob hM hq hob
 ·by_cases e1:q=k
  ·subst e1;rw [AQ ho] at hob;cases hob;obtain ⟨_,_,_,_,h3,_⟩:=hgetc i e' j _ hi hj;cases h3
  ·rw [AM e1] at hob;exact hσ.rep q L sz' es2 hq hob i e' j isz xs hi hj cs t fr v hb hv
theorem Wj {h:Array Obj} (hS:Sim N H0 F0 F ρ O h) {k sz:Nat} {es:List (List D)} (ho:obA O k=some (.arr sz es)) :
  ∃ F',FLe F F'/\Sim N H0 F0 F' ρ (O.set k none) h/\∀ lo n,lo+n<=es.length->∀ v,Ai F ρ (.osl k sz lo n) v->BU F' (.sl ((es.drop lo).take n)) v:=by
 refine ⟨Kt F ρ h [k],FW hS _,?_,λ lo n hn v hv=>?_⟩
 ·rw [← ZU];exact hS.freeze [k] λ k' hk'=>by simp at hk';subst hk';exact ⟨_,ho⟩
 ·refine IJ (objs:=O) (r:=⟨.sl ((es.drop lo).take n),[k],lo+n<=es.length⟩) hS (λ _ _ h=>h) (FW hS _) (λ k' L hk' hL=>?_) ?_ hn hv
  ·exact NE hk' hL
  ·simp [Km,ho]
end
theorem Jh6 (k kb sz:Nat) {β:Type} {x:β} {n:Int} {zs:List β} {nk:Nat} (hm:List.replicate n.toNat x=zs) (h:PF s k=some (1,List.replicate n.toNat [.nil])):AA nk s ⟨s.env,s.objs.set k (some (.narr 1 ((List.replicate zs.length (0,0)).map (HM kb sz))))⟩:=by
 have ho:=M0 h;have a:=AA.toN (nk:=nk) (st:=s) k 1 _ ho;refine AA.trans a (AA.sem λ _ _ _ _ _ _ _ _ hI=>?_);obtain ⟨F,ρ,hS,hSl,hn,hdf⟩:=hI;refine ⟨F,ρ,?_,hSl,hn,hdf⟩;have hlen:zs.length=n.toNat:=by rw [← hm];simp
 have:=PH (es':=(List.replicate zs.length (0,0)).map (HM kb sz)) hS (AQ ho) (by simp [hlen]) λ i e e' hi hi'=>by
  simp only [List.map_replicate,List.getElem?_replicate] at hi hi';rw [hlen] at hi';split at hi
  ·rename_i hl;rw [if_pos hl] at hi';cases hi;cases hi';refine ⟨rfl,λ j a a' ha ha'=>?_⟩;cases j with
   | zero=>
    simp only [HM,Jns,Jnu,JnI] at ha ha';subst ha;subst ha';refine ⟨rfl,λ v _ h2=>?_⟩;obtain ⟨ad,rfl⟩:=h2 rfl;exact .osl0 _ _ _ _
   | succ j=>simp [HM] at ha'
  ·cases hi
 simpa using this
def Jge (enc:α->List D) (l:List α):List AV:=[.d (.sl (l.map enc))]
theorem X4 (kb k sz:Nat) {nk:Nat} {xs:List (Nat×Nat)} {ys:List α} {enc:α->List D} {u:Unit} (hg:Ja0 ys xs=some u) (hk:PF s kb=some (sz,ys.map enc)) (h:DW s k=some (1,xs.map (HM kb sz))) :
  AA nk s ⟨s.env,(s.objs.set kb none).set k (some (.narr 1 ((QL ys xs).map (Jge enc))))⟩:=by
 have ha:=M0 hk;have ho:=Dx h;have hb:∀ x∈xs,x.1+x.2<=ys.length:=by
  unfold Ja0 Bu at hg;split at hg
  ·rename_i hc;intro x hx;simpa using Jnd.1 hc x hx
  ·cases hg
 refine AA.sem λ _ _ _ _ _ _ _ _ hI=>?_;obtain ⟨F,ρ,hS,hSl,hn,hdf⟩:=hI;obtain ⟨F',h1,h2,h3⟩:=Wj hS ha;have hne:k≠kb:=λ e=>by subst e;rw [ha] at ho;cases ho
 refine ⟨F',ρ,?_,hSl.mono h1 (RLe.refl _),hn,hdf.1.mono h1,hdf.2⟩;refine PH h2 (by rw [AM hne];exact ho) (by simp [QL]) λ i e e' hi hi'=>?_;simp only [QL,List.map_map,JnB,JnA] at hi hi';obtain ⟨x,hx,rfl⟩:=hi;obtain ⟨x',hx',rfl⟩:=hi';rw [hx] at hx';cases hx';refine ⟨rfl,λ j a a' hj hj'=>?_⟩;cases j with
 | zero=>
  simp only [HM,Jge,Function.comp_apply,Jnu,JnI] at hj hj';subst hj;subst hj';refine ⟨rfl,λ v hv _=>?_⟩;have hv:=hv rfl;have hv0:Ai F ρ (.osl kb sz x.1 x.2) v:=by
   generalize x.2=m at hv ⊢;cases hv with
   | osl _ _ _ _ cap L a b c d=>exact .osl _ _ _ _ cap L a b c d
   | osl0 _ _ _ a=>exact .osl0 _ _ _ _
  have:=h3 x.1 x.2 (by rw [Jnr];exact hb x (Jnz hx)) v hv0;rw [← List.map_drop,← List.map_take] at this;exact .d _ _ this
 | succ j=>simp [HM] at hj
theorem Jgf {β:Type} {es ys:List β} {lo:Nat} (h:lo+ys.length<=es.length):(spl es lo ys).length=es.length:=by
 unfold spl;simp;omega
theorem Jgg {β:Type} {es ys:List β} {lo:Nat} (h:lo+ys.length<=es.length) (i:Nat):(spl es lo ys)[i]? = if i<lo then es[i]? else if i<lo+ys.length then ys[i-lo]? else es[i]? := by
 unfold spl;have hl:(es.take lo).length=lo:=by simp;omega
 rw [List.append_assoc];split
 ·rw [JnF (by omega),JnS (by omega)]
 ·rw [JnQ (by omega),hl];split
  ·rw [JnF (by omega)]
  ·rw [JnQ (by omega),Jnp];congr 1;omega
theorem Z5 {β:Type} {es ys:List β} {lo:Nat} {x:β} (h:x∈spl es lo ys):x∈es\/x∈ys:=by
 unfold spl at h;rcases List.mem_append.1 h with h|h
 ·rcases List.mem_append.1 h with h|h
  ·exact .inl (List.mem_of_mem_take h)
  ·exact .inr h
 ·exact .inl (List.mem_of_mem_drop h)
theorem Jgh {β γ:Type} (f:β->γ) (es ys:List β) (lo:Nat):(spl es lo ys).map f=spl (es.map f) lo (ys.map f):=by
 unfold spl;simp [List.map_take,List.map_drop]
theorem Ja1 {Γ:Nat->Ty} (hΓ:La P Γ) {d s:Operand} {t t':TypeId} {k sz eb lo n:Nat} {ez:List D} {es ys:List (List D)} {ob:Prop} (hop:o.op=.call ⟨.builtin .copy,#[d,s],#[t,t']⟩) (hok:(Γ t).ok=true) (hkind:(Γ t).kind=.slice sz eb ez) (h1:1<=sz)
  (hd:Al st.env d=.osl k sz lo n) (ho:obA st.objs k=some (.arr sz es)) (hnl:lo+n<=es.length) (hs:J0 st.objs (Al st.env s)=some (ys,ob)) (hob:ob) (hys:∀ e∈ys,e.length=sz) (hle:ys.length<=n) :
  VW P nt o true st ⟨putA o.dst false true (.d (.int .i64 (ys.length:Int))) st.env,st.objs.set k (some (.arr sz (spl es lo ys)))⟩:=by
 intro N H0 F0 w0 a w _ hI hdst K Qw hK;obtain ⟨F,ρ,hS,hSl,hn,hdf⟩:=hI;obtain ⟨desc,hde,_,hk⟩:=(hΓ t hok).desc;rw [hkind] at hk;obtain ⟨elem,i,z,rfl,p1,p2,p3,p4,p5,p6,p7⟩:=hk;have hdr:=A4 hSl d;have hsr:=A4 hSl s;rw [hd] at hdr;obtain ⟨cs,hrun,hER,hcs⟩:=Gh (P:=P) h1 hS (λ _ _ h=>h) hs hob hsr hys;obtain ⟨hl1,hf1⟩:=hrun w rfl;generalize hxs:a.eval s=xs at hl1 hf1;generalize hxd:a.eval d=xd at hdr;have hfit:lo+ys.length<=es.length:=by omega
 have hcopy:∀ (base:Option Addr) (cap:Nat) (w':World),xd=.slice base n cap->(match base with|some b=>(storeCells b cs.toList).run P w=.ok () w'|none=>w'=w) ->
   (execOp a.eval o).run P w=.ok (.value (.int .i64 (ys.length:Int))) w':=by
  intro base cap w' hxd' hst;have hmin:Nat.min ys.length n=ys.length:=Nat.min_eq_left (by omega);have hr:(Builtin.copy_ #[t,t'] o.type #[xd,xs]).run P w=.ok (.int .i64 (ys.length:Int)) w':=by
   rw [hxd'];simp only [Builtin.copy_,List.getElem?_toArray,Jnu,List.getElem?_cons_succ,Jna,run_underlying hde,Jm8,hl1,hmin,AW w p1,p2,hf1];cases base with
   | none=>simp only at hst;subst hst;rfl
   | some b=>simp only [Jna,hst,Jm8];rfl
  simp only [execOp,hop,resolve,invoke,builtin,Jna,Jnb,Jm8,List.map_toArray,Jns,List.map_nil,hxd,hxs,hr]
 have fin:∀ w',Sim N H0 F0 F ρ (st.objs.set k (some (.arr sz (spl es lo ys)))) w'.heap->Mu w w'->(execOp a.eval o).run P w=.ok (.value (.int .i64 (ys.length:Int))) w'->o.wp P a w K Qw:=by
  intro w' hS' hmu hr;unfold Oper.wp;rw [hr,Oper.upon_value];exact hK _ _ ⟨F,ρ,hS',hSl.putA hn hdst (.mkInt _ _),hn.put hdst,by rw [B1];exact ⟨hdf.1,hdf.2.1.trans hmu,hdf.2.2⟩⟩
 have hstay:ys=[]->Sim N H0 F0 F ρ (st.objs.set k (some (.arr sz (spl es lo ys)))) w.heap:=λ h=>by
  subst h;refine hS.table (by simp) λ j L ob' hj hob'=>?_;by_cases e:j=k
  ·subst e;rw [BN,if_pos ⟨rfl,AU ho⟩] at hob';cases hob';simpa [spl] using ho
  ·rw [BN,if_neg (λ hh=>e hh.1)] at hob';exact hob'
 cases hdr with
 | osl0 _ _ _ ad=>
  have hy:ys=[]:=Jnl.1 (by omega);have hcs0:cs.toList=[]:=by
   have:cs.size=0:=by rw [hcs,hy];simp
   simpa using this
  refine fin w (hstay hy) (Mu.refl w) (hcopy ad 0 w rfl ?_);cases ad with
  | none=>rfl
  | some b=>simp only;rw [hcs0];rfl
 | osl _ _ _ _ cap L hL hc hss hz=>
  obtain ⟨⟨g1,g2,cur,t0,fr,g3,g4,g5,g6⟩,gN,gF⟩:=hS.obj k L _ hL ho;have hin:L.base+lo*sz+ys.length*sz<=cur.size:=by
   have:(lo+ys.length)*sz<=es.length*sz:=Jnc _ hfit;rw [JnL] at this;omega
  have hst:=Ch P L.b (L.base+lo*sz) t0 fr cs.toList 0 cur w g3 (by simp [hcs];omega) (by rw [g4];exact g5) (hER.ones hcs);simp only [Nat.add_zero] at hst;refine fin { w with heap:=w.heap.setIfInBounds L.b (.cells (BV cur (L.base+lo*sz) cs.toList) t0 fr) } ?_ (Mu.set g3) (hcopy (some ⟨L.b,L.base+lo*sz,none⟩) cap _ rfl hst);have:=hS.rewrite (k':=k) (L':=L) (x:=.cells (BV cur (L.base+lo*sz) cs.toList) t0 fr) (O':=st.objs.set k (some (.arr sz (spl es lo ys)))) hL ho (by rw [CY hL];exact RLe.refl _) rfl (λ j ob' hj hob'=>by
    rw [BN,if_neg (λ hh=>hj hh.1)] at hob';exact ⟨hob',hj⟩) (by simp) (by simpa using AU ho) (λ ob' hob'=>by
    rw [BN,if_pos ⟨rfl,AU ho⟩] at hob';cases hob';have hps:(BV cur (L.base+lo*sz) cs.toList).size=L.size:=by rw [BI,g4]
    refine ⟨λ e he=>?_,by rw [Jgf hfit];exact g2,_,t0,fr,by rw [Ds,if_pos ⟨rfl,As g3⟩],hps,g5,λ i e hi j x hx=>?_⟩
    ·rcases Z5 he with h|h
     ·exact g1 e h
     ·exact hys e h
    ·have hjs:j<sz:=by
      have:=Ag hx;have he:e.length=sz:=by
       rcases Z5 (Jnz hi) with h|h
       ·exact g1 e h
       ·exact hys e h
      omega
     rw [Fd _ _ _ _ (by simp [hcs];omega)];simp only [Array.length_toList,hcs];rw [Jgg hfit] at hi;by_cases hlo:i<lo
     ·rw [if_pos hlo] at hi;obtain ⟨u,hu,hdu⟩:=g6 i e hi j x hx;have hb:(i+1)*sz<=lo*sz:=Jnc _ hlo;rw [JnL,Nat.one_mul] at hb;exact ⟨u,by rw [if_neg (by omega)];exact hu,hdu⟩
     ·rw [if_neg hlo] at hi;have hb0:lo*sz<=i*sz:=Jnc _ (by omega);by_cases hlt:i<lo+ys.length
      ·rw [if_pos hlt] at hi;obtain ⟨u,hu,hdu⟩:=hER.2.2 (i-lo) e hi j x hx;have hb:(i+1)*sz<=(lo+ys.length)*sz:=Jnc _ hlt;rw [JnL,Nat.one_mul,JnL] at hb;refine ⟨u,?_,hdu⟩;have e1:L.base+i*sz+j-(L.base+lo*sz)=0+(i-lo)*sz+j:=by
        rw [Nat.sub_mul];omega
       rw [if_pos (by omega),e1];simpa using hu
      ·rw [if_neg hlt] at hi;obtain ⟨u,hu,hdu⟩:=g6 i e hi j x hx;have hb:(lo+ys.length)*sz<=i*sz:=Jnc _ (by omega);rw [JnL] at hb;exact ⟨u,by rw [if_neg (by omega)];exact hu,hdu⟩) (λ ob' hob'=>by
    rw [BN,if_pos ⟨rfl,AU ho⟩] at hob';cases hob';rfl)
  rw [CY hL] at this;exact this
theorem xpP (hX:XOK P Γ) (enc:α->List D) {xs ys zs:List α} (k sz lo n:Nat) {v:AV} (h:JaZ xs ys lo n=some zs) (hs:Jhb s.objs v (ys.map enc)) (hl:∀ y,(enc y).length=sz) (hk:RF Γ C p (i+1) Q ((Jgc Γ (nav p C) i k sz (zs.map enc) ys.length s).getD s))
  (hv:(cpV (nav p C) i s).2=v:=by kernel_rfl) (hd:(cpV (nav p C) i s).1=.osl k sz lo n:=by kernel_rfl) (ho:obA s.objs k=some (.arr sz (xs.map enc)):=by kernel_rfl) (hn:(Jgc Γ (nav p C) i k sz (zs.map enc) ys.length s).isSome=true:=by kernel_rfl):RF Γ C p i Q s:=by
 subst hv;have hn:=Cf (d:=s) hn;generalize (Jgc Γ (nav p C) i k sz (zs.map enc) ys.length s).getD s=s' at hn hk;unfold JaZ at h;split at h
 ·rename_i hb;cases h;unfold Jgc at hn;split at hn
  ·rename_i o d x t hoo hcp;obtain ⟨h0,hn⟩:=AO hn;simp only [Jny] at h0;obtain ⟨⟨⟨h1,h2⟩,h3⟩,h4⟩:=h0;cases hn;unfold cpV at hs hd;rw [hcp] at hs hd;simp only at hs hd;obtain ⟨ob,e1,e2⟩:=hs;unfold Jh3 at hcp;rw [hoo] at hcp;simp only at hcp;split at hcp
   ·rename_i args ts hop;split at hcp
    ·rename_i d' x' t1 t2 ha ht;cases hcp;have ha:args=#[d,x]:=by rw [← Array.toArray_toList (xs:=args),ha]
     have ht:ts=#[t,t2]:=by rw [← Array.toArray_toList (xs:=ts),ht]
     subst ha;subst ht;split at h3
     ·rename_i z eb ez hkd;have:=JnE h3;subst this;have hx:=Ja1 (nt:=Γ.nt) hX.ty hop h2 hkd (JnN h4) hd ho (by rw [Jnr];exact hb.1) e1 e2 (by simp [hl]) (by simpa using hb.2);rw [Jnr,← Jgh] at hx;exact M1 hX hoo h1 hx hk
     ·cases h3
    ·cases hcp
   ·cases hcp
  ·cases hn
 ·cases h
section
variable {N:Nat->Prop} {H0 F0 F:Nat->Option Obj} {ρ:Nat->Option Loc} {O:List (Option Ob)} {nk:Nat}
theorem X5 {h:Array Obj} {L:Loc} {k sz:Nat} {xs:List (Nat×Nat)}:Cd F ρ h L (.cut k sz xs)↔Cd F ρ h L (.narr 1 (xs.map (HM k sz))):=by
 constructor
 ·rintro ⟨h2,cs,t,fr,h3,h4,h5,h6⟩;refine ⟨λ e he=>?_,by simpa using h2,cs,t,fr,h3,h4,h5,λ i e hi j a ha=>?_⟩
  ·simp only [Jno] at he;obtain ⟨_,_,rfl⟩:=he;rfl
  ·simp only [JnB,JnA] at hi;obtain ⟨x,hx,rfl⟩:=hi;cases j with
   | zero=>
    simp only [HM,Jnu,JnI] at ha;subst ha;obtain ⟨v,hv,hd⟩:=h6 i x hx;exact ⟨v,hv,λ _=>hd⟩
   | succ j=>simp [HM] at ha
 ·rintro ⟨_,h2,cs,t,fr,h3,h4,h5,h6⟩;refine ⟨by simpa using h2,cs,t,fr,h3,h4,h5,λ i x hx=>?_⟩;obtain ⟨v,hv,hd⟩:=h6 i (HM k sz x) (by rw [JnB,hx];rfl) 0 _ rfl;exact ⟨v,hv,hd rfl⟩
theorem Sim.reob {h:Array Obj} (hS:Sim N H0 F0 F ρ O h) {k:Nat} {ob ob':Ob} (ho:obA O k=some ob) (hr:∀ L,Cd F ρ h L ob->Cd F ρ h L ob') (hn:∀ sz es,ob'=.narr sz es->∀ (i:Nat) (e:List AV) (j isz:Nat) (xs:List (List D)),es[i]? = some e->¬ e[j]? = some (.own isz xs)):Sim N H0 F0 F ρ (O.set k (some ob')) h:=by
 obtain ⟨σ,hσ⟩:=hS.inn;refine hS.retable (by simp) (λ q L ob1 hq hob=>?_) ⟨σ,hσ.new,λ k' c M q L ob1 hM hq hob=>?_,hσ.sep,λ q L sz' es2 hq hob i e' j isz xs hi hj cs t fr v hb hv=>?_⟩
 ·by_cases e1:q=k
  ·subst e1;rw [AQ ho] at hob;cases hob;exact ⟨_,ho,.inr (hr L (hS.obj q L _ hq ho).1)⟩
  ·rw [AM e1] at hob;exact ⟨ob1,hob,.inl rfl⟩
 ·by_cases e1:q=k
  ·subst e1;exact hσ.obj k' c M q L _ hM hq ho
  ·rw [AM e1] at hob;exact hσ.obj k' c M q L ob1 hM hq hob
 ·by_cases e1:q=k
  ·subst e1;rw [AQ ho] at hob;cases hob;exact absurd hj (hn _ _ rfl i e' j isz xs hi)
  ·rw [AM e1] at hob;exact hσ.rep q L sz' es2 hq hob i e' j isz xs hi hj cs t fr v hb hv
end
def JcT (s:St) (k:Nat):Option (Nat×Nat×List (Nat×Nat)):=match obA s.objs k with
 | some (.cut kb sz xs)=>some (kb,sz,xs)
 | _=>none
theorem JcU {k kb sz:Nat} {xs:List (Nat×Nat)} (h:JcT s k=some (kb,sz,xs)):obA s.objs k=some (.cut kb sz xs):=by
 unfold JcT at h;split at h
 ·rename_i ho;cases h;exact ho
 ·cases h
theorem PJ (k kb sz:Nat) {nk:Nat} {xs:List (Nat×Nat)} (h:JcT s k=some (kb,sz,xs)):AA nk s ⟨s.env,s.objs.set k (some (.narr 1 (xs.map (HM kb sz))))⟩:=by
 have ho:=JcU h;refine AA.sem λ _ _ _ _ _ _ _ _ hI=>?_;obtain ⟨F,ρ,hS,hSl,hn,hdf⟩:=hI;refine ⟨F,ρ,hS.reob ho (λ L=>X5.1) (λ sz' es he i e j isz ys hi=>?_),hSl,hn,hdf⟩;cases he;simp only [JnB,JnA] at hi;obtain ⟨x,hx,rfl⟩:=hi;cases j<;>simp [HM]
theorem Ok (k kb sz:Nat) {nk:Nat} {xs:List (Nat×Nat)} (h:DW s k=some (1,xs.map (HM kb sz))):AA nk s ⟨s.env,s.objs.set k (some (.cut kb sz xs))⟩:=by
 have ho:=Dx h;refine AA.sem λ _ _ _ _ _ _ _ _ hI=>?_;obtain ⟨F,ρ,hS,hSl,hn,hdf⟩:=hI;exact ⟨F,ρ,hS.reob ho (λ L=>X5.2) (λ sz' es he=>by cases he),hSl,hn,hdf⟩
theorem Hq {xs:List α} {e:Nat×Nat} {i:Int} {x:α} (h:ixP xs e i=some x):inB e.2 i=some ():=by
 unfold ixP at h;cases hq:inB e.2 i with
 | none=>rw [hq] at h;cases h
 | some u=>rfl
theorem F3 {xs:List α} {e:Nat×Nat} {i:Int} {x:α} (h:ixP xs e i=some x):idx xs ((e.1+i.toNat:Nat):Int)=some x:=by
 unfold ixP at h;rw [Hq h] at h;exact h
theorem X6 {ys:List α} {xs:List (Nat×Nat)}:xs.length=(QL ys xs).length:=by simp [QL]
theorem lrN {β:Type} {n:Nat} {x:β}:n=(List.replicate n x).length:=by simp
theorem Vx (kb i k:Nat) {nk sz:Nat} {β:Type} {xss:List β} {encN:β->List AV} {encD:β->List D} {n:Nat} (e0:n=xss.length) (h0:(Oj s kb,(GK s kb)[i]?)=(true,some (.osl k sz 0 n))) (h:DW s k=some (sz,xss.map encN)) (hd:∀ x,(encN x).map ofN=encD x) (hN:∀ x,(encN x).all isN=true) :
  AA nk s ⟨s.env,(s.objs.set k none).set kb (some (.box ((GK s kb).set i (.d (.sl (xss.map encD))))))⟩:=by
 subst e0;exact PG kb i k h0 h hd hN
end Go.AI
end
section
namespace Go.AI
variable {P:Program} {Γ:Cx} {C:Code} {p:List Nat} {Q:Ex->St->Prop} {s s':St} {K:St->Prop} {i nk:Nat}
variable {α β ζ:Type}
def gY (c:Code) (i:Nat) (s:St):Option Bool:=match (Bt c)[i]? with
 | some o=>Cg (Bt c) s.env o.guard
 | none=>none
theorem Jh7 {nt:Slt} {o:Oper} {st:St} {v:AV} {O1:List (Option Ob)} {g:Bool} (h:Ve P nt o true st ⟨putA o.dst false true v st.env,O1⟩):Ve P nt o g st ⟨putA o.dst o.guard.isSome g v st.env,O1⟩:=by
 intro N H0 F0 w0 a w hg hI hdst rd n K Qw hK;subst hg;refine h N H0 F0 w0 a w rfl hI hdst rd n K Qw λ a' w' hI'=>hK a' w' ?_;obtain ⟨F,ρ,hS,hSl,hrest⟩:=hI';refine ⟨F,ρ,hS,?_,hrest⟩;cases hgs:o.guard.isSome with
 | false=>exact hSl
 | true=>
  cases hd:o.dst with
  | none=>rw [hd] at hSl;exact hSl
  | some d=>
   rw [hd] at hSl;intro t;have:=hSl t;simp only [putA,cond_true,cond_false,BM] at this ⊢;split
   ·rename_i e;rw [if_pos e] at this;exact .gvT _ _ this
   ·rename_i e;rw [if_neg e] at this;exact this
theorem gsp (g:Bool) {x y:Option ζ} {r:ζ} (H:(if g=true then x else y)=some r) (h1:g=true->x=some r->RF Γ C p i Q s) (h2:g=false->y=some r->RF Γ C p i Q s):RF Γ C p i Q s:=by
 split at H
 ·rename_i h;exact h1 h H
 ·rename_i h;exact h2 (by simpa using h) H
def nxK (Γ:Cx) (c:Code) (i:Nat) (g:Bool) (v:AV) (s:St):Option St:=
 match (Bt c)[i]? with
 | some o=>bif CD Γ.nt o.dst&&o.guard.isSome then some ⟨putA o.dst true g v s.env,s.objs⟩ else none
 | none=>none
theorem gsk {g:Bool} (hgf:g=false) (v:AV) (hk:RF Γ C p (i+1) Q ((nxK Γ (nav p C) i g v s).getD s)) (hg:gY (nav p C) i s=some g:=by kernel_rfl) (hn:(nxK Γ (nav p C) i g v s).isSome=true:=by kernel_rfl):RF Γ C p i Q s:=by
 have hn:=Cf (d:=s) hn;generalize (nxK Γ (nav p C) i g v s).getD s=s' at hn hk;subst hgf;refine ⟨?_⟩;have hk:=hk.out;unfold Ba at hk ⊢;unfold nxK at hn;split at hn
 ·rename_i o ho;obtain ⟨h0,hn⟩:=AO hn;simp only [Jny] at h0;cases hn;rw [Dw ho];show AZ _ _ _ _ _ _;unfold AZ;have hga:Cg (Bt (nav p C)) s.env o.guard=some false:=by
   unfold gY at hg;rw [ho] at hg;exact hg
  rw [hga];simp only [h0.1,Jng,cond_false];exact ⟨(by intro h;cases h),λ _=>⟨v,[],λ _=>rfl,by rw [h0.2];simpa using hk⟩⟩
 ·cases hn
def NX:Code->Code
 | .region id ops _=>.region id ops.toList.dropLast.toArray false
 | c=>c
def Jmr:Code->Code
 | .region id ops _=>.region id ops false
 | c=>c
def Jlh (Γ:Cx) (c:Code) (x:Nat) (s0:St) (Q:Ex->St->Prop):Ex->St->Prop:=λ _ s=>Jhr Γ.ty (Ft c) x s0.env s.env s0.objs s.objs/\∃ F,(Ft c)[(Ft c).size-1]? = some F/\AZ Γ false (Ft c).toList F (Q .normal) s
theorem rx (x:Nat) (hs:AA Γ.nt.nk s s') (hk:RF (cxX Γ (Ft (nav p C)) x) (NX (nav p C)) [] 0 (Jlh Γ (nav p C) x s' Q) s') (h:(RR (nav p C)&&Tv (nav p C))=true:=by kernel_rfl) (hb:ST (Ft (nav p C)) x=true:=by kernel_rfl):WP Γ C p Q s:=by
 refine ⟨?_⟩;have hk:=hk.out;generalize nav p C=c at *;cases c with
 | region id ops d=>
  simp only [RR,Tv,Bool.true_and] at h;subst h;exact ⟨s',hs,.inr ⟨rfl,x,hb,hk⟩⟩
 | _=>cases h
theorem mx {c:Code} {x:Nat} {s0:St} (m:Nat) (hk:RF Γ (Jmr c) [] m Q s) (hi:Nat.ble (Bt (NX c)).length i=true:=by kernel_rfl) (hm:Nat.beq (Ft c).size (m+1)=true:=by kernel_rfl) (h:RR c=true:=by kernel_rfl)
  (h1:ldL Γ.ty (Ft c) x s0.env s.env s0.objs=ldL Γ.ty (Ft c) x s0.env s.env s.objs:=by kernel_rfl) (h2:(ldL Γ.ty (Ft c) x s0.env s.env s0.objs).all Option.isSome=true:=by kernel_rfl):RF (cxX Γ (Ft c) x) (NX c) [] i (Jlh Γ c x s0 Q) s:=by
 refine ⟨Wc i hi ⟨⟨h1,h2⟩,?_⟩⟩;have hk:=hk.out;have hm:=JnE hm;cases c with
 | region id ops d=>
  simp only [Ft] at hm ⊢;have hg:=JnC (show m<ops.size by omega);refine ⟨ops[m],by rw [show ops.size-1=m by omega];exact hg,?_⟩;have hk:Pk Γ false ops.toList (ops.toList.drop m) (Q .normal) s:=hk;rw [show ops.toList.drop m=[ops[m]] by
   rw [List.drop_eq_getElem_cons (by simp;omega)];simp;omega] at hk
  exact hk
 | _=>cases h
theorem ax (hk:PQ Q .normal s) (h:Nat.ble (Bt (nav p C)).length i=true:=by kernel_rfl):RF Γ C p i Q s:=⟨Wc i h hk.out⟩
def Jw (ev:Operand->AV):Op->Option FuncId×List AV
 | .call ⟨.value (.func f),args,_⟩=>(some f,args.toList.map ev)
 | .call ⟨.value x,args,_⟩=>match ev x with
  | .clo f l=>(some f,args.toList.map ev++l)
  | _=>(none,[])
 | _=>(none,[])
theorem UH {ev ev':Operand->AV} {op:Op} (h:∀ y∈op.operands.toList,ev y=ev' y):Jw ev op=Jw ev' op:=by
 cases op with
 | call c=>
  obtain ⟨callee,args,ts⟩:=c;cases callee with
  | value x=>
   have ha:args.toList.map ev=args.toList.map ev':=Jnv λ y hy=>h y (by simp [Op.operands,Call.operands];exact .inr (by simpa using hy));have hx:=h x (by simp [Op.operands,Call.operands]);cases x<;>simp only [Jw,ha,hx]
  | _=>rfl
 | _=>rfl
theorem Ja2 {nt:Slt} {o:Oper} {st:St} {f:FuncId} {xs:List AV} {nb:Nat} {r:AV} {O1:List (Option Ob)} (hgob:Ik true (o.op.operands.toList.map (Al st.env))) (hc:Jw (λ y=>unG (Al st.env y)) o.op=(some f,xs))
  (hcall:Ce P f (xs.map (NQ (AY st.objs xs))) (HH st.objs (AY st.objs xs)) nb r O1) (hnb:nb<=(AY st.objs xs).length) (hnb1:nb<=O1.length) (hord:∀ k∈AY st.objs xs,k<st.objs.length) :
  VW P nt o true st ⟨putA o.dst false true (R7 (Dd (AY st.objs xs) st.objs.length nb) r) st.env,Gg st.objs (AY st.objs xs) nb O1⟩:=by
 intro N H0 F0 w0 a w _ hI hdst K Qw hK;obtain ⟨F,ρ,hS,hSl,hn,hdf⟩:=hI;have hk:∀ v w' F' ρ'',FLe F F'->RLe ρ ρ''->Sim N H0 F0 F' ρ'' (Gg st.objs (AY st.objs xs) nb O1) w'.heap->Ai F' ρ'' (R7 (Dd (AY st.objs xs) st.objs.length nb) r) v->Mu w w'->K (a.put o.dst v) w':=
  λ v w' F' ρ'' hF hρ hS' hv hmu=>hK _ _ ⟨F',ρ'',hS',(hSl.mono hF hρ).putA hn hdst hv,hn.put hdst,by rw [B1];exact ⟨hdf.1.mono hF,hdf.2.1.trans hmu,hdf.2.2.mono hρ⟩⟩
 have hev:∀ y∈o.op.operands.toList,Ai F ρ (unG (Al st.env y)) (a.eval y):=λ y hy=>C6 rfl _ hgob _ (List.mem_map_of_mem hy) _ (A4 hSl y);unfold Jw at hc;split at hc
 ·rename_i f' args ts hop;cases hc;exact XF (ev:=λ y=>unG (Al st.env y)) hop hS (λ y hy=>hev y (by rw [hop];simp [Op.operands,Call.operands];exact .inr (by simpa using hy))) hcall hnb hnb1 hord hk
 ·rename_i x args ts _ hop;split at hc
  ·rename_i f' l hx;have hx:unG (Al st.env x)=.clo f' l:=hx;cases hc;have hxr:=hev x (by rw [hop];simp [Op.operands,Call.operands]);rw [hx] at hxr;generalize hxv:a.eval x=xv at hxr;cases hxr with
   | clo _ _ vs hl hr=>
    have hcr0:=MP (args:=args) (a:=a) (ev:=λ y=>unG (Al st.env y)) (λ y hy=>hev y (by rw [hop];simp [Op.operands,Call.operands];exact .inr (by simpa using hy)));refine Lh (vs:=args.map a.eval++vs) (λ fn c hf hb hnm=>?_) hS ⟨by simp [hl],λ i y v hy hv=>?_⟩ hcall hnb hnb1 hord hk
    ·simp only [execOp,hop,resolve,hxv,Deferred.ofValue,Jna,Jnb,Jm8,invoke,callFunc,run_program,hf,hnm,hb,JnK,if_false,Option.isNone_some,Array.empty_append,Array.append_empty]
    ·rw [Array.toList_append] at hv;have hl0:=hcr0.1;by_cases hi:i<(args.toList.map (λ y=>unG (Al st.env y))).length
     ·rw [JnF hi] at hy;rw [JnF (by omega)] at hv;exact hcr0.2 i y v hy hv
     ·rw [JnQ (by omega)] at hy;rw [JnQ (by omega)] at hv;rw [← hl0] at hv;exact hr _ y v hy (by simpa using hv)
  ·cases hc
 ·cases hc
def JcV (c:Code) (i:Nat) (s:St):Option ((Option FuncId×List AV)×List Nat):=
 match (Bt c)[i]? with
 | some o=>some (Jw (λ y=>unG (Al s.env y)) o.op,AY s.objs (Jw (λ y=>unG (Al s.env y)) o.op).2)
 | none=>none
def nxS (Γ:Cx) (ops:Array Oper) (x:Nat) (c:Code) (i:Nat) (g:Bool) (ord:List Nat) (nb:Nat) (r:AV) (O1:List (Option Ob)) (s:St):Option St:=
 match (Bt c)[i]? with
 | some o=>bif !Tv c&&Nat.beq i x&&Nat.blt x ops.size.pred&&CD Γ.nt o.dst&&Nat.ble nb ord.length&&Nat.ble nb O1.length&&ord.all (λ k=>Nat.blt k s.objs.length) then
   some ⟨putA o.dst o.guard.isSome g (R7 (Dd ord s.objs.length nb) r) s.env,Gg s.objs ord nb O1⟩ else none
 | none=>none
theorem xs {c:Code} {x:Nat} (hX:XOK P Γ) {g:Bool} (hgt:g=true) {gs:List Bool} (hi:Ho g gs) (ord:List Nat) {f:FuncId} {ys:List AV} {O0 O1 raw0:List (Option Ob)} {nb:Nat} {r:AV} (hr:Ce P f ys O0 nb r O1) (hp0:raw0=O0)
  (hk:RF (cxX Γ (Ft c) x) (NX c) [] (i+1) Q ((nxS Γ (Ft c) x (NX c) i g ord nb r O1 s).getD s)) (hreg:RR c=true:=by kernel_rfl) (hg:gY (NX c) i s=some g:=by kernel_rfl) (hgs:Jv (NX c) i s=gs:=by kernel_rfl)
  (hc:JcV (NX c) i s=some ((some f,((JcV (NX c) i s).getD ((none,[]),[])).1.2),ord):=by kernel_rfl) (hxs:((JcV (NX c) i s).getD ((none,[]),[])).1.2.map (NQ ord)=ys:=by kernel_rfl) (hO:HH s.objs ord=raw0:=by kernel_rfl)
  (hn:(nxS Γ (Ft c) x (NX c) i g ord nb r O1 s).isSome=true:=by kernel_rfl):RF (cxX Γ (Ft c) x) (NX c) [] i Q s:=by
 generalize ((JcV (NX c) i s).getD ((none,[]),[])).1.2=zs at hc hxs;have hn:=Cf (d:=s) hn;generalize (nxS Γ (Ft c) x (NX c) i g ord nb r O1 s).getD s=s' at hn hk;subst hp0;unfold JcV at hc;unfold nxS at hn;split at hn
 ·rename_i o ho;rw [ho] at hc;simp only [JnI,Prod.mk.injEq] at hc;obtain ⟨hc,hord⟩:=hc;rw [hc] at hord;simp only at hord;obtain ⟨h0,hn⟩:=AO hn;simp only [Jny] at h0;obtain ⟨⟨⟨⟨⟨⟨h1,h2⟩,h3⟩,h4⟩,h5⟩,h6⟩,h7⟩:=h0;cases hn;subst hord;subst hxs;subst hO;have hix:=JnE h2;subst hix;have hox:(Ft c)[i]? = some o:=by
   cases c with
   | region id ops d=>
    simp only [NX,Bt,List.getElem?_dropLast] at ho;split at ho
    ·show ops[i]? = some o;simpa using ho
    ·cases ho
   | _=>cases hreg
  have hgob:Ik true (o.op.operands.toList.map (Al s.env)):=by
   subst hgs;unfold Jv at hi;rw [ho] at hi;rw [← hgt];exact TB hi
  refine ⟨?_⟩;have hk:=hk.out;unfold Ba at hk ⊢;simp only [nav] at hk ⊢;rw [Dw ho];show AZ _ _ _ _ _ _;unfold AZ;have hga:Cg (Bt (NX c)) s.env o.guard=some g:=by
   unfold gY at hg;rw [ho] at hg;exact hg
  rw [hga];have h4:CD (cxX Γ (Ft c) i).nt o.dst=true:=h4;simp only [h4,Jng,cond_false];refine ⟨λ _=>.inr (.inr ⟨by simpa using h1,.inl ⟨_,⟨hox,_,_,rfl,λ env he=>?_⟩,hk⟩⟩),λ h=>by rw [hgt] at h;cases h⟩;rw [hX.ext];have hgob':Ik true (o.op.operands.toList.map (Al env)):=by
   rw [Jnv he];exact hgob
  have hc':Jw (λ y=>unG (Al env y)) o.op=(some f,zs):=by
   rw [UH (ev':=λ y=>unG (Al s.env y)) λ y hy=>by rw [he y hy]];exact hc
  have hnd:ndB o.op=true:=by
   cases hop:o.op with
   | defer d=>rw [hop] at hc;cases hc
   | _=>rfl
  exact Jh7 (st:=⟨env,s.objs⟩) ((Ja2 (st:=⟨env,s.objs⟩) hgob' hc' hr (JnN h5) (JnN h6) λ k hk=>by
   exact JnN (Jnd.1 h7 k hk)).ok hnd)
 ·cases hn
end Go.AI
end
section
namespace Go.AI
variable {Γ:Cx} {C:Code} {p:List Nat} {Q:Ex->St->Prop} {s s':St} {K:St->Prop} {i:Nat} {nk:Nat}
variable {α β ζ:Type}
def xX {σ:Type} (nk k:Nat) (st:σ->St):σ->Ex->St->Prop:=λ y e s=>e=Ex.exit k/\AA nk s (st y)
def xR {σ:Type} (ty:Nat->Ty) (fn:Func) (r:σ->AV):σ->Ex->St->Prop:=λ y e s=>e=Ex.ret/\RA ty fn.results.toList (r y) s
def xL {σ:Type} (nk:Nat) (ty:Nat->Ty) (fn:Func) (r:σ->AV) (O:σ->List (Option Ob)):σ->Ex->St->Prop:=λ y e s=>e=Ex.ret/\RL nk ty fn.results.toList (r y) (O y) s
def xS {σ τ:Type} (a:σ->Ex->St->Prop) (b:τ->Ex->St->Prop):σ⊕τ->Ex->St->Prop
 | .inl y=>a y
 | .inr y=>b y
variable {σ ρ τ:Type} {st:σ->St} {E:ρ->Ex->St->Prop}
theorem xo {r:ρ} {k nk':Nat} {st':τ->St} {y:τ} (hE:E r=xX nk' k st' y) (h:AA nk' s (st' y)):PQ (Aw nk st E (.inr r)) (.exit k) s:=oe (by rw [hE];exact ⟨rfl,h⟩)
theorem ro {r:ρ} {ty:Nat->Ty} {fn:Func} {f:τ->AV} {y:τ} (hE:E r=xR ty fn f y) (h:RA ty fn.results.toList (f y) s):PQ (Aw nk st E (.inr r)) .ret s:=or (by rw [hE];exact ⟨rfl,h⟩)
theorem lo {r:ρ} {nk':Nat} {ty:Nat->Ty} {fn:Func} {f:τ->AV} {O:τ->List (Option Ob)} {y:τ} (hE:E r=xL nk' ty fn f O y) (h:RL nk' ty fn.results.toList (f y) (O y) s):PQ (Aw nk st E (.inr r)) .ret s:=or (by rw [hE];exact ⟨rfl,h⟩)
theorem lX {body:σ->Option (σ⊕ρ)} {n:Nat} {x:σ} {r:ρ} {k nk':Nat} {st':τ->St} {y:τ} (hb:∀ x z,body x=some z->WP Γ C (p++[0]) (Aw nk' st E z) (st x)) (hr:whl body n x=some r) (hs:AA nk' s (st x)) (hE:E r=xX nk' k st' y)
  (hk:∀ s,AA nk' s (st' y)->PQ Q (.exit k) s) (hn:Γ.nt.nk=nk':=by rfl) (h:TJ (nav p C)=true:=by kernel_rfl):WP Γ C p Q s:=by
 subst hn;exact lp st E hr hs hb (λ e s he=>by rw [hE] at he;obtain ⟨rfl,he⟩:=he;exact hk s he) h
theorem lR {body:σ->Option (σ⊕ρ)} {n:Nat} {x:σ} {r:ρ} {nk':Nat} {ty:Nat->Ty} {fn:Func} {f:τ->AV} {y:τ} (hb:∀ x z,body x=some z->WP Γ C (p++[0]) (Aw nk' st E z) (st x)) (hr:whl body n x=some r) (hs:AA nk' s (st x)) (hE:E r=xR ty fn f y)
  (hk:∀ s,RA ty fn.results.toList (f y) s->PQ Q .ret s) (hn:Γ.nt.nk=nk':=by rfl) (h:TJ (nav p C)=true:=by kernel_rfl):WP Γ C p Q s:=by
 subst hn;exact lp st E hr hs hb (λ e s he=>by rw [hE] at he;obtain ⟨rfl,he⟩:=he;exact hk s he) h
theorem lL {body:σ->Option (σ⊕ρ)} {n:Nat} {x:σ} {r:ρ} {nk' nk2:Nat} {ty:Nat->Ty} {fn:Func} {f:τ->AV} {O:τ->List (Option Ob)} {y:τ} (hb:∀ x z,body x=some z->WP Γ C (p++[0]) (Aw nk' st E z) (st x)) (hr:whl body n x=some r) (hs:AA nk' s (st x)) (hE:E r=xL nk2 ty fn f O y)
  (hk:∀ s,RL nk2 ty fn.results.toList (f y) (O y) s->PQ Q .ret s) (hn:Γ.nt.nk=nk':=by rfl) (h:TJ (nav p C)=true:=by kernel_rfl):WP Γ C p Q s:=by
 subst hn;exact lp st E hr hs hb (λ e s he=>by rw [hE] at he;obtain ⟨rfl,he⟩:=he;exact hk s he) h
def g0 (c:Code) (i:Nat) (s:St):Bool:=(gAt c i s).getD false
theorem sE {g:Bool} {v:AV} {obs:List Ob} {x:Option Eff} (ho:g=true->Hp s x v obs [] none) (hk:RF Γ C p (i+1) Q ((MV Γ (nav p C) i g v obs s).getD s)) (hg:gAt (nav p C) i s=some g:=by kernel_rfl) (hx:PA Γ (nav p C) i s=x:=by kernel_rfl) (hgs:Jv (nav p C) i s=List.replicate (Jv (nav p C) i s).length g:=by kernel_rfl) (hn:(MV Γ (nav p C) i g v obs s).isSome=true:=by kernel_rfl):RF Γ C p i Q s:=
 sG (gs:=Jv (nav p C) i s) ho (Vv λ b hb=>by rw [hgs] at hb;exact List.eq_of_mem_replicate hb) hk hg hx rfl hn
theorem oi {a z:ζ} (h:some a=some z):a=z:=Option.some.inj h
theorem lsS (xs:List α) (n:Nat) (y:α):xs.length=(xs.set n y).length:=List.length_set.symm
theorem lrS (n:Nat) (z:α):n=(List.replicate n z).length:=List.length_replicate.symm
theorem tr {s1 s2 s3:St} (h:AA nk s1 s2) (h':AA nk s2 s3):AA nk s1 s3:=AA.trans h h'
theorem sg (ts:List Nat) (h:gcA nk ts s=s':=by kernel_rfl):AA nk s s':=Jg6 ts h
theorem gP (ts ord:List Nat) {raw:List (Option Ob)} (hp:Pl (Pj ord) raw s'.objs) (h:gcA nk ts s=⟨s'.env,raw⟩:=by kernel_rfl):AA nk s s':=JhW ts ord hp h
theorem sn (t k sz:Nat) {n m:Nat} (e:n=m) (h:lkA s.env t=.osl k sz 0 n:=by kernel_rfl):AA nk s ⟨(t,.osl k sz 0 m)::s.env,s.objs⟩:=JhJ t k sz 0 n m h e
theorem snc (b i k sz:Nat) {n m:Nat} (e:n=m) (h:(Oj s b,(GK s b)[i]?)=(true,some (.osl k sz 0 n)):=by kernel_rfl):AA nk s ⟨s.env,s.objs.set b (some (.box ((GK s b).set i (.osl k sz 0 m))))⟩:=Jf5 b i k sz n m h e
theorem so1 {encN:α->List AV} (k sz:Nat) {xss:List α} {x:α} {n:Int} (hx:idx xss n=some x) (h:DW s k=some (sz,xss.map encN):=by kernel_rfl):AA nk s ⟨s.env,s.objs.set k (some (.narr sz ((xss.map encN).set n.toNat (encN x))))⟩:=Jla k h hx
theorem fz {enc:α->List D} {xs:List α} (t k sz:Nat) (h:TD s (lkA s.env t)=some (k,sz,0,xs.length,xs.map enc):=by kernel_rfl):AA nk s ⟨(t,.d (.sl (xs.map enc)))::s.env,s.objs.set k none⟩:=JhI t _ h PD (by simp)
theorem fzc {enc:α->List D} {xs:List α} (kb i k sz:Nat) (h:(Oj s kb,((GK s kb)[i]?).bind (TD s))=(true,some (k,sz,0,xs.length,xs.map enc)):=by kernel_rfl):AA nk s ⟨s.env,(s.objs.set k none).set kb (some (.box ((GK s kb).set i (.d (.sl (xs.map enc))))))⟩:=JfP kb i _ h PD (by simp)
theorem snr {encN:α->List AV} {xs:List α} {n:Int} (row:List AV) (sz k j m isz:Nat) {n1 n2:Nat} (e:n1=n2) (h:DW s k=some (sz,(xs.map encN).set n.toNat row):=by kernel_rfl) (hj:row[j]? = some (.osl m isz 0 n1):=by kernel_rfl):AA nk s ⟨s.env,s.objs.set k (some (.narr sz ((xs.map encN).set n.toNat (row.set j (.osl m isz 0 n2)))))⟩:=Jf6 k j m isz n1 n2 _ h hj e rfl
theorem sni {encN:α->List AV} {xs:List α} {n:Int} {enc:β->List D} (row:List AV) (zs:List β) (sz k j m isz:Nat) (h:(DW s k,PF s m)=(some (sz,(xs.map encN).set n.toNat row),some (isz,zs.map enc)):=by kernel_rfl) (hj:row[j]? = some (.osl m isz 0 zs.length):=by kernel_rfl) :
  AA nk s ⟨s.env,(s.objs.set m none).set k (some (.narr sz ((xs.map encN).set n.toNat (row.set j (.own isz (zs.map enc))))))⟩:=Jf4 k j m isz _ h hj rfl
theorem sno {encN:α->List AV} {xss:List α} {x:α} {n:Int} {enc:β->List D} (hx:idx xss n=some x) (row:List AV) (ys:List β) (sz k j isz:Nat) (h:DW s k=some (sz,(xss.map encN).set n.toNat row):=by kernel_rfl) (hj:row[j]? = some (.own isz (ys.map enc)):=by kernel_rfl) :
  AA nk s ⟨s.env,s.objs.set k (some (.narr sz ((xss.map encN).set n.toNat (row.set j (.osl s.objs.length isz 0 ys.length)))))++[some (.arr isz (ys.map enc))]⟩:=Z2 k j isz _ (ltN hx) h hj rfl
theorem scl {encN:α->List AV} {xss:List α} (n:Int) (row:List AV) (sz k:Nat) (y:α) (h:DW s k=some (sz,(xss.map encN).set n.toNat row):=by kernel_rfl) (hy:row=encN y:=by kernel_rfl):AA nk s ⟨s.env,s.objs.set k (some (.narr sz ((xss.set n.toNat y).map encN)))⟩:=JhX k y h hy
theorem so0 {encN:α->List AV} {xss:List α} (k sz:Nat) (n:Int) (d:α) (h:DW s k=some (sz,xss.map encN):=by kernel_rfl):AA nk s ⟨s.env,s.objs.set k (some (.narr sz ((xss.map encN).set n.toNat (encN (xss.getD n.toNat d)))))⟩:=by
 have ho:=Dx h;have e:(xss.map encN).set n.toNat (encN (xss.getD n.toNat d))=xss.map encN:=by
  apply Jnm;intro i;rw [List.getElem?_set];split
  ·rename_i e;subst e;split
   ·rename_i hl;rw [Jnr] at hl;rw [JnB,JnG,Jnx hl];rfl
   ·rename_i hl;rw [JnT (by simpa using hl)]
  ·rfl
 rw [e,IM ho];exact AA.sem λ _ _ _ _ _ _ _ _ h=>h
theorem snT {encN:α->List AV} {xss:List α} {n:Int} {d:α} {enc:β->List D} (f:α->List β) (row:List AV) (sz k j isz:Nat) (hd:f d=[]:=by rfl) (h:DW s k=some (sz,(xss.map encN).set n.toNat row):=by kernel_rfl) (hj:row[j]? = some (.own isz ((f (xss.getD n.toNat d)).map enc)):=by kernel_rfl) :
  AA nk s ⟨s.env,s.objs.set k (some (.narr sz ((xss.map encN).set n.toNat (row.set j (.osl s.objs.length isz 0 (f (xss.getD n.toNat d)).length)))))++[some (.arr isz ((f (xss.getD n.toNat d)).map enc))]⟩:=by
 rcases Jnk n.toNat (xss.map encN).length with hl|hl
 ·exact Z2 k j isz _ hl h hj rfl
 ·have ho:=Dx h;have e0:∀ r,(xss.map encN).set n.toNat r=xss.map encN:=λ r=>List.set_eq_of_length_le hl;have e1:xss.getD n.toNat d=d:=by rw [JnG,JnT (by simpa using hl)];rfl
  rw [e0] at ho;rw [e0,e1,hd,IM ho];refine AA.sem λ _ _ _ _ _ _ _ _ hI=>?_;obtain ⟨F,ρ,hS,hSl,hn,hdf⟩:=hI;refine ⟨F,ρ,hS.table (by simp) λ i L ob hi hob=>?_,hSl,hn,hdf⟩;have:=hS.dom i L hi;rw [AN,if_pos this] at hob;exact hob
theorem po1 {f:AV->AV} {o:Option Ob} {l m:List (Option Ob)} (h:Pl f l m):Pl f (o::l) (o::m):=Pl.o o h
theorem pn1 {f:AV->AV} (encN:α->List AV) (xss:List α) {sz:Nat} {l m:List (Option Ob)} (h:Pl f l m) (hc:∀ x,(encN x).map f=encN x:=by intro _;rfl):Pl f (some (.narr sz ((xss.map encN).map λ e=>e.map f))::l) (some (.narr sz (xss.map encN))::m):=Pl.n sz (nrM hc) h
attribute [irreducible] xL
end Go.AI
end
section
namespace Go.AI
theorem QN (x:Int):∀ l:List Int,(Zf x l).Perm (x::l)
 | []=>.refl _
 | y::l=>by
  unfold Zf;split
  ·exact .refl _
  ·exact ((QN x l).cons y).trans (.swap x y l)
theorem M4:∀ l:List Int,(Lp l).Perm l
 | []=>.refl _
 | x::l=>(QN x _).trans ((M4 l).cons x)
theorem RU {x:Int}:∀ {l:List Int},l.Pairwise (·<=·)->(Zf x l).Pairwise (·<=·)
 | [],_=>by simp [Zf]
 | y::l,h=>by
  unfold Zf;rw [List.pairwise_cons] at h;split
  ·rename_i hxy;refine List.pairwise_cons.2 ⟨λ z hz=>?_,List.pairwise_cons.2 h⟩;rcases List.mem_cons.1 hz with rfl|hz
   ·exact hxy
   ·have:=h.1 z hz;omega
  ·rename_i hxy;refine List.pairwise_cons.2 ⟨λ z hz=>?_,RU h.2⟩;rcases List.mem_cons.1 ((QN x l).mem_iff.1 hz) with rfl|hz
   ·omega
   ·exact h.1 z hz
theorem J2:∀ l:List Int,(Lp l).Pairwise (·<=·)
 | []=>.nil
 | x::l=>RU (J2 l)
theorem Wk (l:List Int):Lp l=l.mergeSort λ x y=>decide (x<=y):=by
 refine List.Perm.eq_of_pairwise (le:=(·<=·)) (λ a b _ _ h1 h2=>by omega) (J2 l) ?_ ((M4 l).trans (List.mergeSort_perm _ _).symm);have:=List.pairwise_mergeSort (le:=λ x y:Int=>decide (x<=y)) (λ a b c h1 h2=>by simp at *;omega) (λ a b=>by simp;omega) l;exact this.imp λ h=>by simpa using h
end Go.AI
end
section
namespace Go.AI
open Go.Sort Go.Shelf Go.Proofs
variable {P:Program} {ρs:Ren}
theorem Sim.more {N:Nat->Prop} {H0 F0 F:Nat->Option Obj} {ρ:Nat->Option Loc} {O:List (Option Ob)} {h:Array Obj} (hS:Sim N H0 F0 F ρ O h) (os:Array Obj):Sim N H0 F0 F ρ O (h++os):=by
 have hl:∀ b,b<h.size->(h++os)[b]? = h[b]? := λ b hb=>Array.getElem?_append_left hb;have hg:∀ b o,h[b]? = some o->(h++os)[b]? = some o:=λ b o hb=>by rw [hl b (As hb)];exact hb
 obtain ⟨σ,hσ⟩:=hS.inn;have hM:∀ k c M,σ k c=some M->(h++os)[M.b]? = h[M.b]? := λ k c M hM=>hl _ (hσ.new k c M hM).2.1;refine { hS with size:=λ b hb=>hS.size b (by simp at hb;omega),old:=λ b hb=>?_,frz:=λ b o hb=>hg b o (hS.frz b o hb),loc:=λ k L hk=>?_,obj:=λ k L ob hk ho=>?_,inn:=⟨σ,λ k c M hM=>?_,hσ.obj,hσ.sep,λ k L sz es hk ho i e j isz xs hi hj cs t fr v hb hv=>?_⟩ }
 ·have:b<h.size:=by
   apply Classical.byContradiction;intro hn;exact hb (hS.size b (by omega))
  rw [hl b this];exact hS.old b hb
 ·have:=hS.loc k L hk;simp;omega
 ·obtain ⟨g1,g2,g3⟩:=hS.obj k L ob hk ho;exact ⟨g1.mono (FLe.refl _) (RLe.refl _) (hl _ (hS.loc k L hk)),g2,g3⟩
 ·obtain ⟨g1,g2,g3⟩:=hσ.new k c M hM;exact ⟨g1,by simp;omega,g3⟩
 ·rw [hl _ (hS.loc k L hk)] at hb;exact (hσ.rep k L sz es hk ho i e j isz xs hi hj cs t fr v hb hv).mono (FLe.refl _) λ L' hL'=>hM _ _ _ hL'
theorem Ja3 (L:Lays.n189 P ρs) (hf:∃ fn c,P.funcs[ρs.f 189]? = some fn/\fn.body=some c/\(fn.name == "runtime.NumGoroutine")=false) {xs zs:List Int} (h:ZX xs=some zs) :
  Ce P (ρs.f 189) [.osl 0 1 0 xs.length] [some (.arr 1 (xs.map Af))] 1 (.tup []) [some (.arr 1 (zs.map Af))]:=by
 have hz:xs.length<4611686018427387904/\zs=xs.mergeSort λ x y=>decide (x<=y):=by
  unfold ZX at h;split at h
  ·rename_i h1;exact ⟨h1,by rw [← Wk];exact (Option.some.inj h).symm⟩
  ·cases h
 obtain ⟨hlt,hzs⟩:=hz;refine ⟨hf,λ N F ρ w vs hS hcr=>?_⟩;obtain ⟨v,rfl⟩:∃ v,vs=#[v]:=by
  have:=hcr.1;have h1:vs.size=1:=by simpa using this.symm
  exact ⟨vs[0],by apply Array.ext;simp [h1];intro i h1' h2;simp at h2;subst h2;rfl⟩
 have hv:=hcr.2 0 _ v rfl rfl;have hlen:zs.length=xs.length:=by rw [hzs];exact List.length_mergeSort _
 have htup:∀ F' ρ',Ai F' ρ' (.tup []) (.tuple #[]):=λ F' ρ'=>.tup [] #[] rfl λ i a v h=>by simp at h
 generalize hn:xs.length=n at hv;cases hv with
 | osl0 _ _ _ a=>
  have hx:xs=[]:=Jnl.1 hn;have hz0:zs=[]:=Jnl.1 (by omega);refine (Any.slices_Sort_int_none L a 0 w).mono λ e w' he=>?_;obtain ⟨rfl,rfl⟩:=he;subst hx;subst hz0;exact ⟨_,F,ρ,rfl,hS,λ j _ L h=>h,htup _ _,Mu.refl _⟩
 | osl _ _ _ _ cap Lo hL hc hs hz=>
  obtain ⟨⟨g1,g2,cs,t,fr,g3,g4,g5,g6⟩,gN,gF⟩:=hS.obj 0 Lo _ hL rfl;simp only [Jnr,Nat.mul_one] at g2;have hcell:∀ j,j<xs.length->cs[Lo.base+j]? = some (.int .i64 (xs.toArray[j]!)):=λ j hj=>by
   obtain ⟨u,hu,hd⟩:=g6 j (Af xs[j]) (by rw [JnB,Jnx hj];rfl) 0 (.int .i64 xs[j]) rfl;cases hd;have e:xs.toArray[j]! = xs[j]:=by rw [getElem!_pos _ j (by simpa using hj)];simp
   rw [e];simpa using hu
  have hH:Holds (Value.int .i64) w Lo.b (Lo.base+0*1) xs.toArray:=λ j hj=>by
   have hj:j<xs.length:=by simpa using hj
   have:=hcell j hj;refine ⟨by simp only [World.cell?,g3,Option.isSome_none,JnK,if_false,Nat.zero_mul,Nat.add_zero];exact this,SU g3 (g5 _ (by simp;omega))⟩
  refine ((hn▸Any.slices_Sort_int L Lo.b (Lo.base+0*1) cap xs w hH (As g3) hlt)).mono λ e w' he=>?_;obtain ⟨rfl,m,os,rfl⟩:=he;rw [← hzs];have hheap:(grow (putRow (Value.int .i64) (Sort.ahead w m) Lo.b (Lo.base+0*1) zs.toArray) os).heap=w.heap.setIfInBounds Lo.b (.cells (putCells (Value.int .i64) Lo.base zs.toArray cs) t fr)++os:=by
   simp only [grow,putRow,mapBlock,Sort.ahead,Nat.zero_mul,Nat.add_zero];congr 1;apply Array.ext_getElem?;intro i;rw [Array.getElem?_modify,Array.getElem?_setIfInBounds];split
   ·rename_i e;subst e;rw [if_pos (As g3),g3];rfl
   ·rfl
  have hS1:=hS.rewrite (k':=0) (L':=Lo) (x:=.cells (putCells (Value.int .i64) Lo.base zs.toArray cs) t fr) (O':=[some (.arr 1 (zs.map Af))]) hL rfl (by rw [CY hL];exact RLe.refl _) rfl (λ j ob' hj hob'=>by
    have:=AU hob';simp at this;omega) (by simp) (by simp) (λ ob' hob'=>by
    cases hob';refine ⟨λ e he=>?_,by simp;omega,_,t,fr,by rw [Array.getElem?_setIfInBounds_self_of_lt (As g3)],by simp [putCells,g4],g5,λ i e hi j x hx=>?_⟩
    ·simp only [Jno] at he;obtain ⟨y,_,rfl⟩:=he;rfl
    ·simp only [JnB,JnA] at hi;obtain ⟨y,hy,rfl⟩:=hi;have hj:j=0:=by have:=Ag hx;simpa [Af] using this
     subst hj;have hx:x=.int .i64 y:=by simpa [Af] using hx.symm
     subst hx;have hil:=Ag hy;refine ⟨.int .i64 y,?_,.int _ _⟩;have hin:Lo.base+i<cs.size:=by omega
     have e:zs.toArray[i]! = y:=by
      rw [getElem!_pos _ i (by simpa using hil)];simpa [Jnx hil] using hy
     simp only [putCells,Array.getElem?_mapIdx,Nat.mul_one,Nat.add_zero,JnC hin,Option.map_some];rw [if_pos ⟨by omega,by simp;omega⟩,show Lo.base+i-Lo.base=i by omega,e]) (λ ob' hob'=>by cases hob';rfl)
  rw [CY hL] at hS1;refine ⟨_,F,ρ,rfl,by rw [hheap];exact hS1.more os,λ j _ L h=>h,htup _ _,rfl,rfl,by rw [hheap];simp⟩
end Go.AI
end
section
namespace Go.Proofs
open Go.Shelf
def JmZ:Go.Shelf.Ren:=⟨λ|189=>78|125=>86|257=>85|128=>100|129=>101|294=>91|295=>92|296=>93|297=>94|298=>95|299=>96|216=>97|300=>98|301=>99|328=>103|329=>104|330=>105|331=>106|332=>107|215=>108|343=>109|n=>n,λ|28=>35|3=>3|46=>152|0=>0|51=>164|53=>166|4=>4|183=>157|182=>156|131=>82|5=>5|9=>9|218=>168|222=>172|228=>174|229=>175|n=>n,λ|n=>n⟩
theorem Jm0:Go.Proofs.Lays.n189 Tryz.prog JmZ:={
 mixed:=by kernel_rfl
 f125:=Tryz.func86.trans (congrArg some (by kernel_rfl))
 f128:=Tryz.func100.trans (congrArg some (by kernel_rfl))
 f129:=Tryz.func101.trans (congrArg some (by kernel_rfl))
 f189:=Tryz.func78.trans (congrArg some (by kernel_rfl))
 f215:=Tryz.func108.trans (congrArg some (by kernel_rfl))
 f216:=Tryz.func97.trans (congrArg some (by kernel_rfl))
 f257:=Tryz.func85.trans (congrArg some (by kernel_rfl))
 f294:=Tryz.func91.trans (congrArg some (by kernel_rfl))
 f295:=Tryz.func92.trans (congrArg some (by kernel_rfl))
 f296:=Tryz.func93.trans (congrArg some (by kernel_rfl))
 f297:=Tryz.func94.trans (congrArg some (by kernel_rfl))
 f298:=Tryz.func95.trans (congrArg some (by kernel_rfl))
 f299:=Tryz.func96.trans (congrArg some (by kernel_rfl))
 f300:=Tryz.func98.trans (congrArg some (by kernel_rfl))
 f301:=Tryz.func99.trans (congrArg some (by kernel_rfl))
 f328:=Tryz.func103.trans (congrArg some (by kernel_rfl))
 f329:=Tryz.func104.trans (congrArg some (by kernel_rfl))
 f330:=Tryz.func105.trans (congrArg some (by kernel_rfl))
 f331:=Tryz.func106.trans (congrArg some (by kernel_rfl))
 f332:=Tryz.func107.trans (congrArg some (by kernel_rfl))
 f343:=Tryz.func109.trans (congrArg some (by kernel_rfl))
 t0:=Tryz.underlying0
 a0:=Tryz.isAgg0
 z0:=Tryz.sizeOf0
 v0:=Tryz.zeroValue0
 t3:=Tryz.underlying3
 a3:=Tryz.isAgg3
 z3:=Tryz.sizeOf3
 v3:=Tryz.zeroValue3
 t4:=Tryz.underlying4
 a4:=Tryz.isAgg4
 z4:=Tryz.sizeOf4
 v4:=Tryz.zeroValue4
 t5:=Tryz.underlying5
 a5:=Tryz.isAgg5
 z5:=Tryz.sizeOf5
 v5:=Tryz.zeroValue5
 t9:=Tryz.underlying9
 a9:=Tryz.isAgg9
 z9:=Tryz.sizeOf9
 v9:=Tryz.zeroValue9
 t28:=Tryz.underlying35
 a28:=Tryz.isAgg35
 z28:=Tryz.sizeOf35
 v28:=Tryz.zeroValue35
 t46:=Tryz.underlying152
 a46:=Tryz.isAgg152
 z46:=Tryz.sizeOf152
 v46:=Tryz.zeroValue152
 t51:=Tryz.underlying164
 a51:=Tryz.isAgg164
 z51:=Tryz.sizeOf164
 v51:=Tryz.zeroValue164
 t53:=Tryz.underlying166
 a53:=Tryz.isAgg166
 z53:=Tryz.sizeOf166
 v53:=Tryz.zeroValue166
 t131:=Tryz.underlying82
 a131:=Tryz.isAgg82
 z131:=Tryz.sizeOf82
 v131:=Tryz.zeroValue82
 t182:=Tryz.underlying156
 a182:=Tryz.isAgg156
 z182:=Tryz.sizeOf156
 v182:=Tryz.zeroValue156
 t183:=Tryz.underlying157
 a183:=Tryz.isAgg157
 z183:=Tryz.sizeOf157
 v183:=Tryz.zeroValue157
 t218:=Tryz.underlying168
 a218:=Tryz.isAgg168
 z218:=Tryz.sizeOf168
 v218:=Tryz.zeroValue168
 t222:=Tryz.underlying172
 a222:=Tryz.isAgg172
 z222:=Tryz.sizeOf172
 v222:=Tryz.zeroValue172
 t228:=Tryz.underlying174
 a228:=Tryz.isAgg174
 z228:=Tryz.sizeOf174
 v228:=Tryz.zeroValue174
 t229:=Tryz.underlying175
 a229:=Tryz.isAgg175
 z229:=Tryz.sizeOf175
 v229:=Tryz.zeroValue175 }
end Go.Proofs
end
section
namespace Go.AI
open Go.Proofs
set_option maxRecDepth 100000
theorem Mw:Inf Tryz.prog 3 1 8 (.int .i64 0):=AR (by kernel_rfl)
theorem Jli:Inf Tryz.prog 4 1 1 (.bool false):=AR (by kernel_rfl)
theorem QO:Inf Tryz.prog 5 1 1 (.int .u8 0):=AR (by kernel_rfl)
theorem X7:Inf Tryz.prog 9 1 16 (.string ⟨#[]⟩):=AR (by kernel_rfl)
theorem Jhc:Inf Tryz.prog 22 1 24 (.slice none 0 0):=AR (by kernel_rfl)
theorem Jlj:Inf Tryz.prog 24 3 32 (.agg #[.int .u8 0,.int .u8 0,.slice none 0 0]):=AR (by kernel_rfl)
theorem Z6:Inf Tryz.prog 25 1 24 (.slice none 0 0):=AR (by kernel_rfl)
theorem Jhd:Inf Tryz.prog 27 3 32 (.agg #[.int .u8 0,.int .u8 0,.slice none 0 0]):=AR (by kernel_rfl)
theorem Jhe:Inf Tryz.prog 29 1 24 (.slice none 0 0):=AR (by kernel_rfl)
theorem Jhf:Inf Tryz.prog 31 3 40 (.agg #[.int .i64 0,.int .u8 0,.slice none 0 0]):=AR (by kernel_rfl)
theorem Jhg:Inf Tryz.prog 34 1 24 (.slice none 0 0):=AR (by kernel_rfl)
theorem Vy:Inf Tryz.prog 35 1 24 (.slice none 0 0):=AR (by kernel_rfl)
theorem Jlk:Inf Tryz.prog 37 3 64 (.agg #[.string ⟨#[]⟩,.slice none 0 0,.slice none 0 0]):=AR (by kernel_rfl)
theorem Jll:Inf Tryz.prog 40 3 32 (.agg #[.int .i64 0,.int .i64 0,.string ⟨#[]⟩]):=AR (by kernel_rfl)
theorem Jhh:Inf Tryz.prog 42 1 8 (.int .i64 0):=AR (by kernel_rfl)
theorem Jlm:Inf Tryz.prog 47 1 24 (.slice none 0 0):=AR (by kernel_rfl)
theorem JcW:Inf Tryz.prog 51 1 24 (.slice none 0 0):=AR (by kernel_rfl)
theorem Jhi:Inf Tryz.prog 53 2 48 (.agg #[.slice none 0 0,.slice none 0 0]):=AR (by kernel_rfl)
theorem Jln:Inf Tryz.prog 57 4 64 (.agg #[.slice none 0 0,.slice none 0 0,.int .i64 0,.int .i64 0]):=AR (by kernel_rfl)
theorem Jhj:Inf Tryz.prog 64 1 1 (.int .u8 0):=AR (by kernel_rfl)
theorem Jhk:Inf Tryz.prog 67 6 64 (.agg #[.string ⟨#[]⟩,.slice none 0 0,.int .u8 0,.int .u8 0,.int .i64 0,.int .i64 0]):=AR (by kernel_rfl)
theorem Jhl:Inf Tryz.prog 69 2 2 (.agg #[.int .u8 0,.int .u8 0]):=AR (by kernel_rfl)
theorem Jhm:Inf Tryz.prog 71 6 56 (.agg #[.slice none 0 0,.slice none 0 0,.int .u8 0,.int .u8 0,.int .u8 0,.int .u8 0]):=AR (by kernel_rfl)
theorem Jlo:Inf Tryz.prog 76 1 8 (.pointer none):=AR (by kernel_rfl)
theorem JcX:Inf Tryz.prog 90 1 24 (.slice none 0 0):=AR (by kernel_rfl)
theorem JcY:Inf Tryz.prog 93 3 24 (.agg #[.int .i64 0,.int .i64 0,.int .u8 0]):=AR (by kernel_rfl)
theorem Jlp:Inf Tryz.prog 96 6 72 (.agg #[.string ⟨#[]⟩,.int .i64 0,.int .i64 0,.int .i64 0,.int .u8 0,.slice none 0 0]):=AR (by kernel_rfl)
theorem Jh8:Inf Tryz.prog 102 1 24 (.slice none 0 0):=AR (by kernel_rfl)
theorem Jh9:Inf Tryz.prog 104 2 16 (.agg #[.int .i64 0,.int .i64 0]):=AR (by kernel_rfl)
theorem Jia:Inf Tryz.prog 111 1 8 (.map none):=AR (by kernel_rfl)
theorem JcZ:Inf Tryz.prog 112 1 24 (.slice none 0 0):=AR (by kernel_rfl)
theorem Wl:Inf Tryz.prog 113 1 24 (.slice none 0 0):=AR (by kernel_rfl)
theorem Jib:Inf Tryz.prog 115 2 48 (.agg #[.slice none 0 0,.slice none 0 0]):=AR (by kernel_rfl)
theorem Jc0:Inf Tryz.prog 116 1 24 (.slice none 0 0):=AR (by kernel_rfl)
theorem Jc1:Inf Tryz.prog 118 3 32 (.agg #[.string ⟨#[]⟩,.int .i64 0,.int .i64 0]):=AR (by kernel_rfl)
theorem Jic:Inf Tryz.prog 124 1 8 (.pointer none):=AR (by kernel_rfl)
theorem Jc2:Inf Tryz.prog 127 2 48 (.agg #[.slice none 0 0,.slice none 0 0]):=AR (by kernel_rfl)
theorem Jc3:Inf Tryz.prog 128 1 24 (.slice none 0 0):=AR (by kernel_rfl)
theorem Jc4:Inf Tryz.prog 129 1 24 (.slice none 0 0):=AR (by kernel_rfl)
theorem Jid:Inf Tryz.prog 131 8 136 (.agg #[.int .i64 0,.int .u8 0,.slice none 0 0,.string ⟨#[]⟩,.slice none 0 0,.slice none 0 0,.slice none 0 0,.int .i64 0]):=AR (by kernel_rfl)
theorem Jie:Inf Tryz.prog 133 1 24 (.slice none 0 0):=AR (by kernel_rfl)
theorem Jc5:Inf Tryz.prog 141 1 24 (.slice none 0 0):=AR (by kernel_rfl)
theorem Jc6:Inf Tryz.prog 143 2 16 (.agg #[.int .i64 0,.int .i64 0]):=AR (by kernel_rfl)
theorem Jif:Inf Tryz.prog 144 5 120 (.agg #[.slice none 0 0,.slice none 0 0,.slice none 0 0,.slice none 0 0,.slice none 0 0]):=AR (by kernel_rfl)
theorem Jig:Inf Tryz.prog 148 1 8 (.pointer none):=AR (by kernel_rfl)
theorem Jih:Inf Tryz.prog 152 1 8 (.int .u64 0):=AR (by kernel_rfl)
theorem Jii:Inf Tryz.prog 156 1 8 (.int .i64 0):=AR (by kernel_rfl)
theorem Jij:Inf Tryz.prog 164 1 4 (.int .u32 0):=AR (by kernel_rfl)
theorem Jik:Inf Tryz.prog 166 1 8 (.int .u64 0):=AR (by kernel_rfl)
theorem Jil:Inf Tryz.prog 168 1 8 (.int .u64 0):=AR (by kernel_rfl)
theorem Jim:Inf Tryz.prog 172 1 8 (.pointer none):=AR (by kernel_rfl)
def ty:Nat->Ty
 | 3=>⟨true,[],1,false,[.int .i64 0],.int .i64⟩
 | 4=>⟨true,[],1,false,[.bool false],.bool⟩
 | 5=>⟨true,[],1,false,[.int .u8 0],.int .u8⟩
 | 9=>⟨true,[],1,false,[.str []],.string⟩
 | 22=>⟨true,[],1,false,[.nil],.slice 6 56 [.nil,.nil,.int .u8 0,.int .u8 0,.int .u8 0,.int .u8 0]⟩
 | 24=>⟨true,[],3,true,[.int .u8 0,.int .u8 0,.nil],.struct [(0,1),(1,1),(2,1)]⟩
 | 25=>⟨true,[],1,false,[.nil],.slice 1 1 [.int .u8 0]⟩
 | 27=>⟨true,[],3,true,[.int .u8 0,.int .u8 0,.nil],.struct [(0,1),(1,1),(2,1)]⟩
 | 29=>⟨true,[],1,false,[.nil],.slice 6 64 [.str [],.nil,.int .u8 0,.int .u8 0,.int .i64 0,.int .i64 0]⟩
 | 31=>⟨true,[],3,true,[.int .i64 0,.int .u8 0,.nil],.struct [(0,1),(1,1),(2,1)]⟩
 | 34=>⟨true,[],1,false,[.nil],.slice 1 24 [.nil]⟩
 | 35=>⟨true,[],1,false,[.nil],.slice 1 8 [.int .i64 0]⟩
 | 37=>⟨true,[],3,true,[.str [],.nil,.nil],.struct [(0,1),(1,1),(2,1)]⟩
 | 40=>⟨true,[.int .i64,.int .i64,.string],3,true,[.int .i64 0,.int .i64 0,.str []],.struct [(0,1),(1,1),(2,1)]⟩
 | 42=>⟨true,[],1,false,[.int .i64 0],.int .i64⟩
 | 47=>⟨true,[],1,false,[.nil],.slice 3 32 [.int .u8 0,.int .u8 0,.nil]⟩
 | 51=>⟨true,[],1,false,[.nil],.slice 1 1 [.int .u8 0]⟩
 | 53=>⟨true,[],2,true,[.nil,.nil],.struct [(0,1),(1,1)]⟩
 | 57=>⟨true,[],4,true,[.nil,.nil,.int .i64 0,.int .i64 0],.struct [(0,2),(2,1),(3,1)]⟩
 | 64=>⟨true,[],1,false,[.int .u8 0],.int .u8⟩
 | 67=>⟨true,[],6,true,[.str [],.nil,.int .u8 0,.int .u8 0,.int .i64 0,.int .i64 0],.struct [(0,1),(1,1),(2,1),(3,1),(4,1),(5,1)]⟩
 | 69=>⟨true,[],2,true,[.int .u8 0,.int .u8 0],.array 2 1⟩
 | 71=>⟨true,[],6,true,[.nil,.nil,.int .u8 0,.int .u8 0,.int .u8 0,.int .u8 0],.struct [(0,1),(1,1),(2,1),(3,1),(4,2)]⟩
 | 76=>⟨true,[],1,false,[.nilp],.other⟩
 | 90=>⟨true,[],1,false,[.nil],.slice 3 24 [.int .i64 0,.int .i64 0,.int .u8 0]⟩
 | 93=>⟨true,[.int .i64,.int .i64,.int .u8],3,true,[.int .i64 0,.int .i64 0,.int .u8 0],.struct [(0,1),(1,1),(2,1)]⟩
 | 96=>⟨true,[],6,true,[.str [],.int .i64 0,.int .i64 0,.int .i64 0,.int .u8 0,.nil],.struct [(0,1),(1,1),(2,3),(5,1)]⟩
 | 102=>⟨true,[],1,false,[.nil],.slice 1 16 [.str []]⟩
 | 104=>⟨true,[],2,true,[.int .i64 0,.int .i64 0],.array 2 1⟩
 | 111=>⟨true,[],1,false,[.nilm],.map [.int .i64,.int .i64,.int .u8] true false [.int .i64 0]⟩
 | 112=>⟨true,[],1,false,[.nil],.slice 1 24 [.nil]⟩
 | 113=>⟨true,[],1,false,[.nil],.slice 1 1 [.bool false]⟩
 | 115=>⟨true,[],2,true,[.nil,.nil],.struct [(0,1),(1,1)]⟩
 | 116=>⟨true,[],1,false,[.nil],.slice 3 32 [.str [],.int .i64 0,.int .i64 0]⟩
 | 118=>⟨true,[.string,.int .i64,.int .i64],3,true,[.str [],.int .i64 0,.int .i64 0],.struct [(0,1),(1,1),(2,1)]⟩
 | 124=>⟨true,[],1,false,[.nilp],.other⟩
 | 127=>⟨true,[],2,true,[.nil,.nil],.struct [(0,1),(1,1)]⟩
 | 128=>⟨true,[],1,false,[.nil],.slice 1 24 [.nil]⟩
 | 129=>⟨true,[],1,false,[.nil],.slice 2 48 [.nil,.nil]⟩
 | 131=>⟨true,[],8,true,[.int .i64 0,.int .u8 0,.nil,.str [],.nil,.nil,.nil,.int .i64 0],.struct [(0,3),(3,1),(4,1),(5,1),(6,1),(7,1)]⟩
 | 133=>⟨true,[],1,false,[.nil],.slice 1 24 [.nil]⟩
 | 141=>⟨true,[],1,false,[.nil],.slice 2 16 [.int .i64 0,.int .i64 0]⟩
 | 143=>⟨true,[.int .i64,.int .i64],2,true,[.int .i64 0,.int .i64 0],.struct [(0,1),(1,1)]⟩
 | 144=>⟨true,[],5,true,[.nil,.nil,.nil,.nil,.nil],.array 5 1⟩
 | 148=>⟨true,[],1,false,[.nilp],.other⟩
 | 152=>⟨true,[],1,false,[.int .u64 0],.int .u64⟩
 | 156=>⟨true,[],1,false,[.int .i64 0],.int .i64⟩
 | 164=>⟨true,[],1,false,[.int .u32 0],.int .u32⟩
 | 166=>⟨true,[],1,false,[.int .u64 0],.int .u64⟩
 | 168=>⟨true,[],1,false,[.int .u64 0],.int .u64⟩
 | 172=>⟨true,[],1,false,[.nilp],.other⟩
 | _=>⟨false,[],0,false,[],.other⟩
theorem tf3:AD Tryz.prog 3 (ty 3):=tfM Mw Tryz.underlying3 rfl
theorem tf4:AD Tryz.prog 4 (ty 4):=tfM Jli Tryz.underlying4 rfl
theorem tf5:AD Tryz.prog 5 (ty 5):=tfM QO Tryz.underlying5 rfl
theorem tf9:AD Tryz.prog 9 (ty 9):=tfM X7 Tryz.underlying9 rfl
theorem Jms:AD Tryz.prog 22 (ty 22):=tfM Jhc Tryz.underlying22 (slK Jhm)
theorem Jmt:AD Tryz.prog 24 (ty 24):=tfM Jlj Tryz.underlying24 (stF (A0 (CZ QO Tryz.underlying5) (A0 (CZ QO Tryz.underlying5) (A0 (CZ Jhc Tryz.underlying22) Id))))
theorem Jmu:AD Tryz.prog 25 (ty 25):=tfM Z6 Tryz.underlying25 (slK QO (λ _=>Tryz.underlying5))
theorem Jmv:AD Tryz.prog 27 (ty 27):=tfM Jhd Tryz.underlying27 (stF (A0 (CZ QO Tryz.underlying5) (A0 (CZ QO Tryz.underlying5) (A0 (CZ Z6 Tryz.underlying25) Id))))
theorem Jmw:AD Tryz.prog 29 (ty 29):=tfM Jhe Tryz.underlying29 (slK Jhk)
theorem Jmx:AD Tryz.prog 31 (ty 31):=tfM Jhf Tryz.underlying31 (stF (A0 (CZ Mw Tryz.underlying3) (A0 (CZ QO Tryz.underlying5) (A0 (CZ Jhe Tryz.underlying29) Id))))
theorem Jmy:AD Tryz.prog 34 (ty 34):=tfM Jhg Tryz.underlying34 (slK Vy)
theorem Jmz:AD Tryz.prog 35 (ty 35):=tfM Vy Tryz.underlying35 (slK Mw)
theorem JmA:AD Tryz.prog 37 (ty 37):=tfM Jlk Tryz.underlying37 (stF (A0 (CZ X7 Tryz.underlying9) (A0 (CZ Jhg Tryz.underlying34) (A0 (CZ Vy Tryz.underlying35) Id))))
theorem JmB:AD Tryz.prog 40 (ty 40):=tfM Jll Tryz.underlying40 (stF (A0 (CZ Mw Tryz.underlying3) (A0 (CZ Mw Tryz.underlying3) (A0 (CZ X7 Tryz.underlying9) Id)))) (λ _=>SC Tryz.underlying40 (by kernel_rfl) (by kernel_rfl) rfl λ j f k h1 h2=>match j,h1,h2 with|0,h1,h2=>(by cases h1;cases h2;exact ⟨by decide,rfl,⟨_,Tryz.underlying3⟩⟩)|1,h1,h2=>(by cases h1;cases h2;exact ⟨by decide,rfl,⟨_,Tryz.underlying3⟩⟩)|2,h1,h2=>(by cases h1;cases h2;exact ⟨by decide,rfl,Tryz.underlying9⟩)|n+3,h1,_=>by simp at h1)
theorem JmC:AD Tryz.prog 42 (ty 42):=tfM Jhh Tryz.underlying42 rfl
theorem JmD:AD Tryz.prog 47 (ty 47):=tfM Jlm Tryz.underlying47 (slK Jhd)
theorem JmE:AD Tryz.prog 51 (ty 51):=tfM JcW Tryz.underlying51 (slK Jhj (λ _=>Tryz.underlying64))
theorem JmF:AD Tryz.prog 53 (ty 53):=tfM Jhi Tryz.underlying53 (stF (A0 (CZ JcW Tryz.underlying51) (A0 (CZ Vy Tryz.underlying35) Id)))
theorem JmG:AD Tryz.prog 57 (ty 57):=tfM Jln Tryz.underlying57 (stF (A0 (CZ Jhi Tryz.underlying53) (A0 (CZ Mw Tryz.underlying3) (A0 (CZ Jhh Tryz.underlying42) Id))))
theorem JmH:AD Tryz.prog 64 (ty 64):=tfM Jhj Tryz.underlying64 rfl
theorem JmI:AD Tryz.prog 67 (ty 67):=tfM Jhk Tryz.underlying67 (stF (A0 (CZ X7 Tryz.underlying9) (A0 (CZ JcW Tryz.underlying51) (A0 (CZ QO Tryz.underlying5) (A0 (CZ QO Tryz.underlying5) (A0 (CZ Mw Tryz.underlying3) (A0 (CZ Mw Tryz.underlying3) Id)))))))
theorem JmJ:AD Tryz.prog 69 (ty 69):=tfM Jhl Tryz.underlying69 (arK QO)
theorem JmK:AD Tryz.prog 71 (ty 71):=tfM Jhm Tryz.underlying71 (stF (A0 (CZ Z6 Tryz.underlying25) (A0 (CZ Z6 Tryz.underlying25) (A0 (CZ QO Tryz.underlying5) (A0 (CZ QO Tryz.underlying5) (A0 (CZ Jhl Tryz.underlying69) Id))))))
theorem JmL:AD Tryz.prog 76 (ty 76):=tfM Jlo Tryz.underlying76 trivial
theorem JmM:AD Tryz.prog 90 (ty 90):=tfM JcX Tryz.underlying90 (slK JcY)
theorem JmN:AD Tryz.prog 93 (ty 93):=tfM JcY Tryz.underlying93 (stF (A0 (CZ Mw Tryz.underlying3) (A0 (CZ Mw Tryz.underlying3) (A0 (CZ QO Tryz.underlying5) Id)))) (λ _=>SC Tryz.underlying93 (by kernel_rfl) (by kernel_rfl) rfl λ j f k h1 h2=>match j,h1,h2 with|0,h1,h2=>(by cases h1;cases h2;exact ⟨by decide,rfl,⟨_,Tryz.underlying3⟩⟩)|1,h1,h2=>(by cases h1;cases h2;exact ⟨by decide,rfl,⟨_,Tryz.underlying3⟩⟩)|2,h1,h2=>(by cases h1;cases h2;exact ⟨by decide,rfl,⟨_,Tryz.underlying5⟩⟩)|n+3,h1,_=>by simp at h1)
theorem JmO:AD Tryz.prog 96 (ty 96):=tfM Jlp Tryz.underlying96 (stF (A0 (CZ X7 Tryz.underlying9) (A0 (CZ Mw Tryz.underlying3) (A0 (CZ JcY Tryz.underlying93) (A0 (CZ JcX Tryz.underlying90) Id)))))
theorem Jlq:AD Tryz.prog 102 (ty 102):=tfM Jh8 Tryz.underlying102 (slK X7)
theorem Jlr:AD Tryz.prog 104 (ty 104):=tfM Jh9 Tryz.underlying104 (arK Mw)
theorem Jls:AD Tryz.prog 111 (ty 111):=tfM Jia Tryz.underlying111 (by obtain ⟨j,h1,h2,h3,h4⟩:=Mw;exact ⟨_,_,j,_,rfl,(UF Tryz.underlying93 (by kernel_rfl) rfl λ j f k h1 h2=>match j,h1,h2 with|0,h1,h2=>(by cases h1;cases h2;exact ⟨by decide,rfl,⟨_,Tryz.underlying3⟩⟩)|1,h1,h2=>(by cases h1;cases h2;exact ⟨by decide,rfl,⟨_,Tryz.underlying3⟩⟩)|2,h1,h2=>(by cases h1;cases h2;exact ⟨by decide,rfl,⟨_,Tryz.underlying5⟩⟩)|n+3,h1,_=>by simp at h1),h1,h4,rfl,(λ h=>by cases h),(λ _=>⟨_,rfl,rfl⟩)⟩)
theorem Jlt:AD Tryz.prog 112 (ty 112):=tfM JcZ Tryz.underlying112 (slK Jc0)
theorem Jlu:AD Tryz.prog 113 (ty 113):=tfM Wl Tryz.underlying113 (slK Jli)
theorem Jlv:AD Tryz.prog 115 (ty 115):=tfM Jib Tryz.underlying115 (stF (A0 (CZ JcZ Tryz.underlying112) (A0 (CZ Wl Tryz.underlying113) Id)))
theorem Jlw:AD Tryz.prog 116 (ty 116):=tfM Jc0 Tryz.underlying116 (slK Jc1)
theorem Jlx:AD Tryz.prog 118 (ty 118):=tfM Jc1 Tryz.underlying118 (stF (A0 (CZ X7 Tryz.underlying9) (A0 (CZ Mw Tryz.underlying3) (A0 (CZ Mw Tryz.underlying3) Id)))) (λ _=>SC Tryz.underlying118 (by kernel_rfl) (by kernel_rfl) rfl λ j f k h1 h2=>match j,h1,h2 with|0,h1,h2=>(by cases h1;cases h2;exact ⟨by decide,rfl,Tryz.underlying9⟩)|1,h1,h2=>(by cases h1;cases h2;exact ⟨by decide,rfl,⟨_,Tryz.underlying3⟩⟩)|2,h1,h2=>(by cases h1;cases h2;exact ⟨by decide,rfl,⟨_,Tryz.underlying3⟩⟩)|n+3,h1,_=>by simp at h1)
theorem Jly:AD Tryz.prog 124 (ty 124):=tfM Jic Tryz.underlying124 trivial
theorem Jlz:AD Tryz.prog 127 (ty 127):=tfM Jc2 Tryz.underlying127 (stF (A0 (CZ Vy Tryz.underlying35) (A0 (CZ Vy Tryz.underlying35) Id)))
theorem JlA:AD Tryz.prog 128 (ty 128):=tfM Jc3 Tryz.underlying128 (slK Jc5)
theorem JlB:AD Tryz.prog 129 (ty 129):=tfM Jc4 Tryz.underlying129 (slK Jc2)
theorem JlC:AD Tryz.prog 131 (ty 131):=tfM Jid Tryz.underlying131 (stF (A0 (CZ Jhf Tryz.underlying31) (A0 (CZ X7 Tryz.underlying9) (A0 (CZ JcX Tryz.underlying90) (A0 (CZ Jc3 Tryz.underlying128) (A0 (CZ Jc4 Tryz.underlying129) (A0 (CZ Mw Tryz.underlying3) Id)))))))
theorem JlD:AD Tryz.prog 133 (ty 133):=tfM Jie Tryz.underlying133 (slK Wl)
theorem JlE:AD Tryz.prog 141 (ty 141):=tfM Jc5 Tryz.underlying141 (slK Jc6)
theorem JlF:AD Tryz.prog 143 (ty 143):=tfM Jc6 Tryz.underlying143 (stF (A0 (CZ Mw Tryz.underlying3) (A0 (CZ Mw Tryz.underlying3) Id))) (λ _=>SC Tryz.underlying143 (by kernel_rfl) (by kernel_rfl) rfl λ j f k h1 h2=>match j,h1,h2 with|0,h1,h2=>(by cases h1;cases h2;exact ⟨by decide,rfl,⟨_,Tryz.underlying3⟩⟩)|1,h1,h2=>(by cases h1;cases h2;exact ⟨by decide,rfl,⟨_,Tryz.underlying3⟩⟩)|n+2,h1,_=>by simp at h1)
theorem JlG:AD Tryz.prog 144 (ty 144):=tfM Jif Tryz.underlying144 (arK Wl)
theorem JlH:AD Tryz.prog 148 (ty 148):=tfM Jig Tryz.underlying148 trivial
theorem JlI:AD Tryz.prog 152 (ty 152):=tfM Jih Tryz.underlying152 rfl
theorem JlJ:AD Tryz.prog 156 (ty 156):=tfM Jii Tryz.underlying156 rfl
theorem JlK:AD Tryz.prog 164 (ty 164):=tfM Jij Tryz.underlying164 rfl
theorem JlL:AD Tryz.prog 166 (ty 166):=tfM Jik Tryz.underlying166 rfl
theorem JlM:AD Tryz.prog 168 (ty 168):=tfM Jil Tryz.underlying168 rfl
theorem JlN:AD Tryz.prog 172 (ty 172):=tfM Jim Tryz.underlying172 trivial
theorem tyOK:La Tryz.prog ty:=by
 intro t h;unfold ty at h;split at h
 ·exact tf3
 ·exact tf4
 ·exact tf5
 ·exact tf9
 ·exact Jms
 ·exact Jmt
 ·exact Jmu
 ·exact Jmv
 ·exact Jmw
 ·exact Jmx
 ·exact Jmy
 ·exact Jmz
 ·exact JmA
 ·exact JmB
 ·exact JmC
 ·exact JmD
 ·exact JmE
 ·exact JmF
 ·exact JmG
 ·exact JmH
 ·exact JmI
 ·exact JmJ
 ·exact JmK
 ·exact JmL
 ·exact JmM
 ·exact JmN
 ·exact JmO
 ·exact Jlq
 ·exact Jlr
 ·exact Jls
 ·exact Jlt
 ·exact Jlu
 ·exact Jlv
 ·exact Jlw
 ·exact Jlx
 ·exact Jly
 ·exact Jlz
 ·exact JlA
 ·exact JlB
 ·exact JlC
 ·exact JlD
 ·exact JlE
 ·exact JlF
 ·exact JlG
 ·exact JlH
 ·exact JlI
 ·exact JlJ
 ·exact JlK
 ·exact JlL
 ·exact JlM
 ·exact JlN
 ·cases h
theorem follows:Tryz.prog.follows .mixedOrders=true:=by kernel_rfl
def cxk (n nk:Nat):Cx:=⟨ty,⟨n,[],nk⟩,AL Tryz.prog,Ce Tryz.prog,Ve Tryz.prog,false⟩
def cx (n:Nat):Cx:=cxk n 0
theorem Jhn (n nk:Nat):Kv Tryz.prog (cxk n nk):=⟨tyOK,λ _ _ _ h=>h,λ _ _ _ _ _ _ h=>h,λ _ _ _ _ _ h=>h⟩
end Go.AI
end
