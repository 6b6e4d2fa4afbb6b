/- Part 4 of 6 of the proof: lemmas about the model and the program's functions, with no condition beyond those that each states. -/
import Derived.Test.YtlhfdeoeeenapaaLC
import Derived.KernelRfl
import Derived.RecoverIn
import Derived.TacticsInMore
import Derived.Shelf.Small.Strs
import Derived.Test.YtlhfdeoeeenapaaProg
import Derived.Shelf.SlLaysF0
import Derived.Shelf.Lays
import Derived.Lib.ConvBytes
import Derived.WalkKit
import Derived.Deep.LoopGhost
import Derived.Deep.RegionLaw
import Derived.Shelf.RegionOpenPlain
import Derived.Lib.Walk
import Derived.Sort.WalkB12
import Derived.Sort.EncStr
import Derived.Lib.SliceRun
import Derived.Deep.MidRow
import Derived.Shelf.Sort.Plain
import Derived.Shelf.Slices.In.SortNone
import Derived.Shelf.SlSortCmp.NoneTotal
import Derived.Lib.Bytealg
section
namespace Go.AI
variable {Γ:Cx} {C:Code} {p:List Nat} {Q:Ex->St->Prop} {s s':St} {K:St->Prop} {i:Nat} {nk:Nat}
variable {α β ζ:Type}
theorem Bw {x:Option α} {d:α} (h:x.isSome=true):x=some (x.getD d):=by
 cases x with
 | none=>cases h
 | some x=>rfl
structure WP (Γ:Cx) (C:Code) (p:List Nat) (Q:Ex->St->Prop) (s:St):Prop where
 out:wpA Γ (nav p C) Q s
structure RF (Γ:Cx) (C:Code) (p:List Nat) (i:Nat) (Q:Ex->St->Prop) (s:St):Prop where
 out:A0 Γ C p i (Q .normal) s
structure PQ (Q:Ex->St->Prop) (e:Ex) (s:St):Prop where
 out:Q e s
structure RA (ty:Nat->Ty) (rs:List ResultVar) (r:AV) (s:St):Prop where
 out:Ul ty rs r s
theorem RF.of {Γ:Cx} {C:Code} {p:List Nat} {i:Nat} {Q:Ex->St->Prop} {s s':St} {j:Nat} (h:A0 Γ C p j (Q .normal) s'->A0 Γ C p i (Q .normal) s) (hk:RF Γ C p j Q s'):RF Γ C p i Q s:=⟨h hk.out⟩
theorem HO (k:Nat):∀ (p:List Nat) (C:Code),nav (p++[k]) C=ZT (nav p C) k:=by
 intro p;induction p with
 | nil=>intro C;rfl
 | cons a p ih=>intro C;exact ih (ZT C a)
def W8:Code->Bool
 | .seq _ _=>true
 | _=>false
def SO:Code->Bool
 | .cond _ _ _=>true
 | _=>false
def JeH (id:Nat):Code->Bool
 | .block i _=>Nat.beq i id
 | _=>false
def Nc:Code->Bool
 | .loop _=>true
 | _=>false
theorem JdL (h:W8 (nav p C)=true):nav p C=.seq (nav (p++[0]) C) (nav (p++[1]) C):=by
 rw[HO,HO];cases hc:nav p C<;>rw[hc]at h<;>first|rfl|cases h
theorem PL (h:SO (nav p C)=true):nav p C=.cond (M9 (nav p C)) (nav (p++[0]) C) (nav (p++[1]) C):=by
 rw[HO,HO];cases hc:nav p C<;>rw[hc]at h<;>first|rfl|cases h
theorem JdM {id:Nat} (h:JeH id (nav p C)=true):nav p C=.block id (nav (p++[0]) C):=by
 rw[HO];cases hc:nav p C with
 | block j c=>rw[hc]at h;have:=JkV h;subst this;rfl
 | _=>rw[hc]at h;cases h
theorem Uv (h:Nc (nav p C)=true):nav p C=.loop (nav (p++[0]) C):=by
 rw[HO];cases hc:nav p C<;>rw[hc]at h<;>first|rfl|cases h
theorem sq (hw:WP Γ C (p++[0]) (QL Γ.nt.nk (wpA Γ (nav (p++[1]) C) Q) Q) s) (h:W8 (nav p C)=true:=by kernel_rfl):WP Γ C p Q s:=⟨Jfc (JdL h) hw.out⟩
theorem rg (hs:Ar Γ.nt.nk s s') (hk:RF Γ C p 0 (SF C p s' Q) s') (h:JH (nav p C)=true:=by kernel_rfl):WP Γ C p Q s:=⟨RE h hs hk.out⟩
theorem rz (hk:RF Γ C p 0 (SF C p s Q) s) (h:JH (nav p C)=true:=by kernel_rfl):WP Γ C p Q s:=⟨RE h Jdt hk.out⟩
theorem sr (hk:RF Γ C (p++[0]) 0 (SF C (p++[0]) s (QL Γ.nt.nk (wpA Γ (nav (p++[1]) C) Q) Q)) s) (h:(W8 (nav p C)&&JH (nav (p++[0]) C))=true:=by kernel_rfl):WP Γ C p Q s:=by
 simp only[JkP]at h;exact sq (rz hk h.2) h.1
theorem ae {s0:St} (hk:PQ Q .normal s) (h:Nat.ble (A1 (nav p C)).length i=true:=by kernel_rfl) (hd:LM (KL (nav p C)) (CA (nav p C)) s0.env s.env=true:=by kernel_rfl):RF Γ C p i (SF C p s0 Q) s:=⟨Na i h ⟨hd,hk.out⟩⟩
theorem en {s0:St} {p':List Nat} (hk:WP Γ C p' Q s) (h:Nat.ble (A1 (nav p C)).length i=true:=by kernel_rfl) (hd:LM (KL (nav p C)) (CA (nav p C)) s0.env s.env=true:=by kernel_rfl):RF Γ C p i (SF C p s0 (QL Γ.nt.nk (wpA Γ (nav p' C) Q) Q)) s:=⟨Na i h ⟨hd,⟨s,.refl s,hk.out⟩⟩⟩
theorem bk (id:Nat) (hw:WP Γ C (p++[0]) (Gt id Q) s) (h:JeH id (nav p C)=true:=by kernel_rfl):WP Γ C p Q s:=⟨ZV id (JdM h) hw.out⟩
theorem ex (k:Nat) (hq:PQ Q (.exit k) s) (h:nav p C=.exit k:=by kernel_rfl):WP Γ C p Q s:=⟨Jdk k h hq.out⟩
theorem re (hq:PQ Q .ret s) (h:nav p C=.ret:=by kernel_rfl):WP Γ C p Q s:=⟨Jfd h hq.out⟩
theorem sk (hq:PQ Q .normal s) (h:nav p C=.skip:=by kernel_rfl):WP Γ C p Q s:=⟨Jdl h hq.out⟩
theorem cn {c:Bool} {x y:Option ζ} {r:ζ} (H:(if c=true then x else y)=some r) (h1:x=some r->WP Γ C (p++[0]) Q s) (h2:y=some r->WP Γ C (p++[1]) Q s) (h:SO (nav p C)=true:=by kernel_rfl) (hc:Aj s.env (M9 (nav p C))=.d (.bool c):=by kernel_rfl):WP Γ C p Q s:=by
 refine⟨SE c (PL h) hc (λ e=>?_) (λ e=>?_)⟩
 ·rw[if_pos e]at H;exact(h1 H).out
 ·rw[if_neg (by rw[e];simp)]at H;exact(h2 H).out
theorem sj {σ ζ:Type} (sJ:σ->St) (F:σ->Option ζ) (z:ζ) (hb:∀ x,F x=some z->WP Γ C (p++[1]) Q (sJ x)) (ha:(∀ x,F x=some z->WP Γ C (p++[1]) Q (sJ x))->WP Γ C (p++[0]) (QL Γ.nt.nk (wpA Γ (nav (p++[1]) C) Q) Q) s) (h:W8 (nav p C)=true:=by kernel_rfl):WP Γ C p Q s:=sq (ha hb) h
theorem lp {σ ρ:Type} {body:σ->Option (σ⊕ρ)} {n:Nat} {x:σ} {r:ρ} (st:σ->St) (E:ρ->Ex->St->Prop) (hr:whl body n x=some r) (hs:Ar Γ.nt.nk s (st x))
  (hb:∀ x z,body x=some z->WP Γ C (p++[0]) (AU Γ.nt.nk st E z) (st x)) (hE:∀ e s,E r e s->PQ Q e s) (h:Nc (nav p C)=true:=by kernel_rfl):WP Γ C p Q s:=⟨Jdm st E (Uv h) hr hs (λ x z hx=>(hb x z hx).out) (λ e s he=>(hE e s he).out)⟩
theorem fo {P:Program} {fn:Func} {f:FuncId} {args:List AV} {r:AV} (hfol:P.follows .mixedOrders=true) (hΓ:FG P Γ) (hf:P.funcs[f]?=some fn) (h:WP Γ (AS fn) [] (Um Γ.ty fn.results.toList r) s)
  (hb:fn.body=some (AS fn):=by kernel_rfl) (hnm:(fn.name == "runtime.NumGoroutine")=false:=by kernel_rfl) (hnt:Γ.nt.n=fn.ntmps:=by kernel_rfl) (hlen:Nat.ble args.length fn.ntmps=true:=by kernel_rfl) (hs:(⟨(List.range args.length).zip args,[]⟩:St)=s:=by kernel_rfl) (hrd:Γ.rd=false:=by kernel_rfl):AJ P f args r:=
 Jie hfol hΓ hrd hf hb hnm hnt hlen hs h.out
theorem HP {c a b:AV} {t x y z:Bool} {r q q':Prop} (hc:Tz c=some (t,r)) (ha:unP t a=some (x,q)) (hb:unP (!t) b=some (y,q')) (hr:r) (hq:q) (hq':q') (hz:(bif t then x else y)=z:=by kernel_rfl):DV (F7 c a b) (.d (.bool z)) [] [] none:=hz▸Jaf hc ha hb hr hq hq'
theorem bx {G:Prop} {x:Option α} {f:α->Option β} {r:β} (h:x.bind f=some r) (k:∀ a,x=some a->f a=some r->G):G:=by obtain⟨a,h1,h2⟩:=bind_some h;exact k a h1 h2
theorem bs {x:Option α} {f:α->Option β} {r:β} (h:x.bind f=some r):∃ a,x=some a/\f a=some r:=bind_some h
theorem qs (hs:Ar Γ.nt.nk s s') (h:WP Γ C p Q s'):PQ (QL Γ.nt.nk (wpA Γ (nav p C) Q) Q) .normal s:=⟨s',hs,h.out⟩
theorem qz (h:WP Γ C p Q s):PQ (QL Γ.nt.nk (wpA Γ (nav p C) Q) Q) .normal s:=⟨s,.refl s,h.out⟩
theorem qx {B:St->Prop} {k:Nat} (h:PQ Q (.exit k) s):PQ (QL nk B Q) (.exit k) s:=⟨h.out⟩
theorem qr {B:St->Prop} (h:PQ Q .ret s):PQ (QL nk B Q) .ret s:=⟨h.out⟩
theorem qN {id:Nat} (h:PQ Q .normal s):PQ (Gt id Q) .normal s:=⟨h.out⟩
theorem qH {id:Nat} (h:PQ Q .normal s):PQ (Gt id Q) (.exit id) s:=⟨ZW h.out⟩
theorem qX {id k:Nat} (hn:Nat.beq k id=false) (h:PQ Q (.exit k) s):PQ (Gt id Q) (.exit k) s:=⟨ZX hn h.out⟩
theorem qR {id:Nat} (h:PQ Q .ret s):PQ (Gt id Q) .ret s:=⟨h.out⟩
theorem og {σ ρ:Type} {st:σ->St} {E:ρ->Ex->St->Prop} {y:σ} (h:Ar nk s (st y)):PQ (AU nk st E (.inl y)) .normal s:=⟨ZY h⟩
theorem oe {σ ρ:Type} {st:σ->St} {E:ρ->Ex->St->Prop} {r:ρ} {k:Nat} (h:E r (.exit k) s):PQ (AU nk st E (.inr r)) (.exit k) s:=⟨V5 h⟩
theorem or {σ ρ:Type} {st:σ->St} {E:ρ->Ex->St->Prop} {r:ρ} (h:E r .ret s):PQ (AU nk st E (.inr r)) .ret s:=⟨Ym h⟩
theorem pr {ty:Nat->Ty} {rs:List ResultVar} {r:AV} (h:RA ty rs r s):PQ (Um ty rs r) .ret s:=⟨h.out⟩
def nxP (Γ:Cx) (C:Code) (p:List Nat) (i n:Nat) (s:St):St:=(Yn Γ (A1 (nav p C)) (((A1 (nav p C)).drop i).take n) s).getD s
theorem ck (n:Nat) (hk:RF Γ C p (i+n) Q (nxP Γ C p i n s)) (h:(Yn Γ (A1 (nav p C)) (((A1 (nav p C)).drop i).take n) s).isSome=true:=by kernel_rfl):RF Γ C p i Q s:=⟨Jh9 n _ (Bw h) rfl hk.out⟩
def EQ (_:St) (x:Option Eff) (v:AV) (obs:List Ob) (rm:List Nat) (upd:Option (Nat×Ob)):Prop:=DV x v obs rm upd
theorem sp {v:AV} {obs:List Ob} {rm:List Nat} {upd:Option (Nat×Ob)} {x:Option Eff} (ho:EQ s x v obs rm upd) (hk:RF Γ C p (i+1) Q ((NY Γ (nav p C) i v obs rm upd s).getD s)) (hx:Nb Γ (nav p C) i s=x:=by kernel_rfl) (hn:(NY Γ (nav p C) i v obs rm upd s).isSome=true:=by kernel_rfl):RF Γ C p i Q s:=⟨Jjx _ hx ho (Bw hn) rfl hk.out⟩
def opV (Γ:Cx) (c:Code) (i:Nat) (s:St):AV:=match Nb Γ c i s with
 | some e=>e.v
 | none=>.top
theorem so {ob:Prop} (ho:ob) (hk:RF Γ C p (i+1) Q ((NY Γ (nav p C) i (opV Γ (nav p C) i s) [] [] none s).getD s)) (hx:Nb Γ (nav p C) i s=A6 (opV Γ (nav p C) i s) ob:=by kernel_rfl) (hn:(NY Γ (nav p C) i (opV Γ (nav p C) i s) [] [] none s).isSome=true:=by kernel_rfl):RF Γ C p i Q s:=sp (JeE ho) hk hx hn
theorem sG {g:Bool} {v:AV} {obs:List Ob} {x:Option Eff} {gs:List Bool} (ho:g=true->EQ s x v obs [] none) (hi:Em g gs) (hk:RF Γ C p (i+1) Q ((JJ Γ (nav p C) i g v obs s).getD s)) (hg:gAt (nav p C) i s=some g:=by kernel_rfl) (hx:Nb Γ (nav p C) i s=x:=by kernel_rfl) (hgs:EO (nav p C) i s=gs:=by kernel_rfl) (hn:(JJ Γ (nav p C) i g v obs s).isSome=true:=by kernel_rfl):RF Γ C p i Q s:=⟨JeB _ hg hx ho hgs hi (Bw hn) rfl hk.out⟩
theorem soG {g:Bool} {ob:Prop} {gs:List Bool} (ho:g=true->ob) (hi:Em g gs) (hk:RF Γ C p (i+1) Q ((JJ Γ (nav p C) i g (opV Γ (nav p C) i s) [] s).getD s)) (hg:gAt (nav p C) i s=some g:=by kernel_rfl) (hx:Nb Γ (nav p C) i s=A6 (opV Γ (nav p C) i s) ob:=by kernel_rfl) (hgs:EO (nav p C) i s=gs:=by kernel_rfl) (hn:(JJ Γ (nav p C) i g (opV Γ (nav p C) i s) [] s).isSome=true:=by kernel_rfl):RF Γ C p i Q s:=sG (λ e=>JeE (ho e)) hi hk hg hx hgs hn
def plV (Γ:Cx) (c:Code) (i:Nat) (s:St):AV×List Ob:=(Jac Γ c i s).getD (.top,[])
theorem gp (g:Bool) {gs:List Bool} (hi:Em g gs) (hk:RF Γ C p (i+1) Q ((JJ Γ (nav p C) i g (plV Γ (nav p C) i s).1 (plV Γ (nav p C) i s).2 s).getD s)) (hg:gAt (nav p C) i s=some g:=by kernel_rfl) (hp:(Jac Γ (nav p C) i s).isSome=true:=by kernel_rfl) (hgs:EO (nav p C) i s=gs:=by kernel_rfl) (hn:(JJ Γ (nav p C) i g (plV Γ (nav p C) i s).1 (plV Γ (nav p C) i s).2 s).isSome=true:=by kernel_rfl):RF Γ C p i Q s:=
 ⟨JeB _ hg rfl (λ _=>Jig (Bw (d:=(.top,[])) hp)) hgs hi (Bw hn) rfl hk.out⟩
def gl (Γ:Cx) (c:Code) (g:Bool):Nat->Nat->St->Option (List Bool×St)
 | 0,_,s=>some ([],s)
 | n+1,i,s=>match gAt c i s,(Jac Γ c i s).isSome,JJ Γ c i g (plV Γ c i s).1 (plV Γ c i s).2 s with
  | some g',true,some s1=>match gl Γ c g n (i+1) s1 with
   | some (l,s2)=>some (g'::(EO c i s++l),s2)
   | none=>none
  | _,_,_=>none
theorem RJ {g:Bool}:∀ {l:List Bool},(∀ b∈l,b=g)->Em g l:=by
 intro l;induction l with
 | nil=>intro _;trivial
 | cons b l ih=>intro h;exact⟨λ e=>by rw[h b (by simp)];exact e,ih λ x hx=>h x (by simp[hx])⟩
theorem Jik {g:Bool}:∀ (n i:Nat) (s:St) (l:List Bool) (s2:St),gl Γ (nav p C) g n i s=some (l,s2)->(∀ b∈l,b=g)->RF Γ C p (i+n) Q s2->RF Γ C p i Q s:=by
 intro n;induction n with
 | zero=>intro i s l s2 h _ hk;cases h;exact hk
 | succ n ih=>
  intro i s l s2 h hl hk;simp only[gl]at h;split at h
  ·rename_i g' s1 h1 h2 h3;split at h
   ·rename_i l' s2' h4;cases h;have e:g'=g:=hl g' (by simp);subst e;have hlast:=ih (i+1) s1 l' s2 h4 (λ b hb=>hl b (by simp[hb])) (by rw[JkI,Nat.add_comm 1 n];exact hk);refine gp g' (RJ λ b hb=>hl b (by simp[hb])) ?_ h1 h2 rfl (by rw[h3];rfl);rw[h3];exact hlast
   ·cases h
  ·cases h
theorem gc (n:Nat) (g:Bool) (hk:RF Γ C p (i+n) Q ((gl Γ (nav p C) g n i s).getD ([],s)).2) (h1:(gl Γ (nav p C) g n i s).isSome=true:=by kernel_rfl) (h2:((gl Γ (nav p C) g n i s).getD ([],s)).1=List.replicate ((gl Γ (nav p C) g n i s).getD ([],s)).1.length g:=by kernel_rfl):RF Γ C p i Q s:=by
 refine Jik n i s _ _ (Bw (d:=([],s)) h1) (λ b hb=>?_) hk;have hb':b∈((gl Γ (nav p C) g n i s).getD ([],s)).1:=hb;rw[h2]at hb';exact List.eq_of_mem_replicate hb'
def bo:AV->Bool
 | .d (.bool b)=>b
 | .gv _ (.d (.bool b))=>b
 | _=>false
def pkO (c:Code) (i:Nat) (s:St):AV×AV×AV:=
 match (A1 c)[i]? with
 | some o=>match o.op with
  | .pick x y z=>(Aj s.env x,Aj s.env y,Aj s.env z)
  | _=>(.top,.top,.top)
 | none=>(.top,.top,.top)
def pkT (c:Code) (i:Nat) (s:St):Bool:=bo (pkO c i s).1
def pkX (c:Code) (i:Nat) (s:St):Bool:=bo (pkO c i s).2.1
def pkY (c:Code) (i:Nat) (s:St):Bool:=bo (pkO c i s).2.2
def pkV (c:Code) (i:Nat) (s:St):AV:=.d (.bool (bif pkT c i s then pkX c i s else pkY c i s))
theorem pA (hk:RF Γ C p (i+1) Q ((RG Γ (nav p C) i (pkV (nav p C) i s) s).getD s)) (h:Ln (nav p C) i s=F7 (.d (.bool (pkT (nav p C) i s))) (.gv (pkT (nav p C) i s) (.d (.bool (pkX (nav p C) i s)))) (.d (.bool (pkY (nav p C) i s))):=by kernel_rfl) (hn:(RG Γ (nav p C) i (pkV (nav p C) i s) s).isSome=true:=by kernel_rfl):RF Γ C p i Q s:=⟨JeC _ h Jae (Bw hn) rfl hk.out⟩
theorem pO (hk:RF Γ C p (i+1) Q ((RG Γ (nav p C) i (pkV (nav p C) i s) s).getD s)) (h:Ln (nav p C) i s=F7 (.d (.bool (pkT (nav p C) i s))) (.d (.bool (pkX (nav p C) i s))) (.gv (!(pkT (nav p C) i s)) (.d (.bool (pkY (nav p C) i s)))):=by kernel_rfl) (hn:(RG Γ (nav p C) i (pkV (nav p C) i s) s).isSome=true:=by kernel_rfl):RF Γ C p i Q s:=⟨JeC _ h JdB (Bw hn) rfl hk.out⟩
theorem pG {g:Bool} {v:AV} {x:Option Eff} (ho:g=true->DV x v [] [] none) (hk:RF Γ C p (i+1) Q ((SG Γ (nav p C) i g v s).getD s)) (hg:gAt (nav p C) i s=some g:=by kernel_rfl) (hx:Ln (nav p C) i s=x:=by kernel_rfl) (hn:(SG Γ (nav p C) i g v s).isSome=true:=by kernel_rfl):RF Γ C p i Q s:=⟨Jfe _ hg hx ho (Bw hn) rfl hk.out⟩
theorem sF (hk:RF Γ C p (i+1) Q ((W5 Γ (nav p C) i ((Mc Γ (nav p C) i s).getD []) s).getD s)) (hx:(Mc Γ (nav p C) i s).isSome=true:=by kernel_rfl) (hn:(W5 Γ (nav p C) i ((Mc Γ (nav p C) i s).getD []) s).isSome=true:=by kernel_rfl):RF Γ C p i Q s:=⟨Jif _ _ (Bw hx) (Bw hn) rfl hk.out⟩
theorem sK (obj:Bool) (hk:RF Γ C p (i+1) Q ((W7 Γ (nav p C) i obj ((Lp Γ (nav p C) i s).getD (0,[])).1 ((Lp Γ (nav p C) i s).getD (0,[])).2 s).getD s)) (hx:(Lp Γ (nav p C) i s).isSome=true:=by kernel_rfl) (hn:(W7 Γ (nav p C) i obj ((Lp Γ (nav p C) i s).getD (0,[])).1 ((Lp Γ (nav p C) i s).getD (0,[])).2 s).isSome=true:=by kernel_rfl):RF Γ C p i Q s:=⟨Jii _ obj _ (Bw (d:=(0,[])) hx) (Bw hn) rfl hk.out⟩
theorem ca (m:Bool) {f:FuncId} {ys:List AV} {r:AV} (hr:Γ.calls f ys r) (hk:RF Γ C p (i+1) Q ((NZ Γ (nav p C) i m (HM r) r s).getD s)) (hc:IB (nav p C) i s=some (f,ys,[],[]):=by kernel_rfl) (hn:(NZ Γ (nav p C) i m (HM r) r s).isSome=true:=by kernel_rfl):RF Γ C p i Q s:=⟨Z6 _ m hc leZ rfl hr (.inl rfl) rfl (Bw hn) rfl hk.out⟩
theorem cb (m:Bool) {f:FuncId} {xs ys:List AV} {ks:List Nat} {obl:List (Nat×Nat)} {r:AV} {ls:List Nat} (hob:FL obl) (hxs:xs=ys) (hr:Γ.calls f ys r) (hf:ks=[]\/I2 r) (hls:HM r=ls) (hk:RF Γ C p (i+1) Q ((NZ Γ (nav p C) i m ls r s).getD s)) (hc:IB (nav p C) i s=some (f,xs,ks,obl):=by kernel_rfl) (hn:(NZ Γ (nav p C) i m ls r s).isSome=true:=by kernel_rfl):RF Γ C p i Q s:=⟨Z6 _ m hc hob hxs hr hf hls (Bw hn) rfl hk.out⟩
theorem cG (m:Bool) {g:Bool} {gs:List Bool} {f:FuncId} {xs ys:List AV} {ks:List Nat} {obl:List (Nat×Nat)} {r:AV} {ls:List Nat} (hob:FL obl) (hxs:xs=ys) (hr:g=true->Γ.calls f ys r) (hf:ks=[]\/I2 r) (hi:Em g gs) (hls:HM r=ls) (hk:RF Γ C p (i+1) Q ((PH Γ (nav p C) i g m ls r s).getD s)) (hg:gAt (nav p C) i s=some g:=by kernel_rfl) (hc:IB (nav p C) i s=some (f,xs,ks,obl):=by kernel_rfl) (hgs:EO (nav p C) i s=gs:=by kernel_rfl) (hn:(PH Γ (nav p C) i g m ls r s).isSome=true:=by kernel_rfl):RF Γ C p i Q s:=⟨Jib _ m hg hc hob hxs hr hf hgs hi hls (Bw hn) rfl hk.out⟩
theorem AY (e:α->List D) {xs:List α} {n:Int} {x:α} (h:idx xs n=some x):EQ s (A6 (.dptr ((xs.map e)[n.toNat]?.getD []) 0) (0<=n/\n<(xs.map e).length/\((xs.map e)[n.toNat]?.getD []).length=(e x).length)) (.dptr (e x) 0) [] [] none:=
 Jdv (esz:=(e x).length) (eb:=0) (ez:=[]) h (Nat.beq_refl _)
theorem Bd (k esz:Nat) {xs:List α} {n:Int} {x:α} (h:idx xs n=some x):EQ s (A6 (.eptr k esz (0+n.toNat) 0) (0<=n/\n<(xs.length:Nat)/\esz=esz)) (.eptr k esz (0+n.toNat) 0) [] [] none:=Jdw (esz:=esz) (eb:=0) (ez:=[]) h
def ldV (l:List D) (off:Nat) (t:Ty):AV:=(CD (l.map .d) off t).getD .top
theorem BT (e:α->List D) (k off:Nat) (t:Ty) {xs:List α} {n:Int} {x:α} (h:idx xs n=some x) (hk:obA s.objs k=some (.arr (e x).length (xs.map e)):=by kernel_rfl) (hv:(CD ((e x).map .d) off t).isSome=true:=by kernel_rfl) (hl:Nat.ble (off+t.size) (e x).length=true:=by kernel_rfl) :
  EQ s (Ds t s.objs (.eptr k (e x).length (0+n.toNat) off)) (ldV (e x) off t) [] [] none:=Jfk hk h (Bw hv) hl
def stV (c:Code) (i:Nat) (s:St):AV:=
 match (A1 c)[i]? with
 | some o=>match o.op with
  | .store _ _ v=>unG (Aj s.env v)
  | _=>.top
 | none=>.top
def stR (c:Code) (i:Nat) (s:St):List D:=((xDs s.objs (Am (stV c i s))).getD ([],[],[])).1
theorem stA (e:α->List D) (k off:Nat) (t:Ty) {xs zs:List α} {n:Int} {x y:α} (h:idx xs n=some x) (hz:put xs n y=some zs) (hk:RF Γ C p (i+1) Q ((NY Γ (nav p C) i .top [] [] (some (k,.arr (e x).length (zs.map e))) s).getD s))
  (h1:obA s.objs k=some (.arr (e x).length (xs.map e)):=by kernel_rfl) (h2:xDs s.objs (Am (stV (nav p C) i s))=some (stR (nav p C) i s,[],[]):=by kernel_rfl) (h3:(BB (stV (nav p C) i s)&&(Am (stV (nav p C) i s)).all C1)=true:=by kernel_rfl) (h4:Ft (e x) off (stR (nav p C) i s)=e y:=by kernel_rfl) (h5:(Nat.beq (stR (nav p C) i s).length t.size&&Nat.ble (off+t.size) (e x).length)=true:=by kernel_rfl)
  (hx:Nb Γ (nav p C) i s=EL t s.objs (.eptr k (e x).length (0+n.toNat) off) (stV (nav p C) i s):=by kernel_rfl) (hn:(NY Γ (nav p C) i .top [] [] (some (k,.arr (e x).length (zs.map e))) s).isSome=true:=by kernel_rfl):RF Γ C p i Q s:=
 sp (Jfl h1 h hz h2 leZ (by rw[h3];rfl) h4 h5) hk hx hn
theorem Jai (e:α->List D) (esz:Nat) {ys zs:List α} {eb:Nat} (h:app eb [] ys=some zs) (hl:∀ y,(e y).length=esz:=by intro _;rfl):EQ s (BC esz eb s.objs (.d .nil) (((ys.map e).drop 0).take ys.length) (0+ys.length<=(ys.map e).length)) (.osl s.objs.length esz 0 zs.length) [.arr esz (zs.map e)] [] none:=Jdx Di hl (by simp) h
theorem JfA (e:α->List D) (k esz:Nat) {xs ys zs:List α} {eb:Nat} (h:app eb xs ys=some zs) (hk:obA s.objs k=some (.arr esz (xs.map e)):=by kernel_rfl) (hl:∀ y,(e y).length=esz:=by intro _;rfl):EQ s (BC esz eb s.objs (.osl k esz 0 xs.length) (ys.map e) True) (.osl s.objs.length esz 0 zs.length) [.arr esz (zs.map e)] [k] none:=Jad hk rfl hl trivial h
theorem B5 (e:α->List D) (k esz:Nat) {xs ys zs:List α} {eb:Nat} (h:app eb xs ys=some zs) (hk:obA s.objs k=some (.arr esz (xs.map e)):=by kernel_rfl) (hl:∀ y,(e y).length=esz:=by intro _;rfl):EQ s (BC esz eb s.objs (.osl k esz 0 xs.length) (((ys.map e).drop 0).take ys.length) (0+ys.length<=(ys.map e).length)) (.osl s.objs.length esz 0 zs.length) [.arr esz (zs.map e)] [k] none:=Jad hk Di hl (by simp) h
theorem SP {x y z:List UInt8} (h:cat x y=some z):EQ s (Tx .add x y) (.d (.str z)) [] [] none:=Jfm h
theorem Fw {t:List UInt8} {n b:Int} (h:Jh t n=some b):EQ s (A6 (.d (.int .u8 (t[n.toNat]?.getD 0).toNat)) (0<=n/\n<t.length)) (.d (.int .u8 b)) [] [] none:=Jdy h
theorem JdN {t z:List UInt8} {l h:Int} (hz:sub t l h=some z):EQ s (A6 (.d (.str ((t.take h.toNat).drop l.toNat))) (0<=l/\l<=h/\h<=t.length)) (.d (.str z)) [] [] none:=Jdz hz
theorem Jaj (e:α->List D) (esz:Nat) {xs zs:List α} {l h:Int} (hz:sub xs l h=some zs) (hl:∀ y,(e y).length=esz:=by intro _;rfl):EQ s (A6 (.d (.sl (((xs.map e).take h.toNat).drop l.toNat))) (0<=l/\l<=h/\h<=(xs.map e).length/\∀ y∈xs.map e,y.length=esz)) (.d (.sl (zs.map e))) [] [] none:=Jfn hz hl
theorem PM (k esz:Nat) {xs zs:List α} {l h:Int} (hz:sub xs l h=some zs):EQ s (A6 (.osl k esz (0+l.toNat) (h.toNat-l.toNat)) (0<=l/\l<=h/\h<=(xs.length:Int)/\esz=esz)) (.osl k esz (0+l.toNat) (h.toNat-l.toNat)) [] [] none:=Jfp hz
theorem Jil (e:α->List D) (esz:Nat) {zs:List α} {n:Int} {z:α} {eb:Nat} (h:mkl eb n z=some zs):EQ s (some ⟨.osl s.objs.length esz 0 n.toNat,[.arr esz (List.replicate n.toNat (e z))],[],none,0<=n/\n<=n/\n.toNat*eb<=70368744177664⟩) (.osl s.objs.length esz 0 zs.length) [.arr esz (zs.map e)] [] none:=Jih h rfl
theorem JdO {b:List Int} {z:List UInt8} (h:Uq b=some z):EQ s (LH (.slice 1 1 [.int .u8 0]) .string (.d (.sl (b.map λ n=>[.int .u8 n])))) (.d (.str z)) [] [] none:=JdA h
theorem AT (e:α->List D) (xs:List α):EQ s (val (.d (.int .i64 (xs.map e).length))) (.d (.int .i64 xs.length)) [] [] none:=Jfo (esz:=0) (eb:=0) (ez:=[])
theorem cl (ls:List Nat) {f:FuncId} {ys:List AV} {r:AV} (hr:Γ.calls f ys r) (hk:RF Γ C p (i+1) Q ((NZ Γ (nav p C) i true ls r s).getD s)) (hls:HM r=ls:=by simp only[HM,Us,Ur,RH,JkJ,List.nil_append,List.append_nil,List.cons_append]) (hc:IB (nav p C) i s=some (f,ys,[],[]):=by kernel_rfl) (hn:(NZ Γ (nav p C) i true ls r s).isSome=true:=by kernel_rfl):RF Γ C p i Q s:=⟨Z6 _ true hc leZ rfl hr (.inl rfl) hls (Bw hn) rfl hk.out⟩
theorem IC {encN:α->List AV} {xss:List α} {x:α} {row:List AV} {n:Int} {k sz off:Nat} {t:Ty} {v:AV} (h:idx xss n=some x) (hk:obA s.objs k=some (.narr sz ((xss.map encN).set n.toNat row)):=by kernel_rfl) (hv:CD row off t=some v:=by kernel_rfl) (hs:(Am v).all C1=true:=by kernel_rfl) (hl:Nat.ble (off+t.size) row.length=true:=by kernel_rfl) :
  EQ s (Ds t s.objs (.eptr k sz (0+n.toNat) off)) v [] [] none:=Jft hk h hv hs hl
theorem SQ {encN:α->List AV} {xss:List α} {x:α} {row row':List AV} {n:Int} {k sz off:Nat} {t:Ty} {v:AV} (h:idx xss n=some x) (hk:obA s.objs k=some (.narr sz ((xss.map encN).set n.toNat row)):=by kernel_rfl) (hc:(BB v&&(Am v).all C1)=true:=by kernel_rfl) (hy:splice row off (Am v)=row':=by kernel_rfl) (hl:(Nat.beq (Am v).length t.size&&Nat.ble (off+t.size) sz)=true:=by kernel_rfl) :
  EQ s (EL t s.objs (.eptr k sz (0+n.toNat) off) v) .top [] [] (some (k,.narr sz ((xss.map encN).set n.toNat row'))):=Jfu hk h hc hy hl
theorem JdP {encN:α->List AV} {xss yss:List α} {y:α} {esz eb k:Nat} {e:List D} (h:app eb xss [y]=some yss) (hk:obA s.objs k=some (.narr esz (xss.map encN)):=by kernel_rfl) (hl:Nat.beq e.length esz=true:=by kernel_rfl) :
  EQ s (BC esz eb s.objs (.osl k esz 0 xss.length) [e] True) (.osl s.objs.length esz 0 yss.length) [.narr esz (xss.map encN++[e.map toN])] [k] none:=JdF hk hl trivial h
theorem Uw {κ:Type} [DecidableEq κ] {encK:κ->List D} {enc:α->List D} {ks:List TK} {k:Nat} {m:List (κ×α)} {key:κ} {l:List AV} {z:α} {vz:List D} {e1:α->D} (heq:∀ a b,Ao ks ((encK a).map .d) ((encK b).map .d)=some (decide (a=b))) (ok:Bool) (he:∀ x,enc x=[e1 x]:=by intro _;rfl) (hz:slZ vz=[e1 z]:=by kernel_rfl) (hk:obA s.objs k=some (.map true false (Bu encK enc m)):=by kernel_rfl) (hx:xDs s.objs l=some (encK key,[],[]):=by kernel_rfl) :
  EQ s (HD (.map ks true false vz) s.objs (.mp k) (.agg l) ok) (bif ok then .tup [.d (e1 ((AR key m).getD z)),.d (.bool (AR key m).isSome)]else .d (e1 ((AR key m).getD z))) [] [] none:=Jag heq he hz hk hx ok
theorem SR {κ:Type} [DecidableEq κ] {encK:κ->List D} {enc:α->List D} {ks:List TK} {k:Nat} {m:List (κ×α)} {key:κ} {l:List AV} {v:AV} {y:α} {vz:List D} {e1:α->D} (heq:∀ a b,Ao ks ((encK a).map .d) ((encK b).map .d)=some (decide (a=b))) (he:∀ x,enc x=[e1 x]:=by intro _;rfl) (hz:Nat.beq vz.length 1=true:=by kernel_rfl) (hk:obA s.objs k=some (.map true false (Bu encK enc m)):=by kernel_rfl) (hx:xDs s.objs l=some (encK key,[],[]):=by kernel_rfl) (hv:v=.d (e1 y):=by kernel_rfl) (hvx:xDs s.objs [v]=some (enc y,[],[]):=by kernel_rfl) :
  EQ s (G0 (.map ks true false vz) s.objs (.mp k) (.agg l) v) .top [] [] (some (k,.map true false (Bu encK enc (BQ key y m)))):=JdC heq he hz hk hx hv hvx
def W9:AV->Bool
 | .d _=>true
 | .agg l=>l.all Lj
 | _=>false
theorem PN (l m:List (Option (Nat×Nat×Nat))):ksE (l++m)=ksE l++ksE m:=by
 induction l with
 | nil=>rfl
 | cons a l ih=>cases a<;>simp[ksE,ih]
theorem Jak {a:AV} (h:Lj a=true):ksE (JC a a)=[]:=by
 cases a with
 | d x=>cases x<;>rfl
 | _=>cases h
theorem JdQ {objs:List (Option Ob)} {a:AV} (h:Lj a=true):KH objs a a:=by
 cases a with
 | d x=>exact V8
 | _=>cases h
theorem Jim {objs:List (Option Ob)}:∀ {l:List AV},l.all Lj=true->X6 objs l l/\ksE (Pm l l)=[]:=by
 intro l;induction l with
 | nil=>intro _;exact⟨trivial,rfl⟩
 | cons a l ih=>
  intro h;simp only[List.all_cons,JkP]at h;obtain⟨h1,h2⟩:=ih h.2;exact⟨⟨JdQ h.1,h1⟩,by simp only[Pm,PN,Jak h.1,h2,List.append_nil]⟩
theorem Jal {objs:List (Option Ob)} {a:AV} (h:W9 a=true):Pn objs a a/\ksE (KI a a)=[]:=by
 cases a with
 | d x=>exact⟨V8,Jak (a:=.d x) rfl⟩
 | agg l=>exact Jim h
 | _=>cases h
theorem JeI {objs:List (Option Ob)}:∀ {l:List AV},l.all W9=true->VP objs l l/\ksE (KJ l l)=[]:=by
 intro l;induction l with
 | nil=>intro _;exact⟨trivial,rfl⟩
 | cons a l ih=>
  intro h;simp only[List.all_cons,JkP]at h;obtain⟨h1,h2⟩:=ih h.2;obtain⟨h3,h4⟩:=Jal (objs:=objs) h.1;exact⟨⟨h3,h1⟩,by simp only[KJ,PN,h4,h2,List.append_nil]⟩
theorem rd {ty:Nat->Ty} {rs:List ResultVar} {r:AV} (hd:W9 r=true:=by kernel_rfl) (h:PI ty s rs=some [r]:=by kernel_rfl):RA ty rs r s:=⟨Jic [] h (Jal hd).1 (Jal (objs:=[]) hd).2 (by simp)⟩
theorem rdT {ty:Nat->Ty} {rs:List ResultVar} {l:List AV} (hd:l.all W9=true:=by kernel_rfl) (h:PI ty s rs=some l:=by kernel_rfl) (hl:Nat.beq l.length 1=false:=by kernel_rfl):RA ty rs (.tup l) s:=⟨Jid h hl (JeI hd).1 [] (JeI (objs:=[]) hd).2 (by simp)⟩
structure OV (s:St) (a r:AV):Prop where
 out:KH s.objs a r
structure OC (s:St) (a r:List AV):Prop where
 out:X6 s.objs a r
structure OA (s:St) (a r:AV):Prop where
 out:Pn s.objs a r
structure OT (s:St) (a r:List AV):Prop where
 out:VP s.objs a r
theorem c0:OC s [] []:=⟨trivial⟩
theorem c1 {a r:AV} {l m:List AV} (h:OV s a r) (h':OC s l m):OC s (a::l) (r::m):=⟨⟨h.out,h'.out⟩⟩
theorem a1 {l m:List AV} (h:OC s l m):OA s (.agg l) (.agg m):=⟨h.out⟩
theorem ad {x:D} {r:AV} (h:OV s (.d x) r):OA s (.d x) r:=⟨h.out⟩
theorem ao {k sz lo n:Nat} {r:AV} (h:OV s (.osl k sz lo n) r):OA s (.osl k sz lo n) r:=⟨h.out⟩
theorem t0:OT s [] []:=⟨trivial⟩
theorem t1 {a r:AV} {l m:List AV} (h:OA s a r) (h':OT s l m):OT s (a::l) (r::m):=⟨⟨h.out,h'.out⟩⟩
theorem vd {x:D}:OV s (.d x) (.d x):=⟨V8⟩
theorem vn:OV s (.d .nil) (.d (.sl [])):=⟨Yo⟩
theorem vz {sz:Nat}:OV s (.d .nil) (.own sz []):=⟨Yp⟩
theorem vo {enc:α->List D} {xs:List α} {k sz:Nat} (h:obA s.objs k=some (.arr sz (xs.map enc)):=by kernel_rfl):OV s (.osl k sz 0 xs.length) (.own sz (xs.map enc)):=⟨Z9 h⟩
theorem rO {ty:Nat->Ty} {rs:List ResultVar} {v r:AV} (ks:List Nat) (ho:OA s v r) (h:PI ty s rs=some [v]:=by kernel_rfl) (hks:ksE (KI v r)=ks:=by kernel_rfl) (hnd:ks.Nodup:=by decide):RA ty rs r s:=⟨Jic ks h ho.out hks hnd⟩
theorem rT {ty:Nat->Ty} {rs:List ResultVar} {vs l:List AV} (ks:List Nat) (ho:OT s vs l) (h:PI ty s rs=some vs:=by kernel_rfl) (hl:Nat.beq vs.length 1=false:=by kernel_rfl) (hks:ksE (KJ vs l)=ks:=by kernel_rfl) (hnd:ks.Nodup:=by decide):RA ty rs (.tup l) s:=⟨Jid h hl ho.out ks hks hnd⟩
structure RL (nk:Nat) (ty:Nat->Ty) (rs:List ResultVar) (r:AV) (O1:List (Option Ob)) (s:St):Prop where
 out:∃ s',Ar nk s s'/\Jdi ty rs r O1 s'
def Jjz (vs:List AV):AV:=match vs with
 | [v]=>v
 | vs=>.tup vs
theorem rl {ty:Nat->Ty} {rs:List ResultVar} {r:AV} {O1:List (Option Ob)} (sh:Ar nk s s') (h:(PI ty s' rs).map Jjz=some r:=by kernel_rfl) (hO:s'.objs=O1:=by kernel_rfl):RL nk ty rs r O1 s:=by
 refine⟨s',sh,hO,?_⟩;cases hb:PI ty s' rs with
 | none=>rw[hb]at h;cases h
 | some vs=>
  rw[hb]at h;obtain⟨p,e1,q1⟩:=SH hb;rw[e1];simp only[Option.map_some,JkY]at h
  match vs,h with
  | [],h=>exact⟨q1,h.symm⟩
  | [v],h=>exact⟨q1,h⟩
  | v::v'::l,h=>exact⟨q1,h.symm⟩
theorem pL {ty:Nat->Ty} {rs:List ResultVar} {r:AV} {O1:List (Option Ob)} (h:RL nk ty rs r O1 s):PQ (RD nk ty rs r O1) .ret s:=⟨h.out⟩
theorem pL' {ty:Nat->Ty} {rs:List ResultVar} {r:AV} {O1:List (Option Ob)} (h:RL nk ty rs r O1 s):PQ (RD nk ty rs r O1) .normal s:=⟨h.out⟩
theorem fl {P:Program} {fn:Func} {f:FuncId} {args:List AV} {O0 O1:List (Option Ob)} {nb:Nat} {r:AV} (hfol:P.follows .mixedOrders=true) (hΓ:FG P Γ) (hf:P.funcs[f]?=some fn) (h:WP Γ (AS fn) [] (RD nb Γ.ty fn.results.toList r O1) s)
  (hb:fn.body=some (AS fn):=by kernel_rfl) (hnm:(fn.name == "runtime.NumGoroutine")=false:=by kernel_rfl) (hnt:Γ.nt=⟨fn.ntmps,[],nb,Γ.nt.qf⟩:=by kernel_rfl) (hlen:Nat.ble args.length fn.ntmps=true:=by kernel_rfl) (hs:(⟨(List.range args.length).zip args,O0⟩:St)=s:=by kernel_rfl) (hrd:Γ.rd=false:=by kernel_rfl):Bg P f args O0 nb r O1:=
 Jds hfol hΓ hrd hf hb hnm hnt hlen hs h.out
theorem lt (ord:List Nat) {f:FuncId} {ys:List AV} {O0 O1:List (Option Ob)} {nb:Nat} {r:AV} (hr:Γ.lent f ys O0 nb r O1) (hk:RF Γ C p (i+1) Q ((RI Γ (nav p C) i ord nb r O1 s).getD s)) (hc:JL (nav p C) i s=some (f,((JL (nav p C) i s).getD (0,[],[])).2.1,ord):=by kernel_rfl)
  (hxs:((JL (nav p C) i s).getD (0,[],[])).2.1.map (Hr ord)=ys:=by kernel_rfl) (hO:D4 s.objs ord=O0:=by kernel_rfl) (hn:(RI Γ (nav p C) i ord nb r O1 s).isSome=true:=by kernel_rfl):RF Γ C p i Q s:=⟨lentS hc hxs hO hr (Bw hn) hk.out⟩
theorem leM {enc:α->List D} {xs:List α}:0+xs.length<=(xs.map enc).length:=by simp
theorem ltP (ord:List Nat) {f:FuncId} {ys:List AV} {O0 O1 raw0:List (Option Ob)} {nb:Nat} {r:AV} (hr:Γ.lent f ys O0 nb r O1) (hp0:Pl (Ik ord) raw0 O0) (hk:RF Γ C p (i+1) Q ((RI Γ (nav p C) i ord nb r O1 s).getD s)) (hc:JL (nav p C) i s=some (f,((JL (nav p C) i s).getD (0,[],[])).2.1,ord):=by kernel_rfl)
  (hxs:((JL (nav p C) i s).getD (0,[],[])).2.1.map (Hr ord)=ys:=by kernel_rfl) (hO:D4 s.objs ord=raw0:=by kernel_rfl) (hn:(RI Γ (nav p C) i ord nb r O1 s).isSome=true:=by kernel_rfl):RF Γ C p i Q s:=lt ord hr hk hc hxs (hO.trans hp0.eq) hn
theorem tb {f:AV->AV} {raw:List (Option Ob)} (O:List (Option Ob)) (hp:Pl f raw O) (hk:RF Γ C p i Q ⟨s.env,O⟩) (h:s.objs=raw:=by kernel_rfl):RF Γ C p i Q s:=by
 rw[hp.eq]at h;rw[← h]at hk;exact hk
theorem Jam (esz:Nat) {α:Type} {zs:List α} {n:Int} {z:α} {eb:Nat} {ez:List D} (h:mkl eb n z=some zs):EQ s (some ⟨.osl s.objs.length esz 0 n.toNat,[.arr esz (List.replicate n.toNat ez)],[],none,0<=n/\n<=n/\n.toNat*eb<=70368744177664⟩) (.osl s.objs.length esz 0 n.toNat) [.arr esz (List.replicate n.toNat ez)] [] none:=by
 have:0<=n/\n.toNat*eb<=70368744177664:=by
  unfold mkl at h;split at h
  ·assumption
  ·cases h
 exact .of rfl ⟨this.1,Int.le_refl _,this.2⟩
theorem SS {α:Type} {zs:List α} {n:Int} {z:α} {eb:Nat} (h:mkl eb n z=some zs):List.replicate n.toNat z=zs:=by
 unfold mkl at h;split at h
 ·exact Option.some.inj h
 ·cases h
theorem Oz {α:Type} {zs:List α} {n:Int} {z:α} {eb:Nat} (h:mkl eb n z=some zs):n.toNat=zs.length:=by
 rw[← SS h];simp
theorem HQ {a b:Nat} {u:Unit} (h:Cj (decide (a=b))=some u):a=b:=of_decide_eq_true (Oy h)
theorem OB (k sz off m:Nat) {j:Nat} {n:Int} {u:Unit} (h:Cj (decide (0<=n/\n<(m:Nat)))=some u):EQ s (A6 (bif Nat.beq sz sz then .eptr k sz (j+n.toNat) off else .eptr k sz j (off+n.toNat*sz)) (0<=n/\n<(m:Nat))) (.eptr k sz (j+n.toNat) off) [] [] none:=by
 have hb:Nat.beq sz sz=true:=Nat.beq_refl sz;rw[hb];exact .of rfl ((of_decide_eq_true (Oy h)))
end Go.AI
end
section
namespace Go.AI
variable {P:Program} {F F':Nat->Option Obj} {ρ ρ':Nat->Option Loc} {N:Nat->Prop} {H0 F0:Nat->Option Obj} {O objs:List (Option Ob)} {w:World} {w0:W0} {Γ:Nat->Ty} {nt:Slt} {o:Oper} {st:St}
theorem A8.one {x:D} {v:Value} (h:A8 F x v):v.oneCell'=true:=(Kp (F:=F) (ρ:=noR) (.d x v h) rfl).1
def JfB (P:Program) (t:TypeId) (name:String) (f:FuncId):Bool:=
 match P.info? t,P.underlying t with
 | some i,some d=>(match i.methods.find? (·.name==name)with
  | some m=>m.path.isEmpty&&(match m.func with|some (f',b)=>Nat.beq f' f&&!b|none=>false)
  | none=>false)&&(match d with | .pointer _=>false|_=>true)
 | _,_=>false
theorem Jan {t:TypeId} {name:String} {f:FuncId} (h:JfB P t name f=true) (v:Value) (w:World):∀ n,(method (n+1) t v name).run P w=.ok (f,v) w:=by
 intro n;unfold JfB at h;split at h
 ·rename_i i d hi hd;simp only[JkP]at h;obtain⟨h1,h2⟩:=h;split at h1
  ·rename_i m hm;simp only[JkP]at h1;obtain⟨hp,hf⟩:=h1;have hp:m.path.toList=[]:=by simpa using hp
   split at hf
   ·rename_i f' b hmf;simp only[JkP,Bool.not_eq_true']at hf;obtain⟨e1,rfl⟩:=hf;have e1:=JkV e1;subst e1;have hpe:m.path.isEmpty=true:=by simpa using hp
    have hrec:(receiverAt t (.val v) false (some ((name.splitOn ".").getLastD name))).run P w=.ok v w:=by
     simp only[receiverAt,Jkv,run_underlying hd,Jkt];cases d with
     | pointer e=>cases h2
     | _=>rfl
    unfold method;simp only[Jkv,run_typeInfo w hi,Jkt,hm,hp,follow,Jkw,hmf,hpe,if_true,hrec]
   ·cases hf
  ·cases h1
 ·cases h
def OD (ev:Operand->AV):Op->Option ((Nat×String)⊕FuncId)×List AV
 | .call ⟨.value x,args,_⟩=>match ev x with
  | .clo f l=>(some (.inr f),args.toList.map ev++l)
  | _=>(none,[])
 | .call ⟨.invoke x m,args,_⟩=>match ev x with
  | .ifc t v=>(some (.inl (t,m)),v::args.toList.map ev)
  | _=>(none,[])
 | _=>(none,[])
def Jin (P:Program) (c:Option ((Nat×String)⊕FuncId)) (f:FuncId):Bool:=
 match c with
 | some (.inl (t,m))=>JfB P t m f
 | some (.inr f')=>Nat.beq f' f
 | none=>false
theorem Jao {f:FuncId} {c:Option ((Nat×String)⊕FuncId)} {xs:List AV} {nb:Nat} {r:AV} {O1:List (Option Ob)} (hc:OD (Aj st.env) o.op=(c,xs)) (hm:Jin P c f=true)
  (hcall:Bg P f (xs.map (Hr (Az st.objs xs))) (D4 st.objs (Az st.objs xs)) nb r O1) (hnb:nb<=(Az st.objs xs).length) (hnb1:nb<=O1.length) (hord:∀ k∈Az st.objs xs,k<st.objs.length) :
  M0 P nt o true st ⟨putA o.dst false true (Jv (CF (Az st.objs xs) st.objs.length nb) r) st.env,CG st.objs (Az st.objs xs) nb O1⟩:=by
 intro N H0 F0 w0 a w _ hI hdst K Qw hK;obtain⟨F,ρ,hS,hSl,hn,hdf⟩:=hI;have hk:∀ v w' F' ρ'',FLe F F'->RLe ρ ρ''->Sim N H0 F0 F' ρ'' (CG st.objs (Az st.objs xs) nb O1) w'.heap->Ah F' ρ'' (Jv (CF (Az st.objs xs) st.objs.length nb) r) v->Mu w w'->K (a.put o.dst v) w':=
  λ v w' F' ρ'' hF hρ hS' hv hmu=>hK _ _ ⟨F',ρ'',hS',(hSl.mono hF hρ).putA hn hdst hv,hn.put hdst,by rw[put_defers];exact⟨hdf.1.mono hF,hdf.2.1.trans hmu,hdf.2.2.mono hρ⟩⟩
 have hev:∀ x,Ah F ρ (Aj st.env x) (a.eval x):=AO hSl;unfold OD at hc;split at hc
 ·rename_i x args ts hop;split at hc
  ·rename_i f' l hx;cases hc;have e1:=JkV hm;subst e1;have hxr:=hev x;rw[hx]at hxr;generalize hxv:a.eval x=xv at hxr;cases hxr with
   | clo _ _ vs hl hr=>
    have hcr0:=Gv (args:=args) (a:=a) (λ x _=>hev x);refine Iv (vs:=args.map a.eval++vs) (λ fn c hf hb hnm=>?_) hS ⟨by simp[hl],λ i y v hy hv=>?_⟩ hcall hnb hnb1 hord hk
    ·simp only[execOp,hop,resolve,hxv,Deferred.ofValue,Jkv,Jkw,Jkt,invoke,callFunc,run_program,hf,hnm,hb,Jk0,if_false,Option.isNone_some,Array.empty_append]
    ·rw[Array.toList_append]at hv;have hl0:=hcr0.1;by_cases hi:i<(args.toList.map (Aj st.env)).length
     ·rw[JkW hi]at hy;rw[JkW (by omega)]at hv;exact hcr0.2 i y v hy hv
     ·rw[Jk6 (by omega)]at hy;rw[Jk6 (by omega)]at hv;exact hr _ y v hy (by rw[hl0];simpa using hv)
  ·cases hc;cases hm
 ·rename_i x m args ts hop;split at hc
  ·rename_i t v0 hx;cases hc;have hxr:=hev x;rw[hx]at hxr;generalize hxv:a.eval x=xv at hxr;cases hxr with
   | ifc _ _ y hy=>
    have hcr0:=Gv (args:=args) (a:=a) (λ x _=>hev x);refine Iv (vs:=#[y]++args.map a.eval) (λ fn c hf hb hnm=>?_) hS ⟨by simp,λ i z v hz hv=>?_⟩ hcall hnb hnb1 hord hk
    ·obtain⟨n,hn'⟩:∃ n,P.types.size+Made.depth=n+1:=⟨P.types.size+(Made.depth-1),by simp[Made.depth]⟩;have hmet:=Jan hm y w n;rw[← hn']at hmet;have hex:(#[Value.iface t y]++args.map a.eval).extract 1 (#[Value.iface t y]++args.map a.eval).size=args.map a.eval:=by
      apply Array.ext';simp[Array.toList_extract];exact List.take_of_length_le (by simp)
     have h0:(#[Value.iface t y]++args.map a.eval)[0]?=some (Value.iface t y):=by rw[Array.getElem?_append_left (by simp)];rfl
     simp only[execOp,hop,resolve,hxv,Jkv,Jkw,Jkt,invoke,h0,hex,callMethod,Jkv,run_program,Jkt,hmet,callFunc,hf,hnm,hb,Jk0,if_false,Option.isNone_some,Jkw]
    ·rw[Array.toList_append]at hv;cases i with
     | zero=>simp at hz hv;subst hz;subst hv;exact hy
     | succ i=>exact hcr0.2 i z v (by simpa using hz) (by simpa using hv)
  ·cases hc;cases hm
 ·cases hc;cases hm
def Wa:TK->Bool
 | .other=>false
 | _=>true
theorem Yr (hΓ:GU P Γ) {t:TypeId} {x:Operand} (hop:o.op=.makeInterface t x) (hok:(Γ t).ok=true) (hk:Wa (Γ t).kind=true):M0 P nt o true st ⟨putA o.dst false true (.ifc t (Aj st.env x)) st.env,st.objs⟩:=by
 intro N H0 F0 w0 a w _ hI hdst K Qw hK;obtain⟨F,ρ,hS,hSl,hn,hdf⟩:=hI;obtain⟨d,hd,_,hf⟩:=(hΓ t hok).desc;have hni:∀ l,d≠.interface l:=λ l e=>by
  subst e;cases hkk:(Γ t).kind<;>rw[hkk]at hf hk<;>simp[Gk,Wa]at hf hk
 have hr:(execOp a.eval o).run P w=.ok (.value (.iface t (a.eval x))) w:=by
  simp only[execOp,hop,Instr.makeInterface,Jkv,run_underlying hd,Jkt];cases d with
  | interface l=>exact absurd rfl (hni l)
  | _=>rfl
 unfold Oper.wp;rw[hr,Oper.upon_value];exact hK _ _ ⟨F,ρ,hS,hSl.putA hn hdst (.ifc _ _ _ (AO hSl x)),hn.put hdst,by rw[put_defers];exact hdf⟩
theorem Jap {f:FuncId} {cap:Array Operand} (hop:o.op=.makeFunc (.func f) #[] cap):M0 P nt o true st ⟨putA o.dst false true (.clo f (cap.toList.map (Aj st.env))) st.env,st.objs⟩:=by
 intro N H0 F0 w0 a w _ hI hdst K Qw hK;obtain⟨F,ρ,hS,hSl,hn,hdf⟩:=hI;have hr:(execOp a.eval o).run P w=.ok (.value (.func (.func f) #[] (cap.map a.eval))) w:=by
  simp only[execOp,hop,Instr.makeFunc,Jkv,Jkw,Jkt,List.map_toArray,List.map_nil]
 have hc:=Gv (args:=cap) (a:=a) λ x _=>AO hSl x;unfold Oper.wp;rw[hr,Oper.upon_value];exact hK _ _ ⟨F,ρ,hS,hSl.putA hn hdst (.clo f _ _ (by simp) λ i x v hx hv=>hc.2 i x v hx (by simpa using hv)),hn.put hdst,by rw[put_defers];exact hdf⟩
end Go.AI
end
section
namespace Go.AI
variable {P:Program} {Γ:Cx} {C:Code} {p:List Nat} {Q:Ex->St->Prop} {s s':St} {K:St->Prop} {i:Nat}
variable {α β ζ:Type}
structure XOK (P:Program) (Γ:Cx):Prop where
 ty:GU P Γ.ty
 ext:Γ.ext=NR P
def Wb (Γ:Cx) (c:Code) (o:Oper):Bool:=!KL c&&o.guard.isNone&&Bz Γ.nt o.dst&&ndB o.op
theorem FM (hX:XOK P Γ) {o:Oper} (ho:(A1 (nav p C))[i]?=some o) (h0:Wb Γ (nav p C) o=true) (hx:M0 P Γ.nt o true s s') (hk:RF Γ C p (i+1) Q s'):RF Γ C p i Q s:=by
 refine⟨?_⟩;have hk:=hk.out;unfold A0 at hk⊢;simp only[Wb,JkP,Bool.not_eq_true']at h0;obtain⟨⟨⟨h1,h2⟩,h3⟩,h4⟩:=h0;rw[Cr ho];show AQ _ _ _ _ _ _;have hgN:o.guard=none:=by simpa using h2
 unfold AQ;rw[hgN];simp only[Bp,h3,JkB,cond_false];exact⟨λ _=>.inr (.inr ⟨h1,.inl ⟨s',by rw[hX.ext];exact hx.ok h4,hk⟩⟩),λ h=>by cases h⟩
def nxI (Γ:Cx) (c:Code) (i:Nat) (s:St):Option St:=
 match (A1 c)[i]? with
 | some o=>bif Wb Γ c o then(match o.op with
  | .makeInterface t x=>bif (Γ.ty t).ok&&Wa (Γ.ty t).kind then some ⟨putA o.dst false true (.ifc t (Aj s.env x)) s.env,s.objs⟩else none
  | .makeFunc (.func f) first cap=>bif first.toList.isEmpty then some ⟨putA o.dst false true (.clo f (cap.toList.map (Aj s.env))) s.env,s.objs⟩else none
  | _=>none)else none
 | none=>none
theorem xm (hX:XOK P Γ) (hk:RF Γ C p (i+1) Q ((nxI Γ (nav p C) i s).getD s)) (h:(nxI Γ (nav p C) i s).isSome=true:=by kernel_rfl):RF Γ C p i Q s:=by
 have h:=Bw (d:=s) h;generalize (nxI Γ (nav p C) i s).getD s=s' at h hk;unfold nxI at h;split at h
 ·rename_i o ho;obtain⟨h0,h⟩:=AF h;split at h
  ·rename_i t x hop;obtain⟨h1,h⟩:=AF h;simp only[JkP]at h1;cases h;exact FM hX ho h0 (Yr hX.ty hop h1.1 h1.2) hk
  ·rename_i f first cap hop
   obtain⟨h1,h⟩:=AF h;cases h;have:first=#[]:=by have:=List.isEmpty_iff.1 h1;simpa using this
   subst this;exact FM hX ho h0 (Jap hop) hk
  ·cases h
 ·cases h
def Ys (c:Code) (i:Nat) (s:St):Option ((Option ((Nat×String)⊕FuncId)×List AV)×List Nat):=
 match (A1 c)[i]? with
 | some o=>some (OD (Aj s.env) o.op,Az s.objs (OD (Aj s.env) o.op).2)
 | none=>none
def nxC (Γ:Cx) (c:Code) (i:Nat) (ord:List Nat) (nb:Nat) (r:AV) (O1:List (Option Ob)) (s:St):Option St:=
 match (A1 c)[i]? with
 | some o=>bif Wb Γ c o&&Nat.ble nb ord.length&&Nat.ble nb O1.length&&ord.all (λ k=>Nat.blt k s.objs.length)then
   some ⟨putA o.dst false true (Jv (CF ord s.objs.length nb) r) s.env,CG s.objs ord nb O1⟩else none
 | none=>none
theorem xc (hX:XOK P Γ) (ord:List Nat) {f:FuncId} {ys:List AV} {O0 O1:List (Option Ob)} {nb:Nat} {r:AV} (hr:Bg P f ys O0 nb r O1) (hk:RF Γ C p (i+1) Q ((nxC Γ (nav p C) i ord nb r O1 s).getD s))
  (hc:Ys (nav p C) i s=some (((Ys (nav p C) i s).getD ((none,[]),[])).1,ord):=by kernel_rfl) (hm:Jin P ((Ys (nav p C) i s).getD ((none,[]),[])).1.1 f=true:=by kernel_rfl)
  (hxs:((Ys (nav p C) i s).getD ((none,[]),[])).1.2.map (Hr ord)=ys:=by kernel_rfl) (hO:D4 s.objs ord=O0:=by kernel_rfl) (hn:(nxC Γ (nav p C) i ord nb r O1 s).isSome=true:=by kernel_rfl):RF Γ C p i Q s:=by
 generalize ((Ys (nav p C) i s).getD ((none,[]),[])).1=cx at hc hm hxs;have hn:=Bw (d:=s) hn;generalize (nxC Γ (nav p C) i ord nb r O1 s).getD s=s' at hn hk;unfold Ys at hc;unfold nxC at hn;split at hn
 ·rename_i o ho;rw[ho]at hc;simp only[JkY,Prod.mk.injEq]at hc;obtain⟨hc,hord⟩:=hc;rw[hc]at hord;obtain⟨h0,hn⟩:=AF hn;simp only[JkP]at h0;obtain⟨⟨⟨h1,h2⟩,h3⟩,h4⟩:=h0;cases hn;subst hord;subst hxs;subst hO;refine FM hX ho h1 (Jao (c:=cx.1) (xs:=cx.2) (by rw[hc]) hm hr (Jk3 h2) (Jk3 h3) λ k hk=>?_) hk;have:=Jk3 (Jky.1 h4 k hk);omega
 ·cases hn
def JdR (c:Code) (i:Nat):Option (Operand×Nat):=
 match (A1 c)[i]? with
 | some o=>match o.op with
  | .call ⟨.builtin .clear,args,ts⟩=>match args.toList,ts.toList with
   | [d],[t]=>some (d,t)
   | _,_=>none
  | _=>none
 | none=>none
def clV (c:Code) (i:Nat) (s:St):AV:=match JdR c i with
 | some (d,_)=>Aj s.env d
 | none=>.top
def nxZ (Γ:Cx) (c:Code) (i k sz:Nat) (_:List D) (zs:List (List D)) (s:St):Option St:=
 match (A1 c)[i]?,JdR c i with
 | some o,some (_,t)=>bif Wb Γ c o&&(Γ.ty t).ok then(match (Γ.ty t).kind with
  | .slice z _ _=>bif Nat.beq z sz then some ⟨putA o.dst false true (.tup []) s.env,s.objs.set k (some (.arr sz zs))⟩else none
  | _=>none)else none
 | _,_=>none
def clZ (Γ:Cx) (c:Code) (i:Nat):List D:=match JdR c i with
 | some (_,t)=>(match (Γ.ty t).kind with
  | .slice _ _ ez=>ez
  | _=>[])
 | none=>[]
end Go.AI
end
section
namespace Go.AI
variable {α:Type}
def spl {β:Type} (es:List β) (lo:Nat) (ys:List β):List β:=es.take lo++ys++es.drop (lo+ys.length)
def Wc (xs:List α) (lo n:Nat) (z:α):Option (List α):=if lo+n<=xs.length then some (spl xs lo (List.replicate n z))else none
end Go.AI
end
section
namespace Go.AI
variable {P:Program} {nt:Slt} {o:Oper} {st:St}
variable {Γ:Cx} {C:Code} {p:List Nat} {Q:Ex->St->Prop} {s s':St} {i:Nat} {α:Type}
theorem Xa {β:Type} {es ys:List β} {lo:Nat} (h:lo+ys.length<=es.length):(spl es lo ys).length=es.length:=by
 unfold spl;simp;omega
theorem JdS {β:Type} {es ys:List β} {lo:Nat} (h:lo+ys.length<=es.length) (i:Nat):(spl es lo ys)[i]?=if i<lo then es[i]? else if i<lo+ys.length then ys[i-lo]? else es[i]? := by
 unfold spl;have hl:(es.take lo).length=lo:=by simp;omega
 rw[List.append_assoc];split
 ·rw[JkW (by omega),Jk8 (by omega)]
 ·rw[Jk6 (by omega),hl];split
  ·rw[JkW (by omega)]
  ·rw[Jk6 (by omega),JkH];congr 1;omega
theorem Xb {β:Type} {es ys:List β} {lo:Nat} {x:β} (h:x∈spl es lo ys):x∈es\/x∈ys:=by
 unfold spl at h;rcases List.mem_append.1 h with h|h
 ·rcases List.mem_append.1 h with h|h
  ·exact .inl (List.mem_of_mem_take h)
  ·exact .inr h
 ·exact .inl (List.mem_of_mem_drop h)
theorem JdT {β γ:Type} (f:β->γ) (es ys:List β) (lo:Nat):(spl es lo ys).map f=spl (es.map f) lo (ys.map f):=by
 unfold spl;simp[List.map_take,List.map_drop]
section
variable {N:Nat->Prop} {H0 F0 F:Nat->Option Obj} {ρ:Nat->Option Loc} {O:List (Option Ob)} {nk:Nat}
theorem Sim.reob {h:Array Obj} (hS:Sim N H0 F0 F ρ O h) {k:Nat} {ob ob':Ob} (ho:obA O k=some ob) (hr:∀ L,Bh F ρ h L ob->Bh F ρ h L ob') (hn:∀ sz es,ob'.rows=some (sz,es)->∀ (i:Nat) (e:List AV) (j isz:Nat) (xs:List (List D)),es[i]?=some e->¬ e[j]?=some (.own isz xs)):Sim N H0 F0 F ρ (O.set k (some ob')) h:=by
 obtain⟨σ,hσ⟩:=hS.inn;refine hS.retable (by simp) (λ q L ob1 hq hob=>?_) ⟨σ,hσ.new,λ k' c M q L ob1 hM hq hob=>?_,hσ.sep,λ q L ob0 sz' es2 hq hob hr0 i e' j isz xs hi hj o1 v hb hv=>?_⟩
 ·by_cases e1:q=k
  ·subst e1;rw[AN ho]at hob;cases hob;exact⟨_,ho,.inr (hr L (hS.obj q L _ hq ho).1)⟩
  ·rw[AA e1]at hob;exact⟨ob1,hob,.inl rfl⟩
 ·by_cases e1:q=k
  ·subst e1;exact hσ.obj k' c M q L _ hM hq ho
  ·rw[AA e1]at hob;exact hσ.obj k' c M q L ob1 hM hq hob
 ·by_cases e1:q=k
  ·subst e1;rw[AN ho]at hob;cases hob;exact absurd hj (hn _ _ hr0 i e' j isz xs hi)
  ·rw[AA e1]at hob;exact hσ.rep q L ob0 sz' es2 hq hob hr0 i e' j isz xs hi hj o1 v hb hv
end
theorem JdU (e:α->List D) (k esz:Nat) {xs x1 ys zs:List α} {lo n:Nat} {E:List (List D)} {ob:Prop} {eb:Nat} (hc:((xs.map e).drop lo).take n=x1.map e) (hle:lo+n<=(xs.map e).length) (hn:n=x1.length) (hE:E=ys.map e) (ho:ob) (h:app eb x1 ys=some zs) (hk:obA s.objs k=some (.arr esz (xs.map e)):=by kernel_rfl) (hl:∀ y,(e y).length=esz:=by intro _;rfl) :
  EQ s (BC esz eb s.objs (.osl k esz lo n) E ob) (.osl s.objs.length esz 0 zs.length) [.arr esz (zs.map e)] [k] none:=by
 subst hE;subst hn;obtain⟨h1,h2,h3⟩:=V9 (enc:=e) h;subst h3;have hb:Nat.beq esz esz=true:=Nat.beq_refl esz;refine .of (ob:=lo+x1.length<=(xs.map e).length/\(∀ x∈ys.map e,x.length=esz)/\(x1.length+(ys.map e).length)*eb<=70368744177664/\ob) ?_ ⟨hle,?_,h1,ho⟩
 ·simp only[BC,hk,hb,Bool.true_or,Bool.and_self,cond_true,h2,hc];simp only[List.map_append]
 ·intro x hx;simp only[JkG]at hx;obtain⟨y,_,rfl⟩:=hx;exact hl y
def slD1:D->D
 | .nil=>.sl []
 | x=>x
theorem A8.slD1 {F:Nat->Option Obj} {x:D} {v:Value} (h:A8 F x v):A8 F (Go.AI.slD1 x) v:=by
 unfold Go.AI.slD1;split
 ·cases h;exact .sl0 _ _
 ·exact h
theorem ER.slD1 {F:Nat->Option Obj} {esz:Nat} {es:List (List D)} {cs:Array Value} {o:Nat} (h:ER F esz es cs o):ER F esz (es.map (List.map Go.AI.slD1)) cs o:=by
 obtain⟨h1,h2,h3⟩:=h;refine⟨λ e he=>?_,by simpa using h2,λ i e hi j x hx=>?_⟩
 ·rw[JkG]at he;obtain⟨e,he,rfl⟩:=he;rw[JkJ];exact h1 e he
 ·rw[JkS,JkR]at hi;obtain⟨e,hi,rfl⟩:=hi;rw[JkS,JkR]at hx;obtain⟨x,hx,rfl⟩:=hx;obtain⟨v,hv,hd⟩:=h3 i e hi j x hx;exact⟨v,hv,hd.slD1⟩
theorem Wd {Γ:Nat->Ty} (hΓ:GU P Γ) {d:Operand} {t:TypeId} {k sz eb lo n:Nat} {ez:List D} {es:List (List D)} (hop:o.op=.call ⟨.builtin .clear,#[d],#[t]⟩) (hok:(Γ t).ok=true) (hkind:(Γ t).kind=.slice sz eb ez)
  (hd:Aj st.env d=.osl k sz lo n) (ho:obA st.objs k=some (.arr sz es)) (hnl:lo+n<=es.length) :
  M0 P nt o true st ⟨putA o.dst false true (.tup []) st.env,st.objs.set k (some (.arr sz (spl es lo (List.replicate n (ez.map slD1)))))⟩:=by
 intro N H0 F0 w0 a w _ hI hdst K Qw hK;obtain⟨F,ρ,hS,hSl,hn,hdf⟩:=hI;obtain⟨desc,hde,_,hk⟩:=(hΓ t hok).desc;rw[hkind]at hk;obtain⟨elem,i,z,rfl,p1,p2,p3,p4,p5,p6,p7,_⟩:=hk;have hdr:=AO hSl d;rw[hd]at hdr;generalize hxd:a.eval d=xd at hdr;have hER:=(LW (F:=F) (len:=n) (JkD _) p5 p6 p7).slD1;rw[List.map_replicate]at hER;have hnz:(ez.map slD1).length=ez.length:=JkJ _;generalize ez.map slD1=ez' at hER hnz hK;have hcs:(Builtin.zeroCells z.cells n).size=n*sz:=by
  have hzs:z.cells.size=sz:=by have:=congrArg List.length p5;simp at this;omega
  simp[Builtin.zeroCells,hzs]
 have hzc:(Array.range (n*sz)).map (z.cells[· % z.cells.size]!)=Builtin.zeroCells z.cells n:=by
  have hzs:z.cells.size=sz:=by have:=congrArg List.length p5;simp at this;omega
  simp[Builtin.zeroCells,hzs]
 rw[hzc]at hER;have hrl:(List.replicate n ez').length=n:=by simp
 have hys:∀ e∈List.replicate n ez',e.length=sz:=hER.1;have hfit:lo+(List.replicate n ez').length<=es.length:=by rw[hrl];exact hnl
 have htup:Ah F ρ (.tup []) (.tuple #[]):=.tup [] #[] rfl λ i a v h=>by simp at h
 have fin:∀ w',Sim N H0 F0 F ρ (st.objs.set k (some (.arr sz (spl es lo (List.replicate n ez'))))) w'.heap->Mu w w'->(execOp a.eval o).run P w=.ok (.value (.tuple #[])) w'->o.wp P a w K Qw:=by
  intro w' hS' hmu hr;unfold Oper.wp;rw[hr,Oper.upon_value];exact hK _ _ ⟨F,ρ,hS',hSl.putA hn hdst htup,hn.put hdst,by rw[put_defers];exact⟨hdf.1,hdf.2.1.trans hmu,hdf.2.2⟩⟩
 have hexec:∀ w',(Builtin.clear_ #[t] o.type #[xd]).run P w=.ok (.tuple #[]) w'->(execOp a.eval o).run P w=.ok (.value (.tuple #[])) w':=by
  intro w' hr;simp only[execOp,hop,resolve,invoke,builtin,Jkv,Jkw,Jkt,List.map_toArray,JkK,List.map_nil,hxd,hr]
 by_cases h0:n=0
 ·subst h0;refine fin w ?_ (Mu.refl w) (hexec w ?_)
  ·refine hS.table (by simp) λ j L ob' hj hob'=>?_;by_cases e:j=k
   ·subst e;rw[Bm,if_pos ⟨rfl,AK ho⟩]at hob';cases hob';simpa [spl]using ho
   ·rw[Bm,if_neg (λ hh=>e hh.1)]at hob';exact hob'
  ·have:∃ ad cap,xd=.slice ad 0 cap:=by cases hdr<;>exact⟨_,_,rfl⟩
   obtain⟨ad,cap,rfl⟩:=this;cases ad<;>simp[Builtin.clear_,run_underlying hde]
 ·cases hdr with
  | osl0=>exact absurd rfl h0
  | osl _ _ _ _ cap L hL hc hss hz=>
   obtain⟨⟨g1,g2,cur,t0,fr,g3,g4,g5,g6⟩,gN,gF⟩:=hS.obj k L _ hL ho;have hin:L.base+lo*sz+n*sz<=cur.size:=by
    have:(lo+n)*sz<=es.length*sz:=Jkx _ hnl;rw[Jk1]at this;omega
   have hst:=BL P L.b (L.base+lo*sz) t0 fr (Builtin.zeroCells z.cells n).toList 0 cur w g3 (by simp[hcs];omega) (by rw[g4];exact g5) (hER.ones (by rw[hcs];simp));simp only[Nat.add_zero]at hst;refine fin { w with heap:=w.heap.setIfInBounds L.b (.cells (Bl cur (L.base+lo*sz) (Builtin.zeroCells z.cells n).toList) t0 fr) } ?_ (Mu.set g3) (hexec _ ?_)
   ·have:=hS.rewrite (k':=k) (L':=L) (x:=.cells (Bl cur (L.base+lo*sz) (Builtin.zeroCells z.cells n).toList) t0 fr) (O':=st.objs.set k (some (.arr sz (spl es lo (List.replicate n ez'))))) hL ho (by rw[Br hL];exact RLe.refl _) rfl (λ j ob' hj hob'=>by
     rw[Bm,if_neg (λ hh=>hj hh.1)]at hob';exact⟨hob',hj⟩) (by simp) (by simpa using AK ho) (λ ob' hob'=>by
     rw[Bm,if_pos ⟨rfl,AK ho⟩]at hob';cases hob';have hps:(Bl cur (L.base+lo*sz) (Builtin.zeroCells z.cells n).toList).size=L.size:=by rw[A7,g4]
     refine⟨λ e he=>?_,by rw[Xa hfit];exact g2,_,t0,fr,by rw[B4,if_pos ⟨rfl,Ak g3⟩],hps,g5,λ i e hi j x hx=>?_⟩
     ·rcases Xb he with h|h
      ·exact g1 e h
      ·exact hys e h
     ·have hjs:j<sz:=by
       have:=Ae hx;have he:e.length=sz:=by
        rcases Xb (JkQ hi)with h|h
        ·exact g1 e h
        ·exact hys e h
       omega
      rw[Dk _ _ _ _ (by simp[hcs];omega)];simp only[Array.length_toList,hcs];rw[JdS hfit,hrl]at hi;by_cases hlo:i<lo
      ·rw[if_pos hlo]at hi;obtain⟨u,hu,hdu⟩:=g6 i e hi j x hx;have hb:(i+1)*sz<=lo*sz:=Jkx _ hlo;rw[Jk1,Nat.one_mul]at hb;exact⟨u,by rw[if_neg (by omega)];exact hu,hdu⟩
      ·rw[if_neg hlo]at hi;have hb0:lo*sz<=i*sz:=Jkx _ (by omega);by_cases hlt:i<lo+n
       ·rw[if_pos hlt]at hi;obtain⟨u,hu,hdu⟩:=hER.2.2 (i-lo) e hi j x hx;have hb:(i+1)*sz<=(lo+n)*sz:=Jkx _ hlt;rw[Jk1,Nat.one_mul,Jk1]at hb;refine⟨u,?_,hdu⟩;have e1:L.base+i*sz+j-(L.base+lo*sz)=0+(i-lo)*sz+j:=by
         rw[Nat.sub_mul];omega
        rw[if_pos (by omega),e1];simpa using hu
       ·rw[if_neg hlt]at hi;obtain⟨u,hu,hdu⟩:=g6 i e hi j x hx;have hb:(lo+n)*sz<=i*sz:=Jkx _ (by omega);rw[Jk1]at hb;exact⟨u,by rw[if_neg (by omega)];exact hu,hdu⟩) (λ ob' hob'=>by
     rw[Bm,if_pos ⟨rfl,AK ho⟩]at hob';cases hob';rfl)
    rw[Br hL]at this;exact this
   ·have e1:∃ m,n=m+1:=⟨n-1,by omega⟩;obtain⟨m,rfl⟩:=e1;simp only[Builtin.clear_,List.getElem?_toArray,JkL,Jkv,run_underlying hde,Jkt,Bq w p1 p4,hst,Jkw]
theorem Ux {xs zs:List α} {lo n:Nat} {z:α} (h:Wc xs lo n z=some zs):xs.length=zs.length:=by
 unfold Wc at h;split at h
 ·cases h;exact(Xa (by simpa)).symm
 ·cases h
theorem xzP (hX:XOK P Γ) (enc:α->List D) {xs zs:List α} {z:α} (k sz lo n:Nat) (h:Wc xs lo n z=some zs) (hk:RF Γ C p (i+1) Q ((nxZ Γ (nav p C) i k sz (enc z) (zs.map enc) s).getD s))
  (hd:clV (nav p C) i s=.osl k sz lo n:=by kernel_rfl) (ho:obA s.objs k=some (.arr sz (xs.map enc)):=by kernel_rfl) (hz:(clZ Γ (nav p C) i).map slD1=enc z:=by kernel_rfl) (hn:(nxZ Γ (nav p C) i k sz (enc z) (zs.map enc) s).isSome=true:=by kernel_rfl):RF Γ C p i Q s:=by
 have hn:=Bw (d:=s) hn;generalize (nxZ Γ (nav p C) i k sz (enc z) (zs.map enc) s).getD s=s' at hn hk;unfold Wc at h;split at h
 ·rename_i hb;cases h;unfold nxZ at hn;split at hn
  ·rename_i o d t hoo hcl;obtain⟨h0,hn⟩:=AF hn;simp only[JkP]at h0;obtain⟨h1,h2⟩:=h0;split at hn
   ·rename_i z' eb ez hkd;obtain⟨h3,hn⟩:=AF hn;have:=JkV h3;subst this;cases hn;unfold clV at hd;unfold clZ at hz;rw[hcl]at hd hz;simp only[hkd]at hd hz;unfold JdR at hcl;rw[hoo]at hcl;simp only at hcl;split at hcl
    ·rename_i args ts hop;split at hcl
     ·rename_i d' t1 ha ht;cases hcl;have ha:args=#[d]:=by rw[← Array.toArray_toList (xs:=args),ha]
      have ht:ts=#[t]:=by rw[← Array.toArray_toList (xs:=ts),ht]
      subst ha;subst ht;have hx:=Wd (nt:=Γ.nt) hX.ty hop h2 hkd hd ho (by simpa using hb);rw[JdT,List.map_replicate,← hz]at hk;exact FM hX hoo h1 hx hk
     ·cases hcl
    ·cases hcl
   ·cases hn
  ·cases hn
 ·cases h
end Go.AI
end
section
namespace Go.AI
variable {P:Program} {F F':Nat->Option Obj} {ρ ρ':Nat->Option Loc} {N:Nat->Prop} {H0 F0:Nat->Option Obj} {O objs:List (Option Ob)} {w:World} {w0:W0}
def Jio (objs:List (Option Ob)) (j:Nat):Option (List (Option Ob)):=
 match obA objs 0 with
 | some (.lp d ts vs _)=>some (objs.set 0 (some (.lp d ts vs j)))
 | _=>none
def exJ (js:List Code):Ex->Nat->Prop
 | .normal,0=>True
 | .ret,i+2=>js[i]?=some .ret
 | .exit k,i+2=>js[i]?=some (.exit k)
 | _,_=>False
def JjA (nb:Nat) (js:List Code) (j:Nat) (objs1:List (Option Ob)) (e:Ex) (s:St):Prop:=exJ js e j/\∃ s',Ar nb s s'/\lpJ s'.objs 0=some (js,1)/\Jio s'.objs j=some objs1
end Go.AI
end
section
namespace Go.AI
variable {P:Program} {Γ:Cx} {C:Code} {p:List Nat} {Q:Ex->St->Prop} {s s':St} {K:St->Prop} {i nk:Nat}
variable {α β ζ:Type}
def JfC (Γ:Cx) (c:Code) (o:Oper):Bool:=!KL c&&Bz Γ.nt o.dst&&ndB o.op
def gY (c:Code) (i:Nat) (s:St):Option Bool:=match (A1 c)[i]? with
 | some o=>Bp (A1 c) s.env o.guard
 | none=>none
theorem Yt (hX:XOK P Γ) {o:Oper} {g:Bool} (ho:(A1 (nav p C))[i]?=some o) (h0:JfC Γ (nav p C) o=true) (hg:gY (nav p C) i s=some g) (hgt:g=true) (hx:NR P Γ.nt o g s s') (hk:RF Γ C p (i+1) Q s'):RF Γ C p i Q s:=by
 refine⟨?_⟩;have hk:=hk.out;unfold A0 at hk⊢;simp only[JfC,JkP,Bool.not_eq_true']at h0;obtain⟨⟨h1,h3⟩,h4⟩:=h0;rw[Cr ho];show AQ _ _ _ _ _ _;unfold AQ;have hga:Bp (A1 (nav p C)) s.env o.guard=some g:=by
  unfold gY at hg;rw[ho]at hg;exact hg
 rw[hga];simp only[h3,JkB,cond_false];exact⟨λ _=>.inr (.inr ⟨h1,.inl ⟨s',by rw[hX.ext];exact hx,hk⟩⟩),λ h=>by rw[hgt]at h;cases h⟩
theorem Jaq {nt:Slt} {o:Oper} {st:St} {v:AV} {O1:List (Option Ob)} {g:Bool} (h:NR P nt o true st ⟨putA o.dst false true v st.env,O1⟩):NR P nt o g st ⟨putA o.dst o.guard.isSome g v st.env,O1⟩:=by
 intro N H0 F0 w0 a w hg hI hdst rd n K Qw hqr hK;subst hg;refine h N H0 F0 w0 a w rfl hI hdst rd n K Qw hqr λ a' w' hI'=>hK a' w' ?_;obtain⟨F,ρ,hS,hSl,hrest⟩:=hI';refine⟨F,ρ,hS,?_,hrest⟩;cases hgs:o.guard.isSome with
 | false=>exact hSl
 | true=>
  cases hd:o.dst with
  | none=>rw[hd]at hSl;exact hSl
  | some d=>
   rw[hd]at hSl;intro t;have:=hSl t;simp only[putA,cond_true,cond_false,Bi]at this⊢;split
   ·rename_i e;rw[if_pos e]at this;exact .gvT _ _ this
   ·rename_i e;rw[if_neg e]at this;exact this
def F3 (m:Nat):Code->Code
 | .region id ops _=>.region id (ops.toList.take m).toArray false
 | c=>c
def We (Γ:Cx) (c:Code) (m:Nat) (Q:Ex->St->Prop):Ex->St->Prop:=λ _ s=>phX Γ (CA c) (Q .normal) ((CA c).size-(m+1)) (m+1) s
def JfD (Γ:Cx) (c:Code) (b x m:Nat) (s0:St) (Q:Ex->St->Prop):Ex->St->Prop:=λ e s=>JeZ Γ.ty (CA c) b x m s0.env s.env s0.objs (bif Nat.blt (yM (CA c) b m) m then s.objs.dropLast else s.objs)/\∃ F,(CA c)[m]?=some F/\AQ Γ false (CA c).toList F (We Γ c m Q e) s
theorem rx (x m:Nat) (hs:Ar Γ.nt.nk s s') (hk:RF (cxX Γ (CA (nav p C)) x) (F3 m (nav p C)) [] 0 (JfD Γ (nav p C) 0 x m s' Q) s') (h:(JH (nav p C)&&KL (nav p C))=true:=by kernel_rfl) (hb:MW (CA (nav p C)) 0 x m=true:=by kernel_rfl):WP Γ C p Q s:=by
 refine⟨?_⟩;have hk:=hk.out;generalize nav p C=c at *;cases c with
 | region id ops d=>
  simp only[JH,KL,Bool.true_and]at h;subst h;exact⟨s',hs,.inr (.inl ⟨rfl,.inl ⟨ops.size-(m+1)+1,.inr ⟨x,m,Nat.zero_le _,hb,hk⟩⟩⟩)⟩
 | _=>cases h
theorem Wf {ops:List Oper} {m:Nat} {env:List (Nat×AV)} {g:Option (Nat×Bool)} {v:Bool} (h:Bp (ops.take m) env g=some v):Bp ops env g=some v:=by
 unfold Bp at h⊢;split at h
 ·exact h
 ·rename_i j want;rcases JkE j m with hj|hj
  ·rw[Jk8 hj]at h;exact h
  ·rw[Jk9 (by rw[List.length_take];omega)]at h;cases h
theorem PO {ops:List Oper} {m:Nat} {o:Oper} {Q:St->Prop} (h:AQ Γ false (ops.take m) o Q s):AQ Γ false ops o Q s:=by
 unfold AQ at h⊢;split at h
 ·exact h.elim
 ·rename_i g hg;rw[Wf hg];exact h
theorem mx {c:Code} {b x m:Nat} {s0:St} (hk:RF Γ (F3 (m+1) c) [] m (We Γ c m Q) s) (hi:Nat.ble (A1 (F3 m c)).length i=true:=by kernel_rfl) (h:JH c=true:=by kernel_rfl) (hm:Nat.blt m (CA c).size=true:=by kernel_rfl)
  (h1:ldL Γ.ty (CA c) b x m s0.env s.env s0.objs=ldL Γ.ty (CA c) b x m s0.env s.env (bif Nat.blt (yM (CA c) b m) m then s.objs.dropLast else s.objs):=by kernel_rfl) (h2:(ldL Γ.ty (CA c) b x m s0.env s.env s0.objs).all Option.isSome=true:=by kernel_rfl):RF (cxX Γ (CA c) x) (F3 m c) [] i (JfD Γ c b x m s0 Q) s:=by
 refine⟨Na i hi ⟨⟨h1,h2⟩,?_⟩⟩;have hk:=hk.out;have hm:=Jk3 hm;cases c with
 | region id ops d=>
  simp only[CA]at hm⊢;have hg:=JkT (show m<ops.size by omega);refine⟨ops[m],hg,?_⟩;have hk:GT Γ false (ops.toList.take (m+1)) ((ops.toList.take (m+1)).drop m) (We Γ (.region id ops d) m Q .normal) s:=hk;rw[show(ops.toList.take (m+1)).drop m=[ops[m]] by
   rw[List.drop_take,List.drop_eq_getElem_cons (by simp;omega)];simp]at hk
  exact PO hk
 | _=>cases h
theorem nz {c:Code} {m:Nat} (hk:PQ Q .normal s) (hi:Nat.ble (A1 (F3 (m+1) c)).length i=true:=by kernel_rfl) (hm:Nat.beq (CA c).size (m+1)=true:=by kernel_rfl):RF Γ (F3 (m+1) c) [] i (We Γ c m Q) s:=by
 refine⟨Na i hi ?_⟩;unfold We;have hm:=JkV hm;rw[hm,Nat.sub_self];exact⟨hm.symm,hk.out⟩
theorem nx {c:Code} {m:Nat} (x m2:Nat) (hk:RF (cxX Γ (CA c) x) (F3 m2 c) [] (m+1) (JfD Γ c (m+1) x m2 s Q) s) (hi:Nat.ble (A1 (F3 (m+1) c)).length i=true:=by kernel_rfl) (h:JH c=true:=by kernel_rfl) (hb:MW (CA c) (m+1) x m2=true:=by kernel_rfl):RF Γ (F3 (m+1) c) [] i (We Γ c m Q) s:=by
 refine⟨Na i hi ?_⟩;have hk:=hk.out;cases c with
 | region id ops d=>
  have hbb:=(RB hb).1;simp only[CA]at hbb;unfold We;simp only[CA];refine Jfb (f:=ops.size-(m2+1)+1) (by omega) (.inr ⟨x,m2,hbb.2.2,hb,?_⟩);exact hk
 | _=>cases h
def Fx (ev:Operand->AV):Op->Option FuncId×List AV
 | .call ⟨.value (.func f),args,_⟩=>(some f,args.toList.map ev)
 | .call ⟨.value x,args,_⟩=>match ev x with
  | .clo f l=>(some f,args.toList.map ev++l)
  | _=>(none,[])
 | _=>(none,[])
theorem QO {ev ev':Operand->AV} {op:Op} (h:∀ y∈op.operands.toList,ev y=ev' y):Fx ev op=Fx ev' op:=by
 cases op with
 | call c=>
  obtain⟨callee,args,ts⟩:=c;cases callee with
  | value x=>
   have ha:args.toList.map ev=args.toList.map ev':=JkM λ y hy=>h y (by simp[Op.operands,Call.operands];exact .inr (by simpa using hy));have hx:=h x (by simp[Op.operands,Call.operands]);cases x<;>simp only[Fx,ha,hx]
  | _=>rfl
 | _=>rfl
theorem Yu {nt:Slt} {o:Oper} {st:St} {f:FuncId} {xs:List AV} {nb:Nat} {r:AV} {O1:List (Option Ob)} (hgob:EK true (o.op.operands.toList.map (Aj st.env))) (hc:Fx (λ y=>unG (Aj st.env y)) o.op=(some f,xs))
  (hcall:Bg P f (xs.map (Hr (Az st.objs xs))) (D4 st.objs (Az st.objs xs)) nb r O1) (hnb:nb<=(Az st.objs xs).length) (hnb1:nb<=O1.length) (hord:∀ k∈Az st.objs xs,k<st.objs.length) :
  M0 P nt o true st ⟨putA o.dst false true (Jv (CF (Az st.objs xs) st.objs.length nb) r) st.env,CG st.objs (Az st.objs xs) nb O1⟩:=by
 intro N H0 F0 w0 a w _ hI hdst K Qw hK;obtain⟨F,ρ,hS,hSl,hn,hdf⟩:=hI;have hk:∀ v w' F' ρ'',FLe F F'->RLe ρ ρ''->Sim N H0 F0 F' ρ'' (CG st.objs (Az st.objs xs) nb O1) w'.heap->Ah F' ρ'' (Jv (CF (Az st.objs xs) st.objs.length nb) r) v->Mu w w'->K (a.put o.dst v) w':=
  λ v w' F' ρ'' hF hρ hS' hv hmu=>hK _ _ ⟨F',ρ'',hS',(hSl.mono hF hρ).putA hn hdst hv,hn.put hdst,by rw[put_defers];exact⟨hdf.1.mono hF,hdf.2.1.trans hmu,hdf.2.2.mono hρ⟩⟩
 have hev:∀ y∈o.op.operands.toList,Ah F ρ (unG (Aj st.env y)) (a.eval y):=λ y hy=>BN rfl _ hgob _ (List.mem_map_of_mem hy) _ (AO hSl y);unfold Fx at hc;split at hc
 ·rename_i f' args ts hop;cases hc;exact T3 (ev:=λ y=>unG (Aj st.env y)) hop hS (λ y hy=>hev y (by rw[hop];simp[Op.operands,Call.operands];exact .inr (by simpa using hy))) hcall hnb hnb1 hord hk
 ·rename_i x args ts _ hop;split at hc
  ·rename_i f' l hx;have hx:unG (Aj st.env x)=.clo f' l:=hx;cases hc;have hxr:=hev x (by rw[hop];simp[Op.operands,Call.operands]);rw[hx]at hxr;generalize hxv:a.eval x=xv at hxr;cases hxr with
   | clo _ _ vs hl hr=>
    have hcr0:=Gv (args:=args) (a:=a) (ev:=λ y=>unG (Aj st.env y)) (λ y hy=>hev y (by rw[hop];simp[Op.operands,Call.operands];exact .inr (by simpa using hy)));refine Iv (vs:=args.map a.eval++vs) (λ fn c hf hb hnm=>?_) hS ⟨by simp[hl],λ i y v hy hv=>?_⟩ hcall hnb hnb1 hord hk
    ·simp only[execOp,hop,resolve,hxv,Deferred.ofValue,Jkv,Jkw,Jkt,invoke,callFunc,run_program,hf,hnm,hb,Jk0,if_false,Option.isNone_some,Array.empty_append]
    ·rw[Array.toList_append]at hv;have hl0:=hcr0.1;by_cases hi:i<(args.toList.map (λ y=>unG (Aj st.env y))).length
     ·rw[JkW hi]at hy;rw[JkW (by omega)]at hv;exact hcr0.2 i y v hy hv
     ·rw[Jk6 (by omega)]at hy;rw[Jk6 (by omega)]at hv;rw[← hl0]at hv;exact hr _ y v hy (by simpa using hv)
  ·cases hc
 ·cases hc
def QP (c:Code) (i:Nat) (s:St):Option ((Option FuncId×List AV)×List Nat):=
 match (A1 c)[i]? with
 | some o=>some (Fx (λ y=>unG (Aj s.env y)) o.op,Az s.objs (Fx (λ y=>unG (Aj s.env y)) o.op).2)
 | none=>none
def nxS (Γ:Cx) (ops:Array Oper) (x:Nat) (c:Code) (i:Nat) (g:Bool) (ord:List Nat) (nb:Nat) (r:AV) (O1:List (Option Ob)) (s:St):Option St:=
 match (A1 c)[i]? with
 | some o=>bif !KL c&&Nat.beq i x&&Nat.blt x ops.size.pred&&Bz Γ.nt o.dst&&Nat.ble nb ord.length&&Nat.ble nb O1.length&&ord.all (λ k=>Nat.blt k s.objs.length)then
   some ⟨putA o.dst o.guard.isSome g (Jv (CF ord s.objs.length nb) r) s.env,CG s.objs ord nb O1⟩else none
 | none=>none
theorem xs {c:Code} {x m:Nat} (hX:XOK P Γ) {g:Bool} (hgt:g=true) {gs:List Bool} (hi:Em g gs) (ord:List Nat) {f:FuncId} {ys:List AV} {O0 O1 raw0:List (Option Ob)} {nb:Nat} {r:AV} (hr:Bg P f ys O0 nb r O1) (hp0:raw0=O0)
  (hk:RF (cxX Γ (CA c) x) (F3 m c) [] (i+1) Q ((nxS Γ (CA c) x (F3 m c) i g ord nb r O1 s).getD s)) (hreg:JH c=true:=by kernel_rfl) (hg:gY (F3 m c) i s=some g:=by kernel_rfl) (hgs:EO (F3 m c) i s=gs:=by kernel_rfl)
  (hc:QP (F3 m c) i s=some ((some f,((QP (F3 m c) i s).getD ((none,[]),[])).1.2),ord):=by kernel_rfl) (hxs:((QP (F3 m c) i s).getD ((none,[]),[])).1.2.map (Hr ord)=ys:=by kernel_rfl) (hO:D4 s.objs ord=raw0:=by kernel_rfl)
  (hn:(nxS Γ (CA c) x (F3 m c) i g ord nb r O1 s).isSome=true:=by kernel_rfl):RF (cxX Γ (CA c) x) (F3 m c) [] i Q s:=by
 generalize ((QP (F3 m c) i s).getD ((none,[]),[])).1.2=zs at hc hxs;have hn:=Bw (d:=s) hn;generalize (nxS Γ (CA c) x (F3 m c) i g ord nb r O1 s).getD s=s' at hn hk;subst hp0;unfold QP at hc;unfold nxS at hn;split at hn
 ·rename_i o ho;rw[ho]at hc;simp only[JkY,Prod.mk.injEq]at hc;obtain⟨hc,hord⟩:=hc;rw[hc]at hord;simp only at hord;obtain⟨h0,hn⟩:=AF hn;simp only[JkP]at h0;obtain⟨⟨⟨⟨⟨⟨h1,h2⟩,h3⟩,h4⟩,h5⟩,h6⟩,h7⟩:=h0;cases hn;subst hord;subst hxs;subst hO;have hix:=JkV h2;subst hix;have hox:(CA c)[i]?=some o:=by
   cases c with
   | region id ops d=>
    simp only[F3,A1,List.getElem?_take]at ho;split at ho
    ·show ops[i]?=some o;simpa using ho
    ·cases ho
   | _=>cases hreg
  have hgob:EK true (o.op.operands.toList.map (Aj s.env)):=by
   subst hgs;unfold EO at hi;rw[ho]at hi;rw[← hgt];exact JI hi
  refine⟨?_⟩;have hk:=hk.out;unfold A0 at hk⊢;simp only[nav]at hk⊢;rw[Cr ho];show AQ _ _ _ _ _ _;unfold AQ;have hga:Bp (A1 (F3 m c)) s.env o.guard=some g:=by
   unfold gY at hg;rw[ho]at hg;exact hg
  rw[hga];have h4:Bz (cxX Γ (CA c) i).nt o.dst=true:=h4;simp only[h4,JkB,cond_false];refine⟨λ _=>.inr (.inr ⟨by simpa using h1,.inl ⟨_,⟨hox,_,_,rfl,λ env he=>?_⟩,hk⟩⟩),λ h=>by rw[hgt]at h;cases h⟩;rw[hX.ext];have hgob':EK true (o.op.operands.toList.map (Aj env)):=by
   rw[JkM he];exact hgob
  have hc':Fx (λ y=>unG (Aj env y)) o.op=(some f,zs):=by
   rw[QO (ev':=λ y=>unG (Aj s.env y)) λ y hy=>by rw[he y hy]];exact hc
  have hnd:ndB o.op=true:=by
   cases hop:o.op with
   | defer d=>rw[hop]at hc;cases hc
   | _=>rfl
  exact Jaq (st:=⟨env,s.objs⟩) ((Yu (st:=⟨env,s.objs⟩) hgob' hc' hr (Jk3 h5) (Jk3 h6) λ k hk=>by
   exact Jk3 (Jky.1 h7 k hk)).ok hnd)
 ·cases hn
theorem rq {js:List Code} {j:Nat} {O1:List (Option Ob)} {e:Ex} (sh:Ar nk s s') (h:exJ js e j:=by first|exact trivial|exact rfl) (h1:lpJ s'.objs 0=some (js,1):=by kernel_rfl) (h2:Jio s'.objs j=some O1:=by kernel_rfl):PQ (JjA nk js j O1) e s:=⟨⟨h,s',sh,h1,h2⟩⟩
end Go.AI
end
section
namespace Go.AI
variable {P:Program} {F F':Nat->Option Obj} {ρ ρ':Nat->Option Loc} {N:Nat->Prop} {H0 F0:Nat->Option Obj} {O objs:List (Option Ob)} {w:World} {w0:W0} {nt:Slt} {o:Oper} {st:St}
theorem Mf (es:Array MapEntry):leftOf es #[]=es:=by
 unfold leftOf;exact Array.filter_eq_self.2 λ x _=>by simp
theorem Yv {Γ:Nat->Ty} (hΓ:GU P Γ) {t:TypeId} {x:Operand} {k:Nat} {ks:List TK} {ka va ka' va':Bool} {vz:List D} {ents:List (List D×List D)} (hop:o.op=.range t x) (hok:(Γ t).ok=true) (hkind:(Γ t).kind=.map ks ka' va' vz) (hx:Aj st.env x=.mp k) (ho:obA st.objs k=some (.map ka va ents)) :
  M0 P nt o true st ⟨putA o.dst false true (.ptr st.objs.length 0) st.env,st.objs.set k none++[some (.iter ka va none ents)]⟩:=by
 intro N H0 F0 w0 a w _ hI hdst K Qw hK;obtain⟨F,ρ,hS,hSl,hn,hdf⟩:=hI;obtain⟨d,hd,_,hkd⟩:=(hΓ t hok).desc;rw[hkind]at hkd;obtain⟨kt,et,i,z,rfl,_⟩:=hkd;have hxr:=AO hSl x;rw[hx]at hxr;generalize hxv:a.eval x=xv at hxr;cases hxr with
 | mp _ L hL=>
  obtain⟨⟨_,es,clock,g1,gb,e0,hp0,_,g2,g3⟩,gN,gF⟩:=hS.obj k L _ hL ho;have hS1:=hS.freeze [k] (λ j hj=>by rw[List.mem_singleton.1 hj];exact⟨_,ho⟩);have hFle:=EN hS [k];have hFb:GV F ρ w.heap [k] L.b=some (.map es clock):=by rw[Kq (List.mem_singleton_self k) hL];exact g1
  generalize GV F ρ w.heap [k]=F1 at hS1 hFle hFb;have hrm:rmA st.objs [k]=st.objs.set k none:=rfl;rw[hrm]at hS1;have hS2:=hS1.grow [some (Ob.iter ka va none ents)];have hlen:(st.objs.set k none).length=st.objs.length:=by simp
  have hfresh:ρ st.objs.length=none:=by
   cases hr:ρ st.objs.length with
   | none=>rfl
   | some M=>have:=hS.dom _ M hr;omega
  have hob:obA (st.objs.set k none++[some (Ob.iter ka va none ents)]) st.objs.length=some (.iter ka va none ents):=by
   rw[AD,if_neg (by omega),hlen,Nat.sub_self];rfl
  have hS3:=hS2.push (L:=⟨w.heap.size,0,0⟩) (x:=.mapIter (some L.b) clock #[] clock) hfresh hob rfl (by
   refine⟨rfl,L.b,es,clock,clock,#[],clock,hFb,by simp,gb.1,JkD _,JkD _,gb.2,⟨e0,hp0,by rw[Mf];exact g2,λ i p q hp hq=>?_⟩,λ p hp=>by cases hp⟩;rw[Mf]at hq;exact⟨(g3 i p q hp hq).1.mono hFle,(g3 i p q hp hq).2.mono hFle⟩) rfl
  have hr:(execOp a.eval o).run P w=.ok (.value (.pointer (some ⟨w.heap.size,0,none⟩))) (w.alloc (.mapIter (some L.b) clock #[] clock)):=by
   simp only[execOp,hop,hxv,run_range_map w t kt et L.b es clock hd g1,Jkv,Jkt,Jkw]
  unfold Oper.wp;rw[hr,Oper.upon_value];have hle:RLe ρ (upR ρ st.objs.length ⟨w.heap.size,0,0⟩):=CB hfresh;refine hK _ _ ⟨F1,_,hS3,(hSl.mono hFle hle).putA hn hdst ?_,hn.put hdst,by rw[put_defers];exact⟨hdf.1.mono hFle,hdf.2.1.trans ⟨rfl,rfl,by simp,rfl,JkD _⟩,hdf.2.2.mono hle⟩⟩;exact .ptr _ 0 ⟨w.heap.size,0,0⟩ (AC _ _ _)
theorem Wg {Γ:Nat->Ty} (hΓ:GU P Γ) {t:TypeId} {x:Operand} {ks:List TK} {ka' va':Bool} {vz:List D} {E:List (List D)} (hop:o.op=.range t x) (hok:(Γ t).ok=true) (hkind:(Γ t).kind=.map ks ka' va' vz) (hx:Aj st.env x=.fmp E) :
  M0 P nt o true st ⟨putA o.dst false true (.ptr st.objs.length 0) st.env,st.objs++[some (.iter false false none (Oe E))]⟩:=by
 intro N H0 F0 w0 a w _ hI hdst K Qw hK;obtain⟨F,ρ,hS,hSl,hn,hdf⟩:=hI;obtain⟨d,hd,_,hkd⟩:=(hΓ t hok).desc;rw[hkind]at hkd;obtain⟨kt,et,i,z,rfl,_⟩:=hkd;have hxr:=AO hSl x;rw[hx]at hxr;generalize hxv:a.eval x=xv at hxr;cases hxr with
 | fmp _ b hf=>
  obtain⟨es,clock,e0,hFb,gb,hp,_,g2,g3⟩:=hf;have g1:w.heap[b]?=some (.map es clock):=hS.frz b _ hFb;have hS2:=hS.grow [some (Ob.iter false false none (Oe E))];have hfresh:ρ st.objs.length=none:=by
   cases hr:ρ st.objs.length with
   | none=>rfl
   | some M=>have:=hS.dom _ M hr;omega
  have hob:obA (st.objs++[some (Ob.iter false false none (Oe E))]) st.objs.length=some (.iter false false none (Oe E)):=by
   rw[AD,if_neg (by omega),Nat.sub_self];rfl
  have hS3:=hS2.push (L:=⟨w.heap.size,0,0⟩) (x:=.mapIter (some b) clock #[] clock) hfresh hob rfl (by
   refine⟨rfl,b,es,clock,clock,#[],clock,hFb,by simp,gb.1,JkD _,JkD _,gb.2,⟨e0,hp,by rw[Mf];exact g2,λ i p q hp hq=>?_⟩,λ p hp=>by cases hp⟩;rw[Mf]at hq;exact g3 i p q hp hq) rfl
  have hr:(execOp a.eval o).run P w=.ok (.value (.pointer (some ⟨w.heap.size,0,none⟩))) (w.alloc (.mapIter (some b) clock #[] clock)):=by
   simp only[execOp,hop,hxv,run_range_map w t kt et b es clock hd g1,Jkv,Jkt,Jkw]
  unfold Oper.wp;rw[hr,Oper.upon_value];have hle:RLe ρ (upR ρ st.objs.length ⟨w.heap.size,0,0⟩):=CB hfresh;refine hK _ _ ⟨F,_,hS3,(hSl.mono (FLe.refl _) hle).putA hn hdst ?_,hn.put hdst,by rw[put_defers];exact⟨hdf.1,hdf.2.1.trans ⟨rfl,rfl,by simp,rfl,JkD _⟩,hdf.2.2.mono hle⟩⟩;exact .ptr _ 0 ⟨w.heap.size,0,0⟩ (AC _ _ _)
def JjB (o:Oper) (k:Nat) (ka va:Bool) (left:List (List D×List D)) (st:St) (st':St):Prop:=
 (left=[]/\st'=⟨putA o.dst false true (.tup [.d (.bool false)]) st.env,st.objs⟩) \/
 ∃ l1 e l2,left=l1++e::l2/\st'=⟨putA o.dst false true (.tup [.d (.bool true),.top,.top]) st.env,st.objs.set k (some (.iter ka va (some e) (l1++l2)))⟩
theorem Uy {es:Array MapEntry} {seen:Array Nat} {e:MapEntry} (hn:(es.toList.map (·.born)).Nodup) (he:e∈(leftOf es seen).toList):∃ l1 l2,(leftOf es seen).toList=l1++e::l2/\(leftOf es (seen.push e.born)).toList=l1++l2:=by
 have h1:(leftOf es (seen.push e.born)).toList=(leftOf es seen).toList.filter λ x=>!(x.born==e.born):=by
  unfold leftOf;simp only[Array.toList_filter,List.filter_filter];refine List.filter_congr λ x _=>?_;rw[contains_push];cases seen.contains x.born<;>cases (x.born==e.born)<;>rfl
 rw[h1];have hsub:((leftOf es seen).toList.map (·.born)).Nodup:=by
  have:(leftOf es seen).toList.Sublist es.toList:=by unfold leftOf;rw[Array.toList_filter];exact List.filter_sublist
  exact List.Nodup.sublist (this.map _) hn
 generalize (leftOf es seen).toList=l at he hsub;clear h1 hn;induction l with
 | nil=>cases he
 | cons x l ih=>
  rw[JkK,List.nodup_cons]at hsub;rcases List.mem_cons.1 he with rfl|he
  ·refine⟨[],l,rfl,?_⟩;simp only[List.filter_cons,beq_self_eq_true,JkB,Jk0,if_false,List.nil_append];refine List.filter_eq_self.2 λ y hy=>?_;have:y.born≠e.born:=λ h=>hsub.1 (by rw[← h];exact List.mem_map_of_mem hy);simp[this]
  ·obtain⟨l1,l2,q1,q2⟩:=ih he hsub.2;have hne:x.born≠e.born:=λ h=>hsub.1 (by rw[h];exact List.mem_map_of_mem he);exact⟨x::l1,l2,by rw[q1];rfl,by rw[List.filter_cons];simp[hne,q2]⟩
theorem Jar {x:Operand} {k:Nat} {ka va:Bool} {cur:Option (List D×List D)} {left:List (List D×List D)} (hop:o.op=.next x false) (hx:Aj st.env x=.ptr k 0) (ho:obA st.objs k=some (.iter ka va cur left)) :
  M3 P nt o st (JjB o k ka va left st):=by
 intro N H0 F0 w0 a w hI hdst r n K Qw _ hK;obtain⟨F,ρ,hS,hSl,hn,hdf⟩:=hI;have hxr:=AO hSl x;rw[hx]at hxr;generalize hxv:a.eval x=xv at hxr;cases hxr with
 | ptr _ _ L hL=>
  obtain⟨⟨b0,bm,es,clock,since,seen,c0,h1,h2,h3,h4,h4',h5,⟨left0,hpm,h6,h7⟩,h8⟩,gN,gF⟩:=hS.obj k L _ hL ho;have hbm:w.heap[bm]?=some (.map es clock):=hS.frz bm _ h1;have hpt:(⟨L.b,L.base+0,none⟩:Addr)=⟨L.b,0,none⟩:=by rw[b0]
  refine C8 (by rw[hop];intro c e;cases e) ?_;unfold Oper.wp;rcases run_next_at (P:=P) w o.type L.b bm since c0 seen es clock h2 hbm h3 h4 with⟨he,hr⟩|⟨e,he,w1,hw1,hr⟩
  ·have hx:(execOp a.eval o).run P w=.ok (.value (.tuple #[.bool false])) w:=by
    simp only[execOp,hop,hxv,hpt,hr,Jkv,Jkt,Jkw]
   rw[hx,Oper.upon_value];have hl0:left0=[]:=List.length_eq_zero_iff.1 (by rw[← h6];exact he);have hl:left=[]:=by rw[hl0]at hpm;exact hpm.symm.eq_nil
   refine hK _ _ _ (.inl ⟨hl,rfl⟩) ⟨F,ρ,hS,hSl.putA hn hdst ?_,hn.put hdst,by rw[put_defers];exact hdf⟩;exact .tup _ _ rfl λ j a u ha hu=>by
    match j with
    | 0=>simp at ha hu;subst ha;subst hu;exact .mkBool _
    | j+1=>simp at ha
  ·have hx:(execOp a.eval o).run P w=.ok (.value (.tuple #[.bool true,e.key,e.val])) (ChangeMaps.setBlock w1 L.b (.mapIter (some bm) since (seen.push e.born) clock)):=by
    simp only[execOp,hop,hxv,hpt,hr,Jkv,Jkt,Jkw]
   rw[hx,Oper.upon_value];obtain⟨m1,m2,e1,e2⟩:=Uy h5 he;have hlen:left0.length=m1.length+(m2.length+1):=by rw[← h6,← Array.length_toList,e1];simp
   obtain⟨l1,p,l2,hsp,hl1,hl2⟩:∃ l1 p l2,left0=l1++p::l2/\l1.length=m1.length/\l2.length=m2.length:=by
    refine⟨left0.take m1.length,left0[m1.length],left0.drop (m1.length+1),?_,by simp;omega,by simp;omega⟩;rw[← List.drop_eq_getElem_cons (by omega),List.take_append_drop]
   have hheap:(ChangeMaps.setBlock w1 L.b (.mapIter (some bm) since (seen.push e.born) clock)).heap=w.heap.setIfInBounds L.b (.mapIter (some bm) since (seen.push e.born) clock):=by
    rcases hw1 with rfl|rfl<;>rfl
   have hmu:Mu w (ChangeMaps.setBlock w1 L.b (.mapIter (some bm) since (seen.push e.born) clock)):=by
    rcases hw1 with rfl|rfl
    ·exact⟨rfl,rfl,by rw[hheap];simp,rfl,JkD _⟩
    ·exact⟨rfl,rfl,by rw[hheap];simp,rfl,Nat.le_succ _⟩
   obtain⟨k1,k2,hk12⟩:∃ k1 k2,left=k1++p::k2:=List.append_of_mem (hpm.subset (by rw[hsp];simp));have hpm2:(l1++l2).Perm (k1++k2):=by
    rw[hsp,hk12]at hpm;exact((List.perm_middle.symm.trans hpm).trans List.perm_middle).cons_inv
   have hei:=mem_left he;have hmid:∀ (i:Nat) (q:List D×List D),(l1++p::l2)[i]?=some q->∀ u:MapEntry,(m1++e::m2)[i]?=some u->KV F ka q.1 u.key/\KV F va q.2 u.val:=λ i q hq u hu=>by
    rw[← hsp]at hq;rw[← e1]at hu;exact h7 i q u hq (by simpa using hu)
   have hpe:KV F ka p.1 e.key/\KV F va p.2 e.val:=by
    refine hmid l1.length p (by simp) e (by rw[hl1];simp)
   have hrep:∀ h':Array Obj,h'[L.b]?=some (.mapIter (some bm) since (seen.push e.born) clock)->Bh F ρ h' L (.iter ka va (some p) (k1++k2)):=λ h' hh=>by
    refine⟨b0,bm,es,clock,since,seen.push e.born,clock,h1,hh,h3,h4',h4',h5,⟨l1++l2,hpm2,?_,λ i q u hq hu=>?_⟩,λ q hq=>?_⟩
    ·rw[← Array.length_toList,e2];simp;omega
    ·have hu:(m1++m2)[i]?=some u:=by rw[← e2];simpa using hu
     by_cases hi:i<l1.length
     ·rw[JkW hi]at hq;rw[JkW (by omega)]at hu;exact hmid i q (by rw[JkW hi];exact hq) u (by rw[JkW (by omega)];exact hu)
     ·rw[Jk6 (by omega)]at hq;rw[Jk6 (by omega)]at hu;refine hmid (i+1) q ?_ u ?_
      ·rw[Jk6 (by omega),show i+1-l1.length=(i-l1.length)+1 by omega,List.getElem?_cons_succ];exact hq
      ·rw[Jk6 (by omega),show i+1-m1.length=(i-m1.length)+1 by omega,List.getElem?_cons_succ];exact hu
    ·cases hq;exact⟨e,seen,hei.1,rfl,rfl,hpe.1,hpe.2⟩
   have hlt:=hS.loc k L hL;have hS1:=hS.rewrite (k':=k) (L':=L) (x:=.mapIter (some bm) since (seen.push e.born) clock) (O':=st.objs.set k (some (.iter ka va (some p) (k1++k2)))) hL ho (by rw[Br hL];exact RLe.refl _) rfl (λ j ob' hj hob'=>by
    rw[Bm,if_neg (λ hh=>hj hh.1)]at hob';exact⟨hob',hj⟩) (by simp) (by simpa using AK ho) (λ ob' hob'=>by
    rw[Bm,if_pos ⟨rfl,AK ho⟩]at hob';cases hob';rw[Br hL];exact hrep _ (by rw[B4,if_pos ⟨rfl,hlt⟩])) (λ ob' hob'=>by
    rw[Bm,if_pos ⟨rfl,AK ho⟩]at hob';cases hob';rfl)
   rw[Br hL]at hS1;refine hK _ _ _ (.inr ⟨k1,p,k2,hk12,rfl⟩) ⟨F,ρ,by rw[hheap];exact hS1,hSl.putA hn hdst ?_,hn.put hdst,by rw[put_defers];exact⟨hdf.1,hdf.2.1.trans hmu,hdf.2.2⟩⟩;exact .tup _ _ rfl λ j a u ha hu=>by
    match j with
    | 0=>simp at ha hu;subst ha;subst hu;exact .mkBool _
    | 1=>simp at ha;subst ha;exact .top _
    | 2=>simp at ha;subst ha;exact .top _
    | j+3=>simp at ha
theorem Yw {x:Operand} {k:Nat} {ka va:Bool} {p:List D×List D} {left:List (List D×List D)} (hop:o.op=.entry x) (hx:Aj st.env x=.ptr k 0) (ho:obA st.objs k=some (.iter ka va (some p) left)) :
  M0 P nt o true st ⟨putA o.dst false true (.tup [kvV ka p.1,kvV va p.2]) st.env,st.objs⟩:=by
 intro N H0 F0 w0 a w _ hI hdst K Qw hK;obtain⟨F,ρ,hS,hSl,hn,hdf⟩:=hI;have hxr:=AO hSl x;rw[hx]at hxr;generalize hxv:a.eval x=xv at hxr;cases hxr with
 | ptr _ _ L hL=>
  obtain⟨⟨b0,bm,es,clock,since,seen,c0,h1,h2,h3,h4,h4',h5,_,h8⟩,gN,gF⟩:=hS.obj k L _ hL ho;obtain⟨e,s',q1,rfl,rfl,q4,q5⟩:=h8 p rfl;have hbm:w.heap[bm]?=some (.map es c0):=hS.frz bm _ h1;have hpt:(⟨L.b,L.base+0,none⟩:Addr)=⟨L.b,0,none⟩:=by rw[b0]
  have hx:(execOp a.eval o).run P w=.ok (.value (.tuple #[e.key,e.val])) w:=by
   simp only[execOp,hop,hxv,hpt,run_entry_at w L.b bm since s' es c0 e h2 hbm q1 h5,Jkv,Jkt,Jkw]
  unfold Oper.wp;rw[hx,Oper.upon_value];refine hK _ _ ⟨F,ρ,hS,hSl.putA hn hdst ?_,hn.put hdst,by rw[put_defers];exact hdf⟩;exact .tup _ _ rfl λ j a u ha hu=>by
   match j with
   | 0=>simp at ha hu;subst ha;subst hu;exact q4.val
   | 1=>simp at ha hu;subst ha;subst hu;exact q5.val
   | j+2=>simp at ha
def JfE (o:Oper) (xs:List AV) (nb:Nat) (R:AV->List (Option Ob)->Prop) (st:St) (st':St):Prop:=
 ∃ r O1,R r O1/\st'=⟨putA o.dst false true (Jv (CF (Az st.objs xs) st.objs.length nb) r) st.env,CG st.objs (Az st.objs xs) nb O1⟩
theorem Yx {f:FuncId} {xs:List AV} {nb:Nat} {R:AV->List (Option Ob)->Prop} (hgob:EK true (o.op.operands.toList.map (Aj st.env))) (hc:Fx (λ y=>unG (Aj st.env y)) o.op=(some f,xs))
  (hcall:G3 P f (xs.map (Hr (Az st.objs xs))) (D4 st.objs (Az st.objs xs)) nb R) (hnb:nb<=(Az st.objs xs).length) (hnb1:∀ r O1,R r O1->nb<=O1.length) (hord:∀ k∈Az st.objs xs,k<st.objs.length) :
  M3 P nt o st (JfE o xs nb R st):=by
 intro N H0 F0 w0 a w hI hdst rr n K Qw _ hK;obtain⟨F,ρ,hS,hSl,hn,hdf⟩:=hI;have hk:∀ r O1,R r O1->∀ v w' F' ρ'',FLe F F'->RLe ρ ρ''->Sim N H0 F0 F' ρ'' (CG st.objs (Az st.objs xs) nb O1) w'.heap->Ah F' ρ'' (Jv (CF (Az st.objs xs) st.objs.length nb) r) v->Mu w w'->K (a.put o.dst v) w':=
  λ r O1 hR v w' F' ρ'' hF hρ hS' hv hmu=>hK _ _ _ ⟨r,O1,hR,rfl⟩ ⟨F',ρ'',hS',(hSl.mono hF hρ).putA hn hdst hv,hn.put hdst,by rw[put_defers];exact⟨hdf.1.mono hF,hdf.2.1.trans hmu,hdf.2.2.mono hρ⟩⟩
 have hev:∀ y∈o.op.operands.toList,Ah F ρ (unG (Aj st.env y)) (a.eval y):=λ y hy=>BN rfl _ hgob _ (List.mem_map_of_mem hy) _ (AO hSl y);have hnd:∀ c,o.op≠.defer c:=λ c e=>by rw[e]at hc;cases hc
 unfold Fx at hc;split at hc
 ·rename_i f' args ts hop;cases hc;refine C8 hnd (NQ (vs:=args.map a.eval) (λ fn c hf hb hnm=>?_) hS (Gv (ev:=λ y=>unG (Aj st.env y)) λ y hy=>hev y (by rw[hop];simp[Op.operands,Call.operands];exact .inr (by simpa using hy))) hcall hnb hnb1 hord hk);simp only[execOp,hop,resolve,Act.eval,Deferred.ofValue,Jkv,Jkw,Jkt,invoke,callFunc,run_program,hf,hnm,hb,Jk0,if_false,Option.isNone_some,Array.empty_append,Array.append_empty]
 ·rename_i x args ts _ hop;split at hc
  ·rename_i f' l hx;have hx:unG (Aj st.env x)=.clo f' l:=hx;cases hc;have hxr:=hev x (by rw[hop];simp[Op.operands,Call.operands]);rw[hx]at hxr;generalize hxv:a.eval x=xv at hxr;cases hxr with
   | clo _ _ vs hl hr=>
    have hcr0:=Gv (args:=args) (a:=a) (ev:=λ y=>unG (Aj st.env y)) (λ y hy=>hev y (by rw[hop];simp[Op.operands,Call.operands];exact .inr (by simpa using hy)));refine C8 hnd (NQ (vs:=args.map a.eval++vs) (λ fn c hf hb hnm=>?_) hS ⟨by simp[hl],λ i y v hy hv=>?_⟩ hcall hnb hnb1 hord hk)
    ·simp only[execOp,hop,resolve,hxv,Deferred.ofValue,Jkv,Jkw,Jkt,invoke,callFunc,run_program,hf,hnm,hb,Jk0,if_false,Option.isNone_some,Array.empty_append]
    ·rw[Array.toList_append]at hv;have hl0:=hcr0.1;by_cases hi:i<(args.toList.map (λ y=>unG (Aj st.env y))).length
     ·rw[JkW hi]at hy;rw[JkW (by omega)]at hv;exact hcr0.2 i y v hy hv
     ·rw[Jk6 (by omega)]at hy;rw[Jk6 (by omega)]at hv;rw[← hl0]at hv;exact hr _ y v hy (by simpa using hv)
  ·cases hc
 ·cases hc
end Go.AI
end
section
namespace Go.AI
variable {P:Program}
theorem Yy {nt:Slt} {o:Oper} {st:St} {x:Operand} {tys:Array TypeId} {f:FuncId} {caps:List AV} (hop:o.op=.defer ⟨.value x,#[],tys⟩) (hgob:EK true (o.op.operands.toList.map (Aj st.env))) (hx:unG (Aj st.env x)=.clo f caps) (hd:o.dst=none) (hQ:(f,caps.length)∈nt.qf):NR P nt o true st st:=by
 intro N H0 F0 w0 a w _ hI hdst rd n K Qw hqr hK;have hrd:rd=none:=hqr (List.ne_nil_of_mem hQ);subst hrd;obtain⟨F,ρ,hS,hSl,hn,hdf,hmu,hrk⟩:=hI;have hxr:Ah F ρ (unG (Aj st.env x)) (a.eval x):=BN rfl _ hgob _ (List.mem_map_of_mem (by rw[hop];simp[Op.operands,Call.operands])) _ (AO hSl x);rw[hx]at hxr;generalize hxv:a.eval x=xv at hxr;cases hxr with
 | clo _ _ vs hl hr=>
  have hex:(execOp a.eval o).run P w=.ok (.defer (LO f vs)) w:=by
   simp only[execOp,hop,resolve,hxv,Deferred.ofValue,Jkv,Jkw,Jkt,LO];simp
  obtain⟨l,q1,q2,q3⟩:=hdf;refine⟨λ _ _=>trivial,?_⟩;show Oper.uponIn _ _ _ _ _ _ _ ((execOp a.eval o).run P w);rw[hex,Oper.uponIn_defer,hd];exact hK _ _ ⟨F,ρ,hS,hSl,hn,⟨l,.quiet (by rw[← hl];exact hQ) q1,q2,q3⟩,hmu,hrk⟩
end Go.AI
end
section
namespace Go.AI
variable {P:Program} {Γ:Cx} {C:Code} {p:List Nat} {Q:Ex->St->Prop} {s s':St} {i:Nat}
def dfB (nt:Slt) (c:Code) (i:Nat) (s:St):Bool:=match (A1 c)[i]? with
 | some o=>!KL c&&o.guard.isNone&&o.dst.isNone&&(match o.op with
  | .defer ⟨.value x,args,_⟩=>args.isEmpty&&(match Aj s.env x with
   | .clo f caps=>nt.qf.any λ q=>Nat.beq q.1 f&&Nat.beq q.2 caps.length
   | _=>false)
  | _=>false)
 | none=>false
theorem xd (hX:XOK P Γ) (hk:RF Γ C p (i+1) Q s) (h:dfB Γ.nt (nav p C) i s=true:=by kernel_rfl):RF Γ C p i Q s:=by
 unfold dfB at h;split at h
 ·rename_i o ho;simp only[JkP,Bool.not_eq_true']at h;obtain⟨⟨⟨h1,h2⟩,h3⟩,h4⟩:=h;split at h4
  ·rename_i x args tys hop;simp only[JkP]at h4;obtain⟨ha,h4⟩:=h4;have hae:args=#[]:=by simpa using ha
   subst hae;split at h4
   ·rename_i f caps hx;obtain⟨q,hq,hq2⟩:=List.any_eq_true.mp h4;simp only[JkP]at hq2;have e1:=JkV hq2.1;have e2:=JkV hq2.2;have hQ:(f,caps.length)∈Γ.nt.qf:=by rw[← e1,← e2];exact hq
    have hgN:o.guard=none:=by simpa using h2
    have hdN:o.dst=none:=by simpa using h3
    refine⟨?_⟩;have hk:=hk.out;unfold A0 at hk⊢;rw[Cr ho];show AQ _ _ _ _ _ _;unfold AQ;rw[hgN];simp only[Bp,hdN,Bz,JkB,cond_false];refine⟨λ _=>.inr (.inr ⟨h1,.inl ⟨s,?_,hk⟩⟩),λ h=>by cases h⟩;rw[hX.ext];refine Yy hop ?_ (by rw[hx];rfl) hdN hQ;rw[hop];simp[Op.operands,Call.operands,hx,EK]
   ·cases h4
  ·cases h4
 ·cases h
end Go.AI
end
section
namespace Go.AI
variable {s:St} {nk:Nat} {α β:Type} {enc:β->List D}
theorem JdV (e:β->List D) (esz:Nat) {xs zs:List β} {l:Int} (hz:sub xs l ((xs.length:Nat):Int)=some zs) (hl:∀ y,(e y).length=esz:=by intro _;rfl):EQ s (A6 (.d (.sl (((xs.map e).take (((xs.map e).length:Nat):Int).toNat).drop l.toNat))) (0<=l/\l<=(((xs.map e).length:Nat):Int)/\(((xs.map e).length:Nat):Int)<=(xs.map e).length/\∀ y∈xs.map e,y.length=esz)) (.d (.sl (zs.map e))) [] [] none:=by
 have h0:(((xs.map e).length:Nat):Int)=((xs.length:Nat):Int):=by rw[JkJ]
 rw[h0];have:=Jaj (s:=s) e esz hz hl;rw[h0]at this;exact this
theorem Jas {P:Program} {Γ:Nat->Ty} {nt:Slt} {o:Oper} {st:St} (hΓ:GU P Γ) {s t:TypeId} {x:Operand} {eb:Nat} {es:List (List D)} {ob:Prop} (hop:o.op=.convert s t x) (hs:(Γ s).ok=true) (ht:(Γ t).ok=true) (hks:(Γ s).kind=.slice 1 eb [.int .u8 0]) (hkt:(Γ t).kind=.string)
  (hgob:EK true (o.op.operands.toList.map (Aj st.env))) (hel:Fb st.objs (unG (Aj st.env x))=some (es,ob)) (hob:ob) (hby:∀ e∈es,MS e):M0 P nt o true st ⟨putA o.dst false true (.d (.str (es.map Li))) st.env,st.objs⟩:=by
 intro N H0 F0 w0 a w _ hI hdst K Qw hK;obtain⟨F,ρ,hS,hSl,hn,hdf⟩:=hI;obtain⟨d,hd,_,hk⟩:=(hΓ s hs).desc;obtain⟨d',hd',_,hk'⟩:=(hΓ t ht).desc;rw[hks]at hk;rw[hkt]at hk';obtain⟨elem,i,z,rfl,_,_,_,_,_,_,_,hu⟩:=hk;cases hk';have hxr:Ah F ρ (unG (Aj st.env x)) (a.eval x):=BN rfl _ hgob _ (List.mem_map_of_mem (by rw[hop];simp[Op.operands])) _ (AO hSl x);obtain⟨v,hr,hv⟩:=JeA (P:=P) (objs:=st.objs) hS (λ _ _ h=>h) hd (hu rfl) hd' hel hob hby hxr;have hr:(execOp a.eval o).run P w=.ok (.value v) w:=by
  simp only[execOp,hop,Jkv,hr,Jkt,Jkw]
 unfold Oper.wp;rw[hr,Oper.upon_value];exact hK _ _ ⟨F,ρ,hS,hSl.putA hn hdst hv,hn.put hdst,by rw[put_defers];exact hdf⟩
def nxV (Γ:Cx) (c:Code) (i:Nat) (g:Bool) (z:List UInt8) (s:St):Option St:=
 match (A1 c)[i]? with
 | some o=>bif JfC Γ c o then some ⟨putA o.dst o.guard.isSome g (.d (.str z)) s.env,s.objs⟩else none
 | none=>none
def cvA (Γ:Cx) (c:Code) (i:Nat) (s:St):Option (AV×Nat):=
 match (A1 c)[i]? with
 | some o=>match o.op with
  | .convert a b x=>match (Γ.ty a).kind,(Γ.ty b).kind with
   | .slice 1 eb [.int .u8 0],.string=>bif (Γ.ty a).ok&&(Γ.ty b).ok then some (unG (Aj s.env x),eb)else none
   | _,_=>none
  | _=>none
 | none=>none
theorem xv {Γ:Cx} {P:Program} {C:Code} {p:List Nat} {Q:Ex->St->Prop} {i:Nat} (hX:XOK P Γ) {g:Bool} (hgt:g=true) {gs:List Bool} (hi:Em g gs) (k:Nat) {bs:List Int} {z:List UInt8} (hz:Uq bs=some z) (hk:RF Γ C p (i+1) Q ((nxV Γ (nav p C) i g z s).getD s)) (hg:gY (nav p C) i s=some g:=by kernel_rfl) (hgs:EO (nav p C) i s=gs:=by kernel_rfl)
  (hc:(cvA Γ (nav p C) i s).map Prod.fst=some (.osl k 1 0 bs.length):=by kernel_rfl) (ho:N3 s k=some (1,bs.map λ n=>[D.int .u8 n]):=by kernel_rfl) (hn:(nxV Γ (nav p C) i g z s).isSome=true:=by kernel_rfl):RF Γ C p i Q s:=by
 have hn:=Bw (d:=s) hn;generalize (nxV Γ (nav p C) i g z s).getD s=s' at hn hk;obtain⟨⟨u,eb⟩,hc,hu⟩:=JkR.1 hc;cases hu;unfold cvA at hc;unfold nxV at hn;split at hn
 ·rename_i o hoo;rw[hoo]at hc;simp only at hc;obtain⟨h0,hn⟩:=AF hn;cases hn;split at hc
  ·rename_i a b x hop;split at hc
   ·rename_i eb' hka hkb;obtain⟨h1,hc⟩:=AF hc;simp only[JkP]at h1;simp only[JkY,Prod.mk.injEq]at hc;obtain⟨hcx,rfl⟩:=hc;have hgob:EK true (o.op.operands.toList.map (Aj s.env)):=by
     subst hgs;unfold EO at hi;rw[hoo]at hi;rw[← hgt];exact JI hi
    unfold Uq at hz;split at hz
    ·rename_i hall;cases hz;simp only[Jky,JkP,decide_eq_true_eq]at hall;have hby:∀ e∈bs.map λ n=>[D.int .u8 n],MS e:=λ e he=>by
      simp only[JkG]at he;obtain⟨n,hn,rfl⟩:=he;obtain⟨q1,q2⟩:=hall n hn;refine⟨UInt8.ofNat n.toNat,?_⟩;have:(UInt8.ofNat n.toNat).toNat=n.toNat:=by simp;omega
      rw[this];congr 2;omega
     have hmap:(bs.map λ n=>[D.int .u8 n]).map Li=bs.map λ n=>UInt8.ofNat n.toNat:=by
      rw[List.map_map];rfl
     have hel:Fb s.objs (unG (Aj s.env x))=some (bs.map λ n=>[D.int .u8 n],0+bs.length<=(bs.map λ n=>[D.int .u8 n]).length):=by
      rw[hcx];simp only[Fb,Md ho,Nat.beq_refl,cond_true];rw[Di]
     have:=Jas (P:=P) (Γ:=Γ.ty) (nt:=Γ.nt) (o:=o) (st:=s) hX.ty hop h1.1 h1.2 hka hkb hgob hel (by simp) hby
     rw[hmap]at this;exact Yt hX hoo h0 hg hgt (Jaq (this.ok (by rw[hop];rfl))) hk
    ·cases hz
   ·cases hc
  ·cases hc
 ·cases hn
end Go.AI
end
section
namespace Go.AI
variable {Γ:Cx} {C:Code} {p:List Nat} {Q:Ex->St->Prop} {s s':St} {K:St->Prop} {i:Nat} {nk:Nat}
variable {α β ζ:Type}
def xX {σ:Type} (nk k:Nat) (st:σ->St):σ->Ex->St->Prop:=λ y e s=>e=Ex.exit k/\Ar nk s (st y)
def xR {σ:Type} (ty:Nat->Ty) (fn:Func) (r:σ->AV):σ->Ex->St->Prop:=λ y e s=>e=Ex.ret/\RA ty fn.results.toList (r y) s
def xL {σ:Type} (nk:Nat) (ty:Nat->Ty) (fn:Func) (r:σ->AV) (O:σ->List (Option Ob)):σ->Ex->St->Prop:=λ y e s=>e=Ex.ret/\RL nk ty fn.results.toList (r y) (O y) s
def xS {σ τ:Type} (a:σ->Ex->St->Prop) (b:τ->Ex->St->Prop):σ⊕τ->Ex->St->Prop
 | .inl y=>a y
 | .inr y=>b y
variable {σ ρ τ:Type} {st:σ->St} {E:ρ->Ex->St->Prop}
theorem xo {r:ρ} {k nk':Nat} {st':τ->St} {y:τ} (hE:E r=xX nk' k st' y) (h:Ar nk' s (st' y)):PQ (AU nk st E (.inr r)) (.exit k) s:=oe (by rw[hE];exact⟨rfl,h⟩)
theorem ro {r:ρ} {ty:Nat->Ty} {fn:Func} {f:τ->AV} {y:τ} (hE:E r=xR ty fn f y) (h:RA ty fn.results.toList (f y) s):PQ (AU nk st E (.inr r)) .ret s:=or (by rw[hE];exact⟨rfl,h⟩)
theorem lo {r:ρ} {nk':Nat} {ty:Nat->Ty} {fn:Func} {f:τ->AV} {O:τ->List (Option Ob)} {y:τ} (hE:E r=xL nk' ty fn f O y) (h:RL nk' ty fn.results.toList (f y) (O y) s):PQ (AU nk st E (.inr r)) .ret s:=or (by rw[hE];exact⟨rfl,h⟩)
theorem lX {body:σ->Option (σ⊕ρ)} {n:Nat} {x:σ} {r:ρ} {k nk':Nat} {st':τ->St} {y:τ} (hb:∀ x z,body x=some z->WP Γ C (p++[0]) (AU nk' st E z) (st x)) (hr:whl body n x=some r) (hs:Ar nk' s (st x)) (hE:E r=xX nk' k st' y)
  (hk:∀ s,Ar nk' s (st' y)->PQ Q (.exit k) s) (hn:Γ.nt.nk=nk':=by rfl) (h:Nc (nav p C)=true:=by kernel_rfl):WP Γ C p Q s:=by
 subst hn;exact lp st E hr hs hb (λ e s he=>by rw[hE]at he;obtain⟨rfl,he⟩:=he;exact hk s he) h
theorem lR {body:σ->Option (σ⊕ρ)} {n:Nat} {x:σ} {r:ρ} {nk':Nat} {ty:Nat->Ty} {fn:Func} {f:τ->AV} {y:τ} (hb:∀ x z,body x=some z->WP Γ C (p++[0]) (AU nk' st E z) (st x)) (hr:whl body n x=some r) (hs:Ar nk' s (st x)) (hE:E r=xR ty fn f y)
  (hk:∀ s,RA ty fn.results.toList (f y) s->PQ Q .ret s) (hn:Γ.nt.nk=nk':=by rfl) (h:Nc (nav p C)=true:=by kernel_rfl):WP Γ C p Q s:=by
 subst hn;exact lp st E hr hs hb (λ e s he=>by rw[hE]at he;obtain⟨rfl,he⟩:=he;exact hk s he) h
theorem lL {body:σ->Option (σ⊕ρ)} {n:Nat} {x:σ} {r:ρ} {nk' nk2:Nat} {ty:Nat->Ty} {fn:Func} {f:τ->AV} {O:τ->List (Option Ob)} {y:τ} (hb:∀ x z,body x=some z->WP Γ C (p++[0]) (AU nk' st E z) (st x)) (hr:whl body n x=some r) (hs:Ar nk' s (st x)) (hE:E r=xL nk2 ty fn f O y)
  (hk:∀ s,RL nk2 ty fn.results.toList (f y) (O y) s->PQ Q .ret s) (hn:Γ.nt.nk=nk':=by rfl) (h:Nc (nav p C)=true:=by kernel_rfl):WP Γ C p Q s:=by
 subst hn;exact lp st E hr hs hb (λ e s he=>by rw[hE]at he;obtain⟨rfl,he⟩:=he;exact hk s he) h
def g0 (c:Code) (i:Nat) (s:St):Bool:=(gAt c i s).getD false
theorem sE {g:Bool} {v:AV} {obs:List Ob} {x:Option Eff} (ho:g=true->EQ s x v obs [] none) (hk:RF Γ C p (i+1) Q ((JJ Γ (nav p C) i g v obs s).getD s)) (hg:gAt (nav p C) i s=some g:=by kernel_rfl) (hx:Nb Γ (nav p C) i s=x:=by kernel_rfl) (hgs:EO (nav p C) i s=List.replicate (EO (nav p C) i s).length g:=by kernel_rfl) (hn:(JJ Γ (nav p C) i g v obs s).isSome=true:=by kernel_rfl):RF Γ C p i Q s:=
 sG (gs:=EO (nav p C) i s) ho (RJ λ b hb=>by rw[hgs]at hb;exact List.eq_of_mem_replicate hb) hk hg hx rfl hn
theorem oi {a z:ζ} (h:some a=some z):a=z:=Option.some.inj h
theorem lsS (xs:List α) (n:Nat) (y:α):xs.length=(xs.set n y).length:=List.length_set.symm
theorem tr {s1 s2 s3:St} (h:Ar nk s1 s2) (h':Ar nk s2 s3):Ar nk s1 s3:=Ar.trans h h'
theorem sg (ts:List Nat) (h:gcA nk ts s=s':=by kernel_rfl):Ar nk s s':=JeD ts h
theorem gP (ts ord:List Nat) {raw:List (Option Ob)} (hp:Pl (Ik ord) raw s'.objs) (h:gcA nk ts s=⟨s'.env,raw⟩:=by kernel_rfl):Ar nk s s':=Jfv ts ord hp h
theorem sn (t k sz:Nat) {n m:Nat} (e:n=m) (h:lkA s.env t=.osl k sz 0 n:=by kernel_rfl):Ar nk s ⟨(t,.osl k sz 0 m)::s.env,s.objs⟩:=Jfj t k sz 0 n m h e
theorem snc (b i k sz:Nat) {n m:Nat} (e:n=m) (h:(K2 s b,(EP s b)[i]?)=(true,some (.osl k sz 0 n)):=by kernel_rfl):Ar nk s ⟨s.env,s.objs.set b (some (.box ((EP s b).set i (.osl k sz 0 m))))⟩:=JdK b i k sz n m h e
theorem so1 {encN:α->List AV} (k sz:Nat) {xss:List α} {x:α} {n:Int} (hx:idx xss n=some x) (h:DY s k=some (sz,xss.map encN):=by kernel_rfl):Ar nk s ⟨s.env,s.objs.set k (some (.narr sz ((xss.map encN).set n.toNat (encN x))))⟩:=JeG k h hx
theorem fz {enc:α->List D} {xs:List α} (t k sz:Nat) (h:N0 s (lkA s.env t)=some (k,sz,0,xs.length,xs.map enc):=by kernel_rfl):Ar nk s ⟨(t,.d (.sl (xs.map enc)))::s.env,s.objs.set k none⟩:=Jfi t _ h Di (by simp)
theorem fzc {enc:α->List D} {xs:List α} (kb i k sz:Nat) (h:(K2 s kb,((EP s kb)[i]?).bind (N0 s))=(true,some (k,sz,0,xs.length,xs.map enc)):=by kernel_rfl):Ar nk s ⟨s.env,(s.objs.set k none).set kb (some (.box ((EP s kb).set i (.d (.sl (xs.map enc))))))⟩:=Jdu kb i _ h Di (by simp)
theorem sni {encN:α->List AV} {xs:List α} {n:Int} {enc:β->List D} (row:List AV) (zs:List β) (sz k j m isz:Nat) (h:(DY s k,N3 s m)=(some (sz,(xs.map encN).set n.toNat row),some (isz,zs.map enc)):=by kernel_rfl) (hj:row[j]?=some (.osl m isz 0 zs.length):=by kernel_rfl) :
  Ar nk s ⟨s.env,(s.objs.set m none).set k (some (.narr sz ((xs.map encN).set n.toNat (row.set j (.own isz (zs.map enc))))))⟩:=JdJ k j m isz _ h hj rfl
theorem sno {encN:α->List AV} {xss:List α} {x:α} {n:Int} {enc:β->List D} (hx:idx xss n=some x) (row:List AV) (ys:List β) (sz k j isz:Nat) (h:DY s k=some (sz,(xss.map encN).set n.toNat row):=by kernel_rfl) (hj:row[j]?=some (.own isz (ys.map enc)):=by kernel_rfl) (hz:Nat.beq isz 0=false:=by kernel_rfl) :
  Ar nk s ⟨s.env,s.objs.set k (some (.narr sz ((xss.map encN).set n.toNat (row.set j (.osl s.objs.length isz 0 ys.length)))))++[some (.arr isz (ys.map enc))]⟩:=JdH k j isz _ (ltN hx) h hj rfl hz
theorem scl {encN:α->List AV} {xss:List α} (n:Int) (row:List AV) (sz k:Nat) (y:α) (h:DY s k=some (sz,(xss.map encN).set n.toNat row):=by kernel_rfl) (hy:row=encN y:=by kernel_rfl):Ar nk s ⟨s.env,s.objs.set k (some (.narr sz ((xss.set n.toNat y).map encN)))⟩:=Jfw k y h hy
theorem po1 {f:AV->AV} {o:Option Ob} {l m:List (Option Ob)} (h:Pl f l m):Pl f (o::l) (o::m):=Pl.o o h
theorem pn1 {f:AV->AV} (encN:α->List AV) (xss:List α) {sz:Nat} {l m:List (Option Ob)} (h:Pl f l m) (hc:∀ x,(encN x).map f=encN x:=by first|(intro _;rfl)|(rintro⟨_|_,_⟩<;>rfl)|(rintro (_|⟨_|_,_⟩)<;>rfl)):Pl f (some (.narr sz ((xss.map encN).map λ e=>e.map f))::l) (some (.narr sz (xss.map encN))::m):=Pl.n sz (nrM hc) h
attribute [irreducible] xL
end Go.AI
end
section
namespace Go.AI
variable {α ε σ ρ ζ ξ:Type}
open Classical in
noncomputable def dem (S:α->Prop) (k:α->Option ζ):Option ζ:=if h:∃ z,(∃ a,S a)/\∀ a,S a->k a=some z then some h.choose else none
theorem ST {S:α->Prop} {k:α->Option ζ} {z:ζ} (h:dem S k=some z):∀ a,S a->k a=some z:=by
 unfold dem at h;split at h
 ·rename_i hx;cases h;exact hx.choose_spec.2
 ·cases h
theorem Jat {S:α->Prop} {k:α->Option ζ} {z:ζ} (h0:∃ a,S a) (h:∀ a,S a->k a=some z):dem S k=some z:=by
 have hx:∃ z,(∃ a,S a)/\∀ a,S a->k a=some z:=⟨z,h0,h⟩;unfold dem;rw[dif_pos hx];obtain⟨a,ha⟩:=h0;have h1:=hx.choose_spec.2 a ha;rw[h a ha]at h1;exact h1.symm
def mapW (F:ε->σ->Option (σ⊕ρ)):List ε->σ->Option (σ⊕ρ)
 | [],x=>some (.inl x)
 | e::l,x=>match F e x with
  | none=>none
  | some (.inl y)=>mapW F l y
  | some (.inr r)=>some (.inr r)
theorem Yz {F:ε->σ->Option (σ⊕ρ)} {e:ε} {l:List ε} {x:σ} {z:σ⊕ρ} (h:mapW F (e::l) x=some z):∃ y,F e x=some y:=by
 unfold mapW at h;split at h
 ·cases h
 ·rename_i y hy;exact⟨_,hy⟩
 ·rename_i y hy;exact⟨_,hy⟩
end Go.AI
end
section
namespace Go.AI
variable {P:Program} {Γ:Cx} {C:Code} {p:List Nat} {Q:Ex->St->Prop} {s s':St} {K:St->Prop} {i nk:Nat}
variable {α β ζ ε σ ρ τ:Type}
theorem bE {X:Option ζ} {G:Prop} (h:∃ z,X=some z) (k:∀ z,X=some z->G):G:=by obtain⟨z,h⟩:=h;exact k z h
theorem JfF {l l1 l2:List ε} {e:ε} (h:l=l1++e::l2):e∈l:=by subst h;simp
def ndQ (Γ:Cx) (c:Code) (i:Nat) (Q:Ex->St->Prop):Ex->St->Prop:=λ _ s=>∃ o,(A1 c)[i]?=some o/\Jh3 Γ o (λ s'=>GT Γ false (A1 c) ((A1 c).drop (i+1)) (Q .normal) s') s
structure ND (Γ:Cx) (c:Code) (i:Nat) (Q:Ex->St->Prop) (s:St):Prop where
 out:ndQ Γ c i Q .normal s
theorem YA {m:Nat} {ops:List Oper}:∀ (l:List Oper) (Q:St->Prop) (s:St),GT Γ false (ops.take m) l Q s->GT Γ false ops l Q s:=by
 intro l;induction l with
 | nil=>intro Q s h;exact h
 | cons o l ih=>intro Q s h;exact Gx (ih Q) (PO h)
theorem rn (m:Nat) (hs:Ar Γ.nt.nk s s') (hk:RF Γ (F3 m (nav p C)) [] 0 (ndQ Γ (nav p C) m (SF C p s' Q)) s') (h:(JH (nav p C)&&!KL (nav p C))=true:=by kernel_rfl):WP Γ C p Q s:=by
 refine⟨?_⟩;have hk:=hk.out;unfold A0 at hk;simp only[nav,List.drop_zero]at hk;unfold SF at hk;generalize nav p C=c at *;cases c with
 | region id ops d=>
  simp only[JH,KL,Bool.true_and,Bool.not_eq_true']at h;subst h;refine⟨s',hs,.inr (.inr ⟨rfl,?_⟩)⟩;have hk:GT Γ false (ops.toList.take m) (ops.toList.take m) _ s':=hk;have hk:=YA _ _ _ hk;by_cases hm:m<ops.toList.length
  ·refine⟨m,ops.toList[m],JkO hm,Eu (λ s1 h1=>?_) _ _ hk⟩;obtain⟨o,ho,h1⟩:=h1;rw[show A1 (.region id ops false)=ops.toList from rfl,JkO hm]at ho;cases ho;obtain⟨q1,q2,S,q3,q4⟩:=h1;exact⟨q1,q2,S,q3,λ st' hst=>Eu (λ s2 h2=>h2.2) _ _ (q4 st' hst)⟩
  ·exfalso;obtain⟨S,_,_,hQS⟩:=Fh _ _ _ hk;obtain⟨o,ho,_⟩:=hQS;rw[show A1 (.region id ops false)=ops.toList from rfl,Jk9 (by omega)]at ho;cases ho
 | _=>cases h
theorem nd0 {c:Code} {m:Nat} (hk:ND Γ c m Q s) (hi:Nat.ble (A1 (F3 m c)).length i=true:=by kernel_rfl):RF Γ (F3 m c) [] i (ndQ Γ c m Q) s:=⟨Na i hi hk.out⟩
structure YOK (P:Program) (Γ:Cx):Prop where
 exn:Γ.exn=M3 P
def Jau (Γ:Cx) (c:Code) (o:Oper):Bool:=!KL c&&o.guard.isNone&&Bz Γ.nt o.dst
theorem Uz (hY:YOK P Γ) {o:Oper} {S:St->Prop} (ho:(A1 (nav p C))[i]?=some o) (h0:Jau Γ (nav p C) o=true) (hx:M3 P Γ.nt o s S) (hk:∀ s',S s'->RF Γ C p (i+1) Q s'):ND Γ (nav p C) i Q s:=by
 simp only[Jau,JkP,Bool.not_eq_true']at h0;obtain⟨⟨h1,h2⟩,h3⟩:=h0;refine⟨o,ho,by simpa using h2,h3,S,by rw[hY.exn];exact hx,λ s' hs=>?_⟩;have:=(hk s' hs).out;unfold A0 at this;rw[h1]at this;exact this
def Jip (objs:List (Option Ob)) (k:Nat):Option (Bool×Bool×List (List D×List D)):=match obA objs k with
 | some (.iter ka va _ l)=>some (ka,va,l)
 | _=>none
def itB (Γ:Cx) (c:Code) (i k:Nat) (s:St):Bool:=match (A1 c)[i]? with
 | some o=>Jau Γ c o&&(match o.op with
  | .next x b=>!b&&(match Aj s.env x with
   | .ptr k' off=>Nat.beq k' k&&Nat.beq off 0
   | _=>false)
  | _=>false)
 | none=>false
def itD (c:Code) (i:Nat):Option Tmp:=match (A1 c)[i]? with
 | some o=>o.dst
 | none=>none
theorem nxt (hY:YOK P Γ) (k:Nat) {κ:Type} {encK:κ->List D} {enc:α->List D} {ka va:Bool} {m:List (κ×α)} (h0:m=[]->RF Γ C p (i+1) Q ⟨putA (itD (nav p C) i) false true (.tup [.d (.bool false)]) s.env,s.objs⟩)
  (h1:∀ e m1 m2,m=m1++e::m2->RF Γ C p (i+1) Q ⟨putA (itD (nav p C) i) false true (.tup [.d (.bool true),.top,.top]) s.env,s.objs.set k (some (.iter ka va (some (encK e.1,enc e.2)) (Bu encK enc (m1++m2))))⟩)
  (hb:itB Γ (nav p C) i k s=true:=by kernel_rfl) (hm:Jip s.objs k=some (ka,va,Bu encK enc m):=by kernel_rfl):ND Γ (nav p C) i Q s:=by
 unfold itB at hb;unfold itD at h0 h1;unfold Jip at hm;split at hb
 ·rename_i o ho;rw[ho]at h0 h1;simp only[JkP]at hb;obtain⟨hb1,hb2⟩:=hb;split at hb2
  ·rename_i x b hop;simp only[JkP,Bool.not_eq_true']at hb2;obtain⟨rfl,hb2⟩:=hb2;split at hb2
   ·rename_i k' off hx;simp only[JkP]at hb2;have e1:=JkV hb2.1;have e2:=JkV hb2.2;subst e1;subst e2;split at hm
    ·rename_i ka' va' cur l hob;cases hm;refine Uz hY ho hb1 (Jar hop hx hob) λ s' hs=>?_;rcases hs with⟨hl,rfl⟩|⟨l1,e,l2,hl,rfl⟩
     ·refine h0 ?_;cases m with
      | nil=>rfl
      | cons _ _=>cases hl
     ·obtain⟨m1,r,hm1,rfl,hr⟩:=List.map_eq_append_iff.1 (show Bu encK enc m=l1++e::l2 from hl);obtain⟨e',m2,rfl,rfl,rfl⟩:=List.map_eq_cons_iff.1 hr;have:=h1 e' m1 m2 hm1;unfold Bu at this;rw[List.map_append]at this;exact this
    ·cases hm
   ·cases hb2
  ·cases hb2
 ·cases hb
def nxR (Γ:Cx) (c:Code) (i:Nat) (s:St):Option St:=match (A1 c)[i]? with
 | some o=>bif Wb Γ c o then(match o.op with
  | .range t x=>bif (Γ.ty t).ok then(match (Γ.ty t).kind,Aj s.env x with
   | .map _ _ _ _,.mp k=>match obA s.objs k with
    | some (.map ka va ents)=>some ⟨putA o.dst false true (.ptr s.objs.length 0) s.env,s.objs.set k none++[some (.iter ka va none ents)]⟩
    | _=>none
   | .map _ _ _ _,.fmp E=>some ⟨putA o.dst false true (.ptr s.objs.length 0) s.env,s.objs++[some (.iter false false none (Oe E))]⟩
   | _,_=>none)else none
  | .entry x=>match Aj s.env x with
   | .ptr k 0=>match obA s.objs k with
    | some (.iter ka va (some e) _)=>some ⟨putA o.dst false true (.tup [kvV ka e.1,kvV va e.2]) s.env,s.objs⟩
    | _=>none
   | _=>none
  | _=>none)else none
 | none=>none
theorem xr (hX:XOK P Γ) (hk:RF Γ C p (i+1) Q ((nxR Γ (nav p C) i s).getD s)) (h:(nxR Γ (nav p C) i s).isSome=true:=by kernel_rfl):RF Γ C p i Q s:=by
 have h:=Bw (d:=s) h;generalize (nxR Γ (nav p C) i s).getD s=s' at h hk;unfold nxR at h;split at h
 ·rename_i o ho;obtain⟨h0,h⟩:=AF h;split at h
  ·rename_i t x hop;obtain⟨h1,h⟩:=AF h;split at h
   ·rename_i ks ka' va' vz k hkd hx;split at h
    ·rename_i ka va ents hob;cases h;exact FM hX ho h0 (Yv hX.ty hop h1 hkd hx hob) hk
    ·cases h
   ·rename_i ks ka' va' vz E hkd hx;cases h;exact FM hX ho h0 (Wg hX.ty hop h1 hkd hx) hk
   ·cases h
  ·rename_i x hop;split at h
   ·rename_i k hx;split at h
    ·rename_i ka va e l hob;cases h;exact FM hX ho h0 (Yw hop hx hob) hk
    ·cases h
   ·cases h
  ·cases h
 ·cases h
theorem cT (hk:WP Γ C (p++[0]) Q s) (h:SO (nav p C)=true:=by kernel_rfl) (hc:Aj s.env (M9 (nav p C))=.d (.bool true):=by kernel_rfl):WP Γ C p Q s:=⟨SE true (PL h) hc (λ _=>hk.out) (λ e=>by cases e)⟩
theorem cF (hk:WP Γ C (p++[1]) Q s) (h:SO (nav p C)=true:=by kernel_rfl) (hc:Aj s.env (M9 (nav p C))=.d (.bool false):=by kernel_rfl):WP Γ C p Q s:=⟨SE false (PL h) hc (λ e=>by cases e) (λ _=>hk.out)⟩
def YB (nk:Nat) (st:List ε->σ->St) (E0:σ->Ex->St->Prop) (E:ρ->Ex->St->Prop) (F:ε->σ->Option (σ⊕ρ)) (l:List ε) (x:σ):Ex->St->Prop
 | .normal,s=>∃ l1 e l2 y,l=l1++e::l2/\F e x=some (.inl y)/\Ar nk s (st (l1++l2) y)
 | ex,s=>(l=[]/\E0 x ex s)\/∃ l1 e l2 r,l=l1++e::l2/\F e x=some (.inr r)/\E r ex s
theorem mg {st:List ε->σ->St} {E0:σ->Ex->St->Prop} {E:ρ->Ex->St->Prop} {F:ε->σ->Option (σ⊕ρ)} {l l1 l2:List ε} {e:ε} {x y:σ} (hl:l=l1++e::l2) (hF:F e x=some (.inl y)) (h:Ar nk s (st (l1++l2) y)):PQ (YB nk st E0 E F l x) .normal s:=⟨⟨l1,e,l2,y,hl,hF,h⟩⟩
theorem mE {st:List ε->σ->St} {E0:σ->Ex->St->Prop} {E:ρ->Ex->St->Prop} {F:ε->σ->Option (σ⊕ρ)} {l:List ε} {x:σ} {k nk':Nat} {st':τ->St} {y:τ} (hl:l=[]) (hE:E0 x=xX nk' k st' y) (h:Ar nk' s (st' y)):PQ (YB nk st E0 E F l x) (.exit k) s:=⟨.inl ⟨hl,by rw[hE];exact⟨rfl,h⟩⟩⟩
theorem Jav {F:ε->σ->Option (σ⊕ρ)} {e:ε} {x y:σ} {done:List ε} (h:∀ rest,mapW F (done++rest) x=mapW F rest y) {y':σ} (hF:F e y=some (.inl y')):∀ rest,mapW F ((done++[e])++rest) x=mapW F rest y':=λ rest=>by
 rw[List.append_assoc,List.singleton_append,h];simp only[mapW,hF]
theorem lM {F:ε->σ->Option (σ⊕ρ)} {st:List ε->σ->St} {E0:σ->Ex->St->Prop} {E:ρ->Ex->St->Prop} {l:List ε} {x:σ} {nk':Nat} (hb:∀ l x,(∀ e,e∈l->∃ z,F e x=some z)->WP Γ C (p++[0]) (YB nk' st E0 E F l x) (st l x)) (hs:Ar nk' s (st l x))
  (hr:∀ ord,ord.Perm l->∃ r,mapW F ord x=some r) (hE0:∀ ord y,ord.Perm l->mapW F ord x=some (.inl y)->∀ e s,E0 y e s->PQ Q e s) (hE:∀ ord r,ord.Perm l->mapW F ord x=some (.inr r)->∀ e s,E r e s->PQ Q e s)
  (hn:Γ.nt.nk=nk':=by rfl) (h:Nc (nav p C)=true:=by kernel_rfl):WP Γ C p Q s:=by
 subst hn;refine⟨?_⟩;rw[Uv h];refine⟨λ m s=>∃ done l' y,s=st l' y/\(done++l').Perm l/\(∀ rest,mapW F (done++rest) x=mapW F rest y)/\m=l'.length,l.length,⟨_,hs,[],l,x,rfl,List.Perm.refl _,λ _=>rfl,rfl⟩,?_⟩;rintro m _ ⟨done,l',y,rfl,hp,hd,rfl⟩;have hdef:∀ e,e∈l'->∃ z,F e y=some z:=λ e he=>by
  obtain⟨l1,l2,rfl⟩:=List.append_of_mem he;obtain⟨r,hr⟩:=hr (done++e::(l1++l2)) ((List.Perm.append_left done List.perm_middle.symm).trans hp);rw[hd]at hr;exact Yz hr
 refine PD ?_ (hb l' y hdef).out;intro e s' hq;cases e with
 | normal=>
  obtain⟨l1,e,l2,y',rfl,hF,hsh⟩:=hq;refine⟨(l1++l2).length,_,by simp,hsh,done++[e],l1++l2,y',rfl,?_,Jav hd hF,rfl⟩;rw[List.append_assoc,List.singleton_append];exact(List.Perm.append_left done List.perm_middle.symm).trans hp
 | exit k=>
  rcases hq with⟨rfl,hq⟩|⟨l1,e,l2,r,rfl,hF,hq⟩
  ·rw[List.append_nil]at hp;have hm:mapW F done x=some (.inl y):=by have:=hd [];rw[List.append_nil]at this;rw[this];rfl
   exact(hE0 done y hp hm _ _ hq).out
  ·have hm:mapW F (done++e::(l1++l2)) x=some (.inr r):=by rw[hd];simp only[mapW,hF]
   exact(hE _ r ((List.Perm.append_left done List.perm_middle.symm).trans hp) hm _ _ hq).out
 | ret=>
  rcases hq with⟨rfl,hq⟩|⟨l1,e,l2,r,rfl,hF,hq⟩
  ·rw[List.append_nil]at hp;have hm:mapW F done x=some (.inl y):=by have:=hd [];rw[List.append_nil]at this;rw[this];rfl
   exact(hE0 done y hp hm _ _ hq).out
  ·have hm:mapW F (done++e::(l1++l2)) x=some (.inr r):=by rw[hd];simp only[mapW,hF]
   exact(hE _ r ((List.Perm.append_left done List.perm_middle.symm).trans hp) hm _ _ hq).out
theorem bI {x:Option α} {f:α->Option β} {r:β} (h:x.bind f=some r):∃ a,x=some a:=by
 cases x with
 | none=>cases h
 | some a=>exact⟨a,rfl⟩
theorem bK {x:Option α} {f:α->Option β} {r:β} {a:α} (h:x.bind f=some r) (hx:x=some a):f a=some r:=by subst hx;exact h
theorem xQ {nk' k:Nat} {st':τ->St} {y:τ} {e:Ex} {G:Prop} (h:xX nk' k st' y e s) (hk:e=.exit k->Ar nk' s (st' y)->G):G:=hk h.1 h.2
def Mg (s:St) (k:Nat):Option St:=match obA s.objs k with
 | some (.iter ka va _ l)=>some ⟨s.env,s.objs.set k (some (.iter ka va none l))⟩
 | _=>none
theorem Xc (k:Nat) (h:(Mg s k).isSome=true:=by kernel_rfl):Ar nk s ((Mg s k).getD s):=by
 have h:=Bw (d:=s) h;generalize (Mg s k).getD s=s' at h;unfold Mg at h;split at h
 ·rename_i ka va cur l hob;cases h;refine Ar.sem λ _ _ _ _ _ _ _ _ hI=>?_;obtain⟨F,ρ,hS,hrest⟩:=hI;refine⟨F,ρ,hS.reob hob (λ L hr=>?_) (λ sz es he=>by cases he),hrest⟩;obtain⟨h1,bm,es,clock,since,seen,c0,q1,q2,q3,q4,q4',q5,q6,_⟩:=hr;exact⟨h1,bm,es,clock,since,seen,c0,q1,q2,q3,q4,q4',q5,q6,λ p hp=>by cases hp⟩
 ·cases h
def JjC (Z:ζ->Prop) (r1:ζ->AV) (O1:ζ->List (Option Ob)):AV->List (Option Ob)->Prop:=λ r O=>∃ y,Z y/\r=r1 y/\O=O1 y
def nxN (Γ:Cx) (c:Code) (i:Nat) (ord:List Nat) (nb:Nat) (r:AV) (O1:List (Option Ob)) (s:St):Option St:=
 match (A1 c)[i]? with
 | some o=>bif Jau Γ c o&&Nat.ble nb ord.length&&Nat.ble nb O1.length&&ord.all (λ k=>Nat.blt k s.objs.length)then
   some ⟨putA o.dst false true (Jv (CF ord s.objs.length nb) r) s.env,CG s.objs ord nb O1⟩else none
 | none=>none
theorem nc (hY:YOK P Γ) (ord:List Nat) {f:FuncId} {ys:List AV} {O0 raw0:List (Option Ob)} {nb:Nat} {Z:ζ->Prop} {r1:ζ->AV} {O1:ζ->List (Option Ob)} (hr:G3 P f ys O0 nb (JjC Z r1 O1)) (hp0:raw0=O0)
  (hk:∀ y,Z y->RF Γ C p (i+1) Q ((nxN Γ (nav p C) i ord nb (r1 y) (O1 y) s).getD s)) (hg:EO (nav p C) i s=[]:=by kernel_rfl)
  (hc:QP (nav p C) i s=some ((some f,((QP (nav p C) i s).getD ((none,[]),[])).1.2),ord):=by kernel_rfl) (hxs:((QP (nav p C) i s).getD ((none,[]),[])).1.2.map (Hr ord)=ys:=by kernel_rfl) (hO:D4 s.objs ord=raw0:=by kernel_rfl)
  (hn:∀ y,(nxN Γ (nav p C) i ord nb (r1 y) (O1 y) s).isSome=true:=by intro y;kernel_rfl) (hb:Nat.ble nb ord.length=true:=by kernel_rfl) (hb2:ord.all (λ k=>Nat.blt k s.objs.length)=true:=by kernel_rfl) (h0:((A1 (nav p C))[i]?.map (Jau Γ (nav p C)))=some true:=by kernel_rfl):ND Γ (nav p C) i Q s:=by
 generalize ((QP (nav p C) i s).getD ((none,[]),[])).1.2=zs at hc hxs;subst hp0;unfold QP at hc;split at hc
 ·rename_i o ho;rw[ho]at h0;simp only[Option.map_some,JkY]at h0;simp only[JkY,Prod.mk.injEq]at hc;obtain⟨hc,hord⟩:=hc;rw[hc]at hord;simp only at hord;subst hord;subst hxs;subst hO;have hgob:EK true (o.op.operands.toList.map (Aj s.env)):=by
   refine JI (g:=true) ?_;unfold EO at hg;rw[ho]at hg;simp only at hg;rw[hg];exact Gc
  have hall:∀ y,Nat.ble nb (O1 y).length=true:=λ y=>by
   have:=hn y;unfold nxN at this;rw[ho]at this;simp only at this;cases hb3:Nat.ble nb (O1 y).length with
   | true=>rfl
   | false=>rw[hb3]at this;simp at this
  refine Uz hY ho h0 (Yx hgob hc hr (Jk3 hb) (λ r O hR=>?_) λ k hk=>?_) λ s' hs=>?_
  ·obtain⟨y,_,_,rfl⟩:=hR;exact Jk3 (hall y)
  ·exact Jk3 (Jky.1 hb2 k hk)
  ·obtain⟨r,O,⟨y,hy,rfl,rfl⟩,rfl⟩:=hs;have h:=hk y hy;have e:nxN Γ (nav p C) i (Az s.objs zs) nb (r1 y) (O1 y) s=some ⟨putA o.dst false true (Jv (CF (Az s.objs zs) s.objs.length nb) (r1 y)) s.env,CG s.objs (Az s.objs zs) nb (O1 y)⟩:=by
    unfold nxN;rw[ho];simp only[h0,hb,hall y,hb2,Bool.and_self,cond_true]
   rw[e]at h;exact h
 ·cases hc
end Go.AI
end
section
namespace Go.AI
open Go.Shelf Go.Proofs
theorem YC {P:Program} {ρs:Ren} (L:Lays.n106 P ρs) (hf:∃ fn c,P.funcs[ρs.f 106]? = some fn/\fn.body=some c/\(fn.name == "runtime.NumGoroutine")=false) {a b:List UInt8} {z:Int} (h:some (Lib.compareBytes a b)=some z):AJ P (ρs.f 106) [.d (.str a),.d (.str b)] (.d (.int .i64 z)):=by
 cases h;refine⟨hf,λ F w vs hA hF=>?_⟩;obtain⟨hl,hA⟩:=hA;obtain⟨vs⟩:=vs
 match vs,hl with
 | [x,y],_=>
  have h1:=hA 0 _ _ rfl rfl;have h2:=hA 1 _ _ rfl rfl;cases h1 with
  | d _ _ h1=>
   cases h1;cases h2 with
   | d _ _ h2=>
    cases h2;refine(Any.strings_Compare L ⟨a.toArray⟩ ⟨b.toArray⟩ w).mono ?_;rintro e w' ⟨rfl,rfl⟩;exact⟨_,F,noR,rfl,{ size:=λ b hb=>hb,old:=λ b _=>rfl,f0:=FLe.refl _,fnew:=λ b o h _=>h,frz:=hF,loc:=λ k L h=>by simp[noR]at h,dom:=λ k L h=>by simp[noR]at h,obj:=λ k L ob h=>by simp[noR]at h,sep:=λ k k' L L' ob ob' h=>by simp[noR]at h,inn:=⟨λ _ _=>none,⟨(λ k c M h=>by cases h),(λ k c M k' L ob h=>by cases h),(λ k c M k' c' M' h=>by cases h),(λ k L ob0 sz es h=>by simp[noR]at h)⟩⟩ },.d _ _ (.int _ _),Mu.refl _⟩
end Go.AI
end
section
namespace Go.Proofs
open Go.Shelf
def Jkg:Go.Shelf.Ren:=⟨λ|6=>75|15=>85|14=>84|28=>99|29=>100|20=>91|21=>92|22=>93|23=>94|24=>95|25=>96|26=>97|27=>98|46=>103|47=>104|48=>105|49=>106|50=>107|57=>109|n=>n,λ|22=>99|24=>102|25=>150|3=>3|39=>156|0=>0|53=>168|55=>170|4=>4|46=>162|45=>161|50=>126|5=>5|9=>9|66=>172|70=>176|76=>178|77=>179|n=>n,λ|n=>n⟩
theorem Jkh:Go.Proofs.SlLaysF0.n6 Try.prog Jkg:={
 mixed:=by kernel_rfl
 f6:=⟨ "slices.SortFunc[[]sixdot/doubt.rest,sixdot/doubt.rest]",by decide,Try.func75.trans (congrArg some (by kernel_rfl))⟩
 f14:=⟨ "slices.pdqsortCmpFunc[sixdot/doubt.rest]",by decide,Try.func84.trans (congrArg some (by kernel_rfl))⟩
 f15:=Try.func85.trans (congrArg some (by kernel_rfl))
 f20:=⟨ "slices.insertionSortCmpFunc[sixdot/doubt.rest]",by decide,Try.func91.trans (congrArg some (by kernel_rfl))⟩
 f21:=⟨ "slices.heapSortCmpFunc[sixdot/doubt.rest]",by decide,Try.func92.trans (congrArg some (by kernel_rfl))⟩
 f22:=⟨ "slices.breakPatternsCmpFunc[sixdot/doubt.rest]",by decide,Try.func93.trans (congrArg some (by kernel_rfl))⟩
 f23:=⟨ "slices.choosePivotCmpFunc[sixdot/doubt.rest]",by decide,Try.func94.trans (congrArg some (by kernel_rfl))⟩
 f24:=⟨ "slices.reverseRangeCmpFunc[sixdot/doubt.rest]",by decide,Try.func95.trans (congrArg some (by kernel_rfl))⟩
 f25:=⟨ "slices.partialInsertionSortCmpFunc[sixdot/doubt.rest]",by decide,Try.func96.trans (congrArg some (by kernel_rfl))⟩
 f26:=⟨ "slices.partitionEqualCmpFunc[sixdot/doubt.rest]",by decide,Try.func97.trans (congrArg some (by kernel_rfl))⟩
 f27:=⟨ "slices.partitionCmpFunc[sixdot/doubt.rest]",by decide,Try.func98.trans (congrArg some (by kernel_rfl))⟩
 f28:=Try.func99.trans (congrArg some (by kernel_rfl))
 f29:=Try.func100.trans (congrArg some (by kernel_rfl))
 f46:=⟨ "slices.siftDownCmpFunc[sixdot/doubt.rest]",by decide,Try.func103.trans (congrArg some (by kernel_rfl))⟩
 f47:=Try.func104.trans (congrArg some (by kernel_rfl))
 f48:=Try.func105.trans (congrArg some (by kernel_rfl))
 f49:=⟨ "slices.medianAdjacentCmpFunc[sixdot/doubt.rest]",by decide,Try.func106.trans (congrArg some (by kernel_rfl))⟩
 f50:=⟨ "slices.medianCmpFunc[sixdot/doubt.rest]",by decide,Try.func107.trans (congrArg some (by kernel_rfl))⟩
 f57:=⟨ "slices.order2CmpFunc[sixdot/doubt.rest]",by decide,Try.func109.trans (congrArg some (by kernel_rfl))⟩
 t0:=Try.underlying0
 a0:=Try.isAgg0
 z0:=Try.sizeOf0
 v0:=Try.zeroValue0
 t3:=Try.underlying3
 a3:=Try.isAgg3
 z3:=Try.sizeOf3
 v3:=Try.zeroValue3
 t4:=Try.underlying4
 a4:=Try.isAgg4
 z4:=Try.sizeOf4
 v4:=Try.zeroValue4
 t5:=Try.underlying5
 a5:=Try.isAgg5
 z5:=Try.sizeOf5
 v5:=Try.zeroValue5
 t9:=Try.underlying9
 a9:=Try.isAgg9
 z9:=Try.sizeOf9
 v9:=Try.zeroValue9
 t22:=Try.underlying99
 a22:=Try.isAgg99
 z22:=Try.sizeOf99
 v22:=Try.zeroValue99
 t25:=Try.underlying150
 a25:=Try.isAgg150
 z25:=Try.sizeOf150
 v25:=Try.zeroValue150
 t39:=Try.underlying156
 a39:=Try.isAgg156
 z39:=Try.sizeOf156
 v39:=Try.zeroValue156
 t45:=Try.underlying161
 a45:=Try.isAgg161
 z45:=Try.sizeOf161
 v45:=Try.zeroValue161
 t46:=Try.underlying162
 a46:=Try.isAgg162
 z46:=Try.sizeOf162
 v46:=Try.zeroValue162
 t50:=Try.underlying126
 a50:=Try.isAgg126
 z50:=Try.sizeOf126
 v50:=Try.zeroValue126
 t53:=Try.underlying168
 a53:=Try.isAgg168
 z53:=Try.sizeOf168
 v53:=Try.zeroValue168
 t55:=Try.underlying170
 a55:=Try.isAgg170
 z55:=Try.sizeOf170
 v55:=Try.zeroValue170
 t66:=Try.underlying172
 a66:=Try.isAgg172
 z66:=Try.sizeOf172
 v66:=Try.zeroValue172
 t70:=Try.underlying176
 a70:=Try.isAgg176
 z70:=Try.sizeOf176
 v70:=Try.zeroValue176
 t76:=Try.underlying178
 a76:=Try.isAgg178
 z76:=Try.sizeOf178
 v76:=Try.zeroValue178
 t77:=Try.underlying179
 a77:=Try.isAgg179
 z77:=Try.sizeOf179
 v77:=Try.zeroValue179 }
def Jki:Go.Shelf.Ren:=⟨λ|106=>88|213=>102|265=>108|n=>n,λ|9=>9|3=>3|n=>n,λ|n=>n⟩
theorem Jkj:Go.Proofs.Lays.n106 Try.prog Jki:={
 mixed:=by kernel_rfl
 f106:=Try.func88.trans (congrArg some (by kernel_rfl))
 f213:=Try.func102.trans (congrArg some (by kernel_rfl))
 f265:=Try.func108.trans (congrArg some (by kernel_rfl))
 t3:=Try.underlying3
 a3:=Try.isAgg3
 z3:=Try.sizeOf3
 v3:=Try.zeroValue3
 t9:=Try.underlying9
 a9:=Try.isAgg9
 z9:=Try.sizeOf9
 v9:=Try.zeroValue9 }
end Go.Proofs
end
section
namespace Go.AI
variable {P:Program} {F:Nat->Option Obj} {ρ:Nat->Option Loc} {N:Nat->Prop} {H0 F0:Nat->Option Obj} {O:List (Option Ob)}
theorem YD {h:Array Obj} (hS:Sim N H0 F0 F ρ O h) {k sz i j isz:Nat} {ob1 ob2 nb:Ob} {cl:AV} {es:List (List AV)} {e:List AV} {xs:List (List D)} (ho:obA O k=some ob1) (hr1:ob1.rows=some (sz,es)) (hr2:ob2.rows=some (sz,es.set i (e.set j cl))) (hcl:Jw cl=false) (hnb:nb.rows=none) (hi:es[i]?=some e) (hj:e[j]?=some (.own isz xs)) (hsz:∀ e∈es,e.length=sz)
  {L:Loc} (hk:ρ k=some L) {σ:Nat->Nat->Option Loc} (hσ:Inn N F ρ O h σ) {L1:Loc} (hM:σ k (i*sz+j)=some L1) (hob1:∀ ρ',Bh F ρ' h L1 nb) (hcell:∀ ρ',RLe ρ ρ'->ρ' O.length=some L1->Bh F ρ' h L ob2) :
  ∃ ρ',RLe ρ ρ'/\Sim N H0 F0 F ρ' (O.set k (some ob2)++[some nb]) h:=by
 have hkl:=AK ho;have hjl:=Ae hj;have hne:ρ O.length=none:=by
  cases hq:ρ O.length with
  | none=>rfl
  | some L=>have:=hS.dom _ L hq;omega
 have hobA:∀ m ob,obA (O.set k (some ob2)++[some nb]) m=some ob->(m=k/\ob=ob2)\/(m≠k/\obA O m=some ob)\/(m=O.length/\ob=nb):=by
  intro m ob hm;rw[AD,Jk5]at hm;split at hm
  ·rename_i hlt;by_cases e1:m=k
   ·subst e1;rw[AN ho]at hm;cases hm;exact .inl ⟨rfl,rfl⟩
   ·rw[AA e1]at hm;exact .inr (.inl ⟨e1,hm⟩)
  ·rename_i hlt;have:=AK hm;simp at this;have e1:m=O.length:=by omega
   subst e1;simp[obA]at hm;exact .inr (.inr ⟨rfl,hm.symm⟩)
 obtain⟨g1,g2,g3⟩:=hS.obj k L _ hk ho;have hesz:=hsz e (JkQ hi);have hrepO:∀ (ρ':Nat->Option Loc),RLe ρ ρ'->(∀ m L',ρ' m=some L'->m≠O.length->ρ m=some L')->∀ m L' ob0 sz' es',ρ' m=some L'->obA (O.set k (some ob2)++[some nb]) m=some ob0->ob0.rows=some (sz',es')->∀ (i':Nat) (e':List AV) (j' isz':Nat) (xs':List (List D)),es'[i']?=some e'->e'[j']?=some (.own isz' xs') ->
   ∀ o1 v,h[L'.b]?=some o1->EM o1 (L'.base+i'*sz'+j')=some v->Dp F h (upS σ k (i*sz+j) none m (i'*sz'+j')) isz' xs' v:=by
  intro ρ' hle hold m L' ob0 sz' es' hm hob hr0 i' e' j' isz' xs' hi' hj' o1 v' hb hv';rcases hobA m _ hob with⟨rfl,h1⟩|⟨hmk,h1⟩|⟨_,h1⟩
  ·subst h1;rw[hr2]at hr0;cases hr0;have hm':=hold m L' hm (by omega);rw[hk]at hm';cases hm';by_cases e1:i'=i
   ·subst e1;rw[JkZ (Ae hi)]at hi';cases hi';by_cases e2:j'=j
    ·subst e2;rw[JkZ hjl]at hj';cases hj';cases hcl
    ·rw[Jk4 (Ne.symm e2)]at hj';have:=hσ.rep m L ob1 sz es hk ho hr1 i' e j' isz' xs' hi hj' o1 v' hb hv';unfold upS;rw[if_neg (λ hh=>e2 (by omega))];exact this
   ·rw[Jk4 (Ne.symm e1)]at hi';have:=hσ.rep m L ob1 sz es hk ho hr1 i' e' j' isz' xs' hi' hj' o1 v' hb hv';unfold upS;rw[if_neg (λ hh=>e1 ((JD hh.2 (by have:=Ae hj';have:=hsz e' (JkQ hi');omega) (by omega)).1))];exact this
  ·have hm':=hold m L' hm (by have:=AK h1;omega);have:=hσ.rep m L' ob0 sz' es' hm' h1 hr0 i' e' j' isz' xs' hi' hj' o1 v' hb hv';unfold upS;rw[if_neg (λ hh=>hmk hh.1)];exact this
  ·subst h1;rw[hnb]at hr0;cases hr0
 have hle:RLe ρ (upR ρ O.length L1):=CB hne;have hold:∀ m L',upR ρ O.length L1 m=some L'->m≠O.length->ρ m=some L':=λ m L' hm hn=>by rwa[A9 hn]at hm
 obtain⟨n1,n2,n3⟩:=hσ.new k _ L1 hM;refine⟨upR ρ O.length L1,hle,?_⟩;refine { size:=hS.size,old:=hS.old,f0:=hS.f0,fnew:=hS.fnew,frz:=hS.frz,loc:=λ m L' hm=>?_,dom:=λ m L' hm=>?_,obj:=λ m L' ob hm hob=>?_,sep:=λ m m' L' L'' ob ob' hm hm' hob hob' hn=>?_,inn:=⟨upS σ k (i*sz+j) none,λ k' c M hM=>hσ.new k' c M (Ci hM).1,λ k' c M m L' ob hM' hm hob=>?_,λ k' c M k'' c' M' hM hM'=>hσ.sep k' c M k'' c' M' (Ci hM).1 (Ci hM').1,hrepO _ hle hold⟩ }
 ·by_cases e1:m=O.length
  ·subst e1;rw[AC]at hm;cases hm;exact n2
  ·exact hS.loc m L' (hold m L' hm e1)
 ·by_cases e1:m=O.length
  ·subst e1;simp
  ·have:=hS.dom m L' (hold m L' hm e1);simp;omega
 ·rcases hobA m ob hob with⟨rfl,h1⟩|⟨hmk,h1⟩|⟨rfl,h1⟩
  ·have hm':=hold m L' hm (by omega);rw[hk]at hm';cases hm';refine⟨?_,g2,g3⟩;rw[h1];exact hcell _ hle (AC _ _ _)
  ·have hm':=hold m L' hm (by have:=AK h1;omega);obtain⟨q1,q2,q3⟩:=hS.obj m L' ob hm' h1;exact⟨q1.mono (FLe.refl _) hle rfl,q2,q3⟩
  ·rw[AC]at hm;cases hm;subst h1;exact⟨hob1 _,n1,n3⟩
 ·
  have key:∀ m L' ob,upR ρ O.length L1 m=some L'->obA (O.set k (some ob2)++[some nb]) m=some ob->(m≠O.length/\ρ m=some L'/\∃ ob0,obA O m=some ob0)\/(m=O.length/\L'=L1):=λ m L' ob hm hob=>by
   rcases hobA m ob hob with⟨rfl,h1⟩|⟨hmk,h1⟩|⟨rfl,h1⟩
   ·exact .inl ⟨by omega,hold m L' hm (by omega),_,ho⟩
   ·have:=AK h1;exact .inl ⟨by omega,hold m L' hm (by omega),_,h1⟩
   ·rw[AC]at hm;cases hm;exact .inr ⟨rfl,rfl⟩
  rcases key m L' ob hm hob with⟨a1,a2,o1,a3⟩|⟨rfl,rfl⟩
  ·rcases key m' L'' ob' hm' hob' with⟨b1,b2,o2,b3⟩|⟨rfl,rfl⟩
   ·exact hS.sep m m' L' L'' o1 o2 a2 b2 a3 b3 hn
   ·exact hσ.obj k _ L'' m L' o1 hM a2 a3
  ·rcases key m' L'' ob' hm' hob' with⟨b1,b2,o2,b3⟩|⟨rfl,_⟩
   ·exact(hσ.obj k _ L' m' L'' o2 hM b2 b3).symm
   ·exact absurd rfl hn
 ·obtain⟨hM1,hM2⟩:=Ci hM';rcases hobA m ob hob with⟨rfl,h1⟩|⟨hmk,h1⟩|⟨rfl,h1⟩
  ·exact hσ.obj k' c M m L' _ hM1 (hold m L' hm (by omega)) ho
  ·exact hσ.obj k' c M m L' ob hM1 (hold m L' hm (by have:=AK h1;omega)) h1
  ·rw[AC]at hm;cases hm;refine hσ.sep k _ L1 k' c M hM hM1 ?_;by_cases e1:k=k'
   ·subst e1;exact .inr λ e2=>hM2 ⟨rfl,e2.symm⟩
   ·exact .inl e1
theorem JdW {h:Array Obj} (hS:Sim N H0 F0 F ρ O h) {k sz i j:Nat} {es:List (List AV)} {e:List AV} {E:List (List D)} (ho:obA O k=some (.narr sz es)) (hi:es[i]?=some e) (hj:e[j]?=some (.own 0 ([]::E))) :
  ∃ ρ',RLe ρ ρ'/\Sim N H0 F0 F ρ' (O.set k (some (.narr sz (es.set i (e.set j (.mp O.length)))))++[some (.map false false (Oe E))]) h:=by
 cases hk:ρ k with
 | none=>
  refine⟨ρ,RLe.refl _,hS.table (by simp) λ m L ob hm hob=>?_⟩;rw[AD,Jk5]at hob;split at hob
  ·by_cases e1:m=k
   ·subst e1;rw[hk]at hm;cases hm
   ·rwa[AA e1]at hob
  ·have:=hS.dom m L hm;omega
 | some L=>
  obtain⟨g1,g2,g3⟩:=hS.obj k L _ hk ho;obtain⟨σ,hσ⟩:=hS.inn;obtain⟨hsz,hlen,cs,t,fr,p3,p4,p5,p6⟩:=g1;obtain⟨v,hv,_⟩:=p6 i e hi j _ hj;rcases hσ.rep k L _ sz es hk ho rfl i e j 0 _ hi hj _ v p3 hv with⟨h1,_⟩|⟨_,_,_,_,_,_,h1,_⟩|⟨_,E0,q3,L1,hM,rfl,hob⟩
  ·cases h1
  ·omega
  ·cases q3;refine YD hS (ob2:=.narr sz (es.set i (e.set j (.mp O.length)))) ho rfl rfl rfl rfl hi hj hsz hk hσ hM (λ ρ'=>by obtain⟨b1,b2⟩:=hob;exact⟨b1,b2⟩) λ ρ' hle hL1=>?_;have hjl:=Ae hj;have hil:=Ae hi;refine⟨λ e' he'=>?_,by simpa using hlen,cs,t,fr,p3,p4,p5,λ i' e' hi' j' a' hj'=>?_⟩
   ·rcases List.mem_or_eq_of_mem_set he' with h|rfl
    ·exact hsz e' h
    ·rw[Jk5];exact hsz e (JkQ hi)
   ·by_cases e1:i'=i
    ·subst e1;rw[JkZ hil]at hi';cases hi';by_cases e2:j'=j
     ·subst e2;rw[JkZ hjl]at hj';cases hj';exact⟨_,hv,λ _=>.mp _ L1 hL1⟩
     ·rw[Jk4 (Ne.symm e2)]at hj';obtain⟨u,hu,hr⟩:=p6 i' e hi j' a' hj';exact⟨u,hu,λ ho=>(hr ho).mono (FLe.refl _) hle⟩
    ·rw[Jk4 (Ne.symm e1)]at hi';obtain⟨u,hu,hr⟩:=p6 i' e' hi' j' a' hj';exact⟨u,hu,λ ho=>(hr ho).mono (FLe.refl _) hle⟩
theorem Jaw {h:Array Obj} (hS:Sim N H0 F0 F ρ O h) {k sz i j m isz:Nat} {ob1 ob2 nb:Ob} {es:List (List AV)} {e:List AV} {xs:List (List D)} {cl:AV} (ho:obA O k=some ob1) (hr1:ob1.rows=some (sz,es)) (hr2:ob2.rows=some (sz,es.set i (e.set j (.own isz xs)))) (hi:es[i]?=some e) (hj:e[j]?=some cl) (hm:obA O m=some nb) (hmk:m≠k) (hsz:∀ e∈es,e.length=sz)
  (hcell:∀ L,ρ k=some L->Bh F ρ h L ob1->∃ L1 o v,ρ m=some L1/\h[L.b]?=some o/\EM o (L.base+i*sz+j)=some v/\Dp F h (some L1) isz xs v/\Bh F ρ h L ob2) :
  Sim N H0 F0 F ρ ((O.set m none).set k (some ob2)) h:=by
 have hjl:=Ae hj;have hobA:∀ q ob,obA ((O.set m none).set k (some ob2)) q=some ob->(q=k/\ob=ob2)\/(q≠k/\q≠m/\obA O q=some ob):=by
  intro q ob hq;have ho':obA (O.set m none) k=some ob1:=by rw[AA (Ne.symm hmk)];exact ho
  by_cases e1:q=k
  ·subst e1;rw[AN ho']at hq;cases hq;exact .inl ⟨rfl,rfl⟩
  ·rw[AA e1]at hq;by_cases e2:q=m
   ·subst e2;rw[AN hm]at hq;cases hq
   ·rw[AA e2]at hq;exact .inr ⟨e1,e2,hq⟩
 obtain⟨σ,hσ⟩:=hS.inn;cases hk:ρ k with
 | none=>
  refine hS.table (by simp) λ q L ob hq hob=>?_;rcases hobA q ob hob with⟨rfl,_⟩|⟨_,_,h1⟩
  ·rw[hk]at hq;cases hq
  ·exact h1
 | some L=>
  obtain⟨g1,g2,g3⟩:=hS.obj k L _ hk ho;have hesz:=hsz e (JkQ hi);obtain⟨L1,o0,v,hL1,p3,hv,hown,hrepk⟩:=hcell L hk g1;have hup:∀ k' c' M',upS σ k (i*sz+j) (some L1) k' c'=some M'->(σ k' c'=some M'/\¬(k'=k/\c'=i*sz+j))\/(k'=k/\c'=i*sz+j/\ρ m=some M'):=λ k' c' M' h=>by
   unfold upS at h;split at h
   ·rename_i hh;cases h;exact .inr ⟨hh.1,hh.2,hL1⟩
   ·rename_i hh;exact .inl ⟨h,hh⟩
  refine hS.retable (by simp) (λ q L' ob hq hob=>?_) ⟨upS σ k (i*sz+j) (some L1),λ k' c' M' h'=>?_,λ k' c' M' q L' ob h' hq hob=>?_,λ k' c' M' k'' c'' M'' h' h'' hne=>?_,λ q L' ob0 sz' es' hq hob hr0 i' e' j' isz' xs' hi' hj' o1 v' hb hv'=>?_⟩
  ·rcases hobA q ob hob with⟨rfl,h1⟩|⟨_,_,h1⟩
   ·rw[hk]at hq;cases hq;exact⟨_,ho,.inr (by rw[h1];exact hrepk)⟩
   ·exact⟨ob,h1,.inl rfl⟩
  ·rcases hup k' c' M' h' with⟨h1,_⟩|⟨_,_,h1⟩
   ·exact hσ.new k' c' M' h1
   ·obtain⟨_,q2,q3⟩:=hS.obj m M' _ h1 hm;exact⟨q2,hS.loc m M' h1,q3⟩
  ·rcases hup k' c' M' h' with⟨h1,_⟩|⟨_,_,h1⟩
   ·rcases hobA q ob hob with⟨rfl,_⟩|⟨_,_,h2⟩
    ·exact hσ.obj k' c' M' q L' _ h1 hq ho
    ·exact hσ.obj k' c' M' q L' ob h1 hq h2
   ·rcases hobA q ob hob with⟨rfl,_⟩|⟨_,hqm,h2⟩
    ·exact hS.sep q m L' M' _ _ hq h1 ho hm (Ne.symm hmk)
    ·exact hS.sep q m L' M' _ _ hq h1 h2 hm hqm
  ·rcases hup k' c' M' h' with⟨h1,_⟩|⟨a1,a2,h1⟩
   ·rcases hup k'' c'' M'' h'' with⟨h2,_⟩|⟨_,_,h2⟩
    ·exact hσ.sep k' c' M' k'' c'' M'' h1 h2 hne
    ·exact(hσ.obj k' c' M' m M'' _ h1 h2 hm).symm
   ·rcases hup k'' c'' M'' h'' with⟨h2,_⟩|⟨b1,b2,h2⟩
    ·exact hσ.obj k'' c'' M'' m M' _ h2 h1 hm
    ·rcases hne with hne|hne
     ·exact absurd (a1.trans b1.symm) hne
     ·exact absurd (a2.trans b2.symm) hne
  ·rcases hobA q _ hob with⟨rfl,h1⟩|⟨hqk,_,h1⟩
   ·subst h1;rw[hr2]at hr0;cases hr0;rw[hk]at hq;cases hq;by_cases e1:i'=i
    ·subst e1;rw[JkZ (Ae hi)]at hi';cases hi';by_cases e2:j'=j
     ·subst e2;rw[JkZ hjl]at hj';cases hj';rw[p3]at hb;cases hb;rw[hv]at hv';cases hv';unfold upS;rw[if_pos ⟨rfl,rfl⟩];exact hown
     ·rw[Jk4 (Ne.symm e2)]at hj';have:=hσ.rep q L ob1 sz es hk ho hr1 i' e j' isz' xs' hi hj' o1 v' hb hv';unfold upS;rw[if_neg (λ hh=>e2 (by omega))];exact this
    ·rw[Jk4 (Ne.symm e1)]at hi';have:=hσ.rep q L ob1 sz es hk ho hr1 i' e' j' isz' xs' hi' hj' o1 v' hb hv';unfold upS;rw[if_neg (λ hh=>e1 ((JD hh.2 (by have:=Ae hj';have:=hsz e' (JkQ hi');omega) (by omega)).1))];exact this
   ·have:=hσ.rep q L' ob0 sz' es' hq h1 hr0 i' e' j' isz' xs' hi' hj' o1 v' hb hv';unfold upS;rw[if_neg (λ hh=>hqk hh.1)];exact this
theorem JdX {h:Array Obj} (hS:Sim N H0 F0 F ρ O h) {k sz i j m:Nat} {es:List (List AV)} {e:List AV} {E:List (List D)} (ho:obA O k=some (.narr sz es)) (hi:es[i]?=some e) (hj:e[j]?=some (.mp m)) (hm:obA O m=some (.map false false (Oe E))) :
  Sim N H0 F0 F ρ ((O.set m none).set k (some (.narr sz (es.set i (e.set j (.own 0 ([]::E))))))) h:=by
 have hmk:m≠k:=λ e1=>by subst e1;rw[ho]at hm;cases hm
 cases hk:ρ k with
 | none=>
  refine hS.table (by simp) λ q L ob hq hob=>?_;by_cases e1:q=k
  ·subst e1;rw[hk]at hq;cases hq
  ·rw[AA e1]at hob;by_cases e2:q=m
   ·subst e2;rw[AN hm]at hob;cases hob
   ·rwa[AA e2]at hob
 | some L0=>
  refine Jaw hS (ob2:=.narr sz (es.set i (e.set j (.own 0 ([]::E))))) ho rfl rfl hi hj hm hmk (hS.obj k L0 _ hk ho).1.1 λ L hL g1=>?_;obtain⟨cs,t,fr,p3,p4,p5,p6⟩:=g1.2.2;obtain⟨v,hv,hav⟩:=p6 i e hi j _ hj;have hav:=hav rfl;cases hav with
  | mp _ L1 hL1=>
   obtain⟨b1,b2⟩:=(hS.obj m L1 _ hL1 hm).1;exact⟨L1,_,_,hL1,p3,hv,.inr (.inr ⟨rfl,E,rfl,L1,rfl,rfl,b1,b2⟩),Po (RLe.refl _) g1 hi (Ae hj) λ _ _ _ _ _ _ hn=>by cases hn⟩
theorem JdY {h:Array Obj} (hS:Sim N H0 F0 F ρ O h) {k sz i j:Nat} {es:List (List AV)} {e:List AV} {E:List (List D)} (ho:obA O k=some (.narr sz es)) (hi:es[i]?=some e) (hj:e[j]?=some (.own 0 ([]::E))) :
  ∃ F',FLe F F'/\Sim N H0 F0 F' ρ (O.set k (some (.narr sz (es.set i (e.set j (.fmp E)))))) h:=by
 cases hk:ρ k with
 | none=>
  refine⟨F,FLe.refl _,hS.table (by simp) λ m L ob hm hob=>?_⟩;by_cases e1:m=k
  ·subst e1;rw[hk]at hm;cases hm
  ·rwa[AA e1]at hob
 | some L=>
  obtain⟨g1,g2,g3⟩:=hS.obj k L _ hk ho;obtain⟨σ,hσ⟩:=hS.inn;have hg1:=g1;obtain⟨hsz,hlen,cs,t,fr,p3,p4,p5,p6⟩:=hg1;obtain⟨v,hv,_⟩:=p6 i e hi j _ hj;have hil:=Ae hi;have hjl:=Ae hj;have hesz:=hsz e (JkQ hi);rcases hσ.rep k L _ sz es hk ho rfl i e j 0 _ hi hj _ v p3 hv with⟨h1,_⟩|⟨_,_,_,_,_,_,h1,_⟩|⟨_,E0,q3,L1,hM,rfl,hb0,ms,clock,hh,hb1,e0,hp0,hn0,hb2,hb3⟩
  ·cases h1
  ·omega
  ·cases q3;obtain⟨n1,n2,n3⟩:=hσ.new k _ L1 hM;let F':Nat->Option Obj:=λ b=>if b=L1.b then h[b]? else F b
   have hF':∀ b,F' b=if b=L1.b then h[b]? else F b:=λ _=>rfl
   have hle:FLe F F':=λ b o hb=>by
    rw[hF'];split
    ·exact hS.frz b o hb
    ·exact hb
   have hno:∀ b,b≠L1.b->F' b=F b:=λ b hb=>by rw[hF',if_neg hb]
   have hobA:∀ q ob,obA (O.set k (some (.narr sz (es.set i (e.set j (.fmp E)))))) q=some ob->(q=k/\ob=.narr sz (es.set i (e.set j (.fmp E))))\/(q≠k/\obA O q=some ob):=λ q ob hq=>by
    by_cases e1:q=k
    ·subst e1;rw[AN ho]at hq;cases hq;exact .inl ⟨rfl,rfl⟩
    ·rw[AA e1]at hq;exact .inr ⟨e1,hq⟩
   have hold:∀ q ob,obA (O.set k (some (.narr sz (es.set i (e.set j (.fmp E)))))) q=some ob->∃ ob0,obA O q=some ob0:=λ q ob hq=>by
    rcases hobA q ob hq with⟨rfl,_⟩|⟨_,h1⟩
    ·exact⟨_,ho⟩
    ·exact⟨_,h1⟩
   refine⟨F',hle,{ size:=hS.size,old:=hS.old,f0:=hS.f0.trans hle,fnew:=λ b o hb hN=>?_,frz:=λ b o hb=>?_,loc:=hS.loc,dom:=λ q L' hq=>by simpa using hS.dom q L' hq,obj:=λ q L' ob hq hob=>?_,sep:=λ q q' L1' L2' ob ob' hq hq' h1 h2 hne=>?_,inn:=⟨upS σ k (i*sz+j) none,λ k' c M hM'=>?_,λ k' c M q L' ob hM' hq hob=>?_,λ k' c M k'' c' M' hM' hM'' hne=>hσ.sep k' c M k'' c' M' (Ci hM').1 (Ci hM'').1 hne,λ q L' ob0 sz' es' hq hob hr0 i' e' j' isz' xs' hi' hj' o1 v' hb hv'=>?_⟩ }⟩
   ·rw[hF']at hb;split at hb
    ·rename_i hx;subst hx;exact absurd n1 hN
    ·exact hS.fnew b o hb hN
   ·rw[hF']at hb;split at hb
    ·exact hb
    ·exact hS.frz b o hb
   ·rcases hobA q ob hob with⟨rfl,rfl⟩|⟨_,h1⟩
    ·rw[hk]at hq;cases hq;refine⟨⟨λ e' he'=>?_,by simpa using hlen,cs,t,fr,p3,p4,p5,λ i' e' hi' j' a' hj'=>?_⟩,g2,by rw[hno _ (hσ.obj q _ L1 q L _ hM hk ho)];exact g3⟩
     ·rcases List.mem_or_eq_of_mem_set he' with h|rfl
      ·exact hsz e' h
      ·rw[Jk5];exact hesz
     ·by_cases e1:i'=i
      ·subst e1;rw[JkZ hil]at hi';cases hi';by_cases e2:j'=j
       ·subst e2;rw[JkZ hjl]at hj';cases hj';refine⟨_,hv,λ _=>.fmp _ _ ⟨ms,clock,e0,?_,hb1,hp0,hn0,hb2,λ a p q hp hq=>⟨(hb3 a p q hp hq).1.mono hle,(hb3 a p q hp hq).2.mono hle⟩⟩⟩;rw[hF',if_pos rfl];exact hh
       ·rw[Jk4 (Ne.symm e2)]at hj';obtain⟨u,hu,hr⟩:=p6 i' e hi j' a' hj';exact⟨u,hu,λ ho=>(hr ho).mono hle (RLe.refl _)⟩
      ·rw[Jk4 (Ne.symm e1)]at hi';obtain⟨u,hu,hr⟩:=p6 i' e' hi' j' a' hj';exact⟨u,hu,λ ho=>(hr ho).mono hle (RLe.refl _)⟩
    ·obtain⟨r1,r2,r3⟩:=hS.obj q L' ob hq h1;exact⟨r1.mono hle (RLe.refl _) rfl,r2,by rw[hno _ (hσ.obj k _ L1 q L' ob hM hq h1)];exact r3⟩
   ·obtain⟨o1,a1⟩:=hold q ob h1;obtain⟨o2,a2⟩:=hold q' ob' h2;exact hS.sep q q' L1' L2' o1 o2 hq hq' a1 a2 hne
   ·obtain⟨m1,m2⟩:=Ci hM';obtain⟨r1,r2,r3⟩:=hσ.new k' c M m1;refine⟨r1,r2,?_⟩;rw[hno _ (hσ.sep k' c M k _ L1 m1 hM (by
     by_cases e1:k'=k
     ·subst e1;exact .inr λ e2=>m2 ⟨rfl,e2⟩
     ·exact .inl e1))]
    exact r3
   ·obtain⟨o1,a1⟩:=hold q ob hob;exact hσ.obj k' c M q L' o1 (Ci hM').1 hq a1
   ·rcases hobA q ob0 hob with⟨rfl,rfl⟩|⟨hqk,h1⟩
    ·cases hr0;rw[hk]at hq;cases hq;by_cases e1:i'=i
     ·subst e1;rw[JkZ hil]at hi';cases hi';by_cases e2:j'=j
      ·subst e2;rw[JkZ hjl]at hj';cases hj'
      ·rw[Jk4 (Ne.symm e2)]at hj';have:=hσ.rep q L _ sz es hk ho rfl i' e j' isz' xs' hi hj' o1 v' hb hv';unfold upS;rw[if_neg (λ hh=>e2 (by omega))];exact this.mono hle λ _ _=>rfl
     ·rw[Jk4 (Ne.symm e1)]at hi';have:=hσ.rep q L _ sz es hk ho rfl i' e' j' isz' xs' hi' hj' o1 v' hb hv';unfold upS;rw[if_neg (λ hh=>e1 ((JD hh.2 (by have:=Ae hj';have:=hsz e' (JkQ hi');omega) (by omega)).1))];exact this.mono hle λ _ _=>rfl
    ·have:=hσ.rep q L' ob0 sz' es' hq h1 hr0 i' e' j' isz' xs' hi' hj' o1 v' hb hv';unfold upS;rw[if_neg (λ hh=>hqk hh.1)];exact this.mono hle λ _ _=>rfl
end Go.AI
end
section
namespace Go.AI
section
variable {κ β:Type} {ek:κ->D} {ev:β->D} {s:St} {nk:Nat}
def Gz (ek:κ->D) (ev:β->D) (m:List (κ×β)):List (List D):=m.map λ p=>[ek p.1,ev p.2]
theorem Nd (m:List (κ×β)):Oe (Gz ek ev m)=Bu (λ k=>[ek k]) (λ v=>[ev v]) m:=by
 unfold Oe Gz Bu;rw[List.map_map];rfl
def Jax (ek:κ->D) (ev:β->D):Option (Bool×List (κ×β))->AV
 | none=>.d .nilm
 | some (false,m)=>.own 0 ([]::Gz ek ev m)
 | some (true,m)=>.fmp (Gz ek ev m)
def eMr (ek:κ->D) (ev:β->D) (x:Option (Bool×List (κ×β))):List AV:=[Jax ek ev x]
theorem PP (k:Nat) {xss:List (Option (Bool×List (κ×β)))} {m:List (κ×β)} {n:Int} (hx:idx xss n=some (some (false,m))) (h:DY s k=some (1,xss.map (eMr ek ev)):=by kernel_rfl) :
  Ar nk s ⟨s.env,s.objs.set k (some (.narr 1 ((xss.map (eMr ek ev)).set n.toNat [.mp s.objs.length])))++[some (.map false false (Bu (λ k=>[ek k]) (λ v=>[ev v]) m))]⟩:=by
 have ho:=Dn h;refine Ar.sem λ _ _ _ _ _ _ _ _ hI=>?_;obtain⟨F,ρ,hS,hSl,hn,hdf⟩:=hI;have hi:(xss.map (eMr ek ev))[n.toNat]?=some (eMr ek ev (some (false,m))):=by rw[JkS,(CH hx).2.2];rfl
 obtain⟨ρ',g1,g2⟩:=JdW (j:=0) (E:=Gz ek ev m) hS ho hi rfl;rw[Nd]at g2;exact⟨F,ρ',g2,hSl.mono (FLe.refl _) g1,hn,hdf.1,hdf.2.1,hdf.2.2.mono g1⟩
theorem JN (k q:Nat) (m:List (κ×β)) {xss:List (Option (Bool×List (κ×β)))} {x:Option (Bool×List (κ×β))} {n:Int} (hx:idx xss n=some x) (h:DY s k=some (1,(xss.map (eMr ek ev)).set n.toNat [.mp q]):=by kernel_rfl) (hm:obA s.objs q=some (.map false false (Bu (λ k=>[ek k]) (λ v=>[ev v]) m)):=by kernel_rfl) :
  Ar nk s ⟨s.env,(s.objs.set q none).set k (some (.narr 1 ((xss.set n.toNat (some (false,m))).map (eMr ek ev))))⟩:=by
 have ho:=Dn h;obtain⟨h0,h1,_⟩:=CH hx;have hlt:n.toNat<(xss.map (eMr ek ev)).length:=by simp;omega
 refine Ar.sem λ _ _ _ _ _ _ _ _ hI=>?_;obtain⟨F,ρ,hS,hSl,hn,hdf⟩:=hI;have:=JdX (j:=0) (E:=Gz ek ev m) hS ho (JkZ hlt) rfl (by rw[Nd];exact hm);rw[List.set_set]at this;rw[List.map_set];exact⟨F,ρ,this,hSl,hn,hdf⟩
theorem Jay (k:Nat) {xss:List (Option (Bool×List (κ×β)))} {x:Bool×List (κ×β)} {n:Int} (hx:idx xss n=some (some x)) (h:DY s k=some (1,xss.map (eMr ek ev)):=by kernel_rfl) :
  Ar nk s ⟨s.env,s.objs.set k (some (.narr 1 ((xss.map (eMr ek ev)).set n.toNat [.fmp (Gz ek ev x.2)])))⟩:=by
 obtain⟨b,m⟩:=x;cases b with
 | true=>exact JeG (encN:=eMr ek ev) k h hx
 | false=>
  have ho:=Dn h;refine Ar.sem λ _ _ _ _ _ _ _ _ hI=>?_;obtain⟨F,ρ,hS,hSl,hn,hdf⟩:=hI;have hi:(xss.map (eMr ek ev))[n.toNat]?=some (eMr ek ev (some (false,m))):=by rw[JkS,(CH hx).2.2];rfl
  obtain⟨F',g1,g2⟩:=JdY (j:=0) (E:=Gz ek ev m) hS ho hi rfl;exact⟨F',ρ,g2,hSl.mono g1 (RLe.refl _),hn,hdf.1.mono g1,hdf.2⟩
theorem Wh (k:Nat) {ka va:Bool} {e1 e2:List (List D×List D)} (hp:e1.Perm e2) (h:obA s.objs k=some (.map ka va e1):=by kernel_rfl):Ar nk s ⟨s.env,s.objs.set k (some (.map ka va e2))⟩:=by
 refine Ar.sem λ _ _ _ _ _ _ _ _ hI=>?_;obtain⟨F,ρ,hS,hrest⟩:=hI;refine⟨F,ρ,hS.reob h (λ L hr=>?_) (λ sz es he=>by cases he),hrest⟩;obtain⟨h1,es,clock,q1,q2,e0,q3,q4,q5,q6⟩:=hr;exact⟨h1,es,clock,q1,q2,e0,q3.trans hp,q4,q5,q6⟩
theorem Nf {κ β:Type} {encK:κ->List D} {enc:β->List D} {m m':List (κ×β)} (h:m.Perm m'):(Bu encK enc m).Perm (Bu encK enc m'):=h.map _
theorem xri {κ β:Type} {ek:κ->D} {ev:β->D} {Γ:Cx} {C:Code} {p:List Nat} {Q:Ex->St->Prop} {s:St} {i:Nat} {m:List (κ×β)} (k:Nat) (hk:RF Γ C p i Q ⟨s.env,s.objs.set k (some (.iter false false none (Bu (λ k=>[ek k]) (λ v=>[ev v]) m)))⟩) (h:obA s.objs k=some (.iter false false none (Oe (Gz ek ev m))):=by kernel_rfl):RF Γ C p i Q s:=by
 rw[Nd]at h;have:s.objs.set k (some (.iter false false none (Bu (λ k=>[ek k]) (λ v=>[ev v]) m)))=s.objs:=by
  have hl:k<s.objs.length:=AK h;apply List.ext_getElem?;intro j;by_cases e:k=j
  ·subst e;rw[JkZ hl];unfold obA at h;split at h
   ·rename_i o ho;rw[ho];cases h;rfl
   ·cases h
  ·rw[Jk4 e]
 rwa[this]at hk
theorem JfG (k n:Nat) (h:obA s.objs k=some (.arr 1 (List.replicate n [.nilm])):=by kernel_rfl):Ar nk s ⟨s.env,s.objs.set k (some (.narr 1 ((List.replicate n (none:Option (Bool×List (κ×β)))).map (eMr ek ev))))⟩:=by
 have:=Ar.toN (nk:=nk) (st:=s) k 1 _ h;rw[List.map_replicate]at this⊢;exact this
theorem JfH (k n:Nat) {zs:List (Option (Bool×List (κ×β)))} (hz:List.replicate n none=zs) (h:obA s.objs k=some (.arr 1 (List.replicate n [.nilm])):=by kernel_rfl):Ar nk s ⟨s.env,s.objs.set k (some (.narr 1 (zs.map (eMr ek ev))))⟩:=by
 subst hz;exact JfG k n h
theorem JfI (k n:Nat) (h:obA s.objs k=some (.box (List.replicate n (.d .nilm))):=by kernel_rfl):Ar nk s ⟨s.env,s.objs.set k (some (.narr 1 ((List.replicate n (none:Option (Bool×List (κ×β)))).map (eMr ek ev))))⟩:=by
 refine Ar.sem λ _ _ _ _ _ _ _ _ hI=>?_;obtain⟨F,ρ,hS,hrest⟩:=hI;rw[List.map_replicate];refine⟨F,ρ,hS.reob h (λ L hr=>?_) (λ sz es he i e j isz xs hi hj=>?_),hrest⟩
 ·obtain⟨h1,h2,cs,t,fr,h3,h4,h5,h6⟩:=hr;rw[List.length_replicate]at h2;refine⟨λ e he=>by rw[List.eq_of_mem_replicate he];rfl,by rw[List.length_replicate];omega,cs,t,fr,h3,h4,h5,λ i e hi j a hj=>?_⟩;have hlt:i<n:=by have:=Ae hi;rwa[List.length_replicate]at this
  have he:=List.eq_of_mem_replicate (JkQ hi);subst he;cases j with
  | zero=>
   have ha:a=.d .nilm:=by simpa [eMr,Jax]using hj.symm
   subst ha;have hc:i<cs.size:=by omega
   refine⟨cs[i],by rw[h1,show 0+i*1+0=i by omega];exact JkT hc,λ _=>h6 i _ _ ?_ (JkT hc)⟩;rw[List.getElem?_replicate,if_pos hlt]
  | succ j=>simp[eMr]at hj
 ·cases he;have he:=List.eq_of_mem_replicate (JkQ hi);subst he;cases j with
  | zero=>simp[eMr,Jax]at hj
  | succ j=>simp[eMr]at hj
end
end Go.AI
end
section
namespace Go.AI
variable {P:Program} {nt:Slt} {o:Oper} {st:St}
theorem Wi {Γ:Nat->Ty} (hΓ:GU P Γ) {s t:TypeId} {x:Operand} {eb:Nat} {bs:List UInt8} (hop:o.op=.convert s t x) (hos:(Γ s).ok=true) (hot:(Γ t).ok=true) (hks:(Γ s).kind=.string) (hkt:(Γ t).kind=.slice 1 eb [.int .u8 0]) (hx:Aj st.env x=.d (.str bs)) :
  M0 P nt o true st ⟨putA o.dst false true (.d (.sl ((A5 bs).map λ n=>[.int .u8 n]))) st.env,st.objs⟩:=by
 intro N H0 F0 w0 a w _ hI hdst K Qw hK;obtain⟨F,ρ,hS,hSl,hn,hdf⟩:=hI;obtain⟨ds,hds,_,hk1⟩:=(hΓ s hos).desc;obtain⟨dt,hdt,_,hk2⟩:=(hΓ t hot).desc;rw[hks]at hk1;rw[hkt]at hk2;cases hk1;obtain⟨elem,i,z,rfl,_,_,_,_,_,_,_,hu⟩:=hk2;have hu:=hu rfl;have hxr:=AO hSl x;rw[hx]at hxr;have hxv:=hxr.str;have hr:=Lib.run_convert_string_bytes (P:=P) w s t elem ⟨bs.toArray⟩ hds hdt hu;have hr:(execOp a.eval o).run P w=.ok (.value (.slice (some ⟨w.heap.size,0,none⟩) bs.toArray.size (grownCap w bs.toArray.size 0 elem))) (Lib.bytesWorld w elem ⟨bs.toArray⟩):=by
  simp only[execOp,hop,Jkv,hxv,hr,Jkt,Jkw];rfl
 have hheap:(Lib.bytesWorld w elem ⟨bs.toArray⟩).heap=w.heap.push (.cells (Lib.bytesCells w elem ⟨bs.toArray⟩) elem ((Lib.bytesCells w elem ⟨bs.toArray⟩).size,(Lib.bytesCells w elem ⟨bs.toArray⟩).size+1)):=by
  apply Array.ext_getElem?;intro j;rw[Array.getElem?_push];split
  ·rename_i e;rw[e];exact Lib.bytesWorld_at_new w elem _
  ·rename_i e;rcases JkE j w.heap.size with h|h
   ·exact Lib.bytesWorld_at_old w elem _ j h
   ·rw[Array.getElem?_eq_none h,Array.getElem?_eq_none (by rw[Lib.bytesWorld_size];omega)]
 have hS':=hS.pushF (.cells (Lib.bytesCells w elem ⟨bs.toArray⟩) elem ((Lib.bytesCells w elem ⟨bs.toArray⟩).size,(Lib.bytesCells w elem ⟨bs.toArray⟩).size+1));rw[← hheap]at hS';have hle:FLe F (λ b=>if b=w.heap.size then some (.cells (Lib.bytesCells w elem ⟨bs.toArray⟩) elem ((Lib.bytesCells w elem ⟨bs.toArray⟩).size,(Lib.bytesCells w elem ⟨bs.toArray⟩).size+1))else F b):=λ b o hb=>by
  have:=Ak (hS.frz b o hb);simp only[if_neg (show ¬b=w.heap.size by omega)];exact hb
 have hcapge:bs.length<=grownCap w bs.toArray.size 0 elem:=by
  show bs.length<=bs.toArray.size+w.tape w.drawn (.appendCap bs.toArray.size 0 elem) % (2 ^ 63-bs.toArray.size);simp
 have hv:A8 (λ b=>if b=w.heap.size then some (.cells (Lib.bytesCells w elem ⟨bs.toArray⟩) elem ((Lib.bytesCells w elem ⟨bs.toArray⟩).size,(Lib.bytesCells w elem ⟨bs.toArray⟩).size+1))else F b) (.sl ((A5 bs).map λ n=>[.int .u8 n])) (.slice (some ⟨w.heap.size,0,none⟩) bs.toArray.size (grownCap w bs.toArray.size 0 elem)):=by
  have hlen:((A5 bs).map λ n=>[D.int .u8 n]).length=bs.toArray.size:=by simp[A5]
  rw[← hlen];refine .sl _ w.heap.size 0 _ 1 (Lib.bytesCells w elem ⟨bs.toArray⟩) elem _ (λ i _=>.int .u8 ((A5 bs)[i]?.getD 0)) (by rw[if_pos rfl]) (λ e he=>by simp only[JkG]at he;obtain⟨n,_,rfl⟩:=he;rfl) (by rw[hlen];simpa using hcapge) (λ i e he j x hx=>?_) (λ i e he j x hx=>?_)
  ·rw[JkS,JkR]at he;obtain⟨n,hn,rfl⟩:=he;have hj:j=0:=by have:=Ae hx;simpa using this
   subst hj;have hi:i<bs.length:=by have:=Ae hn;simpa [A5]using this
   simp[Lib.bytesCells,Array.getElem?_append,hi,A5]
  ·rw[JkS,JkR]at he;obtain⟨n,hn,rfl⟩:=he;have hj:j=0:=by have:=Ae hx;simpa using this
   subst hj;cases hx;rw[hn];exact .int _ _
 unfold Oper.wp;rw[hr,Oper.upon_value];refine hK _ _ ⟨_,ρ,hS',(hSl.mono hle (RLe.refl _)).putA hn hdst (.d _ _ hv),hn.put hdst,?_⟩;rw[put_defers];exact⟨hdf.1.mono hle,hdf.2.1.trans ⟨rfl,rfl,by rw[Lib.bytesWorld_size];omega,rfl,Nat.le_succ _⟩,hdf.2.2⟩
def Jiq (Γ:Cx) (c:Code) (i:Nat) (s:St):Option (List UInt8):=
 match (A1 c)[i]? with
 | some o=>match o.op with
  | .convert a b x=>match (Γ.ty a).kind,(Γ.ty b).kind,Aj s.env x with
   | .string,.slice 1 _ [.int .u8 0],.d (.str bs)=>bif (Γ.ty a).ok&&(Γ.ty b).ok then some bs else none
   | _,_,_=>none
  | _=>none
 | none=>none
def JdZ (Γ:Cx) (c:Code) (i:Nat) (bs:List UInt8) (s:St):Option St:=
 match (A1 c)[i]? with
 | some o=>bif Wb Γ c o then some ⟨putA o.dst false true (.d (.sl ((A5 bs).map λ n=>[.int .u8 n]))) s.env,s.objs⟩else none
 | none=>none
theorem xsb {Γ:Cx} {C:Code} {p:List Nat} {Q:Ex->St->Prop} {s:St} {i:Nat} (hX:XOK P Γ) (bs:List UInt8) (hk:RF Γ C p (i+1) Q ((JdZ Γ (nav p C) i bs s).getD s)) (hx:Jiq Γ (nav p C) i s=some bs:=by kernel_rfl) (hn:(JdZ Γ (nav p C) i bs s).isSome=true:=by kernel_rfl):RF Γ C p i Q s:=by
 have hn:=Bw (d:=s) hn;generalize (JdZ Γ (nav p C) i bs s).getD s=s' at hn hk;unfold JdZ at hn;unfold Jiq at hx;split at hn
 ·rename_i o hoo;rw[hoo]at hx;simp only at hx;obtain⟨h0,hn⟩:=AF hn;cases hn;split at hx
  ·rename_i a b x hop;split at hx
   ·rename_i eb bs' hka hkb hxe;obtain⟨h1,hx⟩:=AF hx;simp only[JkP]at h1;cases hx;exact FM hX hoo h0 (Wi hX.ty hop h1.1 h1.2 hka hkb hxe) hk
   ·cases hx
  ·cases hx
 ·cases hn
end Go.AI
end
section
namespace Go.AI
variable {P:Program}
def wkC:AV->AV
 | .d .nil=>.d (.sl [])
 | v=>v
def wkA:AV->AV
 | .agg l=>.agg (l.map wkC)
 | v=>wkC v
theorem RM {F:Nat->Option Obj} {ρ:Nat->Option Loc} {a:AV} {v:Value} (h:Ah F ρ a v):Ah F ρ (wkC a) v:=by
 unfold wkC;split
 ·have:=h.nil;subst this;exact .d _ _ (.sl0 _ _)
 ·exact h
theorem YE {F:Nat->Option Obj} {ρ:Nat->Option Loc} {a:AV} {v:Value} (h:Ah F ρ a v):Ah F ρ (wkA a) v:=by
 unfold wkA;split
 ·cases h with
  | agg l vs hl hr=>
   refine .agg _ _ (by simpa using hl) λ i a v h1 h2=>?_;rw[JkS,JkR]at h1;obtain⟨b,hb,rfl⟩:=h1;exact RM (hr i b v hb h2)
 ·exact RM h
theorem wkL {f:FuncId} {xs ys:List AV} {O O1:List (Option Ob)} {nb:Nat} {r:AV} (h:Bg P f ys O nb r O1) (hw:xs.map wkA=ys:=by kernel_rfl):Bg P f xs O nb r O1:=by
 subst hw;refine⟨h.1,λ N F ρ w vs hS hc=>h.2 N F ρ w vs hS ⟨by simpa using hc.1,λ i a v h1 h2=>?_⟩⟩;rw[JkS,JkR]at h1;obtain⟨b,hb,rfl⟩:=h1;exact YE (hc.2 i b v hb h2)
end Go.AI
end
section
namespace Go.AI
variable {P:Program} {F:Nat->Option Obj} {ρ:Nat->Option Loc} {w:World}
theorem PR:∀ (a r:List TK) (l l':List AV) (b:Bool),Ao (a++r) l l'=some b->∃ b1 b2,Ao a (l.take a.length) (l'.take a.length)=some b1/\Ao r (l.drop a.length) (l'.drop a.length)=some b2/\b=(b1&&b2):=by
 intro a;induction a with
 | nil=>intro r l l' b h;exact⟨true,b,by simp[Ao],by simpa using h,by simp⟩
 | cons k a ih=>
  intro r l l' b h;rw[List.cons_append]at h;unfold Ao at h;split at h
  ·rename_i heq;cases heq
  all_goals (first|(cases h;done)|skip)
  ·rename_i k0 ks0 k1 x xs0 k2 y ys0 e0;cases e0;split at h
   ·rename_i r' hr';obtain⟨b1,b2,h1,h2,h3⟩:=ih r _ _ _ hr';cases hk:(k1==k2)with
    | false=>rw[hk]at h;cases h
    | true=>
     rw[hk,cond_true]at h;cases h;exact⟨(x==y)&&b1,b2,by simp[Ao,h1,hk],by simpa using h2,by rw[h3,Bool.and_assoc]⟩
   ·cases h
  ·rename_i ks0 x xs0 y ys0 e0;cases e0;split at h
   ·rename_i r' hr';obtain⟨b1,b2,h1,h2,h3⟩:=ih r _ _ _ hr';cases h;exact⟨(x==y)&&b1,b2,by simp[Ao,h1],by simpa using h2,by rw[h3,Bool.and_assoc]⟩
   ·cases h
  ·rename_i ks0 x xs0 y ys0 e0;cases e0;split at h
   ·rename_i r' hr';obtain⟨b1,b2,h1,h2,h3⟩:=ih r _ _ _ hr';cases h;exact⟨(x==y)&&b1,b2,by simp[Ao,h1],by simpa using h2,by rw[h3,Bool.and_assoc]⟩
   ·cases h
def JeJ (P:Program) (t:TypeId) (a:List TK):Prop:=∃ fields i,P.underlying t=some (.struct fields)/\P.stoodInHeld t=false/\P.info? t=some i/\i.size=a.length/\fields.size=a.length/\∀ (j:Nat) f k,fields[j]? = some f->a[j]? = some k->f.name ≠ "_"/\f.offset=j/\Yk P f.type k
inductive Jd0 (P:Program) (t:TypeId):List TK->Prop
 | one {k:TK} (h:Yk P t k):Jd0 P t [k]
 | nest {a:List TK} (h:JeJ P t a):Jd0 P t a
inductive Jaz (P:Program):List Field->Nat->List TK->Prop
 | nil {i:Nat}:Jaz P [] i []
 | cons {f:Field} {fs:List Field} {i:Nat} {a r:List TK} (h0:f.name ≠ "_"/\f.offset=i) (h:Jd0 P f.type a) (hr:Jaz P fs (i+a.length) r):Jaz P (f::fs) i (a++r)
def At (F:Nat->Option Obj) (ρ:Nat->Option Loc) (xs:Array Value) (o:Nat) (l:List AV):Prop:=∀ (j:Nat) a,l[j]?=some a->∃ v,xs[o+j]?=some v/\Ah F ρ a v
theorem At.take {xs:Array Value} {o:Nat} {l:List AV} (h:At F ρ xs o l) (n:Nat):At F ρ xs o (l.take n):=λ j a ha=>by
 rw[List.getElem?_take]at ha;split at ha
 ·exact h j a ha
 ·cases ha
theorem At.drop {xs:Array Value} {o:Nat} {l:List AV} (h:At F ρ xs o l) (n:Nat):At F ρ xs (o+n) (l.drop n):=λ j a ha=>by
 rw[JkH]at ha;rw[JkI];exact h _ a ha
theorem K3 {t:TypeId} {a:List TK} (h:JeJ P t a) (cs:Array Value) (o:Nat):(part t cs o).run P w=.ok (.agg (cs.extract o (o+a.length))) w:=by
 obtain⟨fields,i,h1,_,h3,h4,_⟩:=h;simp only[part,Jkv,Ko w h1,Jkt,G1,if_true,AM w h3,h4,Jkw]
theorem YF {t:TypeId} {a:List TK} (h:Jd0 P t a) (d:Nat) {xs ys:Array Value} {o:Nat} {l l':List AV} {b:Bool} (he:Ao a l l'=some b) (hx:At F ρ xs o l) (hy:At F ρ ys o l') :
  ∃ u v,(part t xs o).run P w=.ok u w/\(part t ys o).run P w=.ok v w/\(Op.equalIn (d+1+1) t u v).run P w=.ok b w:=by
 obtain⟨e1,e2⟩:=FJ _ _ _ _ he;cases h with
 | @one k hk=>
  match l,e1 with
  | [x],_=>
   match l',e2 with
   | [y],_=>
    obtain⟨u,hu,hux⟩:=hx 0 x rfl;obtain⟨v,hv,hvy⟩:=hy 0 y rfl;refine⟨u,v,Cw (Iz hk) (by simpa using hu),Cw (Iz hk) (by simpa using hv),?_⟩;unfold Ao at he;split at he
    ·rename_i heq;cases heq
    ·rename_i k0 ks0 k1 p xs0 k2 q ys0 e0 e3 e4;cases e0;simp only[List.cons.injEq]at e3 e4;obtain⟨rfl,rfl⟩:=e3;obtain⟨rfl,rfl⟩:=e4;simp only[Ao]at he;cases hkk:(k1==k2)with
     | false=>rw[hkk]at he;cases he
     | true=>
      rw[hkk,cond_true]at he;have:k1=k2:=by simpa using hkk
      subst this;cases he;rw[hux.int,hvy.int,Bool.and_true];obtain⟨k3,hk3⟩:=hk;exact run_equalIn_int w (d+1) t k1 k3 p q hk3
    ·rename_i e0 e3 e4;cases e0;simp only[List.cons.injEq]at e3 e4;obtain⟨rfl,rfl⟩:=e3;obtain⟨rfl,rfl⟩:=e4;simp only[Ao,JkY]at he;subst he;rw[hux.bool,hvy.bool,Bool.and_true];exact run_equalIn_bool' w (d+1) t _ _ hk
    ·rename_i e0 e3 e4;cases e0;simp only[List.cons.injEq]at e3 e4;obtain⟨rfl,rfl⟩:=e3;obtain⟨rfl,rfl⟩:=e4;simp only[Ao,JkY]at he;subst he;rw[hux.str,hvy.str,run_equalIn_string w (d+1) t _ _ hk,Cf,Cf,Bool.and_true]
    ·cases he
 | nest hn=>
  refine⟨_,_,K3 hn xs o,K3 hn ys o,?_⟩;obtain⟨fields,i,h1,h2,h3,h4,h5,h6⟩:=hn;have hfo:P.fieldsOf t=fields:=by simp[Program.fieldsOf,h1]
  rw[run_equalIn_struct w (d+1) t _ _ (by rw[hfo];exact h1) h2,hfo];have hex:∀ (zs:Array Value) (m:List AV),m.length=a.length->At F ρ zs o m->∀ (j:Nat) c,m[j]?=some c->∃ v,(zs.extract o (o+a.length))[0+j]?=some v/\Ah F ρ c v:=λ zs m hm hz j c hc=>by
   obtain⟨v,hv,hr⟩:=hz j c hc;have hj:=Ae hc;refine⟨v,?_,hr⟩;rw[Jk2,Array.getElem?_extract,if_pos (by have:=Ak hv;omega)];exact hv
  refine IA (F:=F) (ρ:=ρ) d _ _ fields.toList a 0 l l' b (by simpa using h5) (λ j f k q1 q2=>?_) he (hex xs l e1 hx) (hex ys l' e2 hy);obtain⟨a1,a2,a3⟩:=h6 j f k (by simpa using q1) q2;exact⟨a1,by omega,a3⟩
theorem SU (d:Nat) {xs ys:Array Value} {fs:List Field} {i:Nat} {ks:List TK} (hs:Jaz P fs i ks):∀ {l l':List AV} {r:Bool},Ao ks l l'=some r->At F ρ xs i l->At F ρ ys i l'->(Op.eqFields (d+1+1) xs ys fs).run P w=.ok r w:=by
 induction hs with
 | nil=>
  intro l l' r h _ _;cases l with
  | cons=>simp[Ao]at h
  | nil=>cases l' with
   | cons=>simp[Ao]at h
   | nil=>simp[Ao]at h;subst h;rfl
 | @cons f fs i a rs h0 hl _ ih=>
  intro l l' r h hx hy;obtain⟨b1,b2,h1,h2,rfl⟩:=PR _ _ _ _ _ h;obtain⟨u,v,q1,q2,q3⟩:=YF (F:=F) (ρ:=ρ) (w:=w) hl d h1 (hx.take _) (hy.take _);obtain⟨hnm,hoff⟩:=h0;simp only[Op.eqFields];rw[if_pos hnm,hoff];simp only[Jkv,q1,q2,Jkt,q3];cases b1 with
  | false=>simp
  | true=>simp only[JkB,Jk0,if_false,Bool.true_and];exact ih h2 (hx.drop _) (hy.drop _)
theorem JaA {l:List AV} {xs:Array Value} (h:Ah F ρ (.agg l) (.agg xs)):At F ρ xs 0 l:=by
 cases h with
 | agg _ _ hl hr=>
  intro j a ha;have hj:=Ae ha;refine⟨xs[j],?_,hr j a _ ha (JkT (by omega))⟩;rw[Jk2];exact JkT (by omega)
theorem Jd1 {t:TypeId} {fields:Array Field} {ks:List TK} (hd:P.underlying t=some (.struct fields)) (hst:P.stoodInHeld t=false) (hg:P.eqGuardType P.depth t=false) (hs:Jaz P fields.toList 0 ks):LP P t ks:=by
 intro l l' r xs ys F ρ w x y h hx hy;have hfo:P.fieldsOf t=fields:=by simp[Program.fieldsOf,hd]
 have hrun:(Op.equalIn 10000 t (.agg xs) (.agg ys)).run P w=.ok r w:=by
  rw[run_equalIn_struct w 9999 t xs ys (by rw[hfo];exact hd) hst,hfo];exact SU 9997 hs h (JaA hx) (JaA hy)
 constructor
 ·simp only[Jkv,run_eqGuard_agg w .eql t x y xs ys hg,Jkt];rw[run_eql_struct,hrun];rfl
 ·simp only[Jkv,run_eqGuard_agg w .neq t x y xs ys hg,Jkt];rw[run_neq_struct,hrun];rfl
theorem Mh {t:TypeId} {k:IntKind} (hd:P.underlying t=some (.int k)):FD P t false [.int k]:=by
 have get:∀ (F:Nat->Option Obj) (a b:List D) (x y:Value) (r:Bool),KV F false a x->KV F false b y->Ao [.int k] (a.map .d) (b.map .d)=some r->∃ k' m n,x=.int k' m/\y=.int k' n/\r=(m==n):=by
  intro F a b x y r hx hy h;obtain⟨p,rfl,hp⟩:=hx;obtain⟨q,rfl,hq⟩:=hy;cases hp<;>cases hq<;>simp only[JkK,List.map_nil,Ao]at h<;>first|(cases h;done)|skip
  rename_i k1 m k2 n;cases hk:(k1==k2)with
  | false=>rw[hk]at h;cases h
  | true=>
   rw[hk]at h;simp only[cond_true,JkY,Bool.and_true]at h;have:=eq_of_beq hk;subst this;exact⟨_,_,_,rfl,rfl,h.symm⟩
 refine⟨λ F a x w b hx hs=>?_,⟨_,hd,λ F a b x y r hx hy h=>?_⟩,λ F a b x y r w hx hy h=>?_,λ F a b x y hx hy h=>?_⟩
 ·obtain⟨r,hr⟩:=Option.isSome_iff_exists.1 hs;obtain⟨k',m,n,rfl,_,_⟩:=get F a a x x r hx hx hr;show(Instr.checkKey b (9999+1) t (.int k' m)).run P w=_;rw[Instr.checkKey];simp only[Jkv,run_underlying hd,Jkt];rfl
 ·obtain⟨k',m,n,rfl,rfl,rfl⟩:=get F a b x y r hx hy h;simp[Instr.sameNow]
 ·obtain⟨k',m,n,rfl,rfl,rfl⟩:=get F a b x y r hx hy h;have e0:∀ q,(Op.equalIn (q+1) t (.int k' m) (.int k' n)).run P w=.ok (m==n) w:=λ q=>by simp[Op.equalIn,run_underlying hd]
  exact e0 9999
 ·obtain⟨k',m,n,rfl,rfl,h2⟩:=get F a b x y true hx hy h;have:m=n:=by simpa using h2.symm
  subst this;show Instr.sameBits (9999+1) (.int k' m) (.int k' m)=true;simp[Instr.sameBits]
theorem Xd (a b:List UInt8):((⟨a.toArray⟩:ByteArray)==⟨b.toArray⟩)=(a==b):=by
 show(a.toArray==b.toArray)=(a==b);rw[Bool.eq_iff_iff,beq_iff_eq,beq_iff_eq];constructor
 ·intro h;simpa using h
 ·rintro rfl;rfl
theorem SV {t:TypeId} (hd:P.underlying t=some .string):FD P t false [.string]:=by
 have get:∀ (F:Nat->Option Obj) (a b:List D) (x y:Value) (r:Bool),KV F false a x->KV F false b y->Ao [.string] (a.map .d) (b.map .d)=some r->∃ m n:List UInt8,x=.string ⟨m.toArray⟩/\y=.string ⟨n.toArray⟩/\r=(m==n):=by
  intro F a b x y r hx hy h;obtain⟨p,rfl,hp⟩:=hx;obtain⟨q,rfl,hq⟩:=hy;cases hp<;>cases hq<;>simp only[JkK,List.map_nil,Ao]at h<;>first|(cases h;done)|skip
  simp only[JkY,Bool.and_true]at h;exact⟨_,_,rfl,rfl,h.symm⟩
 refine⟨λ F a x w b hx hs=>?_,⟨_,hd,λ F a b x y r hx hy h=>?_⟩,λ F a b x y r w hx hy h=>?_,λ F a b x y hx hy h=>?_⟩
 ·obtain⟨r,hr⟩:=Option.isSome_iff_exists.1 hs;obtain⟨m,n,rfl,_,_⟩:=get F a a x x r hx hx hr;show(Instr.checkKey b (9999+1) t (.string _)).run P w=_;rw[Instr.checkKey];simp only[Jkv,run_underlying hd,Jkt];rfl
 ·obtain⟨m,n,rfl,rfl,rfl⟩:=get F a b x y r hx hy h;simp[Instr.sameNow,Xd]
 ·obtain⟨m,n,rfl,rfl,rfl⟩:=get F a b x y r hx hy h;have e0:∀ q,(Op.equalIn (q+1) t (.string ⟨m.toArray⟩) (.string ⟨n.toArray⟩)).run P w=.ok (m==n) w:=λ q=>by simp[Op.equalIn,run_underlying hd,Xd]
  exact e0 9999
 ·obtain⟨m,n,rfl,rfl,h2⟩:=get F a b x y true hx hy h;have:m=n:=by simpa using h2.symm
  subst this;show Instr.sameBits (9999+1) (.string ⟨m.toArray⟩) (.string ⟨m.toArray⟩)=true;simp only[Instr.sameBits];exact PA _
end Go.AI
end
section
namespace Go.AI
open Go.Proofs
set_option maxRecDepth 100000
theorem Hs:Inf Try.prog 3 1 8 (.int .i64 0):=AG (by kernel_rfl)
theorem Jir:Inf Try.prog 4 1 1 (.bool false):=AG (by kernel_rfl)
theorem Mi:Inf Try.prog 5 1 1 (.int .u8 0):=AG (by kernel_rfl)
theorem SW:Inf Try.prog 9 1 16 (.string ⟨#[]⟩):=AG (by kernel_rfl)
theorem JeK:Inf Try.prog 22 1 24 (.slice none 0 0):=AG (by kernel_rfl)
theorem Jis:Inf Try.prog 24 3 32 (.agg #[.int .u8 0,.int .u8 0,.slice none 0 0]):=AG (by kernel_rfl)
theorem Jit:Inf Try.prog 25 1 24 (.slice none 0 0):=AG (by kernel_rfl)
theorem Jiu:Inf Try.prog 26 1 1 (.int .i8 0):=AG (by kernel_rfl)
theorem JeL:Inf Try.prog 28 1 24 (.slice none 0 0):=AG (by kernel_rfl)
theorem JeM:Inf Try.prog 30 3 40 (.agg #[.int .i64 0,.int .u8 0,.slice none 0 0]):=AG (by kernel_rfl)
theorem JaB:Inf Try.prog 32 1 24 (.slice none 0 0):=AG (by kernel_rfl)
theorem JeN:Inf Try.prog 34 1 24 (.slice none 0 0):=AG (by kernel_rfl)
theorem Jiv:Inf Try.prog 35 1 8 (.int .i64 0):=AG (by kernel_rfl)
theorem JaC:Inf Try.prog 38 1 24 (.slice none 0 0):=AG (by kernel_rfl)
theorem JeO:Inf Try.prog 40 3 48 (.agg #[.string ⟨#[]⟩,.slice none 0 0,.int .i64 0]):=AG (by kernel_rfl)
theorem Jiw:Inf Try.prog 49 1 24 (.slice none 0 0):=AG (by kernel_rfl)
theorem JaD:Inf Try.prog 52 1 24 (.slice none 0 0):=AG (by kernel_rfl)
theorem Jix:Inf Try.prog 59 3 3 (.agg #[.int .u8 0,.int .u8 0,.int .u8 0]):=AG (by kernel_rfl)
theorem Xe:Inf Try.prog 60 1 1 (.int .u8 0):=AG (by kernel_rfl)
theorem JeP:Inf Try.prog 62 2 2 (.agg #[.int .u8 0,.int .u8 0]):=AG (by kernel_rfl)
theorem JeQ:Inf Try.prog 66 6 64 (.agg #[.string ⟨#[]⟩,.slice none 0 0,.int .u8 0,.int .u8 0,.int .i64 0,.int .i64 0]):=AG (by kernel_rfl)
theorem JaE:Inf Try.prog 68 2 2 (.agg #[.int .u8 0,.int .u8 0]):=AG (by kernel_rfl)
theorem JeR:Inf Try.prog 70 6 56 (.agg #[.slice none 0 0,.slice none 0 0,.int .u8 0,.int .u8 0,.int .u8 0,.int .u8 0]):=AG (by kernel_rfl)
theorem Jiy:Inf Try.prog 74 1 8 (.pointer none):=AG (by kernel_rfl)
theorem Jiz:Inf Try.prog 76 7 104 (.agg #[.int .i64 0,.int .u8 0,.slice none 0 0,.slice none 0 0,.int .i64 0,.int .i64 0,.slice none 0 0]):=AG (by kernel_rfl)
theorem Xf:Inf Try.prog 79 3 24 (.agg #[.int .i64 0,.int .i64 0,.int .u8 0]):=AG (by kernel_rfl)
theorem JiA:Inf Try.prog 82 1 24 (.slice none 0 0):=AG (by kernel_rfl)
theorem JeS:Inf Try.prog 87 1 24 (.slice none 0 0):=AG (by kernel_rfl)
theorem JiB:Inf Try.prog 92 2 16 (.agg #[.int .i64 0,.int .i64 0]):=AG (by kernel_rfl)
theorem JiC:Inf Try.prog 97 1 8 (.pointer none):=AG (by kernel_rfl)
theorem JaF:Inf Try.prog 99 1 24 (.slice none 0 0):=AG (by kernel_rfl)
theorem SX:Inf Try.prog 102 3 40 (.agg #[.int .i64 0,.string ⟨#[]⟩,.string ⟨#[]⟩]):=AG (by kernel_rfl)
theorem JaG:Inf Try.prog 106 6 56 (.agg #[.int .i64 0,.int .i64 0,.int .u8 0,.int .i64 0,.int .i64 0,.string ⟨#[]⟩]):=AG (by kernel_rfl)
theorem JfJ:Inf Try.prog 114 1 24 (.slice none 0 0):=AG (by kernel_rfl)
theorem JfK:Inf Try.prog 116 1 8 (.map none):=AG (by kernel_rfl)
theorem JaH:Inf Try.prog 117 1 24 (.slice none 0 0):=AG (by kernel_rfl)
theorem JaI:Inf Try.prog 118 1 24 (.slice none 0 0):=AG (by kernel_rfl)
theorem JaJ:Inf Try.prog 119 1 24 (.slice none 0 0):=AG (by kernel_rfl)
theorem JfL:Inf Try.prog 121 6 112 (.agg #[.slice none 0 0,.int .i64 0,.int .i64 0,.slice none 0 0,.slice none 0 0,.slice none 0 0]):=AG (by kernel_rfl)
theorem JaK:Inf Try.prog 122 1 24 (.slice none 0 0):=AG (by kernel_rfl)
theorem Wj:Inf Try.prog 124 3 40 (.agg #[.string ⟨#[]⟩,.string ⟨#[]⟩,.int .i64 0]):=AG (by kernel_rfl)
theorem JaL:Inf Try.prog 125 1 8 (.map none):=AG (by kernel_rfl)
theorem JaM:Inf Try.prog 128 1 8 (.map none):=AG (by kernel_rfl)
theorem JfM:Inf Try.prog 129 5 40 (.agg #[.map none,.map none,.map none,.map none,.map none]):=AG (by kernel_rfl)
theorem JfN:Inf Try.prog 130 1 24 (.slice none 0 0):=AG (by kernel_rfl)
theorem Wk:Inf Try.prog 132 8 112 (.agg #[.string ⟨#[]⟩,.string ⟨#[]⟩,.int .i64 0,.int .i64 0,.slice none 0 0,.int .i64 0,.string ⟨#[]⟩,.string ⟨#[]⟩]):=AG (by kernel_rfl)
theorem JfO:Inf Try.prog 136 1 24 (.slice none 0 0):=AG (by kernel_rfl)
theorem JfP:Inf Try.prog 140 1 8 (.nilFunc):=AG (by kernel_rfl)
theorem JfQ:Inf Try.prog 141 1 8 (.map none):=AG (by kernel_rfl)
theorem JfR:Inf Try.prog 143 1 8 (.nilFunc):=AG (by kernel_rfl)
theorem JfS:Inf Try.prog 146 1 8 (.pointer none):=AG (by kernel_rfl)
theorem JfT:Inf Try.prog 150 1 8 (.nilFunc):=AG (by kernel_rfl)
theorem JfU:Inf Try.prog 156 1 8 (.int .u64 0):=AG (by kernel_rfl)
theorem JfV:Inf Try.prog 161 1 8 (.int .i64 0):=AG (by kernel_rfl)
theorem JfW:Inf Try.prog 168 1 4 (.int .u32 0):=AG (by kernel_rfl)
theorem JfX:Inf Try.prog 170 1 8 (.int .u64 0):=AG (by kernel_rfl)
theorem JfY:Inf Try.prog 172 1 8 (.int .u64 0):=AG (by kernel_rfl)
theorem JfZ:Inf Try.prog 176 1 8 (.pointer none):=AG (by kernel_rfl)
def ty:Nat->Ty
 | 3=>⟨true,[],1,false,[.int .i64 0],.int .i64⟩
 | 4=>⟨true,[],1,false,[.bool false],.bool⟩
 | 5=>⟨true,[],1,false,[.int .u8 0],.int .u8⟩
 | 9=>⟨true,[],1,false,[.str []],.string⟩
 | 22=>⟨true,[],1,false,[.nil],.slice 6 56 [.nil,.nil,.int .u8 0,.int .u8 0,.int .u8 0,.int .u8 0]⟩
 | 24=>⟨true,[],3,true,[.int .u8 0,.int .u8 0,.nil],.struct [(0,1),(1,1),(2,1)]⟩
 | 25=>⟨true,[],1,false,[.nil],.slice 2 2 [.int .u8 0,.int .u8 0]⟩
 | 26=>⟨true,[],1,false,[.int .i8 0],.int .i8⟩
 | 28=>⟨true,[],1,false,[.nil],.slice 6 64 [.str [],.nil,.int .u8 0,.int .u8 0,.int .i64 0,.int .i64 0]⟩
 | 30=>⟨true,[],3,true,[.int .i64 0,.int .u8 0,.nil],.struct [(0,1),(1,1),(2,1)]⟩
 | 32=>⟨true,[],1,false,[.nil],.slice 2 2 [.int .u8 0,.int .u8 0]⟩
 | 34=>⟨true,[],1,false,[.nil],.slice 3 48 [.str [],.nil,.int .i64 0]⟩
 | 35=>⟨true,[],1,false,[.int .i64 0],.int .i64⟩
 | 38=>⟨true,[],1,false,[.nil],.slice 1 1 [.int .u8 0]⟩
 | 40=>⟨true,[],3,true,[.str [],.nil,.int .i64 0],.struct [(0,1),(1,1),(2,1)]⟩
 | 49=>⟨true,[],1,false,[.nil],.slice 1 16 [.str []]⟩
 | 52=>⟨true,[],1,false,[.nil],.slice 1 1 [.int .u8 0]⟩
 | 59=>⟨true,[.int .u8,.int .u8,.int .u8],3,true,[.int .u8 0,.int .u8 0,.int .u8 0],.array 3 1⟩
 | 60=>⟨true,[],1,false,[.int .u8 0],.int .u8⟩
 | 62=>⟨true,[.int .u8,.int .u8],2,true,[.int .u8 0,.int .u8 0],.struct [(0,1),(1,1)]⟩
 | 66=>⟨true,[],6,true,[.str [],.nil,.int .u8 0,.int .u8 0,.int .i64 0,.int .i64 0],.struct [(0,1),(1,1),(2,1),(3,1),(4,1),(5,1)]⟩
 | 68=>⟨true,[.int .u8,.int .u8],2,true,[.int .u8 0,.int .u8 0],.array 2 1⟩
 | 70=>⟨true,[],6,true,[.nil,.nil,.int .u8 0,.int .u8 0,.int .u8 0,.int .u8 0],.struct [(0,1),(1,1),(2,1),(3,1),(4,2)]⟩
 | 74=>⟨true,[],1,false,[.nilp],.other⟩
 | 76=>⟨true,[],7,true,[.int .i64 0,.int .u8 0,.nil,.nil,.int .i64 0,.int .i64 0,.nil],.struct [(0,3),(3,1),(4,1),(5,1),(6,1)]⟩
 | 79=>⟨true,[.int .i64,.int .i64,.int .u8],3,true,[.int .i64 0,.int .i64 0,.int .u8 0],.struct [(0,1),(1,1),(2,1)]⟩
 | 82=>⟨true,[],1,false,[.nil],.slice 6 56 [.int .i64 0,.int .i64 0,.int .u8 0,.int .i64 0,.int .i64 0,.str []]⟩
 | 87=>⟨true,[],1,false,[.nil],.slice 1 8 [.int .i64 0]⟩
 | 92=>⟨true,[.int .i64,.int .i64],2,true,[.int .i64 0,.int .i64 0],.array 2 1⟩
 | 97=>⟨true,[],1,false,[.nilp],.other⟩
 | 99=>⟨true,[],1,false,[.nil],.slice 3 40 [.int .i64 0,.str [],.str []]⟩
 | 102=>⟨true,[.int .i64,.string,.string],3,true,[.int .i64 0,.str [],.str []],.struct [(0,1),(1,1),(2,1)]⟩
 | 106=>⟨true,[.int .i64,.int .i64,.int .u8,.int .i64,.int .i64,.string],6,true,[.int .i64 0,.int .i64 0,.int .u8 0,.int .i64 0,.int .i64 0,.str []],.struct [(0,3),(3,1),(4,1),(5,1)]⟩
 | 114=>⟨true,[],1,false,[.nil],.slice 3 24 [.int .i64 0,.int .i64 0,.int .u8 0]⟩
 | 116=>⟨true,[],1,false,[.nilm],.map [.int .i64,.int .i64,.int .u8] true false [.int .i64 0]⟩
 | 117=>⟨true,[],1,false,[.nil],.slice 1 24 [.nil]⟩
 | 118=>⟨true,[],1,false,[.nil],.slice 1 1 [.bool false]⟩
 | 119=>⟨true,[],1,false,[.nil],.slice 1 8 [.nilm]⟩
 | 121=>⟨true,[],6,true,[.nil,.int .i64 0,.int .i64 0,.nil,.nil,.nil],.struct [(0,1),(1,1),(2,1),(3,1),(4,1),(5,1)]⟩
 | 122=>⟨true,[],1,false,[.nil],.slice 3 40 [.str [],.str [],.int .i64 0]⟩
 | 124=>⟨true,[.string,.string,.int .i64],3,true,[.str [],.str [],.int .i64 0],.struct [(0,1),(1,1),(2,1)]⟩
 | 125=>⟨true,[],1,false,[.nilm],.map [.int .i64] false false [.int .i64 0]⟩
 | 128=>⟨true,[],1,false,[.nilm],.map [.int .i64] false false [.nil]⟩
 | 129=>⟨true,[],5,true,[.nilm,.nilm,.nilm,.nilm,.nilm],.array 5 1⟩
 | 130=>⟨true,[],1,false,[.nil],.slice 8 112 [.str [],.str [],.int .i64 0,.int .i64 0,.nil,.int .i64 0,.str [],.str []]⟩
 | 132=>⟨true,[],8,true,[.str [],.str [],.int .i64 0,.int .i64 0,.nil,.int .i64 0,.str [],.str []],.struct [(0,3),(3,1),(4,1),(5,3)]⟩
 | 136=>⟨true,[],1,false,[.nil],.slice 1 24 [.nil]⟩
 | 140=>⟨true,[],1,false,[.nilf],.other⟩
 | 141=>⟨true,[],1,false,[.nilm],.map [.string] false true [.int .i64 0,.str [],.str []]⟩
 | 143=>⟨true,[],1,false,[.nilf],.other⟩
 | 146=>⟨true,[],1,false,[.nilp],.other⟩
 | 150=>⟨true,[],1,false,[.nilf],.other⟩
 | 156=>⟨true,[],1,false,[.int .u64 0],.int .u64⟩
 | 161=>⟨true,[],1,false,[.int .i64 0],.int .i64⟩
 | 168=>⟨true,[],1,false,[.int .u32 0],.int .u32⟩
 | 170=>⟨true,[],1,false,[.int .u64 0],.int .u64⟩
 | 172=>⟨true,[],1,false,[.int .u64 0],.int .u64⟩
 | 176=>⟨true,[],1,false,[.nilp],.other⟩
 | _=>⟨false,[],0,false,[],.other⟩
theorem tf3:As Try.prog 3 (ty 3):=tfM Hs Try.underlying3 rfl
theorem tf4:As Try.prog 4 (ty 4):=tfM Jir Try.underlying4 rfl
theorem tf5:As Try.prog 5 (ty 5):=tfM Mi Try.underlying5 rfl
theorem tf9:As Try.prog 9 (ty 9):=tfM SW Try.underlying9 rfl
theorem JjD:As Try.prog 22 (ty 22):=tfM JeK Try.underlying22 (slK JeR)
theorem JjE:As Try.prog 24 (ty 24):=tfM Jis Try.underlying24 (stF (A3 (Co Mi Try.underlying5) (A3 (Co Mi Try.underlying5) (A3 (Co JeK Try.underlying22) HK))))
theorem JjF:As Try.prog 25 (ty 25):=tfM Jit Try.underlying25 (slK JaE)
theorem JjG:As Try.prog 26 (ty 26):=tfM Jiu Try.underlying26 rfl
theorem JjH:As Try.prog 28 (ty 28):=tfM JeL Try.underlying28 (slK JeQ)
theorem JjI:As Try.prog 30 (ty 30):=tfM JeM Try.underlying30 (stF (A3 (Co Hs Try.underlying3) (A3 (Co Mi Try.underlying5) (A3 (Co JeL Try.underlying28) HK))))
theorem JjJ:As Try.prog 32 (ty 32):=tfM JaB Try.underlying32 (slK JeP)
theorem JjK:As Try.prog 34 (ty 34):=tfM JeN Try.underlying34 (slK JeO)
theorem JjL:As Try.prog 35 (ty 35):=tfM Jiv Try.underlying35 rfl
theorem JjM:As Try.prog 38 (ty 38):=tfM JaC Try.underlying38 (slK Xe (λ _=>Try.underlying60))
theorem JjN:As Try.prog 40 (ty 40):=tfM JeO Try.underlying40 (stF (A3 (Co SW Try.underlying9) (A3 (Co JaC Try.underlying38) (A3 (Co Hs Try.underlying3) HK))))
theorem JjO:As Try.prog 49 (ty 49):=tfM Jiw Try.underlying49 (slK SW)
theorem JjP:As Try.prog 52 (ty 52):=tfM JaD Try.underlying52 (slK Mi (λ _=>Try.underlying5))
theorem JjQ:As Try.prog 59 (ty 59):=tfM Jix Try.underlying59 (arK Mi) (λ _=>V3 Try.underlying59 Try.underlying5 Mi (by kernel_rfl))
theorem JjR:As Try.prog 60 (ty 60):=tfM Xe Try.underlying60 rfl
theorem JjS:As Try.prog 62 (ty 62):=tfM JeP Try.underlying62 (stF (A3 (Co Xe Try.underlying60) (A3 (Co Xe Try.underlying60) HK))) (λ _=>Ow Try.underlying62 (by kernel_rfl) (by kernel_rfl) rfl λ j f k h1 h2=>match j,h1,h2 with|0,h1,h2=>(by cases h1;cases h2;exact⟨by decide,rfl,⟨_,Try.underlying60⟩⟩)|1,h1,h2=>(by cases h1;cases h2;exact⟨by decide,rfl,⟨_,Try.underlying60⟩⟩)|n+2,h1,_=>by simp at h1)
theorem JjT:As Try.prog 66 (ty 66):=tfM JeQ Try.underlying66 (stF (A3 (Co SW Try.underlying9) (A3 (Co JaC Try.underlying38) (A3 (Co Mi Try.underlying5) (A3 (Co Mi Try.underlying5) (A3 (Co Hs Try.underlying3) (A3 (Co Hs Try.underlying3) HK)))))))
theorem JjU:As Try.prog 68 (ty 68):=tfM JaE Try.underlying68 (arK Mi) (λ _=>V3 Try.underlying68 Try.underlying5 Mi (by kernel_rfl))
theorem JjV:As Try.prog 70 (ty 70):=tfM JeR Try.underlying70 (stF (A3 (Co JaD Try.underlying52) (A3 (Co JaD Try.underlying52) (A3 (Co Mi Try.underlying5) (A3 (Co Mi Try.underlying5) (A3 (Co JaE Try.underlying68) HK))))))
theorem JjW:As Try.prog 74 (ty 74):=tfM Jiy Try.underlying74 trivial
theorem JjX:As Try.prog 76 (ty 76):=tfM Jiz Try.underlying76 (stF (A3 (Co JeM Try.underlying30) (A3 (Co JaB Try.underlying32) (A3 (Co Hs Try.underlying3) (A3 (Co Hs Try.underlying3) (A3 (Co JeN Try.underlying34) HK))))))
theorem JjY:As Try.prog 79 (ty 79):=tfM Xf Try.underlying79 (stF (A3 (Co Hs Try.underlying3) (A3 (Co Hs Try.underlying3) (A3 (Co Mi Try.underlying5) HK)))) (λ _=>Ow Try.underlying79 (by kernel_rfl) (by kernel_rfl) rfl λ j f k h1 h2=>match j,h1,h2 with|0,h1,h2=>(by cases h1;cases h2;exact⟨by decide,rfl,⟨_,Try.underlying3⟩⟩)|1,h1,h2=>(by cases h1;cases h2;exact⟨by decide,rfl,⟨_,Try.underlying3⟩⟩)|2,h1,h2=>(by cases h1;cases h2;exact⟨by decide,rfl,⟨_,Try.underlying5⟩⟩)|n+3,h1,_=>by simp at h1)
theorem JjZ:As Try.prog 82 (ty 82):=tfM JiA Try.underlying82 (slK JaG)
theorem Jj0:As Try.prog 87 (ty 87):=tfM JeS Try.underlying87 (slK Hs)
theorem Jj1:As Try.prog 92 (ty 92):=tfM JiB Try.underlying92 (arK Hs) (λ _=>V3 Try.underlying92 Try.underlying3 Hs (by kernel_rfl))
theorem Jj2:As Try.prog 97 (ty 97):=tfM JiC Try.underlying97 trivial
theorem Jj3:As Try.prog 99 (ty 99):=tfM JaF Try.underlying99 (slK SX)
theorem JiD:As Try.prog 102 (ty 102):=tfM SX Try.underlying102 (stF (A3 (Co Hs Try.underlying3) (A3 (Co SW Try.underlying9) (A3 (Co SW Try.underlying9) HK)))) (λ _=>Ow Try.underlying102 (by kernel_rfl) (by kernel_rfl) rfl λ j f k h1 h2=>match j,h1,h2 with|0,h1,h2=>(by cases h1;cases h2;exact⟨by decide,rfl,⟨_,Try.underlying3⟩⟩)|1,h1,h2=>(by cases h1;cases h2;exact⟨by decide,rfl,Try.underlying9⟩)|2,h1,h2=>(by cases h1;cases h2;exact⟨by decide,rfl,Try.underlying9⟩)|n+3,h1,_=>by simp at h1)
theorem JiE:As Try.prog 106 (ty 106):=tfM JaG Try.underlying106 (stF (A3 (Co Xf Try.underlying79) (A3 (Co Hs Try.underlying3) (A3 (Co Hs Try.underlying3) (A3 (Co SW Try.underlying9) HK))))) (λ _=>Jd1 Try.underlying106 (by kernel_rfl) (by kernel_rfl) (.cons (a:=[.int .i64,.int .i64,.int .u8]) ⟨by decide,rfl⟩ (.nest (by obtain⟨j,h1,h2,_⟩:=Xf;exact⟨_,j,Try.underlying79,(by kernel_rfl),h1,h2,rfl,λ j f k h1 h2=>match j,h1,h2 with|0,h1,h2=>(by cases h1;cases h2;exact⟨by decide,rfl,⟨_,Try.underlying3⟩⟩)|1,h1,h2=>(by cases h1;cases h2;exact⟨by decide,rfl,⟨_,Try.underlying3⟩⟩)|2,h1,h2=>(by cases h1;cases h2;exact⟨by decide,rfl,⟨_,Try.underlying5⟩⟩)|n+3,h1,_=>by simp at h1⟩)) (.cons (a:=[.int .i64]) ⟨by decide,rfl⟩ (.one ⟨_,Try.underlying3⟩) (.cons (a:=[.int .i64]) ⟨by decide,rfl⟩ (.one ⟨_,Try.underlying3⟩) (.cons (a:=[.string]) ⟨by decide,rfl⟩ (.one Try.underlying9) .nil)))))
theorem JiF:As Try.prog 114 (ty 114):=tfM JfJ Try.underlying114 (slK Xf)
theorem JiG:As Try.prog 116 (ty 116):=tfM JfK Try.underlying116 (by obtain⟨j,h1,h2,h3,h4⟩:=Hs;exact⟨_,_,j,_,rfl,(QN Try.underlying79 (by kernel_rfl) rfl λ j f k h1 h2=>match j,h1,h2 with|0,h1,h2=>(by cases h1;cases h2;exact⟨by decide,rfl,⟨_,Try.underlying3⟩⟩)|1,h1,h2=>(by cases h1;cases h2;exact⟨by decide,rfl,⟨_,Try.underlying3⟩⟩)|2,h1,h2=>(by cases h1;cases h2;exact⟨by decide,rfl,⟨_,Try.underlying5⟩⟩)|n+3,h1,_=>by simp at h1),h1,h4,rfl,(λ h=>by cases h),(λ _=>⟨_,rfl,rfl⟩)⟩)
theorem JiH:As Try.prog 117 (ty 117):=tfM JaH Try.underlying117 (slK JaK)
theorem JiI:As Try.prog 118 (ty 118):=tfM JaI Try.underlying118 (slK Jir)
theorem JiJ:As Try.prog 119 (ty 119):=tfM JaJ Try.underlying119 (slK JaL)
theorem JiK:As Try.prog 121 (ty 121):=tfM JfL Try.underlying121 (stF (A3 (Co JaB Try.underlying32) (A3 (Co Hs Try.underlying3) (A3 (Co Hs Try.underlying3) (A3 (Co JaH Try.underlying117) (A3 (Co JaI Try.underlying118) (A3 (Co JaJ Try.underlying119) HK)))))))
theorem JiL:As Try.prog 122 (ty 122):=tfM JaK Try.underlying122 (slK Wj)
theorem JiM:As Try.prog 124 (ty 124):=tfM Wj Try.underlying124 (stF (A3 (Co SW Try.underlying9) (A3 (Co SW Try.underlying9) (A3 (Co Hs Try.underlying3) HK)))) (λ _=>Ow Try.underlying124 (by kernel_rfl) (by kernel_rfl) rfl λ j f k h1 h2=>match j,h1,h2 with|0,h1,h2=>(by cases h1;cases h2;exact⟨by decide,rfl,Try.underlying9⟩)|1,h1,h2=>(by cases h1;cases h2;exact⟨by decide,rfl,Try.underlying9⟩)|2,h1,h2=>(by cases h1;cases h2;exact⟨by decide,rfl,⟨_,Try.underlying3⟩⟩)|n+3,h1,_=>by simp at h1)
theorem JiN:As Try.prog 125 (ty 125):=tfM JaL Try.underlying125 (by obtain⟨j,h1,h2,h3,h4⟩:=Hs;exact⟨_,_,j,_,rfl,(Mh Try.underlying3),h1,h4,rfl,(λ h=>by cases h),(λ _=>⟨_,rfl,rfl⟩)⟩)
theorem JiO:As Try.prog 128 (ty 128):=tfM JaM Try.underlying128 (by obtain⟨j,h1,h2,h3,h4⟩:=JaF;exact⟨_,_,j,_,rfl,(Mh Try.underlying3),h1,h4,rfl,(λ h=>by cases h),(λ _=>⟨_,rfl,rfl⟩)⟩)
theorem JiP:As Try.prog 129 (ty 129):=tfM JfM Try.underlying129 (arK JaM)
theorem JiQ:As Try.prog 130 (ty 130):=tfM JfN Try.underlying130 (slK Wk)
theorem JiR:As Try.prog 132 (ty 132):=tfM Wk Try.underlying132 (stF (A3 (Co Wj Try.underlying124) (A3 (Co Hs Try.underlying3) (A3 (Co JaF Try.underlying99) (A3 (Co SX Try.underlying102) HK)))))
theorem JiS:As Try.prog 136 (ty 136):=tfM JfO Try.underlying136 (slK JeS)
theorem JiT:As Try.prog 140 (ty 140):=tfM JfP Try.underlying140 trivial
theorem JiU:As Try.prog 141 (ty 141):=tfM JfQ Try.underlying141 (by obtain⟨j,h1,h2,h3,h4⟩:=SX;exact⟨_,_,j,_,rfl,(SV Try.underlying9),h1,h4,rfl,(λ _=>⟨_,rfl,rfl⟩),(λ h=>by cases h)⟩)
theorem JiV:As Try.prog 143 (ty 143):=tfM JfR Try.underlying143 trivial
theorem JiW:As Try.prog 146 (ty 146):=tfM JfS Try.underlying146 trivial
theorem JiX:As Try.prog 150 (ty 150):=tfM JfT Try.underlying150 trivial
theorem JiY:As Try.prog 156 (ty 156):=tfM JfU Try.underlying156 rfl
theorem JiZ:As Try.prog 161 (ty 161):=tfM JfV Try.underlying161 rfl
theorem Ji0:As Try.prog 168 (ty 168):=tfM JfW Try.underlying168 rfl
theorem Ji1:As Try.prog 170 (ty 170):=tfM JfX Try.underlying170 rfl
theorem Ji2:As Try.prog 172 (ty 172):=tfM JfY Try.underlying172 rfl
theorem Ji3:As Try.prog 176 (ty 176):=tfM JfZ Try.underlying176 trivial
theorem tyOK:GU Try.prog ty:=by
 intro t h;unfold ty at h;split at h
 ·exact tf3
 ·exact tf4
 ·exact tf5
 ·exact tf9
 ·exact JjD
 ·exact JjE
 ·exact JjF
 ·exact JjG
 ·exact JjH
 ·exact JjI
 ·exact JjJ
 ·exact JjK
 ·exact JjL
 ·exact JjM
 ·exact JjN
 ·exact JjO
 ·exact JjP
 ·exact JjQ
 ·exact JjR
 ·exact JjS
 ·exact JjT
 ·exact JjU
 ·exact JjV
 ·exact JjW
 ·exact JjX
 ·exact JjY
 ·exact JjZ
 ·exact Jj0
 ·exact Jj1
 ·exact Jj2
 ·exact Jj3
 ·exact JiD
 ·exact JiE
 ·exact JiF
 ·exact JiG
 ·exact JiH
 ·exact JiI
 ·exact JiJ
 ·exact JiK
 ·exact JiL
 ·exact JiM
 ·exact JiN
 ·exact JiO
 ·exact JiP
 ·exact JiQ
 ·exact JiR
 ·exact JiS
 ·exact JiT
 ·exact JiU
 ·exact JiV
 ·exact JiW
 ·exact JiX
 ·exact JiY
 ·exact JiZ
 ·exact Ji0
 ·exact Ji1
 ·exact Ji2
 ·exact Ji3
 ·cases h
theorem follows:Try.prog.follows .mixedOrders=true:=by kernel_rfl
def qfT:List (Nat×Nat):=[]
theorem Jj4:∀ f k,(f,k)∈qfT->∀ vs:Array Value,vs.size=k->QD Try.prog (LO f vs):=λ _ _ h=>by cases h
def cxk (n nk:Nat):Cx:=⟨ty,⟨n,[],nk,qfT⟩,AJ Try.prog,Bg Try.prog,NR Try.prog,M3 Try.prog,G3 Try.prog,false⟩
def cx (n:Nat):Cx:=cxk n 0
theorem JeT (n nk:Nat):FG Try.prog (cxk n nk):=⟨tyOK,λ _ _ _ h=>h,λ _ _ _ _ _ _ h=>h,λ _ _ _ _ _ h=>h,λ _ _ _ _ h=>h,λ _ _ _ _ _ h=>h,Jj4,λ h=>by cases h⟩
end Go.AI
end
section
namespace Go.AI
section
variable {κ β α:Type}
def rowM (l:List (Option (Bool×List (κ×β)))) (i:Int):Option (List (κ×β)):=(idx l i).bind λ x=>match x with
 | some (false,m)=>some m
 | _=>none
def rowA (l:List (Option (Bool×List (κ×β)))) (i:Int):Option (Bool×List (κ×β)):=(idx l i).bind id
theorem HR {l:List (Option (Bool×List (κ×β)))} {i:Int} {x:Bool×List (κ×β)} (h:rowA l i=some x):idx l i=some (some x):=by
 unfold rowA at h;cases hi:idx l i with
 | none=>rw[hi]at h;cases h
 | some y=>rw[hi]at h;exact congrArg some h
theorem B7 {l:List (Option (Bool×List (κ×β)))} {i:Int} {m:List (κ×β)} (h:rowM l i=some m):idx l i=some (some (false,m)):=by
 obtain⟨x,h1,h2⟩:=bind_some h
 match x,h2 with
 | some (false,m'),h2=>cases h2;exact h1
 | some (true,m'),h2=>cases h2
 | none,h2=>cases h2
def YG (p:Int×α):List (Int×α)->List (Int×α)
 | []=>[p]
 | q::r=>if p.1<=q.1 then p::q::r else q::YG p r
def Ce (m:List (Int×α)):List (Int×α):=m.foldr YG []
theorem Ng (p:Int×α):∀ l,(YG p l).Perm (p::l)
 | []=>List.Perm.refl _
 | q::r=>by
  unfold YG;split
  ·exact List.Perm.refl _
  ·exact((Ng p r).cons q).trans (List.Perm.swap _ _ _)
theorem Eo:∀ m:List (Int×α),(Ce m).Perm m
 | []=>List.Perm.refl _
 | p::m=>(Ng p (Ce m)).trans ((Eo m).cons p)
theorem RN {p:Int×α}:∀ {l:List (Int×α)},l.Pairwise (λ a b=>a.1<=b.1)->(YG p l).Pairwise (λ a b=>a.1<=b.1)
 | [],_=>List.pairwise_singleton _ _
 | q::r,h=>by
  rw[List.pairwise_cons]at h;unfold YG;split
  ·rename_i hle;refine List.pairwise_cons.2 ⟨λ b hb=>?_,List.pairwise_cons.2 h⟩;rcases List.mem_cons.1 hb with rfl|hb
   ·exact hle
   ·have:=h.1 b hb;omega
  ·rename_i hle;refine List.pairwise_cons.2 ⟨λ b hb=>?_,RN h.2⟩;rcases List.mem_cons.1 ((Ng p r).subset hb)with rfl|hb
   ·omega
   ·exact h.1 b hb
theorem PS:∀ m:List (Int×α),(Ce m).Pairwise (λ a b=>a.1<=b.1)
 | []=>List.Pairwise.nil
 | _::m=>RN (PS m)
theorem RO:∀ {l m:List (Int×α)},l.Perm m->(l.map (·.1)).Nodup->l.Pairwise (λ a b=>a.1<=b.1)->m.Pairwise (λ a b=>a.1<=b.1)->l=m
 | [],m,hp,_,_,_=>(hp.symm.eq_nil).symm
 | a::l,[],hp,_,_,_=>by cases hp.eq_nil
 | a::l,b::m,hp,hn,h1,h2=>by
  have hn':=hn;simp only[JkK,List.nodup_cons]at hn';rw[List.pairwise_cons]at h1 h2;have hab:a=b:=by
   rcases List.mem_cons.1 (hp.subset (List.mem_cons_self (a:=a) (l:=l)))with h|h
   ·exact h
   ·rcases List.mem_cons.1 (hp.symm.subset (List.mem_cons_self (a:=b) (l:=m)))with h'|h'
    ·exact h'.symm
    ·have q1:=h1.1 b h';have q2:=h2.1 a h;exact absurd (JkG.2 ⟨b,h',by omega⟩) hn'.1
  subst hab;rw[RO hp.cons_inv hn'.2 h1.2 h2.2]
end
end Go.AI
end
section
namespace Go.AI
def Jd2 {α:Type} (xs:List α) (i j:Int):Option (List α):=if 0<=i/\j=i+1/\j<=xs.length then some (xs.take i.toNat++xs.drop (i.toNat+1))else none
end Go.AI
end
section
namespace Go.AI
open Go.Proofs Go.RowKit Go.Lib
def zero8:List Value:=[.string ⟨#[]⟩,.string ⟨#[]⟩,.int .i64 0,.int .i64 0,.slice none 0 0,.int .i64 0,.string ⟨#[]⟩,.string ⟨#[]⟩]
theorem Wl (w:World) (ty:TypeId) (b o n c:Nat) (hn:n=1)
  (hc:∀ j,j<n*8->(w.cell? ⟨b,o+j,none⟩).isSome=true) (hf:∀ j,j<n*8->w.frozen? ⟨b,o+j,none⟩=false) :
  (Builtin.clear_ #[130] ty #[.slice (some ⟨b,o,none⟩) n c]).run Try.prog w=.ok (.tuple #[]) (w.setCells b o zero8):=by
 subst hn;have hzc:(Builtin.zeroCells (Value.agg zero8.toArray).cells 1).toList=zero8:=by kernel_rfl
 have hone:∀ v∈zero8,v.oneCell'=true:=λ v hv=>by
  simp only[zero8,List.mem_cons,List.not_mem_nil,or_false]at hv;rcases hv with rfl|rfl|rfl|rfl|rfl|rfl|rfl|rfl<;>rfl
 have hst:=run_storeCells_cells (P:=Try.prog) b o zero8 0 w (by simpa [zero8]using hc) (by simpa [zero8]using hf) hone;simp only[Nat.add_zero]at hst;have hz:∀ w,(zeroValue 132).run Try.prog w=.ok (.agg zero8.toArray) w:=Try.zeroValue132;simp only[Builtin.clear_,List.getElem?_toArray,JkL,Jkv,run_underlying Try.underlying130,Jkt,hz,hzc,hst];rfl
set_option maxHeartbeats 4000000 in
set_option maxRecDepth 1000000 in
theorem JaN (blk off cap i j n:Nat) (cs:List Value) (w:World) (hij:j=i+1) (hj:j<=n) (hcap:n<=cap) (hl:cs.length=n*8)
  (hc:∀ t,t<n*8->w.cell? ⟨blk,off+t,none⟩=some (cs.getD t undef)) (hf:∀ t,t<n*8->w.frozen? ⟨blk,off+t,none⟩=false) (h1:∀ u∈cs,u.oneCell'=true) :
  Calls Try.prog 74 #[.slice (some ⟨blk,off,none⟩) n cap,.int .i64 i,.int .i64 j] w λ e w'=>e=.returned (.slice (some ⟨blk,off,none⟩) (i+(n-j)) cap)/\w'=(w.drew.setCells blk (off+i*8) (cs.drop (j*8))).setCells blk (off+(i+(n-j))*8) zero8:=by
 have hlt:i<j:=by omega
 obtain⟨i0,hi0,hz1⟩:∃ i0,Try.prog.info? 132=some i0/\i0.size=8:=by obtain⟨i,h1,h2,_⟩:=Wk;exact⟨i,h1,h2⟩
 obtain⟨news,hnews⟩:∃ news,news=cs.drop (j*8):=⟨_,rfl⟩;have hlen:news.length=(n-j)*8:=by rw[hnews,List.length_drop,hl,Nat.sub_mul]
 obtain⟨A,hA,hsrc⟩:∃ A:Addr,(if cap=j then some (⟨blk,off,none⟩:Addr)else some ⟨blk,off+j*8,none⟩)=some A/\Hid (∀ t u,news[t]?=some u->w.drew.cell? (A.add t)=some u):=by
  by_cases h:cap=j
  ·refine⟨⟨blk,off,none⟩,by simp[h],λ t u hu=>?_⟩;have h0:news.length=0:=by rw[hlen];omega
   rw[List.length_eq_zero_iff.1 h0]at hu;simp at hu
  ·refine⟨⟨blk,off+j*8,none⟩,by simp[h],λ t u hu=>?_⟩;have ht:=(List.getElem?_eq_some_iff.1 hu).1;rw[hlen]at ht;rw[hnews,JkH]at hu;rw[Addr.add_lit,show off+j*8+t=off+(j*8+t) by omega];have:=hc (j*8+t) (by omega);refine Eq.trans ?_ (this.trans ?_)
   ·rfl
   ·rw[List.getD_eq_getElem?_getD,hu];rfl
 have s1:Hid (news.length=(n-j)*8):=hlen;have s2:Hid (∀ u∈news,u.oneCell'=true):=λ u hu=>h1 u (List.mem_of_mem_drop (by rw[← hnews];exact hu));have s3:Hid (∀ t,t<news.length->(w.drew.cell? ⟨blk,off+i*8+t,none⟩).isSome=true/\w.drew.frozen? ⟨blk,off+i*8+t,none⟩=false):=by
  intro t ht;rw[hlen]at ht;rw[JkI];exact⟨by show(w.cell? _).isSome=true;rw[hc (i*8+t) (by omega)];rfl,hf (i*8+t) (by omega)⟩
 obtain⟨W1,hW1⟩:∃ W1,W1=w.drew.setCells blk (off+i*8) news:=⟨_,rfl⟩;have hcl:∀ ty,(Builtin.clear_ #[130] ty #[.slice (some ⟨blk,off+(i+(n-j))*8,none⟩) (n-(i+(n-j))) (cap-(i+(n-j)))]).run Try.prog W1=.ok (.tuple #[]) (W1.setCells blk (off+(i+(n-j))*8) zero8):=
  λ ty=>Wl W1 ty blk _ _ _ (by omega) (λ t ht=>by
   rw[hW1];refine World.isSome_setCells blk news (off+i*8) w.drew _ ?_;show(w.cell? _).isSome=true;rw[JkI,hc _ (by omega)];rfl) (λ t ht=>by
   rw[hW1,World.frozen?_setCells,JkI];exact hf _ (by omega))
 have X:Aside (W1=w.drew.setCells blk (off+i*8) (cs.drop (j*8))):=by rw[hW1,hnews];rfl
 have hW:Hid (W1=w.drew.setCells blk (off+i*8) news):=hW1;have hic:i<=cap:=by omega
 have hjc:j<=cap:=by omega
 clear hW1 hc hf hnews hlen h1 hl hij
 go_enter Try.func74,Try.ntmps74
 go_wp2_with fail
 go_region_law (refine step_append_room rfl (.tmp 22) (.tmp 25) 130 rfl 132 i0 8 Try.underlying130 hi0 hz1 blk off i cap (by simp[Act.eval,Act.put]) A (n-j) (cap-j) news (by simp[Act.eval,Act.put]) s1.out hsrc.out s2.out (by omega) s3.out ?_;rw[← hW.out])
 go_wp2
 go_ret
 refine⟨rfl,?_⟩;rw[← X.out]
theorem Mj {w:World} {b o:Nat} {t:TypeId} {fr:Nat×Nat} {vs:List Value} {cur:Array Value} (hb:w.heap[b]?=some (.cells cur t fr)) (ho:o+vs.length<=cur.size) (hf:R8 fr cur.size) (h1:∀ v∈vs,v.oneCell'=true) :
  w.setCells b o vs={ w with heap:=w.heap.setIfInBounds b (.cells (Bl cur o vs) t fr) }:=by
 have e1:=BL Try.prog b o t fr vs 0 cur w hb (by omega) hf h1;have e2:=run_storeCells_cells (P:=Try.prog) b o vs 0 w (λ j hj=>by
  simp only[World.cell?,hb,Option.isSome_none,Jk0,if_false,Nat.add_zero];have:o+j<cur.size:=by omega
  rw[JkT this];rfl) (λ j hj=>Im hb (hf _ (by omega))) h1
 rw[e1]at e2;have:=congrArg (λ r:Result Unit=>match r with | .ok _ w=>w|_=>w) e2
 simpa using this.symm
theorem JaO {β:Type} {enc:β->List D} (hk:∀ x,(enc x).length=8) {xs zs:List β} {i j:Int} (h:Jd2 xs i j=some zs):Bg Try.prog 74 [.osl 0 8 0 xs.length,.d (.int .i64 i),.d (.int .i64 j)] [some (.arr 8 (xs.map enc))] 1 (.osl 1 8 0 zs.length) [none,some (.arr 8 (zs.map enc))]:=by
 unfold Jd2 at h;split at h
 case isFalse=>cases h
 rename_i hb;obtain⟨hb1,rfl,hb2⟩:=hb;cases h;obtain⟨q,rfl⟩:∃ q:Nat,i=q:=⟨i.toNat,by omega⟩;have hq:q<xs.length:=by omega
 simp only[JkX];generalize hzs:xs.take q++xs.drop (q+1)=zs;have hzl:zs.length=q+(xs.length-(q+1)):=by rw[← hzs];simp;omega
 refine⟨⟨_,_,Try.func74,rfl,rfl⟩,λ N F ρ w vs hS hcr=>?_⟩;obtain⟨v,u1,u2,rfl⟩:∃ v u1 u2,vs=#[v,u1,u2]:=by
  have h1:vs.size=3:=by simpa using hcr.1.symm
  exact⟨vs[0],vs[1],vs[2],by apply Array.ext;simp[h1];intro i h1' h2;simp at h2;match i,h2 with|0,_=>rfl|1,_=>rfl|2,_=>rfl⟩
 have hv:=hcr.2 0 _ v rfl rfl;have hu1:=(hcr.2 1 _ u1 rfl rfl).int;have hu2:=(hcr.2 2 _ u2 rfl rfl).int;subst hu1;subst hu2;generalize hn:xs.length=n at hv;cases hv with
 | osl0 _ _ _ a=>omega
 | osl _ _ _ _ cap Lo hL hc hs hz=>
  obtain⟨⟨g1,g2,cs,t,fr,g3,g4,g5,g6⟩,gN,gF⟩:=hS.obj 0 Lo _ hL rfl;simp only[JkJ]at g2;have hlen:∀ e∈xs.map enc,e.length=8:=λ e he=>by
   simp only[JkG]at he;obtain⟨y,_,rfl⟩:=he;exact hk y
  obtain⟨cells,hcells⟩:∃ cells:List Value,cells=(List.range (n*8)).map λ t=>(cs[Lo.base+t]?).getD undef:=⟨_,rfl⟩;have hcl:cells.length=n*8:=by rw[hcells];simp
  have hget:∀ t,t<n*8->cells[t]?=some ((cs[Lo.base+t]?).getD undef):=λ t ht=>by
   rw[hcells,JkS,List.getElem?_range ht];rfl
  have hat:∀ t,t<n*8->∃ u,cs[Lo.base+t]?=some u/\u.oneCell'=true:=λ t ht=>by
   have d1:t / 8<xs.length:=by omega
   have d2:t % 8<(enc xs[t / 8]).length:=by rw[hk];omega
   obtain⟨u,hu,hd⟩:=g6 (t / 8) (enc xs[t / 8]) (by rw[JkS,JkO d1];rfl) (t % 8) _ (JkO d2);refine⟨u,?_,hd.oneCell⟩;rw[← hu];congr 1;omega
  have hbase:Lo.base+n*8<=cs.size:=by
   rcases Nat.eq_zero_or_pos n with h0|h0
   ·omega
   ·obtain⟨u,hu,_⟩:=hat (n*8-1) (by omega);have:=Ak hu;omega
  have hones:∀ u∈cells,u.oneCell'=true:=λ u hu=>by
   rw[hcells,JkG]at hu;obtain⟨t,ht,rfl⟩:=hu;obtain⟨u,hu,h1⟩:=hat t (List.mem_range.1 ht);rw[hu];exact h1
  have hnfr:R8 fr cs.size:=by rw[g4];exact g5
  have hwalk:=JaN Lo.b (Lo.base+0*8) cap q (q+1) n cells w rfl (by omega) hc hcl (λ t ht=>by
   obtain⟨u,hu,_⟩:=hat t ht;rw[List.getD_eq_getElem?_getD,hget t ht,hu];simp only[World.cell?,g3,Option.isSome_none,Jk0,if_false,Nat.zero_mul,Nat.add_zero];exact hu) (λ t ht=>Im g3 (hnfr _ (by omega))) hones
  refine Calls.mono (by exact hwalk) λ e w' he=>?_;obtain⟨rfl,rfl⟩:=he;have hnl:(cells.drop ((q+1)*8)).length=(n-(q+1))*8:=by rw[List.length_drop,hcl,Nat.sub_mul]
  have e1:=Mj (w:=w.drew) (b:=Lo.b) (o:=Lo.base+0*8+q*8) (vs:=cells.drop ((q+1)*8)) g3 (by rw[hnl];omega) hnfr (λ u hu=>hones u (List.mem_of_mem_drop hu));have hz8:∀ v∈zero8,v.oneCell'=true:=λ v hv=>by
   simp only[zero8,List.mem_cons,List.not_mem_nil,or_false]at hv;rcases hv with rfl|rfl|rfl|rfl|rfl|rfl|rfl|rfl<;>rfl
  have e2:=Mj (w:=w.drew.setCells Lo.b (Lo.base+0*8+q*8) (cells.drop ((q+1)*8))) (b:=Lo.b) (o:=Lo.base+0*8+(q+(n-(q+1)))*8) (vs:=zero8) (t:=t) (fr:=fr) (cur:=Bl cs (Lo.base+0*8+q*8) (cells.drop ((q+1)*8))) (by rw[e1];exact(B4).trans (if_pos ⟨rfl,Ak g3⟩)) (by rw[A7];simp[zero8];omega) (by rw[A7];exact hnfr) hz8;have hheap:((w.drew.setCells Lo.b (Lo.base+0*8+q*8) (cells.drop ((q+1)*8))).setCells Lo.b (Lo.base+0*8+(q+(n-(q+1)))*8) zero8).heap=w.heap.setIfInBounds Lo.b (.cells (Bl (Bl cs (Lo.base+0*8+q*8) (cells.drop ((q+1)*8))) (Lo.base+0*8+(q+(n-(q+1)))*8) zero8) t fr):=by
   rw[e2,e1];show(w.heap.setIfInBounds _ _).setIfInBounds _ _=_;rw[Array.setIfInBounds_setIfInBounds]
  have hmu:Mu w ((w.drew.setCells Lo.b (Lo.base+0*8+q*8) (cells.drop ((q+1)*8))).setCells Lo.b (Lo.base+0*8+(q+(n-(q+1)))*8) zero8):=by
   refine⟨by rw[e2,e1];rfl,by rw[e2,e1];rfl,by rw[hheap];simp,by rw[e2,e1];rfl,by rw[e2,e1];exact Nat.le_succ _⟩
  have hS1:=hS.rewrite (k':=0) (L':=Lo) (x:=.cells (Bl (Bl cs (Lo.base+0*8+q*8) (cells.drop ((q+1)*8))) (Lo.base+0*8+(q+(n-(q+1)))*8) zero8) t fr) (O':=[some (.arr 8 (zs.map enc))]) hL rfl (by rw[Br hL];exact RLe.refl _) rfl (λ j ob' hj hob'=>by
    have:=AK hob';simp at this;omega) (by simp) (by simp) (λ ob' hob'=>by
    cases hob';refine⟨λ e he=>?_,by simp only[JkJ];omega,_,t,fr,by rw[Array.getElem?_setIfInBounds_self_of_lt (Ak g3)],by rw[A7,A7,g4],g5,λ i e hi j x hx=>?_⟩
    ·simp only[JkG]at he;obtain⟨y,_,rfl⟩:=he;exact hk y
    ·simp only[JkS,JkR]at hi;obtain⟨y,hy,rfl⟩:=hi;have hj:j<8:=by have:=Ae hx;rw[hk]at this;exact this
     have hil:=Ae hy;rw[Dk _ _ _ _ (by rw[A7];simp[zero8];omega),if_neg (by simp[zero8];omega),Dk _ _ _ _ (by rw[hnl];omega),hnl];rw[← hzs]at hy;by_cases hiq:i<q
     ·rw[JkW (by simp;omega),List.getElem?_take,if_pos hiq]at hy;obtain⟨u,hu,hd⟩:=g6 i (enc y) (by rw[JkS,hy];rfl) j x hx;exact⟨u,by rw[if_neg (by omega)];exact hu,hd⟩
     ·rw[Jk6 (by simp;omega),List.length_take,Nat.min_eq_left (by omega),JkH,show q+1+(i-q)=i+1 by omega]at hy;obtain⟨u,hu,hd⟩:=g6 (i+1) (enc y) (by rw[JkS,hy];rfl) j x hx;refine⟨u,?_,hd⟩;have hlt:=Ae hy;rw[if_pos (by omega),JkH,hget _ (by omega),show Lo.base+((q+1)*8+(Lo.base+i*8+j-(Lo.base+0*8+q*8)))=Lo.base+(i+1)*8+j by omega,hu];rfl) (λ ob' hob'=>by cases hob';rfl)
  rw[Br hL,← hheap]at hS1;have hzn:q+(n-(q+1))=zs.length:=by omega
  obtain⟨ρ',h1,h2,h3⟩:=M6 (k:=0) (sz:=8) (lo:=0) (n:=zs.length) hS1 rfl (by simp) (v:=.slice (some ⟨Lo.b,Lo.base+0*8,none⟩) zs.length cap) (.osl 0 8 0 zs.length cap Lo hL (by omega) hs hz);rw[show((zs.map enc).drop 0).take zs.length=zs.map enc from by rw[List.drop_zero];exact List.take_of_length_le (by simp)]at h2;exact⟨_,F,ρ',by rw[hzn],h2,λ j _ L h=>h1 j L h,h3,hmu⟩
end Go.AI
end
section
namespace Go.AI
variable {P:Program} {Γ:Cx} {C:Code} {p:List Nat} {Q:Ex->St->Prop} {s s':St} {i nk:Nat} {α κ:Type}
def xKV (objs:List (Option Ob)) (agg:Bool):AV->Option (List D×List Nat×List (Nat×Nat))
 | .agg l=>bif agg then xDs objs l else none
 | v=>bif agg then none else xDs objs [v]
theorem Wm {objs:List (Option Ob)} {agg:Bool} {v:AV} {x:List D} (h:xKV objs agg v=some (x,[],[])):∃ ob,kvA objs agg v=some ⟨x,[],ob⟩/\ob:=by
 cases agg with
 | true=>
  cases v with
  | agg l=>exact JK (l:=l) h leZ
  | _=>simp only[xKV,cond_true]at h;cases h
 | false=>
  cases v with
  | agg l=>simp only[xKV,cond_false]at h;cases h
  | _=>simp only[xKV,cond_false]at h;simp only[kvA,cond_false];exact JK h leZ
theorem Mk [DecidableEq κ] {encK:κ->List D} {enc:α->List D} {ks:List TK} {ka va:Bool} {k:Nat} {m:List (κ×α)} {key:κ} {a:AV} {z:α} {vz:List D} (heq:∀ a b,Ao ks ((encK a).map .d) ((encK b).map .d)=some (decide (a=b))) (ok:Bool) (hz:slZ vz=enc z:=by kernel_rfl) (hk:obA s.objs k=some (.map ka va (Bu encK enc m)):=by kernel_rfl) (hx:xKV s.objs ka a=some (encK key,[],[]):=by kernel_rfl) :
  EQ s (HD (.map ks ka va vz) s.objs (.mp k) a ok) (bif ok then .tup [kvV va (enc ((AR key m).getD z)),.d (.bool (AR key m).isSome)]else kvV va (enc ((AR key m).getD z))) [] [] none:=by
 obtain⟨ob,e2,q⟩:=Wm hx;have hv:((Hp ks (encK key) (Bu encK enc m)).getD (slZ vz))=enc ((AR key m).getD z):=by
  rw[W6 heq,hz];cases AR key m<;>rfl
 have hs:(Hp ks (encK key) (Bu encK enc m)).isSome=(AR key m).isSome:=by rw[W6 heq];cases AR key m<;>rfl
 refine .of (ob:=ob/\Ej ks (encK key) (Bu encK enc m)) ?_ ⟨q,SM heq key m⟩;simp only[HD,hk,cond_true,e2,List.isEmpty_nil,beq_self_eq_true,Bool.and_self,A6,hv,hs]
theorem Jd3 (encK:κ->List D) (enc:α->List D) (m:List (κ×α)):EQ s (val (.d (.int .i64 (Bu encK enc m).length))) (.d (.int .i64 m.length)) [] [] none:=by
 refine .of (ob:=True) ?_ trivial;simp only[val,Bu,JkJ]
theorem OE [DecidableEq κ] {encK:κ->List D} {enc:α->List D} {ks:List TK} {ka va:Bool} {k:Nat} {m:List (κ×α)} {key:κ} {a v:AV} {y:α} {vz:List D} (heq:∀ a b,Ao ks ((encK a).map .d) ((encK b).map .d)=some (decide (a=b))) (hz:Nat.beq (enc y).length vz.length=true:=by kernel_rfl) (hk:obA s.objs k=some (.map ka va (Bu encK enc m)):=by kernel_rfl) (hx:xKV s.objs ka a=some (encK key,[],[]):=by kernel_rfl) (hv:xKV s.objs va v=some (enc y,[],[]):=by kernel_rfl) :
  EQ s (G0 (.map ks ka va vz) s.objs (.mp k) a v) .top [] [] (some (k,.map ka va (Bu encK enc (BQ key y m)))):=by
 obtain⟨ob,e2,q⟩:=Wm hx;obtain⟨ob',e3,q'⟩:=Wm hv;refine .of (ob:=ob/\ob'/\Ej ks (encK key) (Bu encK enc m)/\k ∉ ([]:List Nat)/\(enc y).length=vz.length) ?_ ⟨q,q',SM heq key m,by simp,JkV hz⟩;simp only[G0,hk,e2,e3,JeF heq,List.isEmpty_nil,beq_self_eq_true,Bool.and_self,cond_true]
end Go.AI
end
section
namespace Go.AI
open Go.Sort Go.Shelf Go.Proofs
variable {P:Program} {ρs:Ren}
theorem Sim.more {N:Nat->Prop} {H0 F0 F:Nat->Option Obj} {ρ:Nat->Option Loc} {O:List (Option Ob)} {h:Array Obj} (hS:Sim N H0 F0 F ρ O h) (os:Array Obj):Sim N H0 F0 F ρ O (h++os):=by
 have hl:∀ b,b<h.size->(h++os)[b]?=h[b]? := λ b hb=>Array.getElem?_append_left hb;have hg:∀ b o,h[b]?=some o->(h++os)[b]?=some o:=λ b o hb=>by rw[hl b (Ak hb)];exact hb
 obtain⟨σ,hσ⟩:=hS.inn;have hM:∀ k c M,σ k c=some M->(h++os)[M.b]?=h[M.b]? := λ k c M hM=>hl _ (hσ.new k c M hM).2.1;refine { hS with size:=λ b hb=>hS.size b (by simp at hb;omega),old:=λ b hb=>?_,frz:=λ b o hb=>hg b o (hS.frz b o hb),loc:=λ k L hk=>?_,obj:=λ k L ob hk ho=>?_,inn:=⟨σ,λ k c M hM=>?_,hσ.obj,hσ.sep,λ k L ob0 sz es hk ho hr0 i e j isz xs hi hj o1 v hb hv=>?_⟩ }
 ·have:b<h.size:=by
   apply Classical.byContradiction;intro hn;exact hb (hS.size b (by omega))
  rw[hl b this];exact hS.old b hb
 ·have:=hS.loc k L hk;simp;omega
 ·obtain⟨g1,g2,g3⟩:=hS.obj k L ob hk ho;exact⟨g1.mono (FLe.refl _) (RLe.refl _) (hl _ (hS.loc k L hk)),g2,g3⟩
 ·obtain⟨g1,g2,g3⟩:=hσ.new k c M hM;exact⟨g1,by simp;omega,g3⟩
 ·rw[hl _ (hS.loc k L hk)]at hb;exact(hσ.rep k L ob0 sz es hk ho hr0 i e j isz xs hi hj o1 v hb hv).mono (FLe.refl _) λ L' hL'=>hM _ _ _ hL'
end Go.AI
end
section
namespace Go.AI
def Wn {β:Type} (lt:β->β->Bool) (x:β):List β->List β
 | []=>[x]
 | y::l=>if lt y x=true then y::Wn lt x l else x::y::l
def Lq {β:Type} (lt:β->β->Bool):List β->List β
 | []=>[]
 | x::l=>Wn lt x (Lq lt l)
def UA {β:Type} (lt:β->β->Bool) (xs:List β):Option (List β):=if xs.length<4611686018427387904 then some (Lq lt xs)else none
section
variable {β:Type} {lt:β->β->Bool}
theorem Nh (x:β):∀ l:List β,(Wn lt x l).Perm (x::l)
 | []=>.refl _
 | y::l=>by
  unfold Wn;split
  ·exact((Nh x l).cons y).trans (.swap x y l)
  ·exact .refl _
theorem G8:∀ l:List β,(Lq lt l).Perm l
 | []=>.refl _
 | x::l=>(Nh x _).trans ((G8 l).cons x)
theorem N4 (hn:∀ x y z,lt x y=false->lt y z=false->lt x z=false) (ha:∀ x y,lt x y=true->lt y x=false) {x:β}:∀ {l:List β},l.Pairwise (λ a b=>lt b a=false)->(Wn lt x l).Pairwise (λ a b=>lt b a=false)
 | [],_=>by simp[Wn]
 | y::l,h=>by
  unfold Wn;rw[List.pairwise_cons]at h;split
  ·rename_i hyx;refine List.pairwise_cons.2 ⟨λ z hz=>?_,N4 hn ha h.2⟩;rcases List.mem_cons.1 ((Nh x l).mem_iff.1 hz)with rfl|hz
   ·exact ha _ _ hyx
   ·exact h.1 z hz
  ·rename_i hyx;have hyx:lt y x=false:=by simpa using hyx
   refine List.pairwise_cons.2 ⟨λ z hz=>?_,List.pairwise_cons.2 h⟩;rcases List.mem_cons.1 hz with rfl|hz
   ·exact hyx
   ·exact hn _ _ _ (h.1 z hz) hyx
theorem Ht (hn:∀ x y z,lt x y=false->lt y z=false->lt x z=false) (ha:∀ x y,lt x y=true->lt y x=false):∀ l:List β,(Lq lt l).Pairwise (λ a b=>lt b a=false)
 | []=>.nil
 | _::l=>N4 hn ha (Ht hn ha l)
theorem SY (hi:∀ x,lt x x=false) (hn:∀ x y z,lt x y=false->lt y z=false->lt x z=false) (ht:∀ x y z,lt x y=true->lt y z=true->lt x z=true) {l:List β} (hT:∀ x∈l,∀ y∈l,lt x y=false->lt y x=false->x=y):Lq lt l=l.mergeSort λ x y=>!lt y x:=by
 have ha:∀ x y,lt x y=true->lt y x=false:=λ x y h=>by
  rw[Bool.eq_false_iff];intro h';have:=ht x y x h h';rw[hi]at this;cases this
 refine List.Perm.eq_of_pairwise (le:=λ a b=>lt b a=false) (λ a b h3 h4 h1 h2=>hT _ ((G8 l).mem_iff.1 h3) _ ((List.mergeSort_perm _ _).mem_iff.1 h4) h2 h1) (Ht hn ha l) ?_ ((G8 l).trans (List.mergeSort_perm _ _).symm);have:=List.pairwise_mergeSort (le:=λ x y:β=>!lt y x) (λ a b c h1 h2=>by simp at *;exact hn _ _ _ h2 h1) (λ a b=>by
  cases h:lt b a with
  | false=>simp
  | true=>simp[ha _ _ h]) l
 exact this.imp λ h=>by simpa using h
end
end Go.AI
end
section
namespace Go.AI
open Go.Sort Go.Shelf Go.Proofs
variable {P:Program} {ρs:Ren} {β:Type} [Inhabited β]
theorem A8.is_val {F:Nat->Option Obj} {x:D} {v:Value} (h:A8 F x v) (hp:x.isPlain=true):v=x.val:=by
 cases h<;>first|rfl|cases hp
theorem QQ {x:D} (hp:x.isPlain=true):x.val.oneCell'=true:=A8.oneCell (A8.val (λ _=>none) hp)
theorem JaP {g:Nat} {enc:β->List D} (hpl:∀ x,∀ d∈enc x,d.isPlain=true) {cf:β->β->Int} (hcmp:∀ x y,AJ P g [.agg ((enc x).map .d),.agg ((enc y).map .d)] (.d (.int .i64 (cf x y)))) (k blk off size:Nat) (w:World):CmpLays P g #[] (λ x=>(enc x).map D.val) k cf blk off size w:=by
 intro m os dk _ x y;generalize sortWorldK (λ x=>(enc x).map D.val) k w blk off m dk os=W;have ag:∀ z:β,Ah (λ _=>none) noR (.agg ((enc z).map .d)) (.agg ((enc z).map D.val).toArray):=λ z=>by
  refine .agg _ _ (by simp) λ i a v h1 h2=>?_;simp only[JkS,JkR]at h1;obtain⟨d,hd,rfl⟩:=h1;simp only[List.getElem?_toArray,JkS,hd,Option.map_some,JkY]at h2;subst h2;exact .d _ _ (A8.val _ (hpl z d (JkQ hd)))
 refine((hcmp x y).2 (λ _=>none) W _ ⟨rfl,λ i a v h1 h2=>?_⟩ (λ b o h=>by cases h)).mono λ e w' he=>?_
 ·match i,h1,h2 with
  | 0,h1,h2=>cases h1;cases h2;exact ag x
  | 1,h1,h2=>cases h1;cases h2;exact ag y
 ·obtain⟨v,F',ρ,rfl,hS,hv,hmu⟩:=he;refine⟨?_,w'.drawn-W.drawn,w'.heap.extract W.heap.size w'.heap.size,?_⟩
  ·have hv:Ah F' ρ (.d (.int .i64 (cf x y))) v:=hv;rw[hv.int]
  ·obtain⟨h1,h2,h3,h4,h5⟩:=hmu;have hh:w'.heap=W.heap++w'.heap.extract W.heap.size w'.heap.size:=by
    apply Array.ext_getElem?;intro b;rw[Array.getElem?_append];split
    ·rename_i hb;exact hS.old b (by omega)
    ·rename_i hb;rw[Array.getElem?_extract];split
     ·congr 1;omega
     ·rw[Array.getElem?_eq_none (by omega)]
   show w'={ W with drawn:=W.drawn+(w'.drawn-W.drawn),heap:=W.heap++w'.heap.extract W.heap.size w'.heap.size };rw[← hh,Nat.add_sub_cancel' h5];cases w';cases W;simp only at h1 h2 h4;subst h1;subst h2;subst h4;rfl
theorem SZ {lt:β->β->Bool} (hS:SWO lt) {d d':Array β} (hT:∀ x∈d.toList,∀ y∈d.toList,lt x y=false->lt y x=false->x=y) (hP:PermIn 0 d.size d d') (hSo:SortedIn lt 0 d.size d'):d'=(d.toList.mergeSort λ x y=>!lt y x).toArray:=by
 obtain⟨hsz,_,hperm⟩:=hP;have e1:d'.extract 0 d.size=d':=by rw[← hsz];exact Array.extract_size
 rw[e1,Array.extract_size]at hperm
 suffices h:d'.toList=d.toList.mergeSort λ x y=>!lt y x by rw[← h]
 refine List.Perm.eq_of_pairwise (le:=λ x y=>(!lt y x)=true) ?_ ?_ ?_ (hperm.trans (List.mergeSort_perm _ _).symm)
 ·intro a b ha hb h1 h2;simp only[Bool.not_eq_true']at h1 h2;exact hT a (hperm.mem_iff.1 ha) b ((List.mergeSort_perm _ _).mem_iff.1 hb) h2 h1
 ·rw[List.pairwise_iff_getElem];intro i j hi hj hij;have hi':i<d'.size:=by simpa using hi
  have hj':j<d'.size:=by simpa using hj
  have:=hSo i j (Nat.zero_le _) hij (by omega);rw[getElem!_pos d' j hj',getElem!_pos d' i hi']at this;simpa using this
 ·refine List.pairwise_mergeSort ?_ ?_ _
  ·intro a b c h1 h2;simp only[Bool.not_eq_true']at h1 h2⊢;exact hS.ntrans c b a h2 h1
  ·intro a b;cases h:lt b a with
   | false=>simp
   | true=>simp[hS.asymmA h]
theorem Wo (L:SlLaysF0.n6 P ρs) (k:Nat) (hk1:1<=k) (aE:∀ w,(isAgg (ρs.t 24)).run P w=.ok true w) (zE:∀ w,(Go.sizeOf (ρs.t 24)).run P w=.ok k w) {enc:β->List D} (hk:∀ x,(enc x).length=k) (hpl:∀ x,∀ d∈enc x,d.isPlain=true) {cf:β->β->Int} (hO:SWO (ltOf cf)) {xs zs:List β} (hT:∀ x∈xs,∀ y∈xs,ltOf cf x y=false->ltOf cf y x=false->x=y) {g:Nat} (eg:∀ args w,(callFunc g args).run P w=.ok (.enter g args) w)
  (hcmp:∀ x y,AJ P g [.agg ((enc x).map .d),.agg ((enc y).map .d)] (.d (.int .i64 (cf x y)))) (hf:∃ fn c,P.funcs[ρs.f 6]? = some fn/\fn.body=some c/\(fn.name == "runtime.NumGoroutine")=false) (h:UA (ltOf cf) xs=some zs) :
  Bg P (ρs.f 6) [.osl 0 k 0 xs.length,.clo g []] [some (.arr k (xs.map enc))] 1 (.tup []) [some (.arr k (zs.map enc))]:=by
 have hz:xs.length<4611686018427387904/\zs=xs.mergeSort λ x y=>!(ltOf cf) y x:=by
  unfold UA at h;split at h
  ·rename_i h1;exact⟨h1,by rw[← SY hO.irrefl hO.ntrans hO.trans hT];exact(Option.some.inj h).symm⟩
  ·cases h
 obtain⟨hlt,hzs⟩:=hz;refine⟨hf,λ N F ρ w vs hS hcr=>?_⟩;obtain⟨v,u,rfl⟩:∃ v u,vs=#[v,u]:=by
  have h1:vs.size=2:=by simpa using hcr.1.symm
  exact⟨vs[0],vs[1],by apply Array.ext;simp[h1];intro i h1' h2;simp at h2;match i,h2 with|0,_=>rfl|1,_=>rfl⟩
 have hv:=hcr.2 0 _ v rfl rfl;have hu:=hcr.2 1 _ u rfl rfl;have hu:u=.func (.func g) #[] #[]:=by
  cases hu with
  | clo _ _ vs hl _=>
   have:vs=#[]:=Array.eq_empty_of_size_eq_zero hl.symm;rw[this]
 subst hu;have hlen:zs.length=xs.length:=by rw[hzs];exact List.length_mergeSort _
 have htup:∀ F' ρ',Ah F' ρ' (.tup []) (.tuple #[]):=λ F' ρ'=>.tup [] #[] rfl λ i a v h=>by simp at h
 generalize hn:xs.length=n at hv;cases hv with
 | osl0 _ _ _ a=>
  have hx:xs=[]:=List.length_eq_zero_iff.1 hn;have hz0:zs=[]:=List.length_eq_zero_iff.1 (by omega);refine(AnyF.slices_SortFunc_none L a 0 _ w).mono λ e w' he=>?_;obtain⟨rfl,rfl⟩:=he;subst hx;subst hz0;exact⟨_,F,ρ,rfl,hS,λ j _ L h=>h,htup _ _,Mu.refl _⟩
 | osl _ _ _ _ cap Lo hL hc hs hz=>
  obtain⟨⟨g1,g2,cs,t,fr,g3,g4,g5,g6⟩,gN,gF⟩:=hS.obj 0 Lo _ hL rfl;simp only[JkJ]at g2;have hdm:∀ j,j<xs.length*k->j / k<xs.length/\j % k<k/\j / k*k+j % k=j:=λ j hj=>⟨(Nat.div_lt_iff_lt_mul (by omega)).2 hj,Nat.mod_lt _ (by omega),by rw[Nat.mul_comm];exact Nat.div_add_mod j k⟩;have hcell:∀ j,j<xs.length*k->cs[Lo.base+j]?=some ((flatK (λ x=>(enc x).map D.val) k xs.toArray)[j]!):=λ j hj=>by
   obtain⟨d1,d2,d3⟩:=hdm j hj;have hx:xs.toArray[j / k]! = xs[j / k]:=by rw[getElem!_pos _ (j / k) (by simpa using d1)];simp
   have hd2:j % k<(enc xs[j / k]).length:=by rw[hk];exact d2
   obtain⟨v,hv,hd⟩:=g6 (j / k) (enc xs[j / k]) (by rw[JkS,JkO d1];rfl) (j % k) _ (JkO hd2);have:=hd.is_val (hpl _ _ (JkA hd2));subst this;rw[get_flatK _ _ _ j (by simpa using hj),hx];rw[show Lo.base+j=Lo.base+j / k*k+j % k by omega,hv,getElem!_pos _ (j % k) (by simpa using hd2)];simp
  have hH:HoldsK (λ x=>(enc x).map D.val) k w Lo.b (Lo.base+0*k) xs.toArray:=λ j hj=>by
   have hj:j<xs.length*k:=by simpa using hj
   have:=hcell j hj;refine⟨by simp only[World.cell?,g3,Option.isSome_none,Jk0,if_false,Nat.zero_mul,Nat.add_zero];exact this,Im g3 (g5 _ ?_)⟩;simp;omega
  have hcon0:=AnyQ.slices_SortFunc L k aE zE (λ x=>(enc x).map D.val) (λ x=>by simp[hk]) (λ x v hv=>by
   simp only[JkG]at hv;obtain⟨d,hd,rfl⟩:=hv;exact QQ (hpl x d hd)) cf hO g #[] Lo.b (Lo.base+0*k) cap xs.toArray w eg (JaP hpl hcmp k _ _ _ w) hH (Ak g3) (by simpa using hlt)
  have hcon:=hcon0.mono λ e w' he=>(show e=.returned (.tuple #[])/\∃ n os,w'=sortWorldK (λ x=>(enc x).map D.val) k w Lo.b (Lo.base+0*k) n (xs.toArray.toList.mergeSort λ x y=>!(ltOf cf) y x).toArray os by
   obtain⟨he,d',n,os,hp,hs',hw⟩:=he;exact⟨he,n,os,by rw[hw,← SZ hO (by simpa using hT) hp hs']⟩)
  rw[show xs.toArray.size=n by simpa using hn]at hcon;refine hcon.mono λ e w' he=>?_;obtain⟨rfl,m,os,rfl⟩:=he;rw[show xs.toArray.toList=xs from rfl,← hzs];have hheap:(sortWorldK (λ x=>(enc x).map D.val) k w Lo.b (Lo.base+0*k) m zs.toArray os).heap=w.heap.setIfInBounds Lo.b (.cells (putCells id Lo.base (flatK (λ x=>(enc x).map D.val) k zs.toArray) cs) t fr)++os:=by
   simp only[sortWorldK,putRowK,grow,putRow,mapBlock,Sort.ahead,Nat.zero_mul,Nat.add_zero];congr 1;apply Array.ext_getElem?;intro i;rw[Array.getElem?_modify,Array.getElem?_setIfInBounds];split
   ·rename_i e;subst e;rw[if_pos (Ak g3),g3];rfl
   ·rfl
  have hS1:=hS.rewrite (k':=0) (L':=Lo) (x:=.cells (putCells id Lo.base (flatK (λ x=>(enc x).map D.val) k zs.toArray) cs) t fr) (O':=[some (.arr k (zs.map enc))]) hL rfl (by rw[Br hL];exact RLe.refl _) rfl (λ j ob' hj hob'=>by
    have:=AK hob';simp at this;omega) (by simp) (by simp) (λ ob' hob'=>by
    cases hob';refine⟨λ e he=>?_,by simp;rw[hlen];exact g2,_,t,fr,by rw[Array.getElem?_setIfInBounds_self_of_lt (Ak g3)],by simp[putCells,g4],g5,λ i e hi j x hx=>?_⟩
    ·simp only[JkG]at he;obtain⟨y,_,rfl⟩:=he;exact hk y
    ·simp only[JkS,JkR]at hi;obtain⟨y,hy,rfl⟩:=hi;have hj:j<k:=by have:=Ae hx;rw[hk]at this;exact this
     have hil:=Ae hy;have hlt2:i*k+j<zs.length*k:=by
      have:(i+1)*k<=zs.length*k:=Jkx k (by omega);rw[Jk1]at this;omega
     have hcs:Lo.base+i*k+j<cs.size:=by
      have:=hcell (i*k+j) (by rw[← hlen];exact hlt2);have:=Ak this;omega
     refine⟨x.val,?_,A8.val _ (hpl y x (JkQ hx))⟩;have e1:(flatK (λ x=>(enc x).map D.val) k zs.toArray)[i*k+j]! = x.val:=by
      rw[get_flatK _ _ _ _ (by simpa using hlt2)];have h1:(i*k+j) / k=i:=by rw[Nat.mul_comm,Nat.mul_add_div (by omega),Nat.div_eq_of_lt hj];omega
      have h2:(i*k+j) % k=j:=by rw[Nat.mul_comm,Nat.mul_add_mod];exact Nat.mod_eq_of_lt hj
      rw[h1,h2];have e0:zs.toArray[i]! = y:=by
       rw[getElem!_pos _ i (by simpa using hil)];simpa [JkO hil]using hy
      rw[e0];have hjl:j<((enc y).map D.val).length:=by simp[hk];exact hj
      rw[getElem!_pos _ j hjl,List.getElem_map];have:=JkO (l:=enc y) (by rw[hk];exact hj);rw[this]at hx;cases hx;rfl
     simp only[putCells,Array.getElem?_mapIdx,JkT hcs,Option.map_some];rw[if_pos ⟨by omega,by simp;omega⟩,show Lo.base+i*k+j-Lo.base=i*k+j by omega,e1];rfl) (λ ob' hob'=>by cases hob';rfl)
  rw[Br hL]at hS1;refine⟨_,F,ρ,rfl,by rw[hheap];exact hS1.more os,λ j _ L h=>h,htup _ _,rfl,rfl,by rw[hheap];simp,rfl,Nat.le_add_right _ _⟩
end Go.AI
end
section
namespace Go.AI
variable {β:Type}
def ltC (c:β->β->Option Int) (x y:β):Bool:=decide ((c x y).getD 0<0)
structure Xg (c:β->β->Option Int):Prop where
 tot:∀ x y,(c x y).isSome=true
 irrefl:∀ x,ltC c x x=false
 trans:∀ x y z,ltC c x y=true->ltC c y z=true->ltC c x z=true
 ntrans:∀ x y z,ltC c x y=false->ltC c y z=false->ltC c x z=false
def Xh (c:β->β->Option Int) (xs:List β):Prop:=∀ x∈xs,∀ y∈xs,ltC c x y=false->ltC c y x=false->x=y
open Classical in
noncomputable def sortC (c:β->β->Option Int) (xs:List β):Option (List β):=if Xg c/\Xh c xs then UA (ltC c) xs else none
theorem PT {c:β->β->Option Int} {xs zs:List β} (h:sortC c xs=some zs):(Xg c/\Xh c xs)/\UA (ltC c) xs=some zs:=by
 unfold sortC at h;split at h
 ·rename_i hc;exact⟨hc,h⟩
 ·cases h
theorem JaQ {c:β->β->Option Int} (hc:Xg c) {xs:List β} (h1:Xh c xs) (h:xs.length<4611686018427387904):sortC c xs=some (Lq (ltC c) xs):=by
 unfold sortC UA;rw[if_pos ⟨hc,h1⟩,if_pos h]
end Go.AI
end
section
namespace Go.AI
open Go.Sort Go.Shelf Go.Proofs
theorem S0 {P:Program} {g:Nat} {fn:Func} (hf:P.funcs[g]? = some fn) (hb:fn.body=some (AS fn):=by kernel_rfl) (hnm:(fn.name == "runtime.NumGoroutine")=false:=by kernel_rfl) (args:Array Value) (w:World):(callFunc g args).run P w=.ok (.enter g args) w:=by
 simp only[callFunc,Jkv,run_program,Jkt,hf,hnm,hb,Jk0,if_false,Option.isNone_some,Jkw]
theorem Wp {P:Program} {ρs:Ren} {β:Type} [Inhabited β] (L:SlLaysF0.n6 P ρs) {k:Nat} (hk1:1<=k) (aE:∀ w,(isAgg (ρs.t 24)).run P w=.ok true w) (zE:∀ w,(Go.sizeOf (ρs.t 24)).run P w=.ok k w) {enc:β->List D} (hk:∀ x,(enc x).length=k) (hpl:∀ x,∀ d∈enc x,d.isPlain=true) {c:β->β->Option Int} {g:Nat} (eg:∀ args w,(callFunc g args).run P w=.ok (.enter g args) w)
  (hcmp:∀ {x y:β} {z:Int},c x y=some z->AJ P g [.agg ((enc x).map .d),.agg ((enc y).map .d)] (.d (.int .i64 z))) (hf:∃ fn c,P.funcs[ρs.f 6]? = some fn/\fn.body=some c/\(fn.name == "runtime.NumGoroutine")=false) {xs zs:List β} (h:sortC c xs=some zs) :
  Bg P (ρs.f 6) [.osl 0 k 0 xs.length,.clo g []] [some (.arr k (xs.map enc))] 1 (.tup []) [some (.arr k (zs.map enc))]:=by
 obtain⟨⟨hc,h1⟩,h⟩:=PT h;refine Wo L k hk1 aE zE hk hpl (cf:=λ x y=>(c x y).getD 0) ⟨hc.irrefl,hc.trans,hc.ntrans⟩ h1 eg (λ x y=>hcmp ?_) hf h;have:=hc.tot x y;rw[Option.isSome_iff_exists]at this;obtain⟨n,hn⟩:=this;rw[hn];rfl
end Go.AI
end
section
namespace Go.AI
structure Da (α:Type) where
 a0:α
 a1:α
 deriving DecidableEq,Inhabited
structure AB where
 Print:(List UInt8)
 Cells:(List Int)
 Left:Int
 Right:Int
 From:Int
 To:Int
 deriving DecidableEq,Inhabited
structure Ab where
 Modes:Int
 Accept:Int
 Rules:(List AB)
 deriving DecidableEq,Inhabited
structure Af where
 Mode:Int
 Last:Int
 Need:Int
 deriving DecidableEq,Inhabited
structure Ay where
 Up:Int
 Maybe:Int
 deriving DecidableEq,Inhabited
structure Hu where
 Print:(List UInt8)
 Cells:(List UInt8)
 To:Int
 deriving DecidableEq,Inhabited
structure Ad where
 Felt:(List Ay)
 Budget:Int
 Most:Int
 Arcs:(List (List Hu))
 Accepts:(List Bool)
 Before:(List (Option (Bool×(List (Int×Int)))))
 deriving DecidableEq,Inhabited
structure Ag where
 Cost:Int
 Text:(List UInt8)
 Cells:(List UInt8)
 deriving DecidableEq,Inhabited
structure Ai where
 Arc:Hu
 More:Int
 List:(List Ag)
 First:Ag
 deriving DecidableEq,Inhabited
structure An where
 Text:(List UInt8)
 Cells:(List Int)
 Cost:Int
 deriving DecidableEq,Inhabited
structure CI where
 P:(List Int)
 C:(List Int)
 L:Int
 R:Int
 W:(Da Int)
 deriving DecidableEq,Inhabited
structure Ji where
 Base:Int
 Drop:Int
 More:(List CI)
 deriving DecidableEq,Inhabited
structure Aa where
 T:Ab
 L:(List Ay)
 Budget:Int
 Left:Int
 Out:(List An)
 deriving DecidableEq,Inhabited
structure GA where
 S:Af
 Rule:Int
 At:Int
 Text:(List UInt8)
 deriving DecidableEq,Inhabited
structure Jkb (α:Type) where
 a0:α
 a1:α
 a2:α
 deriving DecidableEq,Inhabited
def A4 (_:Nat) (b:(List UInt8)) (c:(List Int)) (a:(Da Int)):Option AB:=
 some ({ Print:=b,Cells:=c,Left:=63,Right:=63,From:=a.a0,To:=a.a1 }:AB)
def N5 (n:Nat) :Option (List AB):=
 (A4 n [97] [1] ({ a0:=0,a1:=0 }:(Da Int))).bind λ a=>
 (A4 n [98] [3] ({ a0:=0,a1:=0 }:(Da Int))).bind λ b=>
 (A4 n [99] [9] ({ a0:=0,a1:=0 }:(Da Int))).bind λ c=>
 (A4 n [32] [0] ({ a0:=0,a1:=0 }:(Da Int))).bind λ d=>
 some [a,b,c,d]
def Fy (n:Nat) (c:Int) (a:Int) (d:(Da Int)):Option AB:=
 (A4 n [] [c] d).bind λ b=>
 (Cj (decide (0<=a))).bind λ _=>
 some ({ Print:=b.Print,Cells:=b.Cells,Left:=b.Left,Right:=PB .u8 1 a,From:=b.From,To:=b.To }:AB)
def Ew (_:Nat) (a:(List AB)):Option Ab:=
 some ({ Modes:=1,Accept:=1,Rules:=a }:Ab)
def FN (n:Nat) (a:Int):Option Ab:=
 (N5 n).bind λ d=>
 if((Bo a 8)==1)=true then
  (Fy n 60 3 ({ a0:=0,a1:=1 }:(Da Int))).bind λ u=>
  (A4 n [49] [1] ({ a0:=1,a1:=1 }:(Da Int))).bind λ v=>
  (A4 n [50] [3] ({ a0:=1,a1:=1 }:(Da Int))).bind λ w=>
  (A4 n [32] [0] ({ a0:=1,a1:=0 }:(Da Int))).bind λ e=>
  (app 64 d [u,v,w,e]).bind λ x=>
  some ({ Modes:=2,Accept:=3,Rules:=x }:Ab)
 else
  if((Bo a 8)==2)=true then
   (Fy n 32 2 ({ a0:=0,a1:=1 }:(Da Int))).bind λ f=>
   (A4 n [65] [1] ({ a0:=1,a1:=0 }:(Da Int))).bind λ g=>
   (A4 n [66] [3] ({ a0:=1,a1:=0 }:(Da Int))).bind λ h=>
   (app 64 d [f,g,h]).bind λ y=>
   some ({ Modes:=2,Accept:=1,Rules:=y }:Ab)
  else
   if((Bo a 8)==3)=true then
    (A4 n [97,98] [7] ({ a0:=0,a1:=0 }:(Da Int))).bind λ i=>
    (A4 n [97,98,99] [15] ({ a0:=0,a1:=0 }:(Da Int))).bind λ j=>
    (A4 n [99,97] [4,4] ({ a0:=0,a1:=0 }:(Da Int))).bind λ k=>
    (app 64 d [i,j,k]).bind λ z=>
    Ew n z
   else
    if((Bo a 8)==4)=true then
     (A4 n [45] [1,3] ({ a0:=0,a1:=0 }:(Da Int))).bind λ l=>
     (app 64 d [l]).bind λ A=>
     Ew n A
    else
     if((Bo a 8)==5)=true then
      (A4 n [98] [44] ({ a0:=0,a1:=0 }:(Da Int))).bind λ b=>
      (A4 n [99,97,98] [44] ({ a0:=0,a1:=0 }:(Da Int))).bind λ c=>
      (A4 n [45] [36] ({ a0:=0,a1:=0 }:(Da Int))).bind λ m=>
      (app 64 d [({ Print:=b.Print,Cells:=b.Cells,Left:=17,Right:=b.Right,From:=b.From,To:=b.To }:AB),({ Print:=c.Print,Cells:=c.Cells,Left:=2,Right:=c.Right,From:=c.From,To:=c.To }:AB),m]).bind λ B=>
      Ew n B
     else
      if((Bo a 8)==6)=true then
       (Fy n 40 1 ({ a0:=0,a1:=1 }:(Da Int))).bind λ o=>
       (A4 n [225] [1] ({ a0:=1,a1:=0 }:(Da Int))).bind λ p=>
       (A4 n [226] [3] ({ a0:=1,a1:=0 }:(Da Int))).bind λ q=>
       (app 64 d [o,p,q]).bind λ C=>
       some ({ Modes:=2,Accept:=1,Rules:=C }:Ab)
      else
       if((Bo a 8)==7)=true then
        (A4 n [45] [1,5] ({ a0:=0,a1:=0 }:(Da Int))).bind λ r=>
        (A4 n [49] [5,5] ({ a0:=0,a1:=0 }:(Da Int))).bind λ s=>
        (A4 n [50] [5,9] ({ a0:=0,a1:=0 }:(Da Int))).bind λ t=>
        (app 64 d [r,s,t]).bind λ E=>
        Ew n E
       else
        Ew n d
def F4 (_:Nat) (a:Int):Option Bool:=
 some ((decide (32<=Cg .u8 a 127))&&(decide (Cg .u8 a 127<=126)))
def G9 (n:Nat) (b:(List UInt8)) (a:Int):Option (Int⊕(Unit⊕(Int×Int))):=
 if decide (a<((b.length:Nat):Int))=true then
  (Jh b a).bind λ d=>
  (F4 n d).bind λ c=>
  if(!c)=true then
   some (.inr (.inr (a,60)))
  else
   some (.inl (AZ .i64 a 1))
 else
  some (.inr (.inl ()))
def Ml (n:Nat) (a:(List UInt8)):Option (Int×Int):=
 (whl (λ (x:Int)=>G9 n a x) n 0).bind λ b=>
 match b with
 | Sum.inl _=>
  some (((a.length:Nat):Int),0)
 | Sum.inr c=>
  some c
def Gl (_:Nat) (a:Int):Option Int:=
 if((decide (97<=Cg .u8 a 127))&&(decide (Cg .u8 a 127<=122)))=true then
  some 1
 else
  if((decide (65<=Cg .u8 a 127))&&(decide (Cg .u8 a 127<=90)))=true then
   some 2
  else
   if((decide (48<=Cg .u8 a 127))&&(decide (Cg .u8 a 127<=57)))=true then
    some 3
   else
    if((Cg .u8 a 127)==32)=true then
     some 4
    else
     some 5
def Ei (n:Nat) (b:(List UInt8)) (a:Int):Option (Int⊕(Unit⊕Bool)):=
 if decide (a<((b.length:Nat):Int))=true then
  (Jh b a).bind λ d=>
  (Gl n d).bind λ c=>
  if(c==4)=true then
   some (.inr (.inr true))
  else
   some (.inl (AZ .i64 a 1))
 else
  some (.inr (.inl ()))
def Ge (n:Nat) (a:(List UInt8)):Option Bool:=
 (whl (λ (x:Int)=>Ei n a x) n 0).bind λ b=>
 match b with
 | Sum.inl _=>
  some false
 | Sum.inr c=>
  some c
def Ni (_:Nat) (a:Int):Option Bool:=
 some (decide (a<64))
def Gf (n:Nat) (b:AB) (a:Int):Option (Int⊕(Unit⊕Bool)):=
 if decide (a<((b.Cells.length:Nat):Int))=true then
  (idx b.Cells a).bind λ c=>
  (Ni n c).bind λ d=>
  if(((!d)||(c==63))||(c==0))=true then
   some (.inr (.inr false))
  else
   some (.inl (AZ .i64 a 1))
 else
  some (.inr (.inl ()))
def Kv (n:Nat) (a:AB) (b:Int):Option Bool:=
 if(((decide (((a.Print.length:Nat):Int)>4))||(decide (((a.Cells.length:Nat):Int)<1)))||(decide (((a.Cells.length:Nat):Int)>4)))=true then
  some false
 else
  (Ml n a.Print).bind λ c=>
  if(c.2 != 0)=true then
   some false
  else
   if((((decide (a.Left<1))||(decide (a.Left>63)))||(decide (a.Right<1)))||(decide (a.Right>63)))=true then
    some false
   else
    if((((decide (a.From<0))||(decide (a.From>=b)))||(decide (a.To<0)))||(decide (a.To>=b)))=true then
     some false
    else
     (Ge n a.Print).bind λ d=>
     if d=true then
      (if((((a.Print.length:Nat):Int)==1)&&(((a.Cells.length:Nat):Int)==1))=true then idx a.Cells 0 else some default).bind λ e=>
      some (((((a.Print.length:Nat):Int)==1)&&(((a.Cells.length:Nat):Int)==1))&&(e==0))
     else
      (whl (λ (x:Int)=>Gf n a x) n 0).bind λ f=>
      match f with
      | Sum.inl _=>
       some true
      | Sum.inr g=>
       some g
def Gg (_:Nat) (b:(List Int)) (c:(List Int)) (a:Int):Option (Int⊕(Unit⊕Bool)):=
 if decide (a<((b.length:Nat):Int))=true then
  (idx b a).bind λ d=>
  (idx c a).bind λ e=>
  if(d != e)=true then
   some (.inr (.inr false))
  else
   some (.inl (AZ .i64 a 1))
 else
  some (.inr (.inl ()))
def Kw (n:Nat) (a:(List Int)) (b:(List Int)):Option Bool:=
 if(((a.length:Nat):Int) != ((b.length:Nat):Int))=true then
  some false
 else
  (whl (λ (x:Int)=>Gg n a b x) n 0).bind λ c=>
  match c with
  | Sum.inl _=>
   some true
  | Sum.inr d=>
   some d
def Kx (n:Nat) (a:AB) (b:AB):Option Bool:=
 (if(((((a.From==b.From)&&(a.To==b.To))&&(a.Left==b.Left))&&(a.Right==b.Right))&&(a.Print==b.Print))=true then Kw n a.Cells b.Cells else some default).bind λ c=>
 some ((((((a.From==b.From)&&(a.To==b.To))&&(a.Left==b.Left))&&(a.Right==b.Right))&&(a.Print==b.Print))&&c)
def ES (n:Nat) (_:Ab) (b:Int) (e:AB) (d:(List AB)) (a:Int):Option (Int⊕(Unit⊕(Int×Int))):=
 if decide (a<((d.length:Nat):Int))=true then
  (idx d a).bind λ f=>
  (Kx n f e).bind λ c=>
  if c=true then
   some (.inr (.inr (b,20)))
  else
   some (.inl (AZ .i64 a 1))
 else
  some (.inr (.inl ()))
def ET (n:Nat) (b:Ab) (a:Int):Option (Int⊕(Unit⊕(Int×Int))):=
 if decide (a<((b.Rules.length:Nat):Int))=true then
  (idx b.Rules a).bind λ f=>
  (Kv n f b.Modes).bind λ c=>
  if(!c)=true then
   some (.inr (.inr (a,20)))
  else
   (sub b.Rules 0 a).bind λ g=>
   (whl (λ (x:Int)=>ES n b a f g x) n 0).bind λ d=>
   match d with
   | Sum.inl _=>
    some (.inl (AZ .i64 a 1))
   | Sum.inr e=>
    some (.inr (.inr e))
 else
  some (.inr (.inl ()))
def Ky (n:Nat) (a:Ab):Option (Int×Int):=
 if((decide (a.Modes<1))||(decide (a.Modes>8)))=true then
  some ((-1),1)
 else
  (if(!(a.Accept==0))=true then Cj (decide (0<=a.Modes))else some default).bind λ _=>
  if((a.Accept==0)||(decide (IntKind.i64.wrap a.Accept>=PB .i64 1 a.Modes)))=true then
   some ((-1),1)
  else
   if((decide (((a.Rules.length:Nat):Int)<1))||(decide (((a.Rules.length:Nat):Int)>64)))=true then
    some ((-1),1)
   else
    (whl (λ (x:Int)=>ET n a x) n 0).bind λ b=>
    match b with
    | Sum.inl _=>
     some (0,0)
    | Sum.inr c=>
     some c
def Nj (n:Nat) (a:Ab):Option Bool:=
 (Ky n a).bind λ b=>
 some (b.2==0)
def Nk (_:Nat) :Option Af:=
 some ({ Mode:=0,Last:=0,Need:=63 }:Af)
def ID (_:Nat) (b:Int) (a:Int):Option Bool:=
 (if((decide (0<=a))&&(decide (a<8)))=true then Cj (decide (0<=a))else some default).bind λ _=>
 some (((decide (0<=a))&&(decide (a<8)))&&((Cg .u8 (Yl .u8 b a) 1)==1))
def JO (n:Nat) (d:Ab) (a:Af) (c:Int):Option (Af×Bool):=
 if((decide (c<0))||(decide (c>=((d.Rules.length:Nat):Int))))=true then
  some (({ Mode:=0,Last:=0,Need:=0 }:Af),false)
 else
  (idx d.Rules c).bind λ b=>
  (if(!(b.From != a.Mode))=true then ID n b.Left a.Last else some default).bind λ e=>
  if((b.From != a.Mode)||(!e))=true then
   some (({ Mode:=0,Last:=0,Need:=0 }:Af),false)
  else
   if(b.Print==[])=true then
    if((Cg .u8 a.Need b.Right)==0)=true then
     some (({ Mode:=0,Last:=0,Need:=0 }:Af),false)
    else
     some (({ Mode:=b.To,Last:=a.Last,Need:=Cg .u8 a.Need b.Right }:Af),true)
   else
    (Jh b.Print 0).bind λ i=>
    (Gl n i).bind λ f=>
    (ID n a.Need f).bind λ g=>
    if(!g)=true then
     some (({ Mode:=0,Last:=0,Need:=0 }:Af),false)
    else
     (Jh b.Print (FZ .i64 ((b.Print.length:Nat):Int) 1)).bind λ j=>
     (Gl n j).bind λ h=>
     some (({ Mode:=b.To,Last:=h,Need:=b.Right }:Af),true)
def CO (_:Nat) (d:Int) (a:(List Af)) (c:(List (List Int))) (b:(List (Af×Int))):Option (((List Af)×(List (List Int))×(List (Af×Int))×Int)⊕((List Af)×(List (List Int))×(List (Af×Int)))):=
 some (.inl (a,c,b,(AZ .i64 d 1)))
def DC (n:Nat) (e:Int) (f:Int) (b:(List Af)) (a:(List (List Int))) (c:(List (Af×Int))) (d:Int):Option (((List Af)×(List (List Int))×(List (Af×Int))×Int)⊕((List Af)×(List (List Int))×(List (Af×Int)))):=
 (idx a d).bind λ g=>
 (app 8 g [e]).bind λ h=>
 CO n f b (List.set a d.toNat h) c
def BU (n:Nat) (g:Ab) (f:Int) (a:(List Af)) (c:(List (List Int))) (b:(List (Af×Int))) (d:Int):Option (((List Af)×(List (List Int))×(List (Af×Int))×Int)⊕((List Af)×(List (List Int))×(List (Af×Int)))):=
 if decide (d<((g.Rules.length:Nat):Int))=true then
  (idx a f).bind λ j=>
  (JO n g j d).bind λ e=>
  if(!e.2)=true then
   CO n d a c b
  else
   if(!(Option.isSome (AR e.1 b)))=true then
    (app 24 a [e.1]).bind λ h=>
    (app 24 c [([]:(List Int))]).bind λ i=>
    DC n f d h i (BQ e.1 ((a.length:Nat):Int) b) ((a.length:Nat):Int)
   else
    DC n f d a c b (Option.getD (AR e.1 b) 0)
 else
  some (.inr (a,c,b))
def CP (n:Nat) (f:Ab) (a:(List Af)) (b:(List (List Int))) (c:(List (Af×Int))) (d:Int):Option (((List Af)×(List (List Int))×(List (Af×Int))×Int)⊕((List Af)×(List (List Int)))):=
 if decide (d<((a.length:Nat):Int))=true then
  (whl (λ (x:((List Af)×(List (List Int))×(List (Af×Int))×Int))=>BU n f d x.1 x.2.1 x.2.2.1 x.2.2.2) n (a,b,c,0)).bind λ e=>
  some (.inl (e.1,e.2.1,e.2.2,(AZ .i64 d 1)))
 else
  some (.inr (a,b))
def Ha (n:Nat) (c:Ab):Option ((List Af)×(List (List Int))):=
 (Nk n).bind λ a=>
 (whl (λ (x:((List Af)×(List (List Int))×(List (Af×Int))×Int))=>CP n c x.1 x.2.1 x.2.2.1 x.2.2.2) n ([a],([[]]:List (List Int)),(BQ a 0 []),0)).bind λ b=>
 some (b.1,b.2)
def Lr (n:Nat) (a:Ab):Option (List Af):=
 (Ha n a).bind λ b=>
 some b.1
def Hb (n:Nat) (b:Ab) (a:Af):Option Bool:=
 (if decide (a.Mode<b.Modes)=true then ID n b.Accept a.Mode else some default).bind λ c=>
 (if((decide (a.Mode<b.Modes))&&c)=true then ID n a.Need 0 else some default).bind λ d=>
 some (((decide (a.Mode<b.Modes))&&c)&&d)
def CQ (_:Nat) (a:Int):Option Int:=
 (Jh [0,1,1,2,1,2,2,3,1,2,2,3,2,3,3,4,1,2,2,3,2,3,3,4,2,3,3,4,3,4,4,5,1,2,2,3,2,3,3,4,2,3,3,4,3,4,4,5,2,3,3,4,3,4,4,5,3,4,4,5,4,5,5,6,1,2,2,3,2,3,3,4,2,3,3,4,3,4,4,5,2,3,3,4,3,4,4,5,3,4,4,5,4,5,5,6,2,3,3,4,3,4,4,5,3,4,4,5,4,5,5,6,3,4,4,5,4,5,5,6,4,5,5,6,5,6,6,7,1,2,2,3,2,3,3,4,2,3,3,4,3,4,4,5,2,3,3,4,3,4,4,5,3,4,4,5,4,5,5,6,2,3,3,4,3,4,4,5,3,4,4,5,4,5,5,6,3,4,4,5,4,5,5,6,4,5,5,6,5,6,6,7,2,3,3,4,3,4,4,5,3,4,4,5,4,5,5,6,3,4,4,5,4,5,5,6,4,5,5,6,5,6,6,7,3,4,4,5,4,5,5,6,4,5,5,6,5,6,6,7,4,5,5,6,5,6,6,7,5,6,6,7,6,7,7,8] a).bind λ b=>
 some (IntKind.i64.wrap b)
def GB (n:Nat) (a:Ay) (b:Int):Option Int:=
 (CQ n (G7 .u8 (Uo .u8 a.Up b) a.Maybe)).bind λ c=>
 some c
def EU (_:Nat) (a:Int):Option Bool:=
 some (a != a)
def DM (n:Nat) (a:Int) (b:Int):Option Int:=
 (EU n a).bind λ d=>
 (EU n b).bind λ c=>
 if d=true then
  if c=true then
   some 0
  else
   some (-1)
 else
  if c=true then
   some 1
  else
   if decide (a<b)=true then
    some (-1)
   else
    if decide (a>b)=true then
     some 1
    else
     some 0
def JP (_:Nat) (a:(List UInt8)) (b:(List UInt8)):Option Int:=
 some (Lib.compareBytes a b)
def GC (_:Nat) (b:(List Int)) (a:Int):Option (Int⊕(Unit⊕Int)):=
 if decide (a<((b.length:Nat):Int))=true then
  (idx b a).bind λ c=>
  if(c != 0)=true then
   some (.inr (.inr c))
  else
   some (.inl (AZ .i64 a 1))
 else
  some (.inr (.inl ()))
def Hc (n:Nat) (a:(List Int)):Option Int:=
 (whl (λ (x:Int)=>GC n a x) n 0).bind λ b=>
 match b with
 | Sum.inl _=>
  some 0
 | Sum.inr c=>
  some c
def AX (n:Nat) (a:Ag) (b:Ag):Option Int:=
 (DM n a.Cost b.Cost).bind λ c=>
 (JP n a.Text b.Text).bind λ d=>
 (Hc n [c,d]).bind λ e=>
 some e
def HS (n:Nat) (a:Ai) (b:Ai):Option Int:=
 (AX n a.First b.First).bind λ c=>
 some c
def CS (_:Nat) (_:Ab) (_:(List Ay)) (_:Int) (_:Int) (c:(List Af)) (a:(List (Af×Int))) (b:Int):Option (((List (Af×Int))×Int)⊕(List (Af×Int))):=
 if decide (b<((c.length:Nat):Int))=true then
  (idx c b).bind λ d=>
  some (.inl ((BQ d b a),(AZ .i64 b 1)))
 else
  some (.inr a)
def DN (_:Nat) (a:Int) (b:Ad):Option ((Ad×Int)⊕Ad):=
 some (.inl (b,(AZ .i64 a 1)))
def Cs (_:Nat) (_:Ab) (_:(List Af)) (_:(List (Af×Int))) (_:Int) (_:Af) (_:Ad) (_:Int) (c:AB) (_:(Af×Bool)) (a:(List Int)) (b:Int):Option (((List Int)×Int)⊕(List Int)):=
 if decide (b<((c.Cells.length:Nat):Int))=true then
  (idx c.Cells b).bind λ d=>
  (app 1 a [d]).bind λ e=>
  some (.inl (e,(AZ .i64 b 1)))
 else
  some (.inr a)
def Ct (n:Nat) (d:Ab) (i:(List Af)) (f:(List (Af×Int))) (c:Int) (g:Af) (a:Ad) (b:Int):Option ((Ad×Int)⊕Ad):=
 if decide (b<((d.Rules.length:Nat):Int))=true then
  (idx d.Rules b).bind λ h=>
  (JO n d g b).bind λ e=>
  if(!e.2)=true then
   DN n b a
  else
   (whl (λ (x:((List Int)×Int))=>Cs n d i f c g a b h e x.1 x.2) n (([]:List Int),0)).bind λ j=>
   (idx a.Arcs c).bind λ k=>
   (Uq j).bind λ m=>
   (app 40 k [({ Print:=h.Print,Cells:=m,To:=(Option.getD (AR e.1 f) 0) }:Hu)]).bind λ l=>
   DN n b ({ Felt:=a.Felt,Budget:=a.Budget,Most:=a.Most,Arcs:=List.set a.Arcs c.toNat l,Accepts:=a.Accepts,Before:=a.Before }:Ad)
 else
  some (.inr a)
def CT (n:Nat) (d:Ab) (c:(List Af)) (f:(List (Af×Int))) (b:Ad) (a:Int):Option ((Ad×Int)⊕Ad):=
 if decide (a<((c.length:Nat):Int))=true then
  (idx c a).bind λ e=>
  (Hb n d e).bind λ g=>
  (idx b.Accepts a).bind λ _=>
  (put b.Accepts a g).bind λ h=>
  (whl (λ (x:(Ad×Int))=>Ct n d c f a e x.1 x.2) n (({ Felt:=b.Felt,Budget:=b.Budget,Most:=b.Most,Arcs:=b.Arcs,Accepts:=h,Before:=b.Before }:Ad),0)).bind λ i=>
  some (.inl (i,(AZ .i64 a 1)))
 else
  some (.inr b)
def Fz (n:Nat) (b:Ab) (c:(List Ay)) (d:Int) (e:Int):Option Ad:=
 (Lr n b).bind λ a=>
 (whl (λ (x:((List (Af×Int))×Int))=>CS n b c d e a x.1 x.2) n ([],0)).bind λ f=>
 (mkl 24 ((a.length:Nat):Int) ([]:(List Hu))).bind λ g=>
 (mkl 1 ((a.length:Nat):Int) (false:Bool)).bind λ h=>
 (whl (λ (x:(Ad×Int))=>CT n b a f x.1 x.2) n (({ Felt:=c,Budget:=d,Most:=e,Arcs:=g,Accepts:=h,Before:=([]:List (Option (Bool×(List (Int×Int))))) }:Ad),0)).bind λ i=>
 some i
def Cy (n:Nat) (d:Int) (c:(List UInt8)) (e:Ad) (b:Int) (a:Int):Option ((Int×Int)⊕Int):=
 if decide (a<((c.length:Nat):Int))=true then
  (idx e.Felt (AZ .i64 d a)).bind λ f=>
  (Jh c a).bind λ h=>
  (GB n f h).bind λ g=>
  some (.inl ((AZ .i64 b g),(AZ .i64 a 1)))
 else
  some (.inr b)
def Dj (n:Nat) (a:Int) (b:(List UInt8)) (c:Ad):Option (Int×Bool):=
 if decide (((b.length:Nat):Int)>FZ .i64 ((c.Felt.length:Nat):Int) a)=true then
  some (0,false)
 else
  (whl (λ (x:(Int×Int))=>Cy n a b c x.1 x.2) n (0,0)).bind λ d=>
  some (d,true)
def B8 (_:Nat) (c:(List (Option (Bool×(List (Int×Int)))))) (a:Ad) (b:Int):Option ((Ad×Int)⊕Ad):=
 if decide (b<((c.length:Nat):Int))=true then
  (idx a.Before b).bind λ (_:(Option (Bool×(List (Int×Int)))))=>
  some (.inl (({ Felt:=a.Felt,Budget:=a.Budget,Most:=a.Most,Arcs:=a.Arcs,Accepts:=a.Accepts,Before:=List.set a.Before b.toNat (some (false,([]:(List (Int×Int))))) }:Ad),(AZ .i64 b 1)))
 else
  some (.inr a)
def B9 (_:Nat) (a:Int) (b:Ad):Option ((Ad×Int)⊕Ad):=
 some (.inl (b,(AZ .i64 a 1)))
def BF (n:Nat) (_:Ad) (_:(List (Int×Int))) (d:Int) (e1:(Int×Int)) (f:(List Hu)) (a:Ad) (b:Int):Option ((Ad×Int)⊕Ad):=
 if decide (b<((f.length:Nat):Int))=true then
  (idx f b).bind λ c=>
  (Dj n d c.Cells a).bind λ e=>
  if((!e.2)||(decide (AZ .i64 e1.2 e.1>a.Budget)))=true then
   B9 n b a
  else
   (rowM a.Before (AZ .i64 d ((c.Cells.length:Nat):Int))).bind λ g=>
   if((!(Option.isSome (AR c.To g)))||(decide (AZ .i64 e1.2 e.1<(Option.getD (AR c.To g) (0:Int)))))=true then
    B9 n b ({ Felt:=a.Felt,Budget:=a.Budget,Most:=a.Most,Arcs:=a.Arcs,Accepts:=a.Accepts,Before:=List.set a.Before (Int.toNat (AZ .i64 d ((c.Cells.length:Nat):Int))) (some (false,Ce (BQ c.To (AZ .i64 e1.2 e.1) g))) }:Ad)
   else
    B9 n b ({ Felt:=a.Felt,Budget:=a.Budget,Most:=a.Most,Arcs:=a.Arcs,Accepts:=a.Accepts,Before:=List.set a.Before (Int.toNat (AZ .i64 d ((c.Cells.length:Nat):Int))) (some (false,g)) }:Ad)
 else
  some (.inr a)
def Bf (n:Nat) (c:Ad) (f:(List (Int×Int))) (a:Int) (e1:(Int×Int)) (b:Ad):Option (Ad⊕Empty):=
 (idx b.Arcs e1.1).bind λ d=>
 (whl (λ (x:(Ad×Int))=>BF n c f a e1 d x.1 x.2) n (b,0)).bind λ e=>
 some (.inl e)
noncomputable def BG (n:Nat) (c:Ad) (g:(List (Int×Int))) (a:Ad) (b:Int):Option ((Ad×Int)⊕Ad):=
 if decide (b<((List.length (List.set c.Before (Int.toNat 0) (some (false,Ce (BQ 0 0 g)))):Nat):Int))=true then
  (rowA a.Before b).bind λ h=>
  dem (λ (ord:(List (Int×Int)))=>List.Perm ord h.2) λ (ord:(List (Int×Int)))=>
  (mapW (λ (e:(Int×Int)) (x:Ad)=>Bf n c g b e x) ord ({ Felt:=a.Felt,Budget:=a.Budget,Most:=a.Most,Arcs:=a.Arcs,Accepts:=a.Accepts,Before:=List.set a.Before b.toNat (some (true,h.2)) }:Ad)).bind λ d=>
  match d with
  | Sum.inl f=>
   some (.inl (f,(AZ .i64 b 1)))
  | Sum.inr r=>
   nomatch r
 else
  some (.inr a)
noncomputable def Db (n:Nat) (b:Ad):Option Ad:=
 (mkl 8 (AZ .i64 ((b.Felt.length:Nat):Int) 1) (none:(Option (Bool×(List (Int×Int)))))).bind λ (c:(List (Option (Bool×(List (Int×Int))))))=>
 (whl (λ (x:(Ad×Int))=>B8 n c x.1 x.2) n (({ Felt:=b.Felt,Budget:=b.Budget,Most:=b.Most,Arcs:=b.Arcs,Accepts:=b.Accepts,Before:=c }:Ad),0)).bind λ a=>
 (rowM a.Before 0).bind λ e=>
 (whl (λ (x:(Ad×Int))=>BG n a e x.1 x.2) n (({ Felt:=a.Felt,Budget:=a.Budget,Most:=a.Most,Arcs:=a.Arcs,Accepts:=a.Accepts,Before:=List.set a.Before (Int.toNat 0) (some (false,Ce (BQ 0 0 e))) }:Ad),0)).bind λ d=>
 some d
def DZ (_:Nat) (_:Ai):Option Unit:=
 some ()
def FO (n:Nat) (b:(List Ai)) (a:Int):Option (Int⊕(Unit⊕Int)):=
 if decide (a<((b.length:Nat):Int))=true then
  (idx b a).bind λ c=>
  (DZ n c).bind λ _=>
  if(((c.List.length:Nat):Int)==0)=true then
   some (.inr (.inr a))
  else
   some (.inl (AZ .i64 a 1))
 else
  some (.inr (.inl ()))
def Mm (n:Nat) (a:(List Ai)):Option Int:=
 (whl (λ (x:Int)=>FO n a x) n 0).bind λ b=>
 match b with
 | Sum.inl _=>
  some (-1)
 | Sum.inr c=>
  some c
def IE (_:Nat) (b:Int) (a:(List Ai)) (c:Int):Option (((List Ai)×Int×Int)⊕((List Ai)×Int)):=
 some (.inl (a,c,(AZ .i64 b 1)))
def Gh (n:Nat) (a:(List Ai)) (b:Int) (c:Int):Option (((List Ai)×Int×Int)⊕((List Ai)×Int)):=
 if decide (c<((a.length:Nat):Int))=true then
  (idx a c).bind λ d=>
  (DZ n d).bind λ _=>
  if(!(((d.List.length:Nat):Int)==0))=true then
   (idx a b).bind λ _=>
   (put a b d).bind λ e=>
   IE n c e (AZ .i64 b 1)
  else
   IE n c a b
 else
  some (.inr (a,b))
def Kz (n:Nat) (b:(List Ai)):Option (List Ai):=
 (Mm n b).bind λ c=>
 if(c==(-1))=true then
  some b
 else
  (whl (λ (x:((List Ai)×Int×Int))=>Gh n x.1 x.2.1 x.2.2) n (b,c,(AZ .i64 c 1))).bind λ a=>
  (sub a.1 a.2 ((a.1.length:Nat):Int)).bind λ _=>
  (Wc a.1 (0+Int.toNat a.2) (Int.toNat ((a.1.length:Nat):Int)-Int.toNat a.2) (⟨⟨[],[],0⟩,0,[],⟨0,[],[]⟩⟩:Ai)).bind λ d=>
  (sub d 0 a.2).bind λ e=>
  some e
def D5 (_:Nat) (a:Int) (b:(List Ai)):Option (List Ai):=
 (idx b a).bind λ d=>
 (idx b a).bind λ e=>
 (idx e.List 0).bind λ f=>
 (idx b a).bind λ g=>
 (idx b a).bind λ h=>
 (idx h.List 0).bind λ i=>
 (cat g.Arc.Print i.Text).bind λ k=>
 (idx b a).bind λ c=>
 (put b a ({ Arc:=c.Arc,More:=c.More,List:=c.List,First:=({ Cost:=AZ .i64 d.More f.Cost,Text:=k,Cells:=[] }:Ag) }:Ai)).bind λ j=>
 some j
def EV (n:Nat) (a:Ai) (b:Ai):Option Int:=
 (AX n a.First b.First).bind λ c=>
 some c
def FA (_:Nat) (a:Int) (b:Ai):Option ((Ai×Int)⊕Ai):=
 some (.inl (b,(AZ .i64 a 1)))
def FB (n:Nat) (b:(List Ai)) (c:Ai) (a:Int):Option ((Ai×Int)⊕Ai):=
 if decide (a<((b.length:Nat):Int))=true then
  (idx b a).bind λ d=>
  (EV n d c).bind λ e=>
  if decide (e<0)=true then
   (idx b a).bind λ f=>
   FA n a f
  else
   FA n a c
 else
  some (.inr c)
def IF (n:Nat) (a:(List Ai)):Option Ai:=
 if decide (((a.length:Nat):Int)<1)=true then
  none
 else
  (idx a 0).bind λ b=>
  (whl (λ (x:(Ai×Int))=>FB n a x.1 x.2) n (b,1)).bind λ c=>
  some c
def Ep (n:Nat) (a:Ai) (b:Ai):Option Bool:=
 (HS n a b).bind λ c=>
 some (c==0)
def EW (n:Nat) (c:Ai) (b:(List Ai)) (a:Int):Option (Int⊕(Unit⊕Int)):=
 if decide (a<((b.length:Nat):Int))=true then
  (idx b a).bind λ d=>
  (Ep n d c).bind λ e=>
  if e=true then
   some (.inr (.inr a))
  else
   some (.inl (AZ .i64 a 1))
 else
  some (.inr (.inl ()))
def Hd (n:Nat) (a:Ai) (b:(List Ai)):Option Int:=
 (whl (λ (x:Int)=>EW n a b x) n 0).bind λ c=>
 match c with
 | Sum.inl _=>
  some (-1)
 | Sum.inr d=>
  some d
def S1 (_:Nat) (a:Int) (b:Int) (c:(List Ai)):Option (List Ai):=
 Jd2 c a b
noncomputable def JQ (n:Nat) (a:(List Ag)):Option (List Ag):=
 sortC (λ (x:Ag) (y:Ag)=>AX n x y) a
def B0 (n:Nat) (_:Int) (_:Ad) (d:(List Ai)) (a:(List Ai)) (b:Int):Option (((List Ai)×Int)⊕(List Ai)):=
 if decide (b<((d.length:Nat):Int))=true then
  (idx a b).bind λ _=>
  (D5 n b a).bind λ c=>
  (Cj (decide (List.length a=List.length c))).bind λ _=>
  some (.inl (c,(AZ .i64 b 1)))
 else
  some (.inr a)
def B1 (n:Nat) (a:(List Ai)) (c:Int) (b:(List ((List UInt8)×Ag))):Option (((List Ai)×(List ((List UInt8)×Ag)))⊕(List ((List UInt8)×Ag))):=
 (idx a c).bind λ f=>
 (sub f.List 1 ((f.List.length:Nat):Int)).bind λ h=>
 (idx a c).bind λ e=>
 (put a c ({ Arc:=e.Arc,More:=e.More,List:=h,First:=e.First }:Ai)).bind λ d=>
 (idx d c).bind λ i=>
 if decide (((i.List.length:Nat):Int)>0)=true then
  (D5 n c d).bind λ g=>
  (Cj (decide (List.length d=List.length g))).bind λ _=>
  some (.inl (g,b))
 else
  (S1 n c (AZ .i64 c 1) d).bind λ j=>
  some (.inl (j,b))
def Cp (n:Nat) (e:Int) (f:Ad) (b:(List Ai)) (a:(List ((List UInt8)×Ag))):Option (((List Ai)×(List ((List UInt8)×Ag)))⊕(List ((List UInt8)×Ag))):=
 if decide (((b.length:Nat):Int)>0)=true then
  (IF n b).bind λ g=>
  (Hd n g b).bind λ d=>
  (idx b d).bind λ c=>
  if((decide (c.First.Cost>e))||((!(Option.isSome (AR c.First.Text a)))&&(((a.length:Nat):Int)==f.Most)))=true then
   some (.inr a)
  else
   (idx c.List 0).bind λ h=>
   (cat c.Arc.Cells h.Cells).bind λ i=>
   if((!(Option.isSome (AR c.First.Text a)))||((((Option.getD (AR c.First.Text a) (⟨0,[],[]⟩:Ag)).Cost)==c.First.Cost)&&(Op.bytesLess i ((Option.getD (AR c.First.Text a) (⟨0,[],[]⟩:Ag)).Cells))))=true then
    B1 n b d (BQ c.First.Text ({ Cost:=c.First.Cost,Text:=c.First.Text,Cells:=i }:Ag) a)
   else
    B1 n b d a
 else
  some (.inr a)
def BA (_:Nat) (e2:((List UInt8)×Ag)) (a:(List Ag)):Option ((List Ag)⊕Empty):=
 (app 40 a [e2.2]).bind λ b=>
 some (.inl b)
noncomputable def CU (n:Nat) (a:Int) (b:Ad) (g:(List Ai)):Option (List Ag):=
 (Kz n g).bind λ c=>
 (whl (λ (x:((List Ai)×Int))=>B0 n a b c x.1 x.2) n (c,0)).bind λ h=>
 (whl (λ (x:((List Ai)×(List ((List UInt8)×Ag))))=>Cp n a b x.1 x.2) n (h,[])).bind λ i=>
 dem (λ (ord:(List ((List UInt8)×Ag)))=>List.Perm ord i) λ (ord:(List ((List UInt8)×Ag)))=>
 (mapW (λ (e:((List UInt8)×Ag)) (x:(List Ag))=>BA n e x) ord ([]:List Ag)).bind λ j=>
 match j with
 | Sum.inl d=>
  (JQ n d).bind λ f=>
  (Cj (decide (List.length d=List.length f))).bind λ _=>
  some f
 | Sum.inr r=>
  nomatch r
def Dc (_:Nat) (c:Int) (a:(List (Option (Bool×(List (Int×(List Ag))))))) (b:(List Ai)):Option (((List (Option (Bool×(List (Int×(List Ag))))))×(List Ai)×Int)⊕((List (Option (Bool×(List (Int×(List Ag))))))×(List Ai))):=
 some (.inl (a,b,(AZ .i64 c 1)))
def Bx (n:Nat) (a:Int) (f:Ad) (_:(Int×Int)) (g:(List Hu)) (b:(List (Option (Bool×(List (Int×(List Ag))))))) (c:(List Ai)) (e:Int):Option (((List (Option (Bool×(List (Int×(List Ag))))))×(List Ai)×Int)⊕((List (Option (Bool×(List (Int×(List Ag))))))×(List Ai))):=
 if decide (e<((g.length:Nat):Int))=true then
  (idx g e).bind λ d=>
  (Dj n a d.Cells f).bind λ h=>
  if h.2=true then
   (rowM b (Bo (AZ .i64 a ((d.Cells.length:Nat):Int)) 5)).bind λ j=>
   (Cj (decide ((0:Int)<=Bo (AZ .i64 a ((d.Cells.length:Nat):Int)) 5/\Bo (AZ .i64 a ((d.Cells.length:Nat):Int)) 5<((5:Nat):Int)))).bind λ _=>
   (app 112 c ([({ Arc:=d,More:=h.1,List:=(Option.getD (AR d.To j) ([]:(List Ag))),First:=({ Cost:=0,Text:=[],Cells:=[] }:Ag) }:Ai)])).bind λ i=>
   Dc n e (List.set b (Int.toNat (Bo (AZ .i64 a ((d.Cells.length:Nat):Int)) 5)) (some (false,j))) i
  else
   Dc n e b c
 else
  some (.inr (b,c))
noncomputable def BV (n:Nat) (a:Int) (b:Ad) (c:(List (Option (Bool×(List (Int×(List Ag))))))) (e3:(Int×Int)) (d:(List Ai)):Option ((Ad×(List (Option (Bool×(List (Int×(List Ag)))))))⊕Empty):=
 (idx b.Arcs e3.1).bind λ g=>
 (whl (λ (x:((List (Option (Bool×(List (Int×(List Ag))))))×(List Ai)×Int))=>Bx n a b e3 g x.1 x.2.1 x.2.2) n (c,d,0)).bind λ (e:((List (Option (Bool×(List (Int×(List Ag))))))×(List Ai)))=>
 (CU n (FZ .i64 b.Budget e3.2) b e.2).bind λ f=>
 if decide (((f.length:Nat):Int)>0)=true then
  (rowM e.1 (Bo a 5)).bind λ h=>
  (Cj (decide ((0:Int)<=Bo a 5/\Bo a 5<((5:Nat):Int)))).bind λ _=>
  some (.inl (b,(List.set e.1 (Int.toNat (Bo a 5)) (some (false,Ce (BQ e3.1 f h))))))
 else
  some (.inl (b,e.1))
noncomputable def Ba (n:Nat) (a:Int) (e3:(Int×Int)) (b:Ad) (c:(List (Option (Bool×(List (Int×(List Ag))))))):Option ((Ad×(List (Option (Bool×(List (Int×(List Ag)))))))⊕Empty):=
 (if(a==((b.Felt.length:Nat):Int))=true then idx b.Accepts e3.1 else some default).bind λ d=>
 if((a==((b.Felt.length:Nat):Int))&&d)=true then
  (app 112 ([]:List Ai) ([({ Arc:=({ Print:=[],Cells:=[],To:=0 }:Hu),More:=0,List:=[({ Cost:=0,Text:=[],Cells:=[] }:Ag)],First:=({ Cost:=0,Text:=[],Cells:=[] }:Ag) }:Ai)])).bind λ e=>
  BV n a b c e3 e
 else
  BV n a b c e3 ([]:List Ai)
noncomputable def By (n:Nat) (b:Ad) (c:(List (Option (Bool×(List (Int×(List Ag))))))) (a:Int):Option ((Ad×(List (Option (Bool×(List (Int×(List Ag))))))×Int)⊕(Ad×(List (Option (Bool×(List (Int×(List Ag)))))))):=
 if decide (a>=0)=true then
  (idx c (Bo a 5)).bind λ (_:(Option (Bool×(List (Int×(List Ag))))))=>
  (Cj (decide ((0:Int)<=Bo a 5/\Bo a 5<((5:Nat):Int)))).bind λ _=>
  (rowA b.Before a).bind λ g=>
  dem (λ (ord:(List (Int×Int)))=>List.Perm ord g.2) λ (ord:(List (Int×Int)))=>
  (mapW (λ (e:(Int×Int)) (x:(Ad×(List (Option (Bool×(List (Int×(List Ag))))))))=>Ba n a e x.1 x.2) ord (({ Felt:=b.Felt,Budget:=b.Budget,Most:=b.Most,Arcs:=b.Arcs,Accepts:=b.Accepts,Before:=List.set b.Before a.toNat (some (true,g.2)) }:Ad),(List.set c (Int.toNat (Bo a 5)) (some (false,([]:(List (Int×(List Ag))))))))).bind λ (f:((Ad×(List (Option (Bool×(List (Int×(List Ag)))))))⊕Empty))=>
  match f with
  | Sum.inl d=>
   some (.inl (d.1,d.2,(FZ .i64 a 1)))
  | Sum.inr r=>
   nomatch r
 else
  some (.inr (b,c))
noncomputable def CL (n:Nat) (a:Ad):Option (Ad×(List Ag)):=
 (whl (λ (x:(Ad×(List (Option (Bool×(List (Int×(List Ag))))))×Int))=>By n x.1 x.2.1 x.2.2) n (a,(List.replicate 5 (none:(Option (Bool×(List (Int×(List Ag))))))),((a.Felt.length:Nat):Int))).bind λ (b:(Ad×(List (Option (Bool×(List (Int×(List Ag))))))))=>
 (rowM b.2 0).bind λ c=>
 (Cj (decide ((0:Int)<=0/\0<((5:Nat):Int)))).bind λ _=>
 some (b.1,(Option.getD (AR 0 c) ([]:(List Ag))))
def FP (_:Nat) (d:(Ad×(List Ag))) (a:(List An)) (b:Int):Option (((List An)×Int)⊕(List An)):=
 if decide (b<((d.2.length:Nat):Int))=true then
  (idx d.2 b).bind λ c=>
  (app 48 a [({ Text:=c.Text,Cells:=A5 c.Cells,Cost:=c.Cost }:An)]).bind λ e=>
  some (.inl (e,(AZ .i64 b 1)))
 else
  some (.inr a)
noncomputable def JR (n:Nat) (a:Ab) (b:(List Ay)) (c:Int) (d:Int):Option (List An):=
 (Nj n a).bind λ e=>
 if(!e)=true then
  some []
 else
  (Fz n a b c d).bind λ f=>
  (Db n f).bind λ g=>
  (CL n g).bind λ h=>
  (whl (λ (x:((List An)×Int))=>FP n h x.1 x.2) n (([]:List An),0)).bind λ i=>
  some i
noncomputable def BD (n:Nat) (c:Ab) (d:(List Ay)) (a:Int):Option ((List An)×Int):=
 if decide (a<0)=true then
  some ([],1)
 else
  (JR n c d a 17).bind λ b=>
  if decide (((b.length:Nat):Int)>16)=true then
   some ([],2)
  else
   some (b,0)
noncomputable def D6 (n:Nat) (c:Ab) (d:(List Ay)) (a:Int):Option (An×Bool):=
 if decide (a<0)=true then
  some (({ Text:=[],Cells:=[],Cost:=0 }:An),false)
 else
  (JR n c d a 1).bind λ b=>
  if(((b.length:Nat):Int)==0)=true then
   some (({ Text:=[],Cells:=[],Cost:=0 }:An),false)
  else
   (idx b 0).bind λ e=>
   some (e,true)
def DO (_:Nat) (b:(List Int)) (c:(List Int)) (a:Int):Option (Int⊕(Unit⊕Bool)):=
 if decide (a<((b.length:Nat):Int))=true then
  (idx b a).bind λ d=>
  (idx c a).bind λ e=>
  if(d != e)=true then
   some (.inr (.inr false))
  else
   some (.inl (AZ .i64 a 1))
 else
  some (.inr (.inl ()))
def D7 (n:Nat) (a:(List Int)) (b:(List Int)):Option Bool:=
 if(((a.length:Nat):Int) != ((b.length:Nat):Int))=true then
  some false
 else
  (whl (λ (x:Int)=>DO n a b x) n 0).bind λ c=>
  match c with
  | Sum.inl _=>
   some true
  | Sum.inr d=>
   some d
def HT (n:Nat) (a:An) (b:An):Option Bool:=
 (if((a.Text==b.Text)&&(a.Cost==b.Cost))=true then D7 n a.Cells b.Cells else some default).bind λ c=>
 some (((a.Text==b.Text)&&(a.Cost==b.Cost))&&c)
def DD (n:Nat) (b:(List An)) (c:(List An)) (a:Int):Option (Int⊕(Unit⊕Bool)):=
 if decide (a<((b.length:Nat):Int))=true then
  (idx b a).bind λ d=>
  (idx c a).bind λ e=>
  (HT n d e).bind λ f=>
  if(!f)=true then
   some (.inr (.inr false))
  else
   some (.inl (AZ .i64 a 1))
 else
  some (.inr (.inl ()))
def C3 (n:Nat) (a:(List An)) (b:(List An)):Option Bool:=
 if(((a.length:Nat):Int) != ((b.length:Nat):Int))=true then
  some false
 else
  (whl (λ (x:Int)=>DD n a b x) n 0).bind λ c=>
  match c with
  | Sum.inl _=>
   some true
  | Sum.inr d=>
   some d
def D8 (_:Nat) (_:Ab) (a:(List Ay)) (b:Int):Option (((List Ay)×Int)⊕(List Ay)):=
 if decide (b<5)=true then
  (app 2 a [({ Up:=1,Maybe:=2 }:Ay)]).bind λ c=>
  some (.inl (c,(AZ .i64 b 1)))
 else
  some (.inr a)
noncomputable def IG (n:Nat) :Option Bool:=
 (FN n 0).bind λ a=>
 (whl (λ (x:((List Ay)×Int))=>D8 n a x.1 x.2) n (([]:List Ay),0)).bind λ h=>
 (BD n a [({ Up:=3,Maybe:=0 }:Ay)] 0).bind λ b=>
 (BD n a [({ Up:=3,Maybe:=0 }:Ay)] 1).bind λ c=>
 (BD n a [({ Up:=1,Maybe:=10 }:Ay)] 0).bind λ d=>
 (BD n a h 0).bind λ i=>
 (BD n a [({ Up:=3,Maybe:=0 }:Ay)] (-1)).bind λ j=>
 (D6 n a h 0).bind λ e=>
 (D6 n a [({ Up:=62,Maybe:=0 }:Ay)] 0).bind λ k=>
 (BD n a [] 3).bind λ f=>
 (if(b.2==0)=true then C3 n b.1 ([({ Text:=[98],Cells:=[3],Cost:=0 }:An)])else some default).bind λ g=>
 (if(((b.2==0)&&g)&&(c.2==0))=true then C3 n c.1 ([({ Text:=[98],Cells:=[3],Cost:=0 }:An),({ Text:=[97],Cells:=[1],Cost:=1 }:An)])else some default).bind λ l=>
 (if((((((((((((b.2==0)&&g)&&(c.2==0))&&l)&&(d.2==0))&&(((d.1.length:Nat):Int)==3))&&(i.2==2))&&(j.2==1))&&e.2)&&(e.1.Text==[97,97,97,97,97]))&&(!k.2))&&(f.2==0))=true then C3 n f.1 ([({ Text:=[],Cells:=[],Cost:=0 }:An)])else some default).bind λ m=>
 some (((((((((((((b.2==0)&&g)&&(c.2==0))&&l)&&(d.2==0))&&(((d.1.length:Nat):Int)==3))&&(i.2==2))&&(j.2==1))&&e.2)&&(e.1.Text==[97,97,97,97,97]))&&(!k.2))&&(f.2==0))&&m)
def Ey (_:Nat) (c:CI) (a:AB) (b:Int):Option ((AB×Int)⊕AB):=
 if((decide (b<((c.P.length:Nat):Int)))&&(decide (b<3)))=true then
  (idx c.P b).bind λ d=>
  (sub [97,98,99,65,66,49,50,45,46] (IntKind.i64.wrap (Bo d 9)) (AZ .i64 (IntKind.i64.wrap (Bo d 9)) 1)).bind λ e=>
  (cat a.Print e).bind λ f=>
  some (.inl (({ Print:=f,Cells:=a.Cells,Left:=a.Left,Right:=a.Right,From:=a.From,To:=a.To }:AB),(AZ .i64 b 1)))
 else
  some (.inr a)
def C4 (_:Nat) (c:CI) (a:AB) (b:Int):Option ((AB×Int)⊕AB):=
 if((decide (b<((c.C.length:Nat):Int)))&&(decide (b<2)))=true then
  (idx c.C b).bind λ d=>
  (idx [1,3,9,5,7,32,44,60] (Bo d 8)).bind λ e=>
  (app 1 a.Cells [e]).bind λ f=>
  some (.inl (({ Print:=a.Print,Cells:=f,Left:=a.Left,Right:=a.Right,From:=a.From,To:=a.To }:AB),(AZ .i64 b 1)))
 else
  some (.inr a)
def HU (n:Nat) (a:CI) (c:Int):Option AB:=
 (idx [63,63,2,8,17,62,4,1] (Bo a.L 8)).bind λ d=>
 (idx [63,63,2,8,17,62,4,1] (Bo a.R 8)).bind λ e=>
 (Cj (!(c==0))).bind λ _=>
 (Cj (!(c==0))).bind λ _=>
 (whl (λ (x:(AB×Int))=>Ey n a x.1 x.2) n (({ Print:=[],Cells:=([]:List Int),Left:=d,Right:=e,From:=Bo (IntKind.i64.wrap a.W.a0) c,To:=Bo (IntKind.i64.wrap a.W.a1) c }:AB),0)).bind λ b=>
 (idx [1,3,9,5,7,32,44,60] (Bo (Jdj .u8 a.L 8) 8)).bind λ f=>
 (whl (λ (x:(AB×Int))=>C4 n a x.1 x.2) n (({ Print:=b.Print,Cells:=[f],Left:=b.Left,Right:=b.Right,From:=b.From,To:=b.To }:AB),0)).bind λ g=>
 some g
def Hv (_:Nat) (a:Int):Option Bool:=
 some ((decide (Cg .u8 a 127>=32))&&(decide (Cg .u8 a 127<=126)))
def He (n:Nat) (b:(List UInt8)) (a:Int):Option (Int⊕(Unit⊕(Int×Int))):=
 if decide (a<((b.length:Nat):Int))=true then
  (Jh b a).bind λ d=>
  (Hv n d).bind λ c=>
  if(!c)=true then
   some (.inr (.inr (a,60)))
  else
   some (.inl (AZ .i64 a 1))
 else
  some (.inr (.inl ()))
def Mn (n:Nat) (a:(List UInt8)):Option (Int×Int):=
 (whl (λ (x:Int)=>He n a x) n 0).bind λ b=>
 match b with
 | Sum.inl _=>
  some (((a.length:Nat):Int),0)
 | Sum.inr c=>
  some c
def IH (n:Nat) (a:(List UInt8)):Option Bool:=
 (Mn n a).bind λ b=>
 some (b.2==0)
def Nl (_:Nat) (a:Int):Option Bool:=
 some ((Cg .u8 a 127)==32)
def DP (n:Nat) (c:AB) (a:Bool) (b:Int):Option ((Bool×Int)⊕Bool):=
 if decide (b<((c.Print.length:Nat):Int))=true then
  (if(!a)=true then Jh c.Print b else some default).bind λ e=>
  (if(!a)=true then Nl n e else some default).bind λ d=>
  some (.inl ((a||d),(AZ .i64 b 1)))
 else
  some (.inr a)
def Dd (_:Nat) (c:AB) (_:Bool) (a:Bool) (b:Int):Option ((Bool×Int)⊕(Bool⊕Bool)):=
 if decide (b<((c.Cells.length:Nat):Int))=true then
  (idx c.Cells b).bind λ d=>
  if decide (d>=63)=true then
   some (.inr (.inr false))
  else
   (if(!a)=true then idx c.Cells b else some default).bind λ e=>
   some (.inl ((a||(e==0)),(AZ .i64 b 1)))
 else
  some (.inr (.inl a))
def KA (n:Nat) (a:AB) (b:Int):Option Bool:=
 (IH n a.Print).bind λ e=>
 if((((!e)||(decide (((a.Print.length:Nat):Int)>4)))||(decide (((a.Cells.length:Nat):Int)<1)))||(decide (((a.Cells.length:Nat):Int)>4)))=true then
  some false
 else
  if((((((((decide (a.Left<1))||(decide (a.Left>63)))||(decide (a.Right<1)))||(decide (a.Right>63)))||(decide (a.From<0)))||(decide (a.From>=b)))||(decide (a.To<0)))||(decide (a.To>=b)))=true then
   some false
  else
   (whl (λ (x:(Bool×Int))=>DP n a x.1 x.2) n (false,0)).bind λ c=>
   (whl (λ (x:(Bool×Int))=>Dd n a c x.1 x.2) n (false,0)).bind λ f=>
   match f with
   | Sum.inl d=>
    if(!c)=true then
     some (!d)
    else
     some (((((a.Print.length:Nat):Int)==1)&&(((a.Cells.length:Nat):Int)==1))&&d)
   | Sum.inr g=>
    some g
def Gi (n:Nat) (a:AB) (b:AB):Option Bool:=
 (if(a.Print==b.Print)=true then D7 n a.Cells b.Cells else some default).bind λ c=>
 some ((((((a.Print==b.Print)&&c)&&(a.Left==b.Left))&&(a.Right==b.Right))&&(a.From==b.From))&&(a.To==b.To))
def EX (n:Nat) (c:Ab) (a:Int) (b:Int):Option (Int⊕(Unit⊕(Int×Int))):=
 if decide (b<a)=true then
  (idx c.Rules b).bind λ d=>
  (idx c.Rules a).bind λ e=>
  (Gi n d e).bind λ f=>
  if f=true then
   some (.inr (.inr (a,20)))
  else
   some (.inl (AZ .i64 b 1))
 else
  some (.inr (.inl ()))
def EY (n:Nat) (b:Ab) (a:Int):Option (Int⊕(Unit⊕(Int×Int))):=
 if decide (a<((b.Rules.length:Nat):Int))=true then
  (idx b.Rules a).bind λ c=>
  (KA n c b.Modes).bind λ d=>
  if(!d)=true then
   some (.inr (.inr (a,20)))
  else
   (whl (λ (x:Int)=>EX n b a x) n 0).bind λ e=>
   match e with
   | Sum.inl _=>
    some (.inl (AZ .i64 a 1))
   | Sum.inr f=>
    some (.inr (.inr f))
 else
  some (.inr (.inl ()))
def KB (n:Nat) (a:Ab):Option (Int×Int):=
 (if(!(((decide (a.Modes<1))||(decide (a.Modes>8)))||(a.Accept==0)))=true then Cj (decide (0<=a.Modes))else some default).bind λ _=>
 if((((((decide (a.Modes<1))||(decide (a.Modes>8)))||(a.Accept==0))||(decide (IntKind.i64.wrap a.Accept>=PB .i64 1 a.Modes)))||(decide (((a.Rules.length:Nat):Int)<1)))||(decide (((a.Rules.length:Nat):Int)>64)))=true then
  some ((-1),1)
 else
  (whl (λ (x:Int)=>EY n a x) n 0).bind λ b=>
  match b with
  | Sum.inl _=>
   some (0,0)
  | Sum.inr c=>
   some c
def Nm (n:Nat) (b:Ab):Option Bool:=
 (KB n b).bind λ a=>
 some (a.2==0)
def DE (_:Nat) (a:Int) (b:Ab):Option ((Ab×Int)⊕Ab):=
 some (.inl (b,(AZ .i64 a 1)))
def C5 (n:Nat) (d:Ji) (c:Ab) (b:Ab) (a:Int):Option ((Ab×Int)⊕Ab):=
 if decide (a<((c.Rules.length:Nat):Int))=true then
  (Cj (decide (0<=a))).bind λ _=>
  if((Cg .u8 (Yl .u8 d.Drop a) 1)==0)=true then
   (idx c.Rules a).bind λ e=>
   (app 64 b.Rules [e]).bind λ f=>
   DE n a ({ Modes:=b.Modes,Accept:=b.Accept,Rules:=f }:Ab)
  else
   DE n a b
 else
  some (.inr b)
def DF (_:Nat) (a:Int) (b:Ab):Option ((Ab×Int)⊕Ab):=
 some (.inl (b,(AZ .i64 a 1)))
def C6 (n:Nat) (d:Ji) (_:Ab) (a:Ab) (b:Int):Option ((Ab×Int)⊕Ab):=
 if((decide (b<((d.More.length:Nat):Int)))&&(decide (b<2)))=true then
  (idx d.More b).bind λ g=>
  (HU n g a.Modes).bind λ e=>
  (app 64 a.Rules [e]).bind λ c=>
  (Nm n ({ Modes:=a.Modes,Accept:=a.Accept,Rules:=c }:Ab)).bind λ f=>
  if(!f)=true then
   (sub c 0 (FZ .i64 ((c.length:Nat):Int) 1)).bind λ h=>
   DF n b ({ Modes:=a.Modes,Accept:=a.Accept,Rules:=h }:Ab)
  else
   DF n b ({ Modes:=a.Modes,Accept:=a.Accept,Rules:=c }:Ab)
 else
  some (.inr a)
def Ez (_:Nat) (a:Ab):Option Ab:=
 some a
def FQ (n:Nat) (c:Ji):Option Ab:=
 (FN n c.Base).bind λ a=>
 (whl (λ (x:(Ab×Int))=>C5 n c a x.1 x.2) n (({ Modes:=a.Modes,Accept:=a.Accept,Rules:=([]:List AB) }:Ab),0)).bind λ d=>
 (whl (λ (x:(Ab×Int))=>C6 n c a x.1 x.2) n (d,0)).bind λ b=>
 if(((b.Rules.length:Nat):Int)==0)=true then
  Ez n ({ Modes:=b.Modes,Accept:=b.Accept,Rules:=a.Rules }:Ab)
 else
  Ez n b
def FR (_:Nat) (c:(List (Da Int))) (b:(List Ay)) (a:Int):Option (((List Ay)×Int)⊕(List Ay)):=
 if((decide (a<((c.length:Nat):Int)))&&(decide (a<5)))=true then
  (idx c a).bind λ d=>
  (idx c a).bind λ e=>
  (app 2 b [({ Up:=Bo d.a0 64,Maybe:=Bo e.a1 64 }:Ay)]).bind λ f=>
  some (.inl (f,(AZ .i64 a 1)))
 else
  some (.inr b)
def Mo (n:Nat) (a:(List (Da Int))):Option (List Ay):=
 (whl (λ (x:((List Ay)×Int))=>FR n a x.1 x.2) n (([]:List Ay),0)).bind λ b=>
 some b
def RP (_:Nat) :Option Af:=
 some ({ Mode:=0,Last:=0,Need:=63 }:Af)
def Gj (_:Nat) (b:Int) (a:Int):Option Bool:=
 (if((decide (a>=0))&&(decide (a<8)))=true then Cj (decide (0<=a))else some default).bind λ _=>
 some (((decide (a>=0))&&(decide (a<8)))&&((Cg .u8 (Yl .u8 b a) 1)==1))
def EA (n:Nat) (b:Ab) (a:Af):Option Bool:=
 (if((decide (a.Mode>=0))&&(decide (a.Mode<b.Modes)))=true then Gj n b.Accept a.Mode else some default).bind λ c=>
 (if(((decide (a.Mode>=0))&&(decide (a.Mode<b.Modes)))&&c)=true then Gj n a.Need 0 else some default).bind λ d=>
 some ((((decide (a.Mode>=0))&&(decide (a.Mode<b.Modes)))&&c)&&d)
def DG (_:Nat) (b:(List Int)) (c:(List Int)) (a:Int):Option (Int⊕(Unit⊕Bool)):=
 if((decide (a<((b.length:Nat):Int)))&&(decide (a<((c.length:Nat):Int))))=true then
  (idx b a).bind λ d=>
  (idx c a).bind λ e=>
  if(d != e)=true then
   (idx b a).bind λ f=>
   (idx c a).bind λ g=>
   some (.inr (.inr (decide (f<g))))
  else
   some (.inl (AZ .i64 a 1))
 else
  some (.inr (.inl ()))
def HV (n:Nat) (a:(List Int)) (b:(List Int)):Option Bool:=
 (whl (λ (x:Int)=>DG n a b x) n 0).bind λ c=>
 match c with
 | Sum.inl _=>
  some false
 | Sum.inr d=>
  some d
def Fk (_:Nat) (a:Int):Option Int:=
 if((decide (Cg .u8 a 127>=97))&&(decide (Cg .u8 a 127<=122)))=true then
  some 1
 else
  if((decide (Cg .u8 a 127>=65))&&(decide (Cg .u8 a 127<=90)))=true then
   some 2
  else
   if((decide (Cg .u8 a 127>=48))&&(decide (Cg .u8 a 127<=57)))=true then
    some 3
   else
    if((Cg .u8 a 127)==32)=true then
     some 4
    else
     some 5
def HW (n:Nat) (d:Ab) (b:Af) (c:Int):Option (Af×Bool):=
 if((decide (c<0))||(decide (c>=((d.Rules.length:Nat):Int))))=true then
  some (({ Mode:=0,Last:=0,Need:=0 }:Af),false)
 else
  (idx d.Rules c).bind λ a=>
  (if(!(a.From != b.Mode))=true then Gj n a.Left b.Last else some default).bind λ e=>
  if((a.From != b.Mode)||(!e))=true then
   some (({ Mode:=0,Last:=0,Need:=0 }:Af),false)
  else
   if((((a.Print.length:Nat):Int)==0)&&((Cg .u8 b.Need a.Right)==0))=true then
    some (({ Mode:=0,Last:=0,Need:=0 }:Af),false)
   else
    if(((a.Print.length:Nat):Int)==0)=true then
     some (({ Mode:=a.To,Last:=b.Last,Need:=Cg .u8 b.Need a.Right }:Af),true)
    else
     (Jh a.Print 0).bind λ j=>
     (Fk n j).bind λ f=>
     (Gj n b.Need f).bind λ g=>
     if(!g)=true then
      some (({ Mode:=0,Last:=0,Need:=0 }:Af),false)
     else
      (Jh a.Print (FZ .i64 ((a.Print.length:Nat):Int) 1)).bind λ i=>
      (Fk n i).bind λ h=>
      some (({ Mode:=a.To,Last:=h,Need:=a.Right }:Af),true)
def Hg (_:Nat) (b:Int) (a:Int):Option Bool:=
 (Cj (decide (0<=(FZ .i64 a 1)))).bind λ _=>
 some ((Cg .u8 (Yl .u8 b (FZ .i64 a 1)) 1)==1)
def EB (_:Nat) (a:Int) (b:Int):Option ((Int×Int)⊕Int):=
 some (.inl (b,(AZ .i64 a 1)))
def DH (n:Nat) (d:Ay) (g:Int) (c:Int) (a:Int):Option ((Int×Int)⊕Int):=
 if decide (a<=6)=true then
  (Hg n d.Maybe a).bind λ b=>
  (if(!b)=true then Hg n d.Up a else some default).bind λ e=>
  (if(!b)=true then Hg n g a else some default).bind λ f=>
  if((!b)&&(!(e==f)))=true then
   EB n a (AZ .i64 c 1)
  else
   EB n a c
 else
  some (.inr c)
def HX (n:Nat) (a:Ay) (b:Int):Option Int:=
 (whl (λ (x:(Int×Int))=>DH n a b x.1 x.2) n (0,1)).bind λ c=>
 some c
def II (_:Nat) (a:An) (b:An):Option Bool:=
 some ((decide (a.Cost<b.Cost))||((a.Cost==b.Cost)&&(Op.bytesLess a.Text b.Text)))
def BW (n:Nat) (c:An) (b:Aa) (a:Int):Option (Int⊕(Unit⊕Aa)):=
 if decide (a<((b.Out.length:Nat):Int))=true then
  (idx b.Out a).bind λ g=>
  if(g.Text==c.Text)=true then
   (idx b.Out a).bind λ d=>
   (if(!(decide (c.Cost<d.Cost)))=true then idx b.Out a else some default).bind λ e=>
   (if((!(decide (c.Cost<d.Cost)))&&(c.Cost==e.Cost))=true then idx b.Out a else some default).bind λ h=>
   (if((!(decide (c.Cost<d.Cost)))&&(c.Cost==e.Cost))=true then HV n c.Cells h.Cells else some default).bind λ f=>
   if((decide (c.Cost<d.Cost))||((c.Cost==e.Cost)&&f))=true then
    (idx b.Out a).bind λ _=>
    (put b.Out a c).bind λ i=>
    some (.inr (.inr ({ T:=b.T,L:=b.L,Budget:=b.Budget,Left:=b.Left,Out:=i }:Aa)))
   else
    some (.inr (.inr b))
  else
   some (.inl (AZ .i64 a 1))
 else
  some (.inr (.inl ()))
def CW (n:Nat) (b:An) (a:Aa):Option Aa:=
 (whl (λ (x:Int)=>BW n b a x) n 0).bind λ c=>
 match c with
 | Sum.inl _=>
  (app 48 a.Out [b]).bind λ d=>
  some ({ T:=a.T,L:=a.L,Budget:=a.Budget,Left:=a.Left,Out:=d }:Aa)
 | Sum.inr e=>
  some e
def Ca (_:Nat) (a:Int) (b:Aa):Option ((Aa×Int)⊕Aa):=
 some (.inl (b,(AZ .i64 a 1)))
def Bs (n:Nat) (f:An) (_:Af) (d:Aa) (_:Int) (c:AB) (_:(Af×Bool)) (b:An) (a:Int):Option ((An×Int)⊕An):=
 if decide (a<((c.Cells.length:Nat):Int))=true then
  (idx c.Cells a).bind λ g=>
  (app 1 b.Cells [g]).bind λ h=>
  (idx d.L (AZ .i64 ((f.Cells.length:Nat):Int) a)).bind λ i=>
  (idx c.Cells a).bind λ j=>
  (HX n i j).bind λ e=>
  some (.inl (({ Text:=b.Text,Cells:=h,Cost:=AZ .i64 b.Cost e }:An),(AZ .i64 a 1)))
 else
  some (.inr b)
def BO (n:Nat) (c:(An->Af->Aa->Option Aa)) (d:An) (g:Af) (a:Aa) (b:Int):Option ((Aa×Int)⊕Aa):=
 if decide (b<((a.T.Rules.length:Nat):Int))=true then
  (idx a.T.Rules b).bind λ f=>
  (HW n a.T g b).bind λ e=>
  if((!e.2)||(decide (AZ .i64 ((d.Cells.length:Nat):Int) ((f.Cells.length:Nat):Int)>((a.L.length:Nat):Int))))=true then
   Ca n b a
  else
   (cat d.Text f.Print).bind λ k=>
   (app 1 ([]:List Int) d.Cells).bind λ i=>
   (whl (λ (x:(An×Int))=>Bs n d g a b f e x.1 x.2) n (({ Text:=k,Cells:=i,Cost:=d.Cost }:An),0)).bind λ j=>
   (c j e.1 a).bind λ h=>
   Ca n b h
 else
  some (.inr a)
def Bb (n:Nat) (b:(An->Af->Aa->Option Aa)) (c:An) (d:Af) (a:Aa):Option Aa:=
 if((decide (FZ .i64 a.Left 1<0))||(decide (c.Cost>a.Budget)))=true then
  some ({ T:=a.T,L:=a.L,Budget:=a.Budget,Left:=FZ .i64 a.Left 1,Out:=a.Out }:Aa)
 else
  if(((c.Cells.length:Nat):Int)==((a.L.length:Nat):Int))=true then
   (EA n a.T d).bind λ e=>
   if e=true then
    (CW n c ({ T:=a.T,L:=a.L,Budget:=a.Budget,Left:=FZ .i64 a.Left 1,Out:=a.Out }:Aa)).bind λ f=>
    some f
   else
    some ({ T:=a.T,L:=a.L,Budget:=a.Budget,Left:=FZ .i64 a.Left 1,Out:=a.Out }:Aa)
  else
   (whl (λ (x:(Aa×Int))=>BO n b c d x.1 x.2) n (({ T:=a.T,L:=a.L,Budget:=a.Budget,Left:=FZ .i64 a.Left 1,Out:=a.Out }:Aa),0)).bind λ g=>
   some g
def F5 (n:Nat) (a:An) (b:Af) (c:Aa):Option Aa:=
 V4 (λ _ _ _=>none) (Bb n) n a b c
def IJ (_:Nat) (a:Int) (b:Int):Option ((Int×Int)⊕Int):=
 some (.inl (b,(AZ .i64 a 1)))
def IK (n:Nat) (b:Aa) (_:(List An)) (c:Int) (a:Int):Option ((Int×Int)⊕Int):=
 if decide (a<((b.Out.length:Nat):Int))=true then
  (idx b.Out a).bind λ e=>
  (idx b.Out c).bind λ f=>
  (II n e f).bind λ d=>
  if d=true then
   IJ n a a
  else
   IJ n a c
 else
  some (.inr c)
def Fl (n:Nat) (a:Aa) (b:(List An)):Option ((Aa×(List An))⊕(List An)):=
 if decide (((a.Out.length:Nat):Int)>0)=true then
  (whl (λ (x:(Int×Int))=>IK n a b x.1 x.2) n (0,1)).bind λ c=>
  (idx a.Out c).bind λ d=>
  (app 48 b [d]).bind λ e=>
  (sub a.Out 0 c).bind λ f=>
  (sub a.Out (AZ .i64 c 1) ((a.Out.length:Nat):Int)).bind λ g=>
  (app 48 f g).bind λ h=>
  some (.inl (({ T:=a.T,L:=a.L,Budget:=a.Budget,Left:=a.Left,Out:=h }:Aa),e))
 else
  some (.inr b)
def OF (n:Nat) (c:Ab) (d:(List Ay)) (e:Int):Option ((List An)×Bool):=
 (RP n).bind λ b=>
 (F5 n ({ Text:=[],Cells:=([]:List Int),Cost:=0 }:An) b ({ T:=c,L:=d,Budget:=e,Left:=20000,Out:=([]:List An) }:Aa)).bind λ a=>
 if decide (a.Left<0)=true then
  some ([],false)
 else
  (whl (λ (x:(Aa×(List An)))=>Fl n x.1 x.2) n (a,([]:List An))).bind λ f=>
  some (f,true)
noncomputable def B6 (n:Nat) (k:Ji) (l:(List (Da Int))) (g:Int):Option Bool:=
 (IG n).bind λ d=>
 (FQ n k).bind λ e=>
 (Mo n l).bind λ f=>
 (BD n e f (IntKind.i64.wrap (Bo g 7))).bind λ b=>
 (D6 n e f (IntKind.i64.wrap (Bo g 7))).bind λ a=>
 if decide (IntKind.i64.wrap (Bo g 7)<0)=true then
  (if(((b.2==1)&&(((b.1.length:Nat):Int)==0))&&(!a.2))=true then HT n a.1 ({ Text:=[],Cells:=[],Cost:=0 }:An)else some default).bind λ h=>
  some (((((b.2==1)&&(((b.1.length:Nat):Int)==0))&&(!a.2))&&h)&&d)
 else
  (OF n e f (IntKind.i64.wrap (Bo g 7))).bind λ c=>
  if(!c.2)=true then
   some d
  else
   (if((!(!(a.2==(decide (((c.1.length:Nat):Int)>0)))))&&a.2)=true then idx c.1 0 else some default).bind λ m=>
   (if((!(!(a.2==(decide (((c.1.length:Nat):Int)>0)))))&&a.2)=true then HT n a.1 m else some default).bind λ i=>
   if((!(a.2==(decide (((c.1.length:Nat):Int)>0))))||(a.2&&(!i)))=true then
    some false
   else
    if decide (((c.1.length:Nat):Int)>16)=true then
     some (((b.2==2)&&(((b.1.length:Nat):Int)==0))&&d)
    else
     (if(b.2==0)=true then C3 n b.1 c.1 else some default).bind λ j=>
     some (((b.2==0)&&j)&&d)
end Go.AI
end
