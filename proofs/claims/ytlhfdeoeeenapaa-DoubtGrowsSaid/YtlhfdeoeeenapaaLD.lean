/- Part 4 of 6 of the proof: lemmas about the model and the program's functions, with no condition beyond those that each states. -/
import Derived.Test.YtlhfdeoeeenapaaLC
import Derived.KernelRfl
import Derived.RecoverIn
import Derived.TacticsInMore
import Derived.Shelf.Small.Strs
import Derived.Test.YtlhfdeoeeenapaaProg
import Derived.Shelf.SlLaysF0
import Derived.Shelf.Lays
import Derived.Lib.ConvBytes
import Derived.WalkKit
import Derived.Deep.LoopGhost
import Derived.Deep.RegionLaw
import Derived.Shelf.RegionOpenPlain
import Derived.Lib.Walk
import Derived.Sort.WalkB12
import Derived.Sort.EncStr
import Derived.Lib.SliceRun
import Derived.Deep.MidRow
import Derived.Shelf.Sort.Plain
import Derived.Shelf.Slices.In.SortNone
import Derived.Shelf.SlSortCmp.NoneTotal
import Derived.Lib.Bytealg
section
namespace Go.AI
variable {Γ:Cx} {C:Code} {p:List Nat} {Q:Ex->St->Prop} {s s':St} {K:St->Prop} {i:Nat} {nk:Nat}
variable {α β ζ:Type}
theorem Br {x:Option α} {d:α} (h:x.isSome=true):x=some (x.getD d):=by
 cases x with
 | none=>cases h
 | some x=>rfl
structure WP (Γ:Cx) (C:Code) (p:List Nat) (Q:Ex->St->Prop) (s:St):Prop where
 out:wpA Γ (nav p C) Q s
structure RF (Γ:Cx) (C:Code) (p:List Nat) (i:Nat) (Q:Ex->St->Prop) (s:St):Prop where
 out:AS Γ C p i (Q .normal) s
structure PQ (Q:Ex->St->Prop) (e:Ex) (s:St):Prop where
 out:Q e s
structure RA (ty:Nat->Ty) (rs:List ResultVar) (r:AV) (s:St):Prop where
 out:SY ty rs r s
theorem RF.of {Γ:Cx} {C:Code} {p:List Nat} {i:Nat} {Q:Ex->St->Prop} {s s':St} {j:Nat} (h:AS Γ C p j (Q .normal) s'->AS Γ C p i (Q .normal) s) (hk:RF Γ C p j Q s'):RF Γ C p i Q s:=⟨h hk.out⟩
theorem Hr (k:Nat):∀ (p:List Nat) (C:Code),nav (p++[k]) C=Yw (nav p C) k:=by
 intro p;induction p with
 | nil=>intro C;rfl
 | cons a p ih=>intro C;exact ih (Yw C a)
def VN:Code->Bool
 | .seq _ _=>true
 | _=>false
def Rr:Code->Bool
 | .cond _ _ _=>true
 | _=>false
def Jc8 (id:Nat):Code->Bool
 | .block i _=>Nat.beq i id
 | _=>false
def Ma:Code->Bool
 | .loop _=>true
 | _=>false
theorem Jcf (h:VN (nav p C)=true):nav p C=.seq (nav (p++[0]) C) (nav (p++[1]) C):=by
 rw[Hr,Hr];cases hc:nav p C<;>rw[hc]at h<;>first|rfl|cases h
theorem OI (h:Rr (nav p C)=true):nav p C=.cond (L7 (nav p C)) (nav (p++[0]) C) (nav (p++[1]) C):=by
 rw[Hr,Hr];cases hc:nav p C<;>rw[hc]at h<;>first|rfl|cases h
theorem Jcg {id:Nat} (h:Jc8 id (nav p C)=true):nav p C=.block id (nav (p++[0]) C):=by
 rw[Hr];cases hc:nav p C with
 | block j c=>rw[hc]at h;have:=Ji5 h;subst this;rfl
 | _=>rw[hc]at h;cases h
theorem S6 (h:Ma (nav p C)=true):nav p C=.loop (nav (p++[0]) C):=by
 rw[Hr];cases hc:nav p C<;>rw[hc]at h<;>first|rfl|cases h
theorem sq (hw:WP Γ C (p++[0]) (PB Γ.nt.nk (wpA Γ (nav (p++[1]) C) Q) Q) s) (h:VN (nav p C)=true:=by kernel_rfl):WP Γ C p Q s:=⟨JdD (Jcf h) hw.out⟩
theorem rg (hs:An Γ.nt.nk s s') (hk:RF Γ C p 0 (Rk C p s' Q) s') (h:I4 (nav p C)=true:=by kernel_rfl):WP Γ C p Q s:=⟨Qn h hs hk.out⟩
theorem rz (hk:RF Γ C p 0 (Rk C p s Q) s) (h:I4 (nav p C)=true:=by kernel_rfl):WP Γ C p Q s:=⟨Qn h JbW hk.out⟩
theorem sr (hk:RF Γ C (p++[0]) 0 (Rk C (p++[0]) s (PB Γ.nt.nk (wpA Γ (nav (p++[1]) C) Q) Q)) s) (h:(VN (nav p C)&&I4 (nav (p++[0]) C))=true:=by kernel_rfl):WP Γ C p Q s:=by
 simp only[JiZ]at h;exact sq (rz hk h.2) h.1
theorem ae {s0:St} (hk:PQ Q .normal s) (h:Nat.ble (AW (nav p C)).length i=true:=by kernel_rfl) (hd:KQ (J0 (nav p C)) (Cq (nav p C)) s0.env s.env=true:=by kernel_rfl):RF Γ C p i (Rk C p s0 Q) s:=⟨L8 i h ⟨hd,hk.out⟩⟩
theorem en {s0:St} {p':List Nat} (hk:WP Γ C p' Q s) (h:Nat.ble (AW (nav p C)).length i=true:=by kernel_rfl) (hd:KQ (J0 (nav p C)) (Cq (nav p C)) s0.env s.env=true:=by kernel_rfl):RF Γ C p i (Rk C p s0 (PB Γ.nt.nk (wpA Γ (nav p' C) Q) Q)) s:=⟨L8 i h ⟨hd,⟨s,.refl s,hk.out⟩⟩⟩
theorem bk (id:Nat) (hw:WP Γ C (p++[0]) (FY id Q) s) (h:Jc8 id (nav p C)=true:=by kernel_rfl):WP Γ C p Q s:=⟨Yy id (Jcg h) hw.out⟩
theorem ex (k:Nat) (hq:PQ Q (.exit k) s) (h:nav p C=.exit k:=by kernel_rfl):WP Γ C p Q s:=⟨JbN k h hq.out⟩
theorem re (hq:PQ Q .ret s) (h:nav p C=.ret:=by kernel_rfl):WP Γ C p Q s:=⟨JdE h hq.out⟩
theorem sk (hq:PQ Q .normal s) (h:nav p C=.skip:=by kernel_rfl):WP Γ C p Q s:=⟨JbO h hq.out⟩
theorem cn {c:Bool} {x y:Option ζ} {r:ζ} (H:(if c=true then x else y)=some r) (h1:x=some r->WP Γ C (p++[0]) Q s) (h2:y=some r->WP Γ C (p++[1]) Q s) (h:Rr (nav p C)=true:=by kernel_rfl) (hc:Ai s.env (L7 (nav p C))=.d (.bool c):=by kernel_rfl):WP Γ C p Q s:=by
 refine⟨Rj c (OI h) hc (λ e=>?_) (λ e=>?_)⟩
 ·rw[if_pos e]at H;exact(h1 H).out
 ·rw[if_neg (by rw[e];simp)]at H;exact(h2 H).out
theorem sj {σ ζ:Type} (sJ:σ->St) (F:σ->Option ζ) (z:ζ) (hb:∀ x,F x=some z->WP Γ C (p++[1]) Q (sJ x)) (ha:(∀ x,F x=some z->WP Γ C (p++[1]) Q (sJ x))->WP Γ C (p++[0]) (PB Γ.nt.nk (wpA Γ (nav (p++[1]) C) Q) Q) s) (h:VN (nav p C)=true:=by kernel_rfl):WP Γ C p Q s:=sq (ha hb) h
theorem lp {σ ρ:Type} {body:σ->Option (σ⊕ρ)} {n:Nat} {x:σ} {r:ρ} (st:σ->St) (E:ρ->Ex->St->Prop) (hr:whl body n x=some r) (hs:An Γ.nt.nk s (st x))
  (hb:∀ x z,body x=some z->WP Γ C (p++[0]) (AT Γ.nt.nk st E z) (st x)) (hE:∀ e s,E r e s->PQ Q e s) (h:Ma (nav p C)=true:=by kernel_rfl):WP Γ C p Q s:=⟨JbP st E (S6 h) hr hs (λ x z hx=>(hb x z hx).out) (λ e s he=>(hE e s he).out)⟩
theorem fo {P:Program} {fn:Func} {f:FuncId} {args:List AV} {r:AV} (hfol:P.follows .mixedOrders=true) (hΓ:Fe P Γ) (hf:P.funcs[f]?=some fn) (h:WP Γ (AR fn) [] (SZ Γ.ty fn.results.toList r) s)
  (hb:fn.body=some (AR fn):=by kernel_rfl) (hnm:(fn.name == "runtime.NumGoroutine")=false:=by kernel_rfl) (hnt:Γ.nt.n=fn.ntmps:=by kernel_rfl) (hlen:Nat.ble args.length fn.ntmps=true:=by kernel_rfl) (hs:(⟨(List.range args.length).zip args,[]⟩:St)=s:=by kernel_rfl) (hrd:Γ.rd=false:=by kernel_rfl):AN P f args r:=
 Jgn hfol hΓ hrd hf hb hnm hnt hlen hs h.out
theorem Hs {c a b:AV} {t x y z:Bool} {r q q':Prop} (hc:Sc c=some (t,r)) (ha:unP t a=some (x,q)) (hb:unP (!t) b=some (y,q')) (hr:r) (hq:q) (hq':q') (hz:(bif t then x else y)=z:=by kernel_rfl):DG (FA c a b) (.d (.bool z)) [] [] none:=hz▸YU hc ha hb hr hq hq'
theorem bx {G:Prop} {x:Option α} {f:α->Option β} {r:β} (h:x.bind f=some r) (k:∀ a,x=some a->f a=some r->G):G:=by obtain⟨a,h1,h2⟩:=bind_some h;exact k a h1 h2
theorem bs {x:Option α} {f:α->Option β} {r:β} (h:x.bind f=some r):∃ a,x=some a/\f a=some r:=bind_some h
theorem qs (hs:An Γ.nt.nk s s') (h:WP Γ C p Q s'):PQ (PB Γ.nt.nk (wpA Γ (nav p C) Q) Q) .normal s:=⟨s',hs,h.out⟩
theorem qz (h:WP Γ C p Q s):PQ (PB Γ.nt.nk (wpA Γ (nav p C) Q) Q) .normal s:=⟨s,.refl s,h.out⟩
theorem qx {B:St->Prop} {k:Nat} (h:PQ Q (.exit k) s):PQ (PB nk B Q) (.exit k) s:=⟨h.out⟩
theorem qr {B:St->Prop} (h:PQ Q .ret s):PQ (PB nk B Q) .ret s:=⟨h.out⟩
theorem qN {id:Nat} (h:PQ Q .normal s):PQ (FY id Q) .normal s:=⟨h.out⟩
theorem qH {id:Nat} (h:PQ Q .normal s):PQ (FY id Q) (.exit id) s:=⟨Yz h.out⟩
theorem qX {id k:Nat} (hn:Nat.beq k id=false) (h:PQ Q (.exit k) s):PQ (FY id Q) (.exit k) s:=⟨YA hn h.out⟩
theorem qR {id:Nat} (h:PQ Q .ret s):PQ (FY id Q) .ret s:=⟨h.out⟩
theorem og {σ ρ:Type} {st:σ->St} {E:ρ->Ex->St->Prop} {y:σ} (h:An nk s (st y)):PQ (AT nk st E (.inl y)) .normal s:=⟨YB h⟩
theorem oe {σ ρ:Type} {st:σ->St} {E:ρ->Ex->St->Prop} {r:ρ} {k:Nat} (h:E r (.exit k) s):PQ (AT nk st E (.inr r)) (.exit k) s:=⟨UI h⟩
theorem or {σ ρ:Type} {st:σ->St} {E:ρ->Ex->St->Prop} {r:ρ} (h:E r .ret s):PQ (AT nk st E (.inr r)) .ret s:=⟨W4 h⟩
theorem pr {ty:Nat->Ty} {rs:List ResultVar} {r:AV} (h:RA ty rs r s):PQ (SZ ty rs r) .ret s:=⟨h.out⟩
def nxP (Γ:Cx) (C:Code) (p:List Nat) (i n:Nat) (s:St):St:=(W5 Γ (AW (nav p C)) (((AW (nav p C)).drop i).take n) s).getD s
theorem ck (n:Nat) (hk:RF Γ C p (i+n) Q (nxP Γ C p i n s)) (h:(W5 Γ (AW (nav p C)) (((AW (nav p C)).drop i).take n) s).isSome=true:=by kernel_rfl):RF Γ C p i Q s:=⟨Jgi n _ (Br h) rfl hk.out⟩
def EH (_:St) (x:Option Eff) (v:AV) (obs:List Ob) (rm:List Nat) (upd:Option (Nat×Ob)):Prop:=DG x v obs rm upd
theorem sp {v:AV} {obs:List Ob} {rm:List Nat} {upd:Option (Nat×Ob)} {x:Option Eff} (ho:EH s x v obs rm upd) (hk:RF Γ C p (i+1) Q ((MV Γ (nav p C) i v obs rm upd s).getD s)) (hx:L9 Γ (nav p C) i s=x:=by kernel_rfl) (hn:(MV Γ (nav p C) i v obs rm upd s).isSome=true:=by kernel_rfl):RF Γ C p i Q s:=⟨JhK _ hx ho (Br hn) rfl hk.out⟩
def opV (Γ:Cx) (c:Code) (i:Nat) (s:St):AV:=match L9 Γ c i s with
 | some e=>e.v
 | none=>.top
theorem so {ob:Prop} (ho:ob) (hk:RF Γ C p (i+1) Q ((MV Γ (nav p C) i (opV Γ (nav p C) i s) [] [] none s).getD s)) (hx:L9 Γ (nav p C) i s=A3 (opV Γ (nav p C) i s) ob:=by kernel_rfl) (hn:(MV Γ (nav p C) i (opV Γ (nav p C) i s) [] [] none s).isSome=true:=by kernel_rfl):RF Γ C p i Q s:=sp (Jc5 ho) hk hx hn
theorem sG {g:Bool} {v:AV} {obs:List Ob} {x:Option Eff} {gs:List Bool} (ho:g=true->EH s x v obs [] none) (hi:D3 g gs) (hk:RF Γ C p (i+1) Q ((I6 Γ (nav p C) i g v obs s).getD s)) (hg:gAt (nav p C) i s=some g:=by kernel_rfl) (hx:L9 Γ (nav p C) i s=x:=by kernel_rfl) (hgs:Eo (nav p C) i s=gs:=by kernel_rfl) (hn:(I6 Γ (nav p C) i g v obs s).isSome=true:=by kernel_rfl):RF Γ C p i Q s:=⟨Jc2 _ hg hx ho hgs hi (Br hn) rfl hk.out⟩
theorem soG {g:Bool} {ob:Prop} {gs:List Bool} (ho:g=true->ob) (hi:D3 g gs) (hk:RF Γ C p (i+1) Q ((I6 Γ (nav p C) i g (opV Γ (nav p C) i s) [] s).getD s)) (hg:gAt (nav p C) i s=some g:=by kernel_rfl) (hx:L9 Γ (nav p C) i s=A3 (opV Γ (nav p C) i s) ob:=by kernel_rfl) (hgs:Eo (nav p C) i s=gs:=by kernel_rfl) (hn:(I6 Γ (nav p C) i g (opV Γ (nav p C) i s) [] s).isSome=true:=by kernel_rfl):RF Γ C p i Q s:=sG (λ e=>Jc5 (ho e)) hi hk hg hx hgs hn
def plV (Γ:Cx) (c:Code) (i:Nat) (s:St):AV×List Ob:=(YP Γ c i s).getD (.top,[])
theorem gp (g:Bool) {gs:List Bool} (hi:D3 g gs) (hk:RF Γ C p (i+1) Q ((I6 Γ (nav p C) i g (plV Γ (nav p C) i s).1 (plV Γ (nav p C) i s).2 s).getD s)) (hg:gAt (nav p C) i s=some g:=by kernel_rfl) (hp:(YP Γ (nav p C) i s).isSome=true:=by kernel_rfl) (hgs:Eo (nav p C) i s=gs:=by kernel_rfl) (hn:(I6 Γ (nav p C) i g (plV Γ (nav p C) i s).1 (plV Γ (nav p C) i s).2 s).isSome=true:=by kernel_rfl):RF Γ C p i Q s:=
 ⟨Jc2 _ hg rfl (λ _=>Jgp (Br (d:=(.top,[])) hp)) hgs hi (Br hn) rfl hk.out⟩
def gl (Γ:Cx) (c:Code) (g:Bool):Nat->Nat->St->Option (List Bool×St)
 | 0,_,s=>some ([],s)
 | n+1,i,s=>match gAt c i s,(YP Γ c i s).isSome,I6 Γ c i g (plV Γ c i s).1 (plV Γ c i s).2 s with
  | some g',true,some s1=>match gl Γ c g n (i+1) s1 with
   | some (l,s2)=>some (g'::(Eo c i s++l),s2)
   | none=>none
  | _,_,_=>none
theorem Qr {g:Bool}:∀ {l:List Bool},(∀ b∈l,b=g)->D3 g l:=by
 intro l;induction l with
 | nil=>intro _;trivial
 | cons b l ih=>intro h;exact⟨λ e=>by rw[h b (by simp)];exact e,ih λ x hx=>h x (by simp[hx])⟩
theorem Jgt {g:Bool}:∀ (n i:Nat) (s:St) (l:List Bool) (s2:St),gl Γ (nav p C) g n i s=some (l,s2)->(∀ b∈l,b=g)->RF Γ C p (i+n) Q s2->RF Γ C p i Q s:=by
 intro n;induction n with
 | zero=>intro i s l s2 h _ hk;cases h;exact hk
 | succ n ih=>
  intro i s l s2 h hl hk;simp only[gl]at h;split at h
  ·rename_i g' s1 h1 h2 h3;split at h
   ·rename_i l' s2' h4;cases h;have e:g'=g:=hl g' (by simp);subst e;have hlast:=ih (i+1) s1 l' s2 h4 (λ b hb=>hl b (by simp[hb])) (by rw[JiS,Nat.add_comm 1 n];exact hk);refine gp g' (Qr λ b hb=>hl b (by simp[hb])) ?_ h1 h2 rfl (by rw[h3];rfl);rw[h3];exact hlast
   ·cases h
  ·cases h
theorem gc (n:Nat) (g:Bool) (hk:RF Γ C p (i+n) Q ((gl Γ (nav p C) g n i s).getD ([],s)).2) (h1:(gl Γ (nav p C) g n i s).isSome=true:=by kernel_rfl) (h2:((gl Γ (nav p C) g n i s).getD ([],s)).1=List.replicate ((gl Γ (nav p C) g n i s).getD ([],s)).1.length g:=by kernel_rfl):RF Γ C p i Q s:=by
 refine Jgt n i s _ _ (Br (d:=([],s)) h1) (λ b hb=>?_) hk;have hb':b∈((gl Γ (nav p C) g n i s).getD ([],s)).1:=hb;rw[h2]at hb';exact List.eq_of_mem_replicate hb'
def bo:AV->Bool
 | .d (.bool b)=>b
 | .gv _ (.d (.bool b))=>b
 | _=>false
def pkO (c:Code) (i:Nat) (s:St):AV×AV×AV:=
 match (AW c)[i]? with
 | some o=>match o.op with
  | .pick x y z=>(Ai s.env x,Ai s.env y,Ai s.env z)
  | _=>(.top,.top,.top)
 | none=>(.top,.top,.top)
def pkT (c:Code) (i:Nat) (s:St):Bool:=bo (pkO c i s).1
def pkX (c:Code) (i:Nat) (s:St):Bool:=bo (pkO c i s).2.1
def pkY (c:Code) (i:Nat) (s:St):Bool:=bo (pkO c i s).2.2
def pkV (c:Code) (i:Nat) (s:St):AV:=.d (.bool (bif pkT c i s then pkX c i s else pkY c i s))
theorem pA (hk:RF Γ C p (i+1) Q ((Qo Γ (nav p C) i (pkV (nav p C) i s) s).getD s)) (h:Kx (nav p C) i s=FA (.d (.bool (pkT (nav p C) i s))) (.gv (pkT (nav p C) i s) (.d (.bool (pkX (nav p C) i s)))) (.d (.bool (pkY (nav p C) i s))):=by kernel_rfl) (hn:(Qo Γ (nav p C) i (pkV (nav p C) i s) s).isSome=true:=by kernel_rfl):RF Γ C p i Q s:=⟨Jc3 _ h YT (Br hn) rfl hk.out⟩
theorem pO (hk:RF Γ C p (i+1) Q ((Qo Γ (nav p C) i (pkV (nav p C) i s) s).getD s)) (h:Kx (nav p C) i s=FA (.d (.bool (pkT (nav p C) i s))) (.d (.bool (pkX (nav p C) i s))) (.gv (!(pkT (nav p C) i s)) (.d (.bool (pkY (nav p C) i s)))):=by kernel_rfl) (hn:(Qo Γ (nav p C) i (pkV (nav p C) i s) s).isSome=true:=by kernel_rfl):RF Γ C p i Q s:=⟨Jc3 _ h Jb5 (Br hn) rfl hk.out⟩
theorem pG {g:Bool} {v:AV} {x:Option Eff} (ho:g=true->DG x v [] [] none) (hk:RF Γ C p (i+1) Q ((Rl Γ (nav p C) i g v s).getD s)) (hg:gAt (nav p C) i s=some g:=by kernel_rfl) (hx:Kx (nav p C) i s=x:=by kernel_rfl) (hn:(Rl Γ (nav p C) i g v s).isSome=true:=by kernel_rfl):RF Γ C p i Q s:=⟨JdF _ hg hx ho (Br hn) rfl hk.out⟩
theorem sF (hk:RF Γ C p (i+1) Q ((VI Γ (nav p C) i ((Ld Γ (nav p C) i s).getD []) s).getD s)) (hx:(Ld Γ (nav p C) i s).isSome=true:=by kernel_rfl) (hn:(VI Γ (nav p C) i ((Ld Γ (nav p C) i s).getD []) s).isSome=true:=by kernel_rfl):RF Γ C p i Q s:=⟨Jgo _ _ (Br hx) (Br hn) rfl hk.out⟩
theorem sK (obj:Bool) (hk:RF Γ C p (i+1) Q ((VM Γ (nav p C) i obj ((Ky Γ (nav p C) i s).getD (0,[])).1 ((Ky Γ (nav p C) i s).getD (0,[])).2 s).getD s)) (hx:(Ky Γ (nav p C) i s).isSome=true:=by kernel_rfl) (hn:(VM Γ (nav p C) i obj ((Ky Γ (nav p C) i s).getD (0,[])).1 ((Ky Γ (nav p C) i s).getD (0,[])).2 s).isSome=true:=by kernel_rfl):RF Γ C p i Q s:=⟨Jgr _ obj _ (Br (d:=(0,[])) hx) (Br hn) rfl hk.out⟩
theorem ca (m:Bool) {f:FuncId} {ys:List AV} {r:AV} (hr:Γ.calls f ys r) (hk:RF Γ C p (i+1) Q ((MW Γ (nav p C) i m (Ho r) r s).getD s)) (hc:Ia (nav p C) i s=some (f,ys,[],[]):=by kernel_rfl) (hn:(MW Γ (nav p C) i m (Ho r) r s).isSome=true:=by kernel_rfl):RF Γ C p i Q s:=⟨YJ _ m hc leZ rfl hr (.inl rfl) rfl (Br hn) rfl hk.out⟩
theorem cb (m:Bool) {f:FuncId} {xs ys:List AV} {ks:List Nat} {obl:List (Nat×Nat)} {r:AV} {ls:List Nat} (hob:Fi obl) (hxs:xs=ys) (hr:Γ.calls f ys r) (hf:ks=[]\/Iw r) (hls:Ho r=ls) (hk:RF Γ C p (i+1) Q ((MW Γ (nav p C) i m ls r s).getD s)) (hc:Ia (nav p C) i s=some (f,xs,ks,obl):=by kernel_rfl) (hn:(MW Γ (nav p C) i m ls r s).isSome=true:=by kernel_rfl):RF Γ C p i Q s:=⟨YJ _ m hc hob hxs hr hf hls (Br hn) rfl hk.out⟩
theorem cG (m:Bool) {g:Bool} {gs:List Bool} {f:FuncId} {xs ys:List AV} {ks:List Nat} {obl:List (Nat×Nat)} {r:AV} {ls:List Nat} (hob:Fi obl) (hxs:xs=ys) (hr:g=true->Γ.calls f ys r) (hf:ks=[]\/Iw r) (hi:D3 g gs) (hls:Ho r=ls) (hk:RF Γ C p (i+1) Q ((OD Γ (nav p C) i g m ls r s).getD s)) (hg:gAt (nav p C) i s=some g:=by kernel_rfl) (hc:Ia (nav p C) i s=some (f,xs,ks,obl):=by kernel_rfl) (hgs:Eo (nav p C) i s=gs:=by kernel_rfl) (hn:(OD Γ (nav p C) i g m ls r s).isSome=true:=by kernel_rfl):RF Γ C p i Q s:=⟨Jgk _ m hg hc hob hxs hr hf hgs hi hls (Br hn) rfl hk.out⟩
theorem AY (e:α->List D) {xs:List α} {n:Int} {x:α} (h:idx xs n=some x):EH s (A3 (.dptr ((xs.map e)[n.toNat]?.getD []) 0) (0<=n/\n<(xs.map e).length/\((xs.map e)[n.toNat]?.getD []).length=(e x).length)) (.dptr (e x) 0) [] [] none:=
 JbZ (esz:=(e x).length) (eb:=0) (ez:=[]) h (Nat.beq_refl _)
theorem Bl (k esz:Nat) {xs:List α} {n:Int} {x:α} (h:idx xs n=some x):EH s (A3 (.eptr k esz (0+n.toNat) 0) (0<=n/\n<(xs.length:Nat)/\esz=esz)) (.eptr k esz (0+n.toNat) 0) [] [] none:=Jb0 (esz:=esz) (eb:=0) (ez:=[]) h
def ldV (l:List D) (off:Nat) (t:Ty):AV:=(Cu (l.map .d) off t).getD .top
theorem Co (e:α->List D) (k off:Nat) (t:Ty) {xs:List α} {n:Int} {x:α} (h:idx xs n=some x) (hk:obA s.objs k=some (.arr (e x).length (xs.map e)):=by kernel_rfl) (hv:(Cu ((e x).map .d) off t).isSome=true:=by kernel_rfl) (hl:Nat.ble (off+t.size) (e x).length=true:=by kernel_rfl) :
  EH s (Dg t s.objs (.eptr k (e x).length (0+n.toNat) off)) (ldV (e x) off t) [] [] none:=JdL hk h (Br hv) hl
def stV (c:Code) (i:Nat) (s:St):AV:=
 match (AW c)[i]? with
 | some o=>match o.op with
  | .store _ _ v=>unG (Ai s.env v)
  | _=>.top
 | none=>.top
def stR (c:Code) (i:Nat) (s:St):List D:=((xDs s.objs (Ak (stV c i s))).getD ([],[],[])).1
theorem stA (e:α->List D) (k off:Nat) (t:Ty) {xs zs:List α} {n:Int} {x y:α} (h:idx xs n=some x) (hz:put xs n y=some zs) (hk:RF Γ C p (i+1) Q ((MV Γ (nav p C) i .top [] [] (some (k,.arr (e x).length (zs.map e))) s).getD s))
  (h1:obA s.objs k=some (.arr (e x).length (xs.map e)):=by kernel_rfl) (h2:xDs s.objs (Ak (stV (nav p C) i s))=some (stR (nav p C) i s,[],[]):=by kernel_rfl) (h3:(By (stV (nav p C) i s)&&(Ak (stV (nav p C) i s)).all CO)=true:=by kernel_rfl) (h4:E2 (e x) off (stR (nav p C) i s)=e y:=by kernel_rfl) (h5:(Nat.beq (stR (nav p C) i s).length t.size&&Nat.ble (off+t.size) (e x).length)=true:=by kernel_rfl)
  (hx:L9 Γ (nav p C) i s=Ek t s.objs (.eptr k (e x).length (0+n.toNat) off) (stV (nav p C) i s):=by kernel_rfl) (hn:(MV Γ (nav p C) i .top [] [] (some (k,.arr (e x).length (zs.map e))) s).isSome=true:=by kernel_rfl):RF Γ C p i Q s:=
 sp (JdM h1 h hz h2 leZ (by rw[h3];rfl) h4 h5) hk hx hn
theorem YX (e:α->List D) (esz:Nat) {ys zs:List α} {eb:Nat} (h:app eb [] ys=some zs) (hl:∀ y,(e y).length=esz:=by intro _;rfl):EH s (BL esz eb s.objs (.d .nil) (((ys.map e).drop 0).take ys.length) (0+ys.length<=(ys.map e).length)) (.osl s.objs.length esz 0 zs.length) [.arr esz (zs.map e)] [] none:=Jb1 F6 hl (by simp) h
theorem Jd1 (e:α->List D) (k esz:Nat) {xs ys zs:List α} {eb:Nat} (h:app eb xs ys=some zs) (hk:obA s.objs k=some (.arr esz (xs.map e)):=by kernel_rfl) (hl:∀ y,(e y).length=esz:=by intro _;rfl):EH s (BL esz eb s.objs (.osl k esz 0 xs.length) (ys.map e) True) (.osl s.objs.length esz 0 zs.length) [.arr esz (zs.map e)] [k] none:=YR hk rfl hl trivial h
theorem Cf (e:α->List D) (k esz:Nat) {xs ys zs:List α} {eb:Nat} (h:app eb xs ys=some zs) (hk:obA s.objs k=some (.arr esz (xs.map e)):=by kernel_rfl) (hl:∀ y,(e y).length=esz:=by intro _;rfl):EH s (BL esz eb s.objs (.osl k esz 0 xs.length) (((ys.map e).drop 0).take ys.length) (0+ys.length<=(ys.map e).length)) (.osl s.objs.length esz 0 zs.length) [.arr esz (zs.map e)] [k] none:=YR hk F6 hl (by simp) h
theorem UM {x y z:List UInt8} (h:cat x y=some z):EH s (Sb .add x y) (.d (.str z)) [] [] none:=JdN h
theorem GI {t:List UInt8} {n b:Int} (h:JZ t n=some b):EH s (A3 (.d (.int .u8 (t[n.toNat]?.getD 0).toNat)) (0<=n/\n<t.length)) (.d (.int .u8 b)) [] [] none:=Jb2 h
theorem Jch {t z:List UInt8} {l h:Int} (hz:sub t l h=some z):EH s (A3 (.d (.str ((t.take h.toNat).drop l.toNat))) (0<=l/\l<=h/\h<=t.length)) (.d (.str z)) [] [] none:=Jb3 hz
theorem UN (e:α->List D) (esz:Nat) {xs zs:List α} {l h:Int} (hz:sub xs l h=some zs) (hl:∀ y,(e y).length=esz:=by intro _;rfl):EH s (A3 (.d (.sl (((xs.map e).take h.toNat).drop l.toNat))) (0<=l/\l<=h/\h<=(xs.map e).length/\∀ y∈xs.map e,y.length=esz)) (.d (.sl (zs.map e))) [] [] none:=JdO hz hl
theorem UO (k esz:Nat) {xs zs:List α} {l h:Int} (hz:sub xs l h=some zs):EH s (A3 (.osl k esz (0+l.toNat) (h.toNat-l.toNat)) (0<=l/\l<=h/\h<=(xs.length:Int)/\esz=esz)) (.osl k esz (0+l.toNat) (h.toNat-l.toNat)) [] [] none:=JdQ hz
theorem Jgu (e:α->List D) (esz:Nat) {zs:List α} {n:Int} {z:α} {eb:Nat} (h:mkl eb n z=some zs):EH s (some ⟨.osl s.objs.length esz 0 n.toNat,[.arr esz (List.replicate n.toNat (e z))],[],none,0<=n/\n<=n/\n.toNat*eb<=70368744177664⟩) (.osl s.objs.length esz 0 zs.length) [.arr esz (zs.map e)] [] none:=Jgq h rfl
theorem Jci {b:List Int} {z:List UInt8} (h:S2 b=some z):EH s (KL (.slice 1 1 [.int .u8 0]) .string (.d (.sl (b.map λ n=>[.int .u8 n])))) (.d (.str z)) [] [] none:=Jb4 h
theorem AU (e:α->List D) (xs:List α):EH s (val (.d (.int .i64 (xs.map e).length))) (.d (.int .i64 xs.length)) [] [] none:=JdP (esz:=0) (eb:=0) (ez:=[])
theorem cl (ls:List Nat) {f:FuncId} {ys:List AV} {r:AV} (hr:Γ.calls f ys r) (hk:RF Γ C p (i+1) Q ((MW Γ (nav p C) i true ls r s).getD s)) (hls:Ho r=ls:=by simp only[Ho,S4,S3,Qp,JiT,List.nil_append,List.append_nil,List.cons_append]) (hc:Ia (nav p C) i s=some (f,ys,[],[]):=by kernel_rfl) (hn:(MW Γ (nav p C) i true ls r s).isSome=true:=by kernel_rfl):RF Γ C p i Q s:=⟨YJ _ true hc leZ rfl hr (.inl rfl) hls (Br hn) rfl hk.out⟩
theorem Ib {encN:α->List AV} {xss:List α} {x:α} {row:List AV} {n:Int} {k sz off:Nat} {t:Ty} {v:AV} (h:idx xss n=some x) (hk:obA s.objs k=some (.narr sz ((xss.map encN).set n.toNat row)):=by kernel_rfl) (hv:Cu row off t=some v:=by kernel_rfl) (hs:(Ak v).all CO=true:=by kernel_rfl) (hl:Nat.ble (off+t.size) row.length=true:=by kernel_rfl) :
  EH s (Dg t s.objs (.eptr k sz (0+n.toNat) off)) v [] [] none:=JdU hk h hv hs hl
theorem Rs {encN:α->List AV} {xss:List α} {x:α} {row row':List AV} {n:Int} {k sz off:Nat} {t:Ty} {v:AV} (h:idx xss n=some x) (hk:obA s.objs k=some (.narr sz ((xss.map encN).set n.toNat row)):=by kernel_rfl) (hc:(By v&&(Ak v).all CO)=true:=by kernel_rfl) (hy:splice row off (Ak v)=row':=by kernel_rfl) (hl:(Nat.beq (Ak v).length t.size&&Nat.ble (off+t.size) sz)=true:=by kernel_rfl) :
  EH s (Ek t s.objs (.eptr k sz (0+n.toNat) off) v) .top [] [] (some (k,.narr sz ((xss.map encN).set n.toNat row'))):=JdV hk h hc hy hl
theorem Jcj {encN:α->List AV} {xss yss:List α} {y:α} {esz eb k:Nat} {e:List D} (h:app eb xss [y]=some yss) (hk:obA s.objs k=some (.narr esz (xss.map encN)):=by kernel_rfl) (hl:Nat.beq e.length esz=true:=by kernel_rfl) :
  EH s (BL esz eb s.objs (.osl k esz 0 xss.length) [e] True) (.osl s.objs.length esz 0 yss.length) [.narr esz (xss.map encN++[e.map toN])] [k] none:=Jb9 hk hl trivial h
theorem S7 {κ:Type} [DecidableEq κ] {encK:κ->List D} {enc:α->List D} {ks:List TK} {k:Nat} {m:List (κ×α)} {key:κ} {l:List AV} {z:α} {vz:List D} {e1:α->D} (heq:∀ a b,Al ks ((encK a).map .d) ((encK b).map .d)=some (decide (a=b))) (ok:Bool) (he:∀ x,enc x=[e1 x]:=by intro _;rfl) (hz:slZ vz=[e1 z]:=by kernel_rfl) (hk:obA s.objs k=some (.map true false (Bp encK enc m)):=by kernel_rfl) (hx:xDs s.objs l=some (encK key,[],[]):=by kernel_rfl) :
  EH s (He (.map ks true false vz) s.objs (.mp k) (.agg l) ok) (bif ok then .tup [.d (e1 ((AO key m).getD z)),.d (.bool (AO key m).isSome)]else .d (e1 ((AO key m).getD z))) [] [] none:=YV heq he hz hk hx ok
theorem Rt {κ:Type} [DecidableEq κ] {encK:κ->List D} {enc:α->List D} {ks:List TK} {k:Nat} {m:List (κ×α)} {key:κ} {l:List AV} {v:AV} {y:α} {vz:List D} {e1:α->D} (heq:∀ a b,Al ks ((encK a).map .d) ((encK b).map .d)=some (decide (a=b))) (he:∀ x,enc x=[e1 x]:=by intro _;rfl) (hz:Nat.beq vz.length 1=true:=by kernel_rfl) (hk:obA s.objs k=some (.map true false (Bp encK enc m)):=by kernel_rfl) (hx:xDs s.objs l=some (encK key,[],[]):=by kernel_rfl) (hv:v=.d (e1 y):=by kernel_rfl) (hvx:xDs s.objs [v]=some (enc y,[],[]):=by kernel_rfl) :
  EH s (Gz (.map ks true false vz) s.objs (.mp k) (.agg l) v) .top [] [] (some (k,.map true false (Bp encK enc (BJ key y m)))):=Jb6 heq he hz hk hx hv hvx
def VO:AV->Bool
 | .d _=>true
 | .agg l=>l.all Ks
 | _=>false
theorem OJ (l m:List (Option (Nat×Nat×Nat))):ksE (l++m)=ksE l++ksE m:=by
 induction l with
 | nil=>rfl
 | cons a l ih=>cases a<;>simp[ksE,ih]
theorem YY {a:AV} (h:Ks a=true):ksE (IZ a a)=[]:=by
 cases a with
 | d x=>cases x<;>rfl
 | _=>cases h
theorem Jck {objs:List (Option Ob)} {a:AV} (h:Ks a=true):JV objs a a:=by
 cases a with
 | d x=>exact UL
 | _=>cases h
theorem Jgv {objs:List (Option Ob)}:∀ {l:List AV},l.all Ks=true->WM objs l l/\ksE (Oe l l)=[]:=by
 intro l;induction l with
 | nil=>intro _;exact⟨trivial,rfl⟩
 | cons a l ih=>
  intro h;simp only[List.all_cons,JiZ]at h;obtain⟨h1,h2⟩:=ih h.2;exact⟨⟨Jck h.1,h1⟩,by simp only[Oe,OJ,YY h.1,h2,List.append_nil]⟩
theorem YZ {objs:List (Option Ob)} {a:AV} (h:VO a=true):Of objs a a/\ksE (JW a a)=[]:=by
 cases a with
 | d x=>exact⟨UL,YY (a:=.d x) rfl⟩
 | agg l=>exact Jgv h
 | _=>cases h
theorem Jc9 {objs:List (Option Ob)}:∀ {l:List AV},l.all VO=true->Ut objs l l/\ksE (JX l l)=[]:=by
 intro l;induction l with
 | nil=>intro _;exact⟨trivial,rfl⟩
 | cons a l ih=>
  intro h;simp only[List.all_cons,JiZ]at h;obtain⟨h1,h2⟩:=ih h.2;obtain⟨h3,h4⟩:=YZ (objs:=objs) h.1;exact⟨⟨h3,h1⟩,by simp only[JX,OJ,h4,h2,List.append_nil]⟩
theorem rd {ty:Nat->Ty} {rs:List ResultVar} {r:AV} (hd:VO r=true:=by kernel_rfl) (h:OE ty s rs=some [r]:=by kernel_rfl):RA ty rs r s:=⟨Jgl [] h (YZ hd).1 (YZ (objs:=[]) hd).2 (by simp)⟩
theorem rdT {ty:Nat->Ty} {rs:List ResultVar} {l:List AV} (hd:l.all VO=true:=by kernel_rfl) (h:OE ty s rs=some l:=by kernel_rfl) (hl:Nat.beq l.length 1=false:=by kernel_rfl):RA ty rs (.tup l) s:=⟨Jgm h hl (Jc9 hd).1 [] (Jc9 (objs:=[]) hd).2 (by simp)⟩
structure OV (s:St) (a r:AV):Prop where
 out:JV s.objs a r
structure OC (s:St) (a r:List AV):Prop where
 out:WM s.objs a r
structure OA (s:St) (a r:AV):Prop where
 out:Of s.objs a r
structure OT (s:St) (a r:List AV):Prop where
 out:Ut s.objs a r
theorem c0:OC s [] []:=⟨trivial⟩
theorem c1 {a r:AV} {l m:List AV} (h:OV s a r) (h':OC s l m):OC s (a::l) (r::m):=⟨⟨h.out,h'.out⟩⟩
theorem a1 {l m:List AV} (h:OC s l m):OA s (.agg l) (.agg m):=⟨h.out⟩
theorem ad {x:D} {r:AV} (h:OV s (.d x) r):OA s (.d x) r:=⟨h.out⟩
theorem ao {k sz lo n:Nat} {r:AV} (h:OV s (.osl k sz lo n) r):OA s (.osl k sz lo n) r:=⟨h.out⟩
theorem t0:OT s [] []:=⟨trivial⟩
theorem t1 {a r:AV} {l m:List AV} (h:OA s a r) (h':OT s l m):OT s (a::l) (r::m):=⟨⟨h.out,h'.out⟩⟩
theorem vd {x:D}:OV s (.d x) (.d x):=⟨UL⟩
theorem vn:OV s (.d .nil) (.d (.sl [])):=⟨W6⟩
theorem vz {sz:Nat}:OV s (.d .nil) (.own sz []):=⟨W7⟩
theorem vo {enc:α->List D} {xs:List α} {k sz:Nat} (h:obA s.objs k=some (.arr sz (xs.map enc)):=by kernel_rfl):OV s (.osl k sz 0 xs.length) (.own sz (xs.map enc)):=⟨YM h⟩
theorem rO {ty:Nat->Ty} {rs:List ResultVar} {v r:AV} (ks:List Nat) (ho:OA s v r) (h:OE ty s rs=some [v]:=by kernel_rfl) (hks:ksE (JW v r)=ks:=by kernel_rfl) (hnd:ks.Nodup:=by decide):RA ty rs r s:=⟨Jgl ks h ho.out hks hnd⟩
theorem rT {ty:Nat->Ty} {rs:List ResultVar} {vs l:List AV} (ks:List Nat) (ho:OT s vs l) (h:OE ty s rs=some vs:=by kernel_rfl) (hl:Nat.beq vs.length 1=false:=by kernel_rfl) (hks:ksE (JX vs l)=ks:=by kernel_rfl) (hnd:ks.Nodup:=by decide):RA ty rs (.tup l) s:=⟨Jgm h hl ho.out ks hks hnd⟩
structure RL (nk:Nat) (ty:Nat->Ty) (rs:List ResultVar) (r:AV) (O1:List (Option Ob)) (s:St):Prop where
 out:∃ s',An nk s s'/\JbK ty rs r O1 s'
def JhM (vs:List AV):AV:=match vs with
 | [v]=>v
 | vs=>.tup vs
theorem rl {ty:Nat->Ty} {rs:List ResultVar} {r:AV} {O1:List (Option Ob)} (sh:An nk s s') (h:(OE ty s' rs).map JhM=some r:=by kernel_rfl) (hO:s'.objs=O1:=by kernel_rfl):RL nk ty rs r O1 s:=by
 refine⟨s',sh,hO,?_⟩;cases hb:OE ty s' rs with
 | none=>rw[hb]at h;cases h
 | some vs=>
  rw[hb]at h;obtain⟨p,e1,q1⟩:=Rm hb;rw[e1];simp only[Option.map_some,Ji8]at h
  match vs,h with
  | [],h=>exact⟨q1,h.symm⟩
  | [v],h=>exact⟨q1,h⟩
  | v::v'::l,h=>exact⟨q1,h.symm⟩
theorem pL {ty:Nat->Ty} {rs:List ResultVar} {r:AV} {O1:List (Option Ob)} (h:RL nk ty rs r O1 s):PQ (Qm nk ty rs r O1) .ret s:=⟨h.out⟩
theorem pL' {ty:Nat->Ty} {rs:List ResultVar} {r:AV} {O1:List (Option Ob)} (h:RL nk ty rs r O1 s):PQ (Qm nk ty rs r O1) .normal s:=⟨h.out⟩
theorem fl {P:Program} {fn:Func} {f:FuncId} {args:List AV} {O0 O1:List (Option Ob)} {nb:Nat} {r:AV} (hfol:P.follows .mixedOrders=true) (hΓ:Fe P Γ) (hf:P.funcs[f]?=some fn) (h:WP Γ (AR fn) [] (Qm nb Γ.ty fn.results.toList r O1) s)
  (hb:fn.body=some (AR fn):=by kernel_rfl) (hnm:(fn.name == "runtime.NumGoroutine")=false:=by kernel_rfl) (hnt:Γ.nt=⟨fn.ntmps,[],nb,Γ.nt.qf⟩:=by kernel_rfl) (hlen:Nat.ble args.length fn.ntmps=true:=by kernel_rfl) (hs:(⟨(List.range args.length).zip args,O0⟩:St)=s:=by kernel_rfl) (hrd:Γ.rd=false:=by kernel_rfl):Bw P f args O0 nb r O1:=
 JbV hfol hΓ hrd hf hb hnm hnt hlen hs h.out
theorem lt (ord:List Nat) {f:FuncId} {ys:List AV} {O0 O1:List (Option Ob)} {nb:Nat} {r:AV} (hr:Γ.lent f ys O0 nb r O1) (hk:RF Γ C p (i+1) Q ((Qq Γ (nav p C) i ord nb r O1 s).getD s)) (hc:I8 (nav p C) i s=some (f,((I8 (nav p C) i s).getD (0,[],[])).2.1,ord):=by kernel_rfl)
  (hxs:((I8 (nav p C) i s).getD (0,[],[])).2.1.map (G0 ord)=ys:=by kernel_rfl) (hO:DN s.objs ord=O0:=by kernel_rfl) (hn:(Qq Γ (nav p C) i ord nb r O1 s).isSome=true:=by kernel_rfl):RF Γ C p i Q s:=⟨lentS hc hxs hO hr (Br hn) hk.out⟩
theorem leM {enc:α->List D} {xs:List α}:0+xs.length<=(xs.map enc).length:=by simp
theorem ltP (ord:List Nat) {f:FuncId} {ys:List AV} {O0 O1 raw0:List (Option Ob)} {nb:Nat} {r:AV} (hr:Γ.lent f ys O0 nb r O1) (hp0:Pl (HU ord) raw0 O0) (hk:RF Γ C p (i+1) Q ((Qq Γ (nav p C) i ord nb r O1 s).getD s)) (hc:I8 (nav p C) i s=some (f,((I8 (nav p C) i s).getD (0,[],[])).2.1,ord):=by kernel_rfl)
  (hxs:((I8 (nav p C) i s).getD (0,[],[])).2.1.map (G0 ord)=ys:=by kernel_rfl) (hO:DN s.objs ord=raw0:=by kernel_rfl) (hn:(Qq Γ (nav p C) i ord nb r O1 s).isSome=true:=by kernel_rfl):RF Γ C p i Q s:=lt ord hr hk hc hxs (hO.trans hp0.eq) hn
theorem tb {f:AV->AV} {raw:List (Option Ob)} (O:List (Option Ob)) (hp:Pl f raw O) (hk:RF Γ C p i Q ⟨s.env,O⟩) (h:s.objs=raw:=by kernel_rfl):RF Γ C p i Q s:=by
 rw[hp.eq]at h;rw[← h]at hk;exact hk
theorem Y0 (esz:Nat) {α:Type} {zs:List α} {n:Int} {z:α} {eb:Nat} {ez:List D} (h:mkl eb n z=some zs):EH s (some ⟨.osl s.objs.length esz 0 n.toNat,[.arr esz (List.replicate n.toNat ez)],[],none,0<=n/\n<=n/\n.toNat*eb<=70368744177664⟩) (.osl s.objs.length esz 0 n.toNat) [.arr esz (List.replicate n.toNat ez)] [] none:=by
 have:0<=n/\n.toNat*eb<=70368744177664:=by
  unfold mkl at h;split at h
  ·assumption
  ·cases h
 exact .of rfl ⟨this.1,Int.le_refl _,this.2⟩
theorem Ru {α:Type} {zs:List α} {n:Int} {z:α} {eb:Nat} (h:mkl eb n z=some zs):List.replicate n.toNat z=zs:=by
 unfold mkl at h;split at h
 ·exact Option.some.inj h
 ·cases h
theorem Nu {α:Type} {zs:List α} {n:Int} {z:α} {eb:Nat} (h:mkl eb n z=some zs):n.toNat=zs.length:=by
 rw[← Ru h];simp
theorem Ht {a b:Nat} {u:Unit} (h:B1 (decide (a=b))=some u):a=b:=of_decide_eq_true (Nt h)
theorem Nv (k sz off m:Nat) {j:Nat} {n:Int} {u:Unit} (h:B1 (decide (0<=n/\n<(m:Nat)))=some u):EH s (A3 (bif Nat.beq sz sz then .eptr k sz (j+n.toNat) off else .eptr k sz j (off+n.toNat*sz)) (0<=n/\n<(m:Nat))) (.eptr k sz (j+n.toNat) off) [] [] none:=by
 have hb:Nat.beq sz sz=true:=Nat.beq_refl sz;rw[hb];exact .of rfl ((of_decide_eq_true (Nt h)))
end Go.AI
end
section
namespace Go.AI
variable {P:Program} {F F':Nat->Option Obj} {ρ ρ':Nat->Option Loc} {N:Nat->Prop} {H0 F0:Nat->Option Obj} {O objs:List (Option Ob)} {w:World} {w0:W0} {Γ:Nat->Ty} {nt:Slt} {o:Oper} {st:St}
theorem A5.one {x:D} {v:Value} (h:A5 F x v):v.oneCell'=true:=(JC (F:=F) (ρ:=noR) (.d x v h) rfl).1
def Jd2 (P:Program) (t:TypeId) (name:String) (f:FuncId):Bool:=
 match P.info? t,P.underlying t with
 | some i,some d=>(match i.methods.find? (·.name==name)with
  | some m=>m.path.isEmpty&&(match m.func with|some (f',b)=>Nat.beq f' f&&!b|none=>false)
  | none=>false)&&(match d with | .pointer _=>false|_=>true)
 | _,_=>false
theorem Y1 {t:TypeId} {name:String} {f:FuncId} (h:Jd2 P t name f=true) (v:Value) (w:World):∀ n,(method (n+1) t v name).run P w=.ok (f,v) w:=by
 intro n;unfold Jd2 at h;split at h
 ·rename_i i d hi hd;simp only[JiZ]at h;obtain⟨h1,h2⟩:=h;split at h1
  ·rename_i m hm;simp only[JiZ]at h1;obtain⟨hp,hf⟩:=h1;have hp:m.path.toList=[]:=by simpa using hp
   split at hf
   ·rename_i f' b hmf;simp only[JiZ,Bool.not_eq_true']at hf;obtain⟨e1,rfl⟩:=hf;have e1:=Ji5 e1;subst e1;have hpe:m.path.isEmpty=true:=by simpa using hp
    have hrec:(receiverAt t (.val v) false (some ((name.splitOn ".").getLastD name))).run P w=.ok v w:=by
     simp only[receiverAt,JiF,run_underlying hd,JiD];cases d with
     | pointer e=>cases h2
     | _=>rfl
    unfold method;simp only[JiF,run_typeInfo w hi,JiD,hm,hp,follow,JiG,hmf,hpe,if_true,hrec]
   ·cases hf
  ·cases h1
 ·cases h
def Nw (ev:Operand->AV):Op->Option ((Nat×String)⊕FuncId)×List AV
 | .call ⟨.value x,args,_⟩=>match ev x with
  | .clo f l=>(some (.inr f),args.toList.map ev++l)
  | _=>(none,[])
 | .call ⟨.invoke x m,args,_⟩=>match ev x with
  | .ifc t v=>(some (.inl (t,m)),v::args.toList.map ev)
  | _=>(none,[])
 | _=>(none,[])
def Jgw (P:Program) (c:Option ((Nat×String)⊕FuncId)) (f:FuncId):Bool:=
 match c with
 | some (.inl (t,m))=>Jd2 P t m f
 | some (.inr f')=>Nat.beq f' f
 | none=>false
theorem Y2 {f:FuncId} {c:Option ((Nat×String)⊕FuncId)} {xs:List AV} {nb:Nat} {r:AV} {O1:List (Option Ob)} (hc:Nw (Ai st.env) o.op=(c,xs)) (hm:Jgw P c f=true)
  (hcall:Bw P f (xs.map (G0 (As st.objs xs))) (DN st.objs (As st.objs xs)) nb r O1) (hnb:nb<=(As st.objs xs).length) (hnb1:nb<=O1.length) (hord:∀ k∈As st.objs xs,k<st.objs.length) :
  LX P nt o true st ⟨putA o.dst false true (IS (Cw (As st.objs xs) st.objs.length nb) r) st.env,Cy st.objs (As st.objs xs) nb O1⟩:=by
 intro N H0 F0 w0 a w _ hI hdst K Qw hK;obtain⟨F,ρ,hS,hSl,hn,hdf⟩:=hI;have hk:∀ v w' F' ρ'',FLe F F'->RLe ρ ρ''->Sim N H0 F0 F' ρ'' (Cy st.objs (As st.objs xs) nb O1) w'.heap->Ag F' ρ'' (IS (Cw (As st.objs xs) st.objs.length nb) r) v->Mu w w'->K (a.put o.dst v) w':=
  λ v w' F' ρ'' hF hρ hS' hv hmu=>hK _ _ ⟨F',ρ'',hS',(hSl.mono hF hρ).putA hn hdst hv,hn.put hdst,by rw[put_defers];exact⟨hdf.1.mono hF,hdf.2.1.trans hmu,hdf.2.2.mono hρ⟩⟩
 have hev:∀ x,Ag F ρ (Ai st.env x) (a.eval x):=AJ hSl;unfold Nw at hc;split at hc
 ·rename_i x args ts hop;split at hc
  ·rename_i f' l hx;cases hc;have e1:=Ji5 hm;subst e1;have hxr:=hev x;rw[hx]at hxr;generalize hxv:a.eval x=xv at hxr;cases hxr with
   | clo _ _ vs hl hr=>
    have hcr0:=F3 (args:=args) (a:=a) (λ x _=>hev x);refine H4 (vs:=args.map a.eval++vs) (λ fn c hf hb hnm=>?_) hS ⟨by simp[hl],λ i y v hy hv=>?_⟩ hcall hnb hnb1 hord hk
    ·simp only[execOp,hop,resolve,hxv,Deferred.ofValue,JiF,JiG,JiD,invoke,callFunc,run_program,hf,hnm,hb,Jja,if_false,Option.isNone_some,Array.empty_append]
    ·rw[Array.toList_append]at hv;have hl0:=hcr0.1;by_cases hi:i<(args.toList.map (Ai st.env)).length
     ·rw[Ji6 hi]at hy;rw[Ji6 (by omega)]at hv;exact hcr0.2 i y v hy hv
     ·rw[Jjg (by omega)]at hy;rw[Jjg (by omega)]at hv;exact hr _ y v hy (by rw[hl0];simpa using hv)
  ·cases hc;cases hm
 ·rename_i x m args ts hop;split at hc
  ·rename_i t v0 hx;cases hc;have hxr:=hev x;rw[hx]at hxr;generalize hxv:a.eval x=xv at hxr;cases hxr with
   | ifc _ _ y hy=>
    have hcr0:=F3 (args:=args) (a:=a) (λ x _=>hev x);refine H4 (vs:=#[y]++args.map a.eval) (λ fn c hf hb hnm=>?_) hS ⟨by simp,λ i z v hz hv=>?_⟩ hcall hnb hnb1 hord hk
    ·obtain⟨n,hn'⟩:∃ n,P.types.size+Made.depth=n+1:=⟨P.types.size+(Made.depth-1),by simp[Made.depth]⟩;have hmet:=Y1 hm y w n;rw[← hn']at hmet;have hex:(#[Value.iface t y]++args.map a.eval).extract 1 (#[Value.iface t y]++args.map a.eval).size=args.map a.eval:=by
      apply Array.ext';simp[Array.toList_extract];exact List.take_of_length_le (by simp)
     have h0:(#[Value.iface t y]++args.map a.eval)[0]?=some (Value.iface t y):=by rw[Array.getElem?_append_left (by simp)];rfl
     simp only[execOp,hop,resolve,hxv,JiF,JiG,JiD,invoke,h0,hex,callMethod,JiF,run_program,JiD,hmet,callFunc,hf,hnm,hb,Jja,if_false,Option.isNone_some,JiG]
    ·rw[Array.toList_append]at hv;cases i with
     | zero=>simp at hz hv;subst hz;subst hv;exact hy
     | succ i=>exact hcr0.2 i z v (by simpa using hz) (by simpa using hv)
  ·cases hc;cases hm
 ·cases hc;cases hm
def UP:TK->Bool
 | .other=>false
 | _=>true
theorem W9 (hΓ:Gt P Γ) {t:TypeId} {x:Operand} (hop:o.op=.makeInterface t x) (hok:(Γ t).ok=true) (hk:UP (Γ t).kind=true):LX P nt o true st ⟨putA o.dst false true (.ifc t (Ai st.env x)) st.env,st.objs⟩:=by
 intro N H0 F0 w0 a w _ hI hdst K Qw hK;obtain⟨F,ρ,hS,hSl,hn,hdf⟩:=hI;obtain⟨d,hd,_,hf⟩:=(hΓ t hok).desc;have hni:∀ l,d≠.interface l:=λ l e=>by
  subst e;cases hkk:(Γ t).kind<;>rw[hkk]at hf hk<;>simp[FN,UP]at hf hk
 have hr:(execOp a.eval o).run P w=.ok (.value (.iface t (a.eval x))) w:=by
  simp only[execOp,hop,Instr.makeInterface,JiF,run_underlying hd,JiD];cases d with
  | interface l=>exact absurd rfl (hni l)
  | _=>rfl
 unfold Oper.wp;rw[hr,Oper.upon_value];exact hK _ _ ⟨F,ρ,hS,hSl.putA hn hdst (.ifc _ _ _ (AJ hSl x)),hn.put hdst,by rw[put_defers];exact hdf⟩
theorem Y3 {f:FuncId} {cap:Array Operand} (hop:o.op=.makeFunc (.func f) #[] cap):LX P nt o true st ⟨putA o.dst false true (.clo f (cap.toList.map (Ai st.env))) st.env,st.objs⟩:=by
 intro N H0 F0 w0 a w _ hI hdst K Qw hK;obtain⟨F,ρ,hS,hSl,hn,hdf⟩:=hI;have hr:(execOp a.eval o).run P w=.ok (.value (.func (.func f) #[] (cap.map a.eval))) w:=by
  simp only[execOp,hop,Instr.makeFunc,JiF,JiG,JiD,List.map_toArray,List.map_nil]
 have hc:=F3 (args:=cap) (a:=a) λ x _=>AJ hSl x;unfold Oper.wp;rw[hr,Oper.upon_value];exact hK _ _ ⟨F,ρ,hS,hSl.putA hn hdst (.clo f _ _ (by simp) λ i x v hx hv=>hc.2 i x v hx (by simpa using hv)),hn.put hdst,by rw[put_defers];exact hdf⟩
end Go.AI
end
section
namespace Go.AI
variable {P:Program} {Γ:Cx} {C:Code} {p:List Nat} {Q:Ex->St->Prop} {s s':St} {K:St->Prop} {i:Nat}
variable {α β ζ:Type}
structure XOK (P:Program) (Γ:Cx):Prop where
 ty:Gt P Γ.ty
 ext:Γ.ext=MO P
def UQ (Γ:Cx) (c:Code) (o:Oper):Bool:=!J0 c&&o.guard.isNone&&Bv Γ.nt o.dst&&ndB o.op
theorem Fj (hX:XOK P Γ) {o:Oper} (ho:(AW (nav p C))[i]?=some o) (h0:UQ Γ (nav p C) o=true) (hx:LX P Γ.nt o true s s') (hk:RF Γ C p (i+1) Q s'):RF Γ C p i Q s:=by
 refine⟨?_⟩;have hk:=hk.out;unfold AS at hk⊢;simp only[UQ,JiZ,Bool.not_eq_true']at h0;obtain⟨⟨⟨h1,h2⟩,h3⟩,h4⟩:=h0;rw[Ch ho];show AM _ _ _ _ _ _;have hgN:o.guard=none:=by simpa using h2
 unfold AM;rw[hgN];simp only[Bk,h3,JiL,cond_false];exact⟨λ _=>.inr (.inr ⟨h1,.inl ⟨s',by rw[hX.ext];exact hx.ok h4,hk⟩⟩),λ h=>by cases h⟩
def nxI (Γ:Cx) (c:Code) (i:Nat) (s:St):Option St:=
 match (AW c)[i]? with
 | some o=>bif UQ Γ c o then(match o.op with
  | .makeInterface t x=>bif (Γ.ty t).ok&&UP (Γ.ty t).kind then some ⟨putA o.dst false true (.ifc t (Ai s.env x)) s.env,s.objs⟩else none
  | .makeFunc (.func f) first cap=>bif first.toList.isEmpty then some ⟨putA o.dst false true (.clo f (cap.toList.map (Ai s.env))) s.env,s.objs⟩else none
  | _=>none)else none
 | none=>none
theorem xm (hX:XOK P Γ) (hk:RF Γ C p (i+1) Q ((nxI Γ (nav p C) i s).getD s)) (h:(nxI Γ (nav p C) i s).isSome=true:=by kernel_rfl):RF Γ C p i Q s:=by
 have h:=Br (d:=s) h;generalize (nxI Γ (nav p C) i s).getD s=s' at h hk;unfold nxI at h;split at h
 ·rename_i o ho;obtain⟨h0,h⟩:=AA h;split at h
  ·rename_i t x hop;obtain⟨h1,h⟩:=AA h;simp only[JiZ]at h1;cases h;exact Fj hX ho h0 (W9 hX.ty hop h1.1 h1.2) hk
  ·rename_i f first cap hop
   obtain⟨h1,h⟩:=AA h;cases h;have:first=#[]:=by have:=List.isEmpty_iff.1 h1;simpa using this
   subst this;exact Fj hX ho h0 (Y3 hop) hk
  ·cases h
 ·cases h
def Xa (c:Code) (i:Nat) (s:St):Option ((Option ((Nat×String)⊕FuncId)×List AV)×List Nat):=
 match (AW c)[i]? with
 | some o=>some (Nw (Ai s.env) o.op,As s.objs (Nw (Ai s.env) o.op).2)
 | none=>none
def nxC (Γ:Cx) (c:Code) (i:Nat) (ord:List Nat) (nb:Nat) (r:AV) (O1:List (Option Ob)) (s:St):Option St:=
 match (AW c)[i]? with
 | some o=>bif UQ Γ c o&&Nat.ble nb ord.length&&Nat.ble nb O1.length&&ord.all (λ k=>Nat.blt k s.objs.length)then
   some ⟨putA o.dst false true (IS (Cw ord s.objs.length nb) r) s.env,Cy s.objs ord nb O1⟩else none
 | none=>none
theorem xc (hX:XOK P Γ) (ord:List Nat) {f:FuncId} {ys:List AV} {O0 O1:List (Option Ob)} {nb:Nat} {r:AV} (hr:Bw P f ys O0 nb r O1) (hk:RF Γ C p (i+1) Q ((nxC Γ (nav p C) i ord nb r O1 s).getD s))
  (hc:Xa (nav p C) i s=some (((Xa (nav p C) i s).getD ((none,[]),[])).1,ord):=by kernel_rfl) (hm:Jgw P ((Xa (nav p C) i s).getD ((none,[]),[])).1.1 f=true:=by kernel_rfl)
  (hxs:((Xa (nav p C) i s).getD ((none,[]),[])).1.2.map (G0 ord)=ys:=by kernel_rfl) (hO:DN s.objs ord=O0:=by kernel_rfl) (hn:(nxC Γ (nav p C) i ord nb r O1 s).isSome=true:=by kernel_rfl):RF Γ C p i Q s:=by
 generalize ((Xa (nav p C) i s).getD ((none,[]),[])).1=cx at hc hm hxs;have hn:=Br (d:=s) hn;generalize (nxC Γ (nav p C) i ord nb r O1 s).getD s=s' at hn hk;unfold Xa at hc;unfold nxC at hn;split at hn
 ·rename_i o ho;rw[ho]at hc;simp only[Ji8,Prod.mk.injEq]at hc;obtain⟨hc,hord⟩:=hc;rw[hc]at hord;obtain⟨h0,hn⟩:=AA hn;simp only[JiZ]at h0;obtain⟨⟨⟨h1,h2⟩,h3⟩,h4⟩:=h0;cases hn;subst hord;subst hxs;subst hO;refine Fj hX ho h1 (Y2 (c:=cx.1) (xs:=cx.2) (by rw[hc]) hm hr (Jjd h2) (Jjd h3) λ k hk=>?_) hk;have:=Jjd (JiI.1 h4 k hk);omega
 ·cases hn
def Jcl (c:Code) (i:Nat):Option (Operand×Nat):=
 match (AW c)[i]? with
 | some o=>match o.op with
  | .call ⟨.builtin .clear,args,ts⟩=>match args.toList,ts.toList with
   | [d],[t]=>some (d,t)
   | _,_=>none
  | _=>none
 | none=>none
def clV (c:Code) (i:Nat) (s:St):AV:=match Jcl c i with
 | some (d,_)=>Ai s.env d
 | none=>.top
def nxZ (Γ:Cx) (c:Code) (i k sz:Nat) (_:List D) (zs:List (List D)) (s:St):Option St:=
 match (AW c)[i]?,Jcl c i with
 | some o,some (_,t)=>bif UQ Γ c o&&(Γ.ty t).ok then(match (Γ.ty t).kind with
  | .slice z _ _=>bif Nat.beq z sz then some ⟨putA o.dst false true (.tup []) s.env,s.objs.set k (some (.arr sz zs))⟩else none
  | _=>none)else none
 | _,_=>none
def clZ (Γ:Cx) (c:Code) (i:Nat):List D:=match Jcl c i with
 | some (_,t)=>(match (Γ.ty t).kind with
  | .slice _ _ ez=>ez
  | _=>[])
 | none=>[]
end Go.AI
end
section
namespace Go.AI
variable {α:Type}
def spl {β:Type} (es:List β) (lo:Nat) (ys:List β):List β:=es.take lo++ys++es.drop (lo+ys.length)
def UR (xs:List α) (lo n:Nat) (z:α):Option (List α):=if lo+n<=xs.length then some (spl xs lo (List.replicate n z))else none
end Go.AI
end
section
namespace Go.AI
variable {P:Program} {nt:Slt} {o:Oper} {st:St}
variable {Γ:Cx} {C:Code} {p:List Nat} {Q:Ex->St->Prop} {s s':St} {i:Nat} {α:Type}
theorem VP {β:Type} {es ys:List β} {lo:Nat} (h:lo+ys.length<=es.length):(spl es lo ys).length=es.length:=by
 unfold spl;simp;omega
theorem Jcm {β:Type} {es ys:List β} {lo:Nat} (h:lo+ys.length<=es.length) (i:Nat):(spl es lo ys)[i]?=if i<lo then es[i]? else if i<lo+ys.length then ys[i-lo]? else es[i]? := by
 unfold spl;have hl:(es.take lo).length=lo:=by simp;omega
 rw[List.append_assoc];split
 ·rw[Ji6 (by omega),Jji (by omega)]
 ·rw[Jjg (by omega),hl];split
  ·rw[Ji6 (by omega)]
  ·rw[Jjg (by omega),JiR];congr 1;omega
theorem VQ {β:Type} {es ys:List β} {lo:Nat} {x:β} (h:x∈spl es lo ys):x∈es\/x∈ys:=by
 unfold spl at h;rcases List.mem_append.1 h with h|h
 ·rcases List.mem_append.1 h with h|h
  ·exact .inl (List.mem_of_mem_take h)
  ·exact .inr h
 ·exact .inl (List.mem_of_mem_drop h)
theorem Jcn {β γ:Type} (f:β->γ) (es ys:List β) (lo:Nat):(spl es lo ys).map f=spl (es.map f) lo (ys.map f):=by
 unfold spl;simp[List.map_take,List.map_drop]
section
variable {N:Nat->Prop} {H0 F0 F:Nat->Option Obj} {ρ:Nat->Option Loc} {O:List (Option Ob)} {nk:Nat}
theorem Sim.reob {h:Array Obj} (hS:Sim N H0 F0 F ρ O h) {k:Nat} {ob ob':Ob} (ho:obA O k=some ob) (hr:∀ L,Bc F ρ h L ob->Bc F ρ h L ob') (hn:∀ sz es,ob'.rows=some (sz,es)->∀ (i:Nat) (e:List AV) (j isz:Nat) (xs:List (List D)),es[i]?=some e->¬ e[j]?=some (.own isz xs)):Sim N H0 F0 F ρ (O.set k (some ob')) h:=by
 obtain⟨σ,hσ⟩:=hS.inn;refine hS.retable (by simp) (λ q L ob1 hq hob=>?_) ⟨σ,hσ.new,λ k' c M q L ob1 hM hq hob=>?_,hσ.sep,λ q L ob0 sz' es2 hq hob hr0 i e' j isz xs hi hj o1 v hb hv=>?_⟩
 ·by_cases e1:q=k
  ·subst e1;rw[AG ho]at hob;cases hob;exact⟨_,ho,.inr (hr L (hS.obj q L _ hq ho).1)⟩
  ·rw[Au e1]at hob;exact⟨ob1,hob,.inl rfl⟩
 ·by_cases e1:q=k
  ·subst e1;exact hσ.obj k' c M q L _ hM hq ho
  ·rw[Au e1]at hob;exact hσ.obj k' c M q L ob1 hM hq hob
 ·by_cases e1:q=k
  ·subst e1;rw[AG ho]at hob;cases hob;exact absurd hj (hn _ _ hr0 i e' j isz xs hi)
  ·rw[Au e1]at hob;exact hσ.rep q L ob0 sz' es2 hq hob hr0 i e' j isz xs hi hj o1 v hb hv
end
def slD1:D->D
 | .nil=>.sl []
 | x=>x
theorem A5.slD1 {F:Nat->Option Obj} {x:D} {v:Value} (h:A5 F x v):A5 F (Go.AI.slD1 x) v:=by
 unfold Go.AI.slD1;split
 ·cases h;exact .sl0 _ _
 ·exact h
theorem ER.slD1 {F:Nat->Option Obj} {esz:Nat} {es:List (List D)} {cs:Array Value} {o:Nat} (h:ER F esz es cs o):ER F esz (es.map (List.map Go.AI.slD1)) cs o:=by
 obtain⟨h1,h2,h3⟩:=h;refine⟨λ e he=>?_,by simpa using h2,λ i e hi j x hx=>?_⟩
 ·rw[JiQ]at he;obtain⟨e,he,rfl⟩:=he;rw[JiT];exact h1 e he
 ·rw[Ji2,Ji1]at hi;obtain⟨e,hi,rfl⟩:=hi;rw[Ji2,Ji1]at hx;obtain⟨x,hx,rfl⟩:=hx;obtain⟨v,hv,hd⟩:=h3 i e hi j x hx;exact⟨v,hv,hd.slD1⟩
theorem US {Γ:Nat->Ty} (hΓ:Gt P Γ) {d:Operand} {t:TypeId} {k sz eb lo n:Nat} {ez:List D} {es:List (List D)} (hop:o.op=.call ⟨.builtin .clear,#[d],#[t]⟩) (hok:(Γ t).ok=true) (hkind:(Γ t).kind=.slice sz eb ez)
  (hd:Ai st.env d=.osl k sz lo n) (ho:obA st.objs k=some (.arr sz es)) (hnl:lo+n<=es.length) :
  LX P nt o true st ⟨putA o.dst false true (.tup []) st.env,st.objs.set k (some (.arr sz (spl es lo (List.replicate n (ez.map slD1)))))⟩:=by
 intro N H0 F0 w0 a w _ hI hdst K Qw hK;obtain⟨F,ρ,hS,hSl,hn,hdf⟩:=hI;obtain⟨desc,hde,_,hk⟩:=(hΓ t hok).desc;rw[hkind]at hk;obtain⟨elem,i,z,rfl,p1,p2,p3,p4,p5,p6,p7,_⟩:=hk;have hdr:=AJ hSl d;rw[hd]at hdr;generalize hxd:a.eval d=xd at hdr;have hER:=(KZ (F:=F) (len:=n) (JiN _) p5 p6 p7).slD1;rw[List.map_replicate]at hER;have hnz:(ez.map slD1).length=ez.length:=JiT _;generalize ez.map slD1=ez' at hER hnz hK;have hcs:(Builtin.zeroCells z.cells n).size=n*sz:=by
  have hzs:z.cells.size=sz:=by have:=congrArg List.length p5;simp at this;omega
  simp[Builtin.zeroCells,hzs]
 have hzc:(Array.range (n*sz)).map (z.cells[· % z.cells.size]!)=Builtin.zeroCells z.cells n:=by
  have hzs:z.cells.size=sz:=by have:=congrArg List.length p5;simp at this;omega
  simp[Builtin.zeroCells,hzs]
 rw[hzc]at hER;have hrl:(List.replicate n ez').length=n:=by simp
 have hys:∀ e∈List.replicate n ez',e.length=sz:=hER.1;have hfit:lo+(List.replicate n ez').length<=es.length:=by rw[hrl];exact hnl
 have htup:Ag F ρ (.tup []) (.tuple #[]):=.tup [] #[] rfl λ i a v h=>by simp at h
 have fin:∀ w',Sim N H0 F0 F ρ (st.objs.set k (some (.arr sz (spl es lo (List.replicate n ez'))))) w'.heap->Mu w w'->(execOp a.eval o).run P w=.ok (.value (.tuple #[])) w'->o.wp P a w K Qw:=by
  intro w' hS' hmu hr;unfold Oper.wp;rw[hr,Oper.upon_value];exact hK _ _ ⟨F,ρ,hS',hSl.putA hn hdst htup,hn.put hdst,by rw[put_defers];exact⟨hdf.1,hdf.2.1.trans hmu,hdf.2.2⟩⟩
 have hexec:∀ w',(Builtin.clear_ #[t] o.type #[xd]).run P w=.ok (.tuple #[]) w'->(execOp a.eval o).run P w=.ok (.value (.tuple #[])) w':=by
  intro w' hr;simp only[execOp,hop,resolve,invoke,builtin,JiF,JiG,JiD,List.map_toArray,JiU,List.map_nil,hxd,hr]
 by_cases h0:n=0
 ·subst h0;refine fin w ?_ (Mu.refl w) (hexec w ?_)
  ·refine hS.table (by simp) λ j L ob' hj hob'=>?_;by_cases e:j=k
   ·subst e;rw[Bh,if_pos ⟨rfl,AD ho⟩]at hob';cases hob';simpa [spl]using ho
   ·rw[Bh,if_neg (λ hh=>e hh.1)]at hob';exact hob'
  ·have:∃ ad cap,xd=.slice ad 0 cap:=by cases hdr<;>exact⟨_,_,rfl⟩
   obtain⟨ad,cap,rfl⟩:=this;cases ad<;>simp[Builtin.clear_,run_underlying hde]
 ·cases hdr with
  | osl0=>exact absurd rfl h0
  | osl _ _ _ _ cap L hL hc hss hz=>
   obtain⟨⟨g1,g2,cur,t0,fr,g3,g4,g5,g6⟩,gN,gF⟩:=hS.obj k L _ hL ho;have hin:L.base+lo*sz+n*sz<=cur.size:=by
    have:(lo+n)*sz<=es.length*sz:=JiH _ hnl;rw[Jjb]at this;omega
   have hst:=BF P L.b (L.base+lo*sz) t0 fr (Builtin.zeroCells z.cells n).toList 0 cur w g3 (by simp[hcs];omega) (by rw[g4];exact g5) (hER.ones (by rw[hcs];simp));simp only[Nat.add_zero]at hst;refine fin { w with heap:=w.heap.setIfInBounds L.b (.cells (Bg cur (L.base+lo*sz) (Builtin.zeroCells z.cells n).toList) t0 fr) } ?_ (Mu.set g3) (hexec _ ?_)
   ·have:=hS.rewrite (k':=k) (L':=L) (x:=.cells (Bg cur (L.base+lo*sz) (Builtin.zeroCells z.cells n).toList) t0 fr) (O':=st.objs.set k (some (.arr sz (spl es lo (List.replicate n ez'))))) hL ho (by rw[Bn hL];exact RLe.refl _) rfl (λ j ob' hj hob'=>by
     rw[Bh,if_neg (λ hh=>hj hh.1)]at hob';exact⟨hob',hj⟩) (by simp) (by simpa using AD ho) (λ ob' hob'=>by
     rw[Bh,if_pos ⟨rfl,AD ho⟩]at hob';cases hob';have hps:(Bg cur (L.base+lo*sz) (Builtin.zeroCells z.cells n).toList).size=L.size:=by rw[A4,g4]
     refine⟨λ e he=>?_,by rw[VP hfit];exact g2,_,t0,fr,by rw[BX,if_pos ⟨rfl,Aj g3⟩],hps,g5,λ i e hi j x hx=>?_⟩
     ·rcases VQ he with h|h
      ·exact g1 e h
      ·exact hys e h
     ·have hjs:j<sz:=by
       have:=Ab hx;have he:e.length=sz:=by
        rcases VQ (Ji0 hi)with h|h
        ·exact g1 e h
        ·exact hys e h
       omega
      rw[C8 _ _ _ _ (by simp[hcs];omega)];simp only[Array.length_toList,hcs];rw[Jcm hfit,hrl]at hi;by_cases hlo:i<lo
      ·rw[if_pos hlo]at hi;obtain⟨u,hu,hdu⟩:=g6 i e hi j x hx;have hb:(i+1)*sz<=lo*sz:=JiH _ hlo;rw[Jjb,Nat.one_mul]at hb;exact⟨u,by rw[if_neg (by omega)];exact hu,hdu⟩
      ·rw[if_neg hlo]at hi;have hb0:lo*sz<=i*sz:=JiH _ (by omega);by_cases hlt:i<lo+n
       ·rw[if_pos hlt]at hi;obtain⟨u,hu,hdu⟩:=hER.2.2 (i-lo) e hi j x hx;have hb:(i+1)*sz<=(lo+n)*sz:=JiH _ hlt;rw[Jjb,Nat.one_mul,Jjb]at hb;refine⟨u,?_,hdu⟩;have e1:L.base+i*sz+j-(L.base+lo*sz)=0+(i-lo)*sz+j:=by
         rw[Nat.sub_mul];omega
        rw[if_pos (by omega),e1];simpa using hu
       ·rw[if_neg hlt]at hi;obtain⟨u,hu,hdu⟩:=g6 i e hi j x hx;have hb:(lo+n)*sz<=i*sz:=JiH _ (by omega);rw[Jjb]at hb;exact⟨u,by rw[if_neg (by omega)];exact hu,hdu⟩) (λ ob' hob'=>by
     rw[Bh,if_pos ⟨rfl,AD ho⟩]at hob';cases hob';rfl)
    rw[Bn hL]at this;exact this
   ·have e1:∃ m,n=m+1:=⟨n-1,by omega⟩;obtain⟨m,rfl⟩:=e1;simp only[Builtin.clear_,List.getElem?_toArray,JiV,JiF,run_underlying hde,JiD,Bm w p1 p4,hst,JiG]
theorem S8 {xs zs:List α} {lo n:Nat} {z:α} (h:UR xs lo n z=some zs):xs.length=zs.length:=by
 unfold UR at h;split at h
 ·cases h;exact(VP (by simpa)).symm
 ·cases h
theorem xzP (hX:XOK P Γ) (enc:α->List D) {xs zs:List α} {z:α} (k sz lo n:Nat) (h:UR xs lo n z=some zs) (hk:RF Γ C p (i+1) Q ((nxZ Γ (nav p C) i k sz (enc z) (zs.map enc) s).getD s))
  (hd:clV (nav p C) i s=.osl k sz lo n:=by kernel_rfl) (ho:obA s.objs k=some (.arr sz (xs.map enc)):=by kernel_rfl) (hz:(clZ Γ (nav p C) i).map slD1=enc z:=by kernel_rfl) (hn:(nxZ Γ (nav p C) i k sz (enc z) (zs.map enc) s).isSome=true:=by kernel_rfl):RF Γ C p i Q s:=by
 have hn:=Br (d:=s) hn;generalize (nxZ Γ (nav p C) i k sz (enc z) (zs.map enc) s).getD s=s' at hn hk;unfold UR at h;split at h
 ·rename_i hb;cases h;unfold nxZ at hn;split at hn
  ·rename_i o d t hoo hcl;obtain⟨h0,hn⟩:=AA hn;simp only[JiZ]at h0;obtain⟨h1,h2⟩:=h0;split at hn
   ·rename_i z' eb ez hkd;obtain⟨h3,hn⟩:=AA hn;have:=Ji5 h3;subst this;cases hn;unfold clV at hd;unfold clZ at hz;rw[hcl]at hd hz;simp only[hkd]at hd hz;unfold Jcl at hcl;rw[hoo]at hcl;simp only at hcl;split at hcl
    ·rename_i args ts hop;split at hcl
     ·rename_i d' t1 ha ht;cases hcl;have ha:args=#[d]:=by rw[← Array.toArray_toList (xs:=args),ha]
      have ht:ts=#[t]:=by rw[← Array.toArray_toList (xs:=ts),ht]
      subst ha;subst ht;have hx:=US (nt:=Γ.nt) hX.ty hop h2 hkd hd ho (by simpa using hb);rw[Jcn,List.map_replicate,← hz]at hk;exact Fj hX hoo h1 hx hk
     ·cases hcl
    ·cases hcl
   ·cases hn
  ·cases hn
 ·cases h
end Go.AI
end
section
namespace Go.AI
variable {P:Program} {F F':Nat->Option Obj} {ρ ρ':Nat->Option Loc} {N:Nat->Prop} {H0 F0:Nat->Option Obj} {O objs:List (Option Ob)} {w:World} {w0:W0}
def Jgx (objs:List (Option Ob)) (j:Nat):Option (List (Option Ob)):=
 match obA objs 0 with
 | some (.lp d ts vs _)=>some (objs.set 0 (some (.lp d ts vs j)))
 | _=>none
def exJ (js:List Code):Ex->Nat->Prop
 | .normal,0=>True
 | .ret,i+2=>js[i]?=some .ret
 | .exit k,i+2=>js[i]?=some (.exit k)
 | _,_=>False
def JhN (nb:Nat) (js:List Code) (j:Nat) (objs1:List (Option Ob)) (e:Ex) (s:St):Prop:=exJ js e j/\∃ s',An nb s s'/\lpJ s'.objs 0=some (js,1)/\Jgx s'.objs j=some objs1
end Go.AI
end
section
namespace Go.AI
variable {P:Program} {Γ:Cx} {C:Code} {p:List Nat} {Q:Ex->St->Prop} {s s':St} {K:St->Prop} {i nk:Nat}
variable {α β ζ:Type}
def Jd3 (Γ:Cx) (c:Code) (o:Oper):Bool:=!J0 c&&Bv Γ.nt o.dst&&ndB o.op
def gY (c:Code) (i:Nat) (s:St):Option Bool:=match (AW c)[i]? with
 | some o=>Bk (AW c) s.env o.guard
 | none=>none
theorem Xb (hX:XOK P Γ) {o:Oper} {g:Bool} (ho:(AW (nav p C))[i]?=some o) (h0:Jd3 Γ (nav p C) o=true) (hg:gY (nav p C) i s=some g) (hgt:g=true) (hx:MO P Γ.nt o g s s') (hk:RF Γ C p (i+1) Q s'):RF Γ C p i Q s:=by
 refine⟨?_⟩;have hk:=hk.out;unfold AS at hk⊢;simp only[Jd3,JiZ,Bool.not_eq_true']at h0;obtain⟨⟨h1,h3⟩,h4⟩:=h0;rw[Ch ho];show AM _ _ _ _ _ _;unfold AM;have hga:Bk (AW (nav p C)) s.env o.guard=some g:=by
  unfold gY at hg;rw[ho]at hg;exact hg
 rw[hga];simp only[h3,JiL,cond_false];exact⟨λ _=>.inr (.inr ⟨h1,.inl ⟨s',by rw[hX.ext];exact hx,hk⟩⟩),λ h=>by rw[hgt]at h;cases h⟩
theorem Y4 {nt:Slt} {o:Oper} {st:St} {v:AV} {O1:List (Option Ob)} {g:Bool} (h:MO P nt o true st ⟨putA o.dst false true v st.env,O1⟩):MO P nt o g st ⟨putA o.dst o.guard.isSome g v st.env,O1⟩:=by
 intro N H0 F0 w0 a w hg hI hdst rd n K Qw hqr hK;subst hg;refine h N H0 F0 w0 a w rfl hI hdst rd n K Qw hqr λ a' w' hI'=>hK a' w' ?_;obtain⟨F,ρ,hS,hSl,hrest⟩:=hI';refine⟨F,ρ,hS,?_,hrest⟩;cases hgs:o.guard.isSome with
 | false=>exact hSl
 | true=>
  cases hd:o.dst with
  | none=>rw[hd]at hSl;exact hSl
  | some d=>
   rw[hd]at hSl;intro t;have:=hSl t;simp only[putA,cond_true,cond_false,Bd]at this⊢;split
   ·rename_i e;rw[if_pos e]at this;exact .gvT _ _ this
   ·rename_i e;rw[if_neg e]at this;exact this
def Fw (m:Nat):Code->Code
 | .region id ops _=>.region id (ops.toList.take m).toArray false
 | c=>c
def UT (Γ:Cx) (c:Code) (m:Nat) (Q:Ex->St->Prop):Ex->St->Prop:=λ _ s=>phX Γ (Cq c) (Q .normal) ((Cq c).size-(m+1)) (m+1) s
def Jd4 (Γ:Cx) (c:Code) (b x m:Nat) (s0:St) (Q:Ex->St->Prop):Ex->St->Prop:=λ e s=>Jdq Γ.ty (Cq c) b x m s0.env s.env s0.objs (bif Nat.blt (yM (Cq c) b m) m then s.objs.dropLast else s.objs)/\∃ F,(Cq c)[m]?=some F/\AM Γ false (Cq c).toList F (UT Γ c m Q e) s
theorem rx (x m:Nat) (hs:An Γ.nt.nk s s') (hk:RF (cxX Γ (Cq (nav p C)) x) (Fw m (nav p C)) [] 0 (Jd4 Γ (nav p C) 0 x m s' Q) s') (h:(I4 (nav p C)&&J0 (nav p C))=true:=by kernel_rfl) (hb:LS (Cq (nav p C)) 0 x m=true:=by kernel_rfl):WP Γ C p Q s:=by
 refine⟨?_⟩;have hk:=hk.out;generalize nav p C=c at *;cases c with
 | region id ops d=>
  simp only[I4,J0,Bool.true_and]at h;subst h;exact⟨s',hs,.inr (.inl ⟨rfl,.inl ⟨ops.size-(m+1)+1,.inr ⟨x,m,Nat.zero_le _,hb,hk⟩⟩⟩)⟩
 | _=>cases h
theorem UU {ops:List Oper} {m:Nat} {env:List (Nat×AV)} {g:Option (Nat×Bool)} {v:Bool} (h:Bk (ops.take m) env g=some v):Bk ops env g=some v:=by
 unfold Bk at h⊢;split at h
 ·exact h
 ·rename_i j want;rcases JiO j m with hj|hj
  ·rw[Jji hj]at h;exact h
  ·rw[Jjj (by rw[List.length_take];omega)]at h;cases h
theorem OK {ops:List Oper} {m:Nat} {o:Oper} {Q:St->Prop} (h:AM Γ false (ops.take m) o Q s):AM Γ false ops o Q s:=by
 unfold AM at h⊢;split at h
 ·exact h.elim
 ·rename_i g hg;rw[UU hg];exact h
theorem mx {c:Code} {b x m:Nat} {s0:St} (hk:RF Γ (Fw (m+1) c) [] m (UT Γ c m Q) s) (hi:Nat.ble (AW (Fw m c)).length i=true:=by kernel_rfl) (h:I4 c=true:=by kernel_rfl) (hm:Nat.blt m (Cq c).size=true:=by kernel_rfl)
  (h1:ldL Γ.ty (Cq c) b x m s0.env s.env s0.objs=ldL Γ.ty (Cq c) b x m s0.env s.env (bif Nat.blt (yM (Cq c) b m) m then s.objs.dropLast else s.objs):=by kernel_rfl) (h2:(ldL Γ.ty (Cq c) b x m s0.env s.env s0.objs).all Option.isSome=true:=by kernel_rfl):RF (cxX Γ (Cq c) x) (Fw m c) [] i (Jd4 Γ c b x m s0 Q) s:=by
 refine⟨L8 i hi ⟨⟨h1,h2⟩,?_⟩⟩;have hk:=hk.out;have hm:=Jjd hm;cases c with
 | region id ops d=>
  simp only[Cq]at hm⊢;have hg:=Ji3 (show m<ops.size by omega);refine⟨ops[m],hg,?_⟩;have hk:Gs Γ false (ops.toList.take (m+1)) ((ops.toList.take (m+1)).drop m) (UT Γ (.region id ops d) m Q .normal) s:=hk;rw[show(ops.toList.take (m+1)).drop m=[ops[m]] by
   rw[List.drop_take,List.drop_eq_getElem_cons (by simp;omega)];simp]at hk
  exact OK hk
 | _=>cases h
theorem nz {c:Code} {m:Nat} (hk:PQ Q .normal s) (hi:Nat.ble (AW (Fw (m+1) c)).length i=true:=by kernel_rfl) (hm:Nat.beq (Cq c).size (m+1)=true:=by kernel_rfl):RF Γ (Fw (m+1) c) [] i (UT Γ c m Q) s:=by
 refine⟨L8 i hi ?_⟩;unfold UT;have hm:=Ji5 hm;rw[hm,Nat.sub_self];exact⟨hm.symm,hk.out⟩
theorem nx {c:Code} {m:Nat} (x m2:Nat) (hk:RF (cxX Γ (Cq c) x) (Fw m2 c) [] (m+1) (Jd4 Γ c (m+1) x m2 s Q) s) (hi:Nat.ble (AW (Fw (m+1) c)).length i=true:=by kernel_rfl) (h:I4 c=true:=by kernel_rfl) (hb:LS (Cq c) (m+1) x m2=true:=by kernel_rfl):RF Γ (Fw (m+1) c) [] i (UT Γ c m Q) s:=by
 refine⟨L8 i hi ?_⟩;have hk:=hk.out;cases c with
 | region id ops d=>
  have hbb:=(Qk hb).1;simp only[Cq]at hbb;unfold UT;simp only[Cq];refine JdC (f:=ops.size-(m2+1)+1) (by omega) (.inr ⟨x,m2,hbb.2.2,hb,?_⟩);exact hk
 | _=>cases h
def E4 (ev:Operand->AV):Op->Option FuncId×List AV
 | .call ⟨.value (.func f),args,_⟩=>(some f,args.toList.map ev)
 | .call ⟨.value x,args,_⟩=>match ev x with
  | .clo f l=>(some f,args.toList.map ev++l)
  | _=>(none,[])
 | _=>(none,[])
theorem PF {ev ev':Operand->AV} {op:Op} (h:∀ y∈op.operands.toList,ev y=ev' y):E4 ev op=E4 ev' op:=by
 cases op with
 | call c=>
  obtain⟨callee,args,ts⟩:=c;cases callee with
  | value x=>
   have ha:args.toList.map ev=args.toList.map ev':=JiW λ y hy=>h y (by simp[Op.operands,Call.operands];exact .inr (by simpa using hy));have hx:=h x (by simp[Op.operands,Call.operands]);cases x<;>simp only[E4,ha,hx]
  | _=>rfl
 | _=>rfl
theorem Xc {nt:Slt} {o:Oper} {st:St} {f:FuncId} {xs:List AV} {nb:Nat} {r:AV} {O1:List (Option Ob)} (hgob:Ej true (o.op.operands.toList.map (Ai st.env))) (hc:E4 (λ y=>unG (Ai st.env y)) o.op=(some f,xs))
  (hcall:Bw P f (xs.map (G0 (As st.objs xs))) (DN st.objs (As st.objs xs)) nb r O1) (hnb:nb<=(As st.objs xs).length) (hnb1:nb<=O1.length) (hord:∀ k∈As st.objs xs,k<st.objs.length) :
  LX P nt o true st ⟨putA o.dst false true (IS (Cw (As st.objs xs) st.objs.length nb) r) st.env,Cy st.objs (As st.objs xs) nb O1⟩:=by
 intro N H0 F0 w0 a w _ hI hdst K Qw hK;obtain⟨F,ρ,hS,hSl,hn,hdf⟩:=hI;have hk:∀ v w' F' ρ'',FLe F F'->RLe ρ ρ''->Sim N H0 F0 F' ρ'' (Cy st.objs (As st.objs xs) nb O1) w'.heap->Ag F' ρ'' (IS (Cw (As st.objs xs) st.objs.length nb) r) v->Mu w w'->K (a.put o.dst v) w':=
  λ v w' F' ρ'' hF hρ hS' hv hmu=>hK _ _ ⟨F',ρ'',hS',(hSl.mono hF hρ).putA hn hdst hv,hn.put hdst,by rw[put_defers];exact⟨hdf.1.mono hF,hdf.2.1.trans hmu,hdf.2.2.mono hρ⟩⟩
 have hev:∀ y∈o.op.operands.toList,Ag F ρ (unG (Ai st.env y)) (a.eval y):=λ y hy=>BH rfl _ hgob _ (List.mem_map_of_mem hy) _ (AJ hSl y);unfold E4 at hc;split at hc
 ·rename_i f' args ts hop;cases hc;exact SF (ev:=λ y=>unG (Ai st.env y)) hop hS (λ y hy=>hev y (by rw[hop];simp[Op.operands,Call.operands];exact .inr (by simpa using hy))) hcall hnb hnb1 hord hk
 ·rename_i x args ts _ hop;split at hc
  ·rename_i f' l hx;have hx:unG (Ai st.env x)=.clo f' l:=hx;cases hc;have hxr:=hev x (by rw[hop];simp[Op.operands,Call.operands]);rw[hx]at hxr;generalize hxv:a.eval x=xv at hxr;cases hxr with
   | clo _ _ vs hl hr=>
    have hcr0:=F3 (args:=args) (a:=a) (ev:=λ y=>unG (Ai st.env y)) (λ y hy=>hev y (by rw[hop];simp[Op.operands,Call.operands];exact .inr (by simpa using hy)));refine H4 (vs:=args.map a.eval++vs) (λ fn c hf hb hnm=>?_) hS ⟨by simp[hl],λ i y v hy hv=>?_⟩ hcall hnb hnb1 hord hk
    ·simp only[execOp,hop,resolve,hxv,Deferred.ofValue,JiF,JiG,JiD,invoke,callFunc,run_program,hf,hnm,hb,Jja,if_false,Option.isNone_some,Array.empty_append]
    ·rw[Array.toList_append]at hv;have hl0:=hcr0.1;by_cases hi:i<(args.toList.map (λ y=>unG (Ai st.env y))).length
     ·rw[Ji6 hi]at hy;rw[Ji6 (by omega)]at hv;exact hcr0.2 i y v hy hv
     ·rw[Jjg (by omega)]at hy;rw[Jjg (by omega)]at hv;rw[← hl0]at hv;exact hr _ y v hy (by simpa using hv)
  ·cases hc
 ·cases hc
def PG (c:Code) (i:Nat) (s:St):Option ((Option FuncId×List AV)×List Nat):=
 match (AW c)[i]? with
 | some o=>some (E4 (λ y=>unG (Ai s.env y)) o.op,As s.objs (E4 (λ y=>unG (Ai s.env y)) o.op).2)
 | none=>none
def nxS (Γ:Cx) (ops:Array Oper) (x:Nat) (c:Code) (i:Nat) (g:Bool) (ord:List Nat) (nb:Nat) (r:AV) (O1:List (Option Ob)) (s:St):Option St:=
 match (AW c)[i]? with
 | some o=>bif !J0 c&&Nat.beq i x&&Nat.blt x ops.size.pred&&Bv Γ.nt o.dst&&Nat.ble nb ord.length&&Nat.ble nb O1.length&&ord.all (λ k=>Nat.blt k s.objs.length)then
   some ⟨putA o.dst o.guard.isSome g (IS (Cw ord s.objs.length nb) r) s.env,Cy s.objs ord nb O1⟩else none
 | none=>none
theorem xs {c:Code} {x m:Nat} (hX:XOK P Γ) {g:Bool} (hgt:g=true) {gs:List Bool} (hi:D3 g gs) (ord:List Nat) {f:FuncId} {ys:List AV} {O0 O1 raw0:List (Option Ob)} {nb:Nat} {r:AV} (hr:Bw P f ys O0 nb r O1) (hp0:raw0=O0)
  (hk:RF (cxX Γ (Cq c) x) (Fw m c) [] (i+1) Q ((nxS Γ (Cq c) x (Fw m c) i g ord nb r O1 s).getD s)) (hreg:I4 c=true:=by kernel_rfl) (hg:gY (Fw m c) i s=some g:=by kernel_rfl) (hgs:Eo (Fw m c) i s=gs:=by kernel_rfl)
  (hc:PG (Fw m c) i s=some ((some f,((PG (Fw m c) i s).getD ((none,[]),[])).1.2),ord):=by kernel_rfl) (hxs:((PG (Fw m c) i s).getD ((none,[]),[])).1.2.map (G0 ord)=ys:=by kernel_rfl) (hO:DN s.objs ord=raw0:=by kernel_rfl)
  (hn:(nxS Γ (Cq c) x (Fw m c) i g ord nb r O1 s).isSome=true:=by kernel_rfl):RF (cxX Γ (Cq c) x) (Fw m c) [] i Q s:=by
 generalize ((PG (Fw m c) i s).getD ((none,[]),[])).1.2=zs at hc hxs;have hn:=Br (d:=s) hn;generalize (nxS Γ (Cq c) x (Fw m c) i g ord nb r O1 s).getD s=s' at hn hk;subst hp0;unfold PG at hc;unfold nxS at hn;split at hn
 ·rename_i o ho;rw[ho]at hc;simp only[Ji8,Prod.mk.injEq]at hc;obtain⟨hc,hord⟩:=hc;rw[hc]at hord;simp only at hord;obtain⟨h0,hn⟩:=AA hn;simp only[JiZ]at h0;obtain⟨⟨⟨⟨⟨⟨h1,h2⟩,h3⟩,h4⟩,h5⟩,h6⟩,h7⟩:=h0;cases hn;subst hord;subst hxs;subst hO;have hix:=Ji5 h2;subst hix;have hox:(Cq c)[i]?=some o:=by
   cases c with
   | region id ops d=>
    simp only[Fw,AW,List.getElem?_take]at ho;split at ho
    ·show ops[i]?=some o;simpa using ho
    ·cases ho
   | _=>cases hreg
  have hgob:Ej true (o.op.operands.toList.map (Ai s.env)):=by
   subst hgs;unfold Eo at hi;rw[ho]at hi;rw[← hgt];exact I5 hi
  refine⟨?_⟩;have hk:=hk.out;unfold AS at hk⊢;simp only[nav]at hk⊢;rw[Ch ho];show AM _ _ _ _ _ _;unfold AM;have hga:Bk (AW (Fw m c)) s.env o.guard=some g:=by
   unfold gY at hg;rw[ho]at hg;exact hg
  rw[hga];have h4:Bv (cxX Γ (Cq c) i).nt o.dst=true:=h4;simp only[h4,JiL,cond_false];refine⟨λ _=>.inr (.inr ⟨by simpa using h1,.inl ⟨_,⟨hox,_,_,rfl,λ env he=>?_⟩,hk⟩⟩),λ h=>by rw[hgt]at h;cases h⟩;rw[hX.ext];have hgob':Ej true (o.op.operands.toList.map (Ai env)):=by
   rw[JiW he];exact hgob
  have hc':E4 (λ y=>unG (Ai env y)) o.op=(some f,zs):=by
   rw[PF (ev':=λ y=>unG (Ai s.env y)) λ y hy=>by rw[he y hy]];exact hc
  have hnd:ndB o.op=true:=by
   cases hop:o.op with
   | defer d=>rw[hop]at hc;cases hc
   | _=>rfl
  exact Y4 (st:=⟨env,s.objs⟩) ((Xc (st:=⟨env,s.objs⟩) hgob' hc' hr (Jjd h5) (Jjd h6) λ k hk=>by
   exact Jjd (JiI.1 h7 k hk)).ok hnd)
 ·cases hn
theorem rq {js:List Code} {j:Nat} {O1:List (Option Ob)} {e:Ex} (sh:An nk s s') (h:exJ js e j:=by first|exact trivial|exact rfl) (h1:lpJ s'.objs 0=some (js,1):=by kernel_rfl) (h2:Jgx s'.objs j=some O1:=by kernel_rfl):PQ (JhN nk js j O1) e s:=⟨⟨h,s',sh,h1,h2⟩⟩
end Go.AI
end
section
namespace Go.AI
variable {P:Program} {F F':Nat->Option Obj} {ρ ρ':Nat->Option Loc} {N:Nat->Prop} {H0 F0:Nat->Option Obj} {O objs:List (Option Ob)} {w:World} {w0:W0} {nt:Slt} {o:Oper} {st:St}
theorem Lh (es:Array MapEntry):leftOf es #[]=es:=by
 unfold leftOf;exact Array.filter_eq_self.2 λ x _=>by simp
theorem Xd {Γ:Nat->Ty} (hΓ:Gt P Γ) {t:TypeId} {x:Operand} {k:Nat} {ks:List TK} {ka va ka' va':Bool} {vz:List D} {ents:List (List D×List D)} (hop:o.op=.range t x) (hok:(Γ t).ok=true) (hkind:(Γ t).kind=.map ks ka' va' vz) (hx:Ai st.env x=.mp k) (ho:obA st.objs k=some (.map ka va ents)) :
  LX P nt o true st ⟨putA o.dst false true (.ptr st.objs.length 0) st.env,st.objs.set k none++[some (.iter ka va none ents)]⟩:=by
 intro N H0 F0 w0 a w _ hI hdst K Qw hK;obtain⟨F,ρ,hS,hSl,hn,hdf⟩:=hI;obtain⟨d,hd,_,hkd⟩:=(hΓ t hok).desc;rw[hkind]at hkd;obtain⟨kt,et,i,z,rfl,_⟩:=hkd;have hxr:=AJ hSl x;rw[hx]at hxr;generalize hxv:a.eval x=xv at hxr;cases hxr with
 | mp _ L hL=>
  obtain⟨⟨_,es,clock,g1,gb,e0,hp0,_,g2,g3⟩,gN,gF⟩:=hS.obj k L _ hL ho;have hS1:=hS.freeze [k] (λ j hj=>by rw[List.mem_singleton.1 hj];exact⟨_,ho⟩);have hFle:=Em hS [k];have hFb:Gu F ρ w.heap [k] L.b=some (.map es clock):=by rw[JD (List.mem_singleton_self k) hL];exact g1
  generalize Gu F ρ w.heap [k]=F1 at hS1 hFle hFb;have hrm:rmA st.objs [k]=st.objs.set k none:=rfl;rw[hrm]at hS1;have hS2:=hS1.grow [some (Ob.iter ka va none ents)];have hlen:(st.objs.set k none).length=st.objs.length:=by simp
  have hfresh:ρ st.objs.length=none:=by
   cases hr:ρ st.objs.length with
   | none=>rfl
   | some M=>have:=hS.dom _ M hr;omega
  have hob:obA (st.objs.set k none++[some (Ob.iter ka va none ents)]) st.objs.length=some (.iter ka va none ents):=by
   rw[Ax,if_neg (by omega),hlen,Nat.sub_self];rfl
  have hS3:=hS2.push (L:=⟨w.heap.size,0,0⟩) (x:=.mapIter (some L.b) clock #[] clock) hfresh hob rfl (by
   refine⟨rfl,L.b,es,clock,clock,#[],clock,hFb,by simp,gb.1,JiN _,JiN _,gb.2,⟨e0,hp0,by rw[Lh];exact g2,λ i p q hp hq=>?_⟩,λ p hp=>by cases hp⟩;rw[Lh]at hq;exact⟨(g3 i p q hp hq).1.mono hFle,(g3 i p q hp hq).2.mono hFle⟩) rfl
  have hr:(execOp a.eval o).run P w=.ok (.value (.pointer (some ⟨w.heap.size,0,none⟩))) (w.alloc (.mapIter (some L.b) clock #[] clock)):=by
   simp only[execOp,hop,hxv,run_range_map w t kt et L.b es clock hd g1,JiF,JiD,JiG]
  unfold Oper.wp;rw[hr,Oper.upon_value];have hle:RLe ρ (upR ρ st.objs.length ⟨w.heap.size,0,0⟩):=Cr hfresh;refine hK _ _ ⟨F1,_,hS3,(hSl.mono hFle hle).putA hn hdst ?_,hn.put hdst,by rw[put_defers];exact⟨hdf.1.mono hFle,hdf.2.1.trans ⟨rfl,rfl,by simp,rfl,JiN _⟩,hdf.2.2.mono hle⟩⟩;exact .ptr _ 0 ⟨w.heap.size,0,0⟩ (Av _ _ _)
theorem UV {Γ:Nat->Ty} (hΓ:Gt P Γ) {t:TypeId} {x:Operand} {ks:List TK} {ka' va':Bool} {vz:List D} {E:List (List D)} (hop:o.op=.range t x) (hok:(Γ t).ok=true) (hkind:(Γ t).kind=.map ks ka' va' vz) (hx:Ai st.env x=.fmp E) :
  LX P nt o true st ⟨putA o.dst false true (.ptr st.objs.length 0) st.env,st.objs++[some (.iter false false none (Nc E))]⟩:=by
 intro N H0 F0 w0 a w _ hI hdst K Qw hK;obtain⟨F,ρ,hS,hSl,hn,hdf⟩:=hI;obtain⟨d,hd,_,hkd⟩:=(hΓ t hok).desc;rw[hkind]at hkd;obtain⟨kt,et,i,z,rfl,_⟩:=hkd;have hxr:=AJ hSl x;rw[hx]at hxr;generalize hxv:a.eval x=xv at hxr;cases hxr with
 | fmp _ b hf=>
  obtain⟨es,clock,e0,hFb,gb,hp,_,g2,g3⟩:=hf;have g1:w.heap[b]?=some (.map es clock):=hS.frz b _ hFb;have hS2:=hS.grow [some (Ob.iter false false none (Nc E))];have hfresh:ρ st.objs.length=none:=by
   cases hr:ρ st.objs.length with
   | none=>rfl
   | some M=>have:=hS.dom _ M hr;omega
  have hob:obA (st.objs++[some (Ob.iter false false none (Nc E))]) st.objs.length=some (.iter false false none (Nc E)):=by
   rw[Ax,if_neg (by omega),Nat.sub_self];rfl
  have hS3:=hS2.push (L:=⟨w.heap.size,0,0⟩) (x:=.mapIter (some b) clock #[] clock) hfresh hob rfl (by
   refine⟨rfl,b,es,clock,clock,#[],clock,hFb,by simp,gb.1,JiN _,JiN _,gb.2,⟨e0,hp,by rw[Lh];exact g2,λ i p q hp hq=>?_⟩,λ p hp=>by cases hp⟩;rw[Lh]at hq;exact g3 i p q hp hq) rfl
  have hr:(execOp a.eval o).run P w=.ok (.value (.pointer (some ⟨w.heap.size,0,none⟩))) (w.alloc (.mapIter (some b) clock #[] clock)):=by
   simp only[execOp,hop,hxv,run_range_map w t kt et b es clock hd g1,JiF,JiD,JiG]
  unfold Oper.wp;rw[hr,Oper.upon_value];have hle:RLe ρ (upR ρ st.objs.length ⟨w.heap.size,0,0⟩):=Cr hfresh;refine hK _ _ ⟨F,_,hS3,(hSl.mono (FLe.refl _) hle).putA hn hdst ?_,hn.put hdst,by rw[put_defers];exact⟨hdf.1,hdf.2.1.trans ⟨rfl,rfl,by simp,rfl,JiN _⟩,hdf.2.2.mono hle⟩⟩;exact .ptr _ 0 ⟨w.heap.size,0,0⟩ (Av _ _ _)
def JhO (o:Oper) (k:Nat) (ka va:Bool) (left:List (List D×List D)) (st:St) (st':St):Prop:=
 (left=[]/\st'=⟨putA o.dst false true (.tup [.d (.bool false)]) st.env,st.objs⟩) \/
 ∃ l1 e l2,left=l1++e::l2/\st'=⟨putA o.dst false true (.tup [.d (.bool true),.top,.top]) st.env,st.objs.set k (some (.iter ka va (some e) (l1++l2)))⟩
theorem S9 {es:Array MapEntry} {seen:Array Nat} {e:MapEntry} (hn:(es.toList.map (·.born)).Nodup) (he:e∈(leftOf es seen).toList):∃ l1 l2,(leftOf es seen).toList=l1++e::l2/\(leftOf es (seen.push e.born)).toList=l1++l2:=by
 have h1:(leftOf es (seen.push e.born)).toList=(leftOf es seen).toList.filter λ x=>!(x.born==e.born):=by
  unfold leftOf;simp only[Array.toList_filter,List.filter_filter];refine List.filter_congr λ x _=>?_;rw[contains_push];cases seen.contains x.born<;>cases (x.born==e.born)<;>rfl
 rw[h1];have hsub:((leftOf es seen).toList.map (·.born)).Nodup:=by
  have:(leftOf es seen).toList.Sublist es.toList:=by unfold leftOf;rw[Array.toList_filter];exact List.filter_sublist
  exact List.Nodup.sublist (this.map _) hn
 generalize (leftOf es seen).toList=l at he hsub;clear h1 hn;induction l with
 | nil=>cases he
 | cons x l ih=>
  rw[JiU,List.nodup_cons]at hsub;rcases List.mem_cons.1 he with rfl|he
  ·refine⟨[],l,rfl,?_⟩;simp only[List.filter_cons,beq_self_eq_true,JiL,Jja,if_false,List.nil_append];refine List.filter_eq_self.2 λ y hy=>?_;have:y.born≠e.born:=λ h=>hsub.1 (by rw[← h];exact List.mem_map_of_mem hy);simp[this]
  ·obtain⟨l1,l2,q1,q2⟩:=ih he hsub.2;have hne:x.born≠e.born:=λ h=>hsub.1 (by rw[h];exact List.mem_map_of_mem he);exact⟨x::l1,l2,by rw[q1];rfl,by rw[List.filter_cons];simp[hne,q2]⟩
theorem Y5 {x:Operand} {k:Nat} {ka va:Bool} {cur:Option (List D×List D)} {left:List (List D×List D)} (hop:o.op=.next x false) (hx:Ai st.env x=.ptr k 0) (ho:obA st.objs k=some (.iter ka va cur left)) :
  LY P nt o st (JhO o k ka va left st):=by
 intro N H0 F0 w0 a w hI hdst r n K Qw _ hK;obtain⟨F,ρ,hS,hSl,hn,hdf⟩:=hI;have hxr:=AJ hSl x;rw[hx]at hxr;generalize hxv:a.eval x=xv at hxr;cases hxr with
 | ptr _ _ L hL=>
  obtain⟨⟨b0,bm,es,clock,since,seen,c0,h1,h2,h3,h4,h4',h5,⟨left0,hpm,h6,h7⟩,h8⟩,gN,gF⟩:=hS.obj k L _ hL ho;have hbm:w.heap[bm]?=some (.map es clock):=hS.frz bm _ h1;have hpt:(⟨L.b,L.base+0,none⟩:Addr)=⟨L.b,0,none⟩:=by rw[b0]
  refine CW (by rw[hop];intro c e;cases e) ?_;unfold Oper.wp;rcases run_next_at (P:=P) w o.type L.b bm since c0 seen es clock h2 hbm h3 h4 with⟨he,hr⟩|⟨e,he,w1,hw1,hr⟩
  ·have hx:(execOp a.eval o).run P w=.ok (.value (.tuple #[.bool false])) w:=by
    simp only[execOp,hop,hxv,hpt,hr,JiF,JiD,JiG]
   rw[hx,Oper.upon_value];have hl0:left0=[]:=List.length_eq_zero_iff.1 (by rw[← h6];exact he);have hl:left=[]:=by rw[hl0]at hpm;exact hpm.symm.eq_nil
   refine hK _ _ _ (.inl ⟨hl,rfl⟩) ⟨F,ρ,hS,hSl.putA hn hdst ?_,hn.put hdst,by rw[put_defers];exact hdf⟩;exact .tup _ _ rfl λ j a u ha hu=>by
    match j with
    | 0=>simp at ha hu;subst ha;subst hu;exact .mkBool _
    | j+1=>simp at ha
  ·have hx:(execOp a.eval o).run P w=.ok (.value (.tuple #[.bool true,e.key,e.val])) (ChangeMaps.setBlock w1 L.b (.mapIter (some bm) since (seen.push e.born) clock)):=by
    simp only[execOp,hop,hxv,hpt,hr,JiF,JiD,JiG]
   rw[hx,Oper.upon_value];obtain⟨m1,m2,e1,e2⟩:=S9 h5 he;have hlen:left0.length=m1.length+(m2.length+1):=by rw[← h6,← Array.length_toList,e1];simp
   obtain⟨l1,p,l2,hsp,hl1,hl2⟩:∃ l1 p l2,left0=l1++p::l2/\l1.length=m1.length/\l2.length=m2.length:=by
    refine⟨left0.take m1.length,left0[m1.length],left0.drop (m1.length+1),?_,by simp;omega,by simp;omega⟩;rw[← List.drop_eq_getElem_cons (by omega),List.take_append_drop]
   have hheap:(ChangeMaps.setBlock w1 L.b (.mapIter (some bm) since (seen.push e.born) clock)).heap=w.heap.setIfInBounds L.b (.mapIter (some bm) since (seen.push e.born) clock):=by
    rcases hw1 with rfl|rfl<;>rfl
   have hmu:Mu w (ChangeMaps.setBlock w1 L.b (.mapIter (some bm) since (seen.push e.born) clock)):=by
    rcases hw1 with rfl|rfl
    ·exact⟨rfl,rfl,by rw[hheap];simp,rfl,JiN _⟩
    ·exact⟨rfl,rfl,by rw[hheap];simp,rfl,Nat.le_succ _⟩
   obtain⟨k1,k2,hk12⟩:∃ k1 k2,left=k1++p::k2:=List.append_of_mem (hpm.subset (by rw[hsp];simp));have hpm2:(l1++l2).Perm (k1++k2):=by
    rw[hsp,hk12]at hpm;exact((List.perm_middle.symm.trans hpm).trans List.perm_middle).cons_inv
   have hei:=mem_left he;have hmid:∀ (i:Nat) (q:List D×List D),(l1++p::l2)[i]?=some q->∀ u:MapEntry,(m1++e::m2)[i]?=some u->KV F ka q.1 u.key/\KV F va q.2 u.val:=λ i q hq u hu=>by
    rw[← hsp]at hq;rw[← e1]at hu;exact h7 i q u hq (by simpa using hu)
   have hpe:KV F ka p.1 e.key/\KV F va p.2 e.val:=by
    refine hmid l1.length p (by simp) e (by rw[hl1];simp)
   have hrep:∀ h':Array Obj,h'[L.b]?=some (.mapIter (some bm) since (seen.push e.born) clock)->Bc F ρ h' L (.iter ka va (some p) (k1++k2)):=λ h' hh=>by
    refine⟨b0,bm,es,clock,since,seen.push e.born,clock,h1,hh,h3,h4',h4',h5,⟨l1++l2,hpm2,?_,λ i q u hq hu=>?_⟩,λ q hq=>?_⟩
    ·rw[← Array.length_toList,e2];simp;omega
    ·have hu:(m1++m2)[i]?=some u:=by rw[← e2];simpa using hu
     by_cases hi:i<l1.length
     ·rw[Ji6 hi]at hq;rw[Ji6 (by omega)]at hu;exact hmid i q (by rw[Ji6 hi];exact hq) u (by rw[Ji6 (by omega)];exact hu)
     ·rw[Jjg (by omega)]at hq;rw[Jjg (by omega)]at hu;refine hmid (i+1) q ?_ u ?_
      ·rw[Jjg (by omega),show i+1-l1.length=(i-l1.length)+1 by omega,List.getElem?_cons_succ];exact hq
      ·rw[Jjg (by omega),show i+1-m1.length=(i-m1.length)+1 by omega,List.getElem?_cons_succ];exact hu
    ·cases hq;exact⟨e,seen,hei.1,rfl,rfl,hpe.1,hpe.2⟩
   have hlt:=hS.loc k L hL;have hS1:=hS.rewrite (k':=k) (L':=L) (x:=.mapIter (some bm) since (seen.push e.born) clock) (O':=st.objs.set k (some (.iter ka va (some p) (k1++k2)))) hL ho (by rw[Bn hL];exact RLe.refl _) rfl (λ j ob' hj hob'=>by
    rw[Bh,if_neg (λ hh=>hj hh.1)]at hob';exact⟨hob',hj⟩) (by simp) (by simpa using AD ho) (λ ob' hob'=>by
    rw[Bh,if_pos ⟨rfl,AD ho⟩]at hob';cases hob';rw[Bn hL];exact hrep _ (by rw[BX,if_pos ⟨rfl,hlt⟩])) (λ ob' hob'=>by
    rw[Bh,if_pos ⟨rfl,AD ho⟩]at hob';cases hob';rfl)
   rw[Bn hL]at hS1;refine hK _ _ _ (.inr ⟨k1,p,k2,hk12,rfl⟩) ⟨F,ρ,by rw[hheap];exact hS1,hSl.putA hn hdst ?_,hn.put hdst,by rw[put_defers];exact⟨hdf.1,hdf.2.1.trans hmu,hdf.2.2⟩⟩;exact .tup _ _ rfl λ j a u ha hu=>by
    match j with
    | 0=>simp at ha hu;subst ha;subst hu;exact .mkBool _
    | 1=>simp at ha;subst ha;exact .top _
    | 2=>simp at ha;subst ha;exact .top _
    | j+3=>simp at ha
theorem Xe {x:Operand} {k:Nat} {ka va:Bool} {p:List D×List D} {left:List (List D×List D)} (hop:o.op=.entry x) (hx:Ai st.env x=.ptr k 0) (ho:obA st.objs k=some (.iter ka va (some p) left)) :
  LX P nt o true st ⟨putA o.dst false true (.tup [kvV ka p.1,kvV va p.2]) st.env,st.objs⟩:=by
 intro N H0 F0 w0 a w _ hI hdst K Qw hK;obtain⟨F,ρ,hS,hSl,hn,hdf⟩:=hI;have hxr:=AJ hSl x;rw[hx]at hxr;generalize hxv:a.eval x=xv at hxr;cases hxr with
 | ptr _ _ L hL=>
  obtain⟨⟨b0,bm,es,clock,since,seen,c0,h1,h2,h3,h4,h4',h5,_,h8⟩,gN,gF⟩:=hS.obj k L _ hL ho;obtain⟨e,s',q1,rfl,rfl,q4,q5⟩:=h8 p rfl;have hbm:w.heap[bm]?=some (.map es c0):=hS.frz bm _ h1;have hpt:(⟨L.b,L.base+0,none⟩:Addr)=⟨L.b,0,none⟩:=by rw[b0]
  have hx:(execOp a.eval o).run P w=.ok (.value (.tuple #[e.key,e.val])) w:=by
   simp only[execOp,hop,hxv,hpt,run_entry_at w L.b bm since s' es c0 e h2 hbm q1 h5,JiF,JiD,JiG]
  unfold Oper.wp;rw[hx,Oper.upon_value];refine hK _ _ ⟨F,ρ,hS,hSl.putA hn hdst ?_,hn.put hdst,by rw[put_defers];exact hdf⟩;exact .tup _ _ rfl λ j a u ha hu=>by
   match j with
   | 0=>simp at ha hu;subst ha;subst hu;exact q4.val
   | 1=>simp at ha hu;subst ha;subst hu;exact q5.val
   | j+2=>simp at ha
def Jd5 (o:Oper) (xs:List AV) (nb:Nat) (R:AV->List (Option Ob)->Prop) (st:St) (st':St):Prop:=
 ∃ r O1,R r O1/\st'=⟨putA o.dst false true (IS (Cw (As st.objs xs) st.objs.length nb) r) st.env,Cy st.objs (As st.objs xs) nb O1⟩
theorem Xf {f:FuncId} {xs:List AV} {nb:Nat} {R:AV->List (Option Ob)->Prop} (hgob:Ej true (o.op.operands.toList.map (Ai st.env))) (hc:E4 (λ y=>unG (Ai st.env y)) o.op=(some f,xs))
  (hcall:GC P f (xs.map (G0 (As st.objs xs))) (DN st.objs (As st.objs xs)) nb R) (hnb:nb<=(As st.objs xs).length) (hnb1:∀ r O1,R r O1->nb<=O1.length) (hord:∀ k∈As st.objs xs,k<st.objs.length) :
  LY P nt o st (Jd5 o xs nb R st):=by
 intro N H0 F0 w0 a w hI hdst rr n K Qw _ hK;obtain⟨F,ρ,hS,hSl,hn,hdf⟩:=hI;have hk:∀ r O1,R r O1->∀ v w' F' ρ'',FLe F F'->RLe ρ ρ''->Sim N H0 F0 F' ρ'' (Cy st.objs (As st.objs xs) nb O1) w'.heap->Ag F' ρ'' (IS (Cw (As st.objs xs) st.objs.length nb) r) v->Mu w w'->K (a.put o.dst v) w':=
  λ r O1 hR v w' F' ρ'' hF hρ hS' hv hmu=>hK _ _ _ ⟨r,O1,hR,rfl⟩ ⟨F',ρ'',hS',(hSl.mono hF hρ).putA hn hdst hv,hn.put hdst,by rw[put_defers];exact⟨hdf.1.mono hF,hdf.2.1.trans hmu,hdf.2.2.mono hρ⟩⟩
 have hev:∀ y∈o.op.operands.toList,Ag F ρ (unG (Ai st.env y)) (a.eval y):=λ y hy=>BH rfl _ hgob _ (List.mem_map_of_mem hy) _ (AJ hSl y);have hnd:∀ c,o.op≠.defer c:=λ c e=>by rw[e]at hc;cases hc
 unfold E4 at hc;split at hc
 ·rename_i f' args ts hop;cases hc;refine CW hnd (MN (vs:=args.map a.eval) (λ fn c hf hb hnm=>?_) hS (F3 (ev:=λ y=>unG (Ai st.env y)) λ y hy=>hev y (by rw[hop];simp[Op.operands,Call.operands];exact .inr (by simpa using hy))) hcall hnb hnb1 hord hk);simp only[execOp,hop,resolve,Act.eval,Deferred.ofValue,JiF,JiG,JiD,invoke,callFunc,run_program,hf,hnm,hb,Jja,if_false,Option.isNone_some,Array.empty_append,Array.append_empty]
 ·rename_i x args ts _ hop;split at hc
  ·rename_i f' l hx;have hx:unG (Ai st.env x)=.clo f' l:=hx;cases hc;have hxr:=hev x (by rw[hop];simp[Op.operands,Call.operands]);rw[hx]at hxr;generalize hxv:a.eval x=xv at hxr;cases hxr with
   | clo _ _ vs hl hr=>
    have hcr0:=F3 (args:=args) (a:=a) (ev:=λ y=>unG (Ai st.env y)) (λ y hy=>hev y (by rw[hop];simp[Op.operands,Call.operands];exact .inr (by simpa using hy)));refine CW hnd (MN (vs:=args.map a.eval++vs) (λ fn c hf hb hnm=>?_) hS ⟨by simp[hl],λ i y v hy hv=>?_⟩ hcall hnb hnb1 hord hk)
    ·simp only[execOp,hop,resolve,hxv,Deferred.ofValue,JiF,JiG,JiD,invoke,callFunc,run_program,hf,hnm,hb,Jja,if_false,Option.isNone_some,Array.empty_append]
    ·rw[Array.toList_append]at hv;have hl0:=hcr0.1;by_cases hi:i<(args.toList.map (λ y=>unG (Ai st.env y))).length
     ·rw[Ji6 hi]at hy;rw[Ji6 (by omega)]at hv;exact hcr0.2 i y v hy hv
     ·rw[Jjg (by omega)]at hy;rw[Jjg (by omega)]at hv;rw[← hl0]at hv;exact hr _ y v hy (by simpa using hv)
  ·cases hc
 ·cases hc
end Go.AI
end
section
namespace Go.AI
variable {P:Program}
theorem Xg {nt:Slt} {o:Oper} {st:St} {x:Operand} {tys:Array TypeId} {f:FuncId} {caps:List AV} (hop:o.op=.defer ⟨.value x,#[],tys⟩) (hgob:Ej true (o.op.operands.toList.map (Ai st.env))) (hx:unG (Ai st.env x)=.clo f caps) (hd:o.dst=none) (hQ:(f,caps.length)∈nt.qf):MO P nt o true st st:=by
 intro N H0 F0 w0 a w _ hI hdst rd n K Qw hqr hK;have hrd:rd=none:=hqr (List.ne_nil_of_mem hQ);subst hrd;obtain⟨F,ρ,hS,hSl,hn,hdf,hmu,hrk⟩:=hI;have hxr:Ag F ρ (unG (Ai st.env x)) (a.eval x):=BH rfl _ hgob _ (List.mem_map_of_mem (by rw[hop];simp[Op.operands,Call.operands])) _ (AJ hSl x);rw[hx]at hxr;generalize hxv:a.eval x=xv at hxr;cases hxr with
 | clo _ _ vs hl hr=>
  have hex:(execOp a.eval o).run P w=.ok (.defer (KR f vs)) w:=by
   simp only[execOp,hop,resolve,hxv,Deferred.ofValue,JiF,JiG,JiD,KR];simp
  obtain⟨l,q1,q2,q3⟩:=hdf;refine⟨λ _ _=>trivial,?_⟩;show Oper.uponIn _ _ _ _ _ _ _ ((execOp a.eval o).run P w);rw[hex,Oper.uponIn_defer,hd];exact hK _ _ ⟨F,ρ,hS,hSl,hn,⟨l,.quiet (by rw[← hl];exact hQ) q1,q2,q3⟩,hmu,hrk⟩
end Go.AI
end
section
namespace Go.AI
variable {P:Program} {Γ:Cx} {C:Code} {p:List Nat} {Q:Ex->St->Prop} {s s':St} {i:Nat}
def dfB (nt:Slt) (c:Code) (i:Nat) (s:St):Bool:=match (AW c)[i]? with
 | some o=>!J0 c&&o.guard.isNone&&o.dst.isNone&&(match o.op with
  | .defer ⟨.value x,args,_⟩=>args.isEmpty&&(match Ai s.env x with
   | .clo f caps=>nt.qf.any λ q=>Nat.beq q.1 f&&Nat.beq q.2 caps.length
   | _=>false)
  | _=>false)
 | none=>false
theorem xd (hX:XOK P Γ) (hk:RF Γ C p (i+1) Q s) (h:dfB Γ.nt (nav p C) i s=true:=by kernel_rfl):RF Γ C p i Q s:=by
 unfold dfB at h;split at h
 ·rename_i o ho;simp only[JiZ,Bool.not_eq_true']at h;obtain⟨⟨⟨h1,h2⟩,h3⟩,h4⟩:=h;split at h4
  ·rename_i x args tys hop;simp only[JiZ]at h4;obtain⟨ha,h4⟩:=h4;have hae:args=#[]:=by simpa using ha
   subst hae;split at h4
   ·rename_i f caps hx;obtain⟨q,hq,hq2⟩:=List.any_eq_true.mp h4;simp only[JiZ]at hq2;have e1:=Ji5 hq2.1;have e2:=Ji5 hq2.2;have hQ:(f,caps.length)∈Γ.nt.qf:=by rw[← e1,← e2];exact hq
    have hgN:o.guard=none:=by simpa using h2
    have hdN:o.dst=none:=by simpa using h3
    refine⟨?_⟩;have hk:=hk.out;unfold AS at hk⊢;rw[Ch ho];show AM _ _ _ _ _ _;unfold AM;rw[hgN];simp only[Bk,hdN,Bv,JiL,cond_false];refine⟨λ _=>.inr (.inr ⟨h1,.inl ⟨s,?_,hk⟩⟩),λ h=>by cases h⟩;rw[hX.ext];refine Xg hop ?_ (by rw[hx];rfl) hdN hQ;rw[hop];simp[Op.operands,Call.operands,hx,Ej]
   ·cases h4
  ·cases h4
 ·cases h
end Go.AI
end
section
namespace Go.AI
variable {s:St} {nk:Nat} {α β:Type} {enc:β->List D}
theorem Jco (e:β->List D) (esz:Nat) {xs zs:List β} {l:Int} (hz:sub xs l ((xs.length:Nat):Int)=some zs) (hl:∀ y,(e y).length=esz:=by intro _;rfl):EH s (A3 (.d (.sl (((xs.map e).take (((xs.map e).length:Nat):Int).toNat).drop l.toNat))) (0<=l/\l<=(((xs.map e).length:Nat):Int)/\(((xs.map e).length:Nat):Int)<=(xs.map e).length/\∀ y∈xs.map e,y.length=esz)) (.d (.sl (zs.map e))) [] [] none:=by
 have h0:(((xs.map e).length:Nat):Int)=((xs.length:Nat):Int):=by rw[JiT]
 rw[h0];have:=UN (s:=s) e esz hz hl;rw[h0]at this;exact this
theorem Y6 {P:Program} {Γ:Nat->Ty} {nt:Slt} {o:Oper} {st:St} (hΓ:Gt P Γ) {s t:TypeId} {x:Operand} {eb:Nat} {es:List (List D)} {ob:Prop} (hop:o.op=.convert s t x) (hs:(Γ s).ok=true) (ht:(Γ t).ok=true) (hks:(Γ s).kind=.slice 1 eb [.int .u8 0]) (hkt:(Γ t).kind=.string)
  (hgob:Ej true (o.op.operands.toList.map (Ai st.env))) (hel:EO st.objs (unG (Ai st.env x))=some (es,ob)) (hob:ob) (hby:∀ e∈es,LO e):LX P nt o true st ⟨putA o.dst false true (.d (.str (es.map Kr))) st.env,st.objs⟩:=by
 intro N H0 F0 w0 a w _ hI hdst K Qw hK;obtain⟨F,ρ,hS,hSl,hn,hdf⟩:=hI;obtain⟨d,hd,_,hk⟩:=(hΓ s hs).desc;obtain⟨d',hd',_,hk'⟩:=(hΓ t ht).desc;rw[hks]at hk;rw[hkt]at hk';obtain⟨elem,i,z,rfl,_,_,_,_,_,_,_,hu⟩:=hk;cases hk';have hxr:Ag F ρ (unG (Ai st.env x)) (a.eval x):=BH rfl _ hgob _ (List.mem_map_of_mem (by rw[hop];simp[Op.operands])) _ (AJ hSl x);obtain⟨v,hr,hv⟩:=Jc1 (P:=P) (objs:=st.objs) hS (λ _ _ h=>h) hd (hu rfl) hd' hel hob hby hxr;have hr:(execOp a.eval o).run P w=.ok (.value v) w:=by
  simp only[execOp,hop,JiF,hr,JiD,JiG]
 unfold Oper.wp;rw[hr,Oper.upon_value];exact hK _ _ ⟨F,ρ,hS,hSl.putA hn hdst hv,hn.put hdst,by rw[put_defers];exact hdf⟩
def nxV (Γ:Cx) (c:Code) (i:Nat) (g:Bool) (z:List UInt8) (s:St):Option St:=
 match (AW c)[i]? with
 | some o=>bif Jd3 Γ c o then some ⟨putA o.dst o.guard.isSome g (.d (.str z)) s.env,s.objs⟩else none
 | none=>none
def cvA (Γ:Cx) (c:Code) (i:Nat) (s:St):Option (AV×Nat):=
 match (AW c)[i]? with
 | some o=>match o.op with
  | .convert a b x=>match (Γ.ty a).kind,(Γ.ty b).kind with
   | .slice 1 eb [.int .u8 0],.string=>bif (Γ.ty a).ok&&(Γ.ty b).ok then some (unG (Ai s.env x),eb)else none
   | _,_=>none
  | _=>none
 | none=>none
theorem xv {Γ:Cx} {P:Program} {C:Code} {p:List Nat} {Q:Ex->St->Prop} {i:Nat} (hX:XOK P Γ) {g:Bool} (hgt:g=true) {gs:List Bool} (hi:D3 g gs) (k:Nat) {bs:List Int} {z:List UInt8} (hz:S2 bs=some z) (hk:RF Γ C p (i+1) Q ((nxV Γ (nav p C) i g z s).getD s)) (hg:gY (nav p C) i s=some g:=by kernel_rfl) (hgs:Eo (nav p C) i s=gs:=by kernel_rfl)
  (hc:(cvA Γ (nav p C) i s).map Prod.fst=some (.osl k 1 0 bs.length):=by kernel_rfl) (ho:MY s k=some (1,bs.map λ n=>[D.int .u8 n]):=by kernel_rfl) (hn:(nxV Γ (nav p C) i g z s).isSome=true:=by kernel_rfl):RF Γ C p i Q s:=by
 have hn:=Br (d:=s) hn;generalize (nxV Γ (nav p C) i g z s).getD s=s' at hn hk;obtain⟨⟨u,eb⟩,hc,hu⟩:=Ji1.1 hc;cases hu;unfold cvA at hc;unfold nxV at hn;split at hn
 ·rename_i o hoo;rw[hoo]at hc;simp only at hc;obtain⟨h0,hn⟩:=AA hn;cases hn;split at hc
  ·rename_i a b x hop;split at hc
   ·rename_i eb' hka hkb;obtain⟨h1,hc⟩:=AA hc;simp only[JiZ]at h1;simp only[Ji8,Prod.mk.injEq]at hc;obtain⟨hcx,rfl⟩:=hc;have hgob:Ej true (o.op.operands.toList.map (Ai s.env)):=by
     subst hgs;unfold Eo at hi;rw[hoo]at hi;rw[← hgt];exact I5 hi
    unfold S2 at hz;split at hz
    ·rename_i hall;cases hz;simp only[JiI,JiZ,decide_eq_true_eq]at hall;have hby:∀ e∈bs.map λ n=>[D.int .u8 n],LO e:=λ e he=>by
      simp only[JiQ]at he;obtain⟨n,hn,rfl⟩:=he;obtain⟨q1,q2⟩:=hall n hn;refine⟨UInt8.ofNat n.toNat,?_⟩;have:(UInt8.ofNat n.toNat).toNat=n.toNat:=by simp;omega
      rw[this];congr 2;omega
     have hmap:(bs.map λ n=>[D.int .u8 n]).map Kr=bs.map λ n=>UInt8.ofNat n.toNat:=by
      rw[List.map_map];rfl
     have hel:EO s.objs (unG (Ai s.env x))=some (bs.map λ n=>[D.int .u8 n],0+bs.length<=(bs.map λ n=>[D.int .u8 n]).length):=by
      rw[hcx];simp only[EO,Lf ho,Nat.beq_refl,cond_true];rw[F6]
     have:=Y6 (P:=P) (Γ:=Γ.ty) (nt:=Γ.nt) (o:=o) (st:=s) hX.ty hop h1.1 h1.2 hka hkb hgob hel (by simp) hby
     rw[hmap]at this;exact Xb hX hoo h0 hg hgt (Y4 (this.ok (by rw[hop];rfl))) hk
    ·cases hz
   ·cases hc
  ·cases hc
 ·cases hn
end Go.AI
end
section
namespace Go.AI
variable {Γ:Cx} {C:Code} {p:List Nat} {Q:Ex->St->Prop} {s s':St} {K:St->Prop} {i:Nat} {nk:Nat}
variable {α β ζ:Type}
def xX {σ:Type} (nk k:Nat) (st:σ->St):σ->Ex->St->Prop:=λ y e s=>e=Ex.exit k/\An nk s (st y)
def xR {σ:Type} (ty:Nat->Ty) (fn:Func) (r:σ->AV):σ->Ex->St->Prop:=λ y e s=>e=Ex.ret/\RA ty fn.results.toList (r y) s
def xL {σ:Type} (nk:Nat) (ty:Nat->Ty) (fn:Func) (r:σ->AV) (O:σ->List (Option Ob)):σ->Ex->St->Prop:=λ y e s=>e=Ex.ret/\RL nk ty fn.results.toList (r y) (O y) s
def xS {σ τ:Type} (a:σ->Ex->St->Prop) (b:τ->Ex->St->Prop):σ⊕τ->Ex->St->Prop
 | .inl y=>a y
 | .inr y=>b y
variable {σ ρ τ:Type} {st:σ->St} {E:ρ->Ex->St->Prop}
theorem xo {r:ρ} {k nk':Nat} {st':τ->St} {y:τ} (hE:E r=xX nk' k st' y) (h:An nk' s (st' y)):PQ (AT nk st E (.inr r)) (.exit k) s:=oe (by rw[hE];exact⟨rfl,h⟩)
theorem ro {r:ρ} {ty:Nat->Ty} {fn:Func} {f:τ->AV} {y:τ} (hE:E r=xR ty fn f y) (h:RA ty fn.results.toList (f y) s):PQ (AT nk st E (.inr r)) .ret s:=or (by rw[hE];exact⟨rfl,h⟩)
theorem lo {r:ρ} {nk':Nat} {ty:Nat->Ty} {fn:Func} {f:τ->AV} {O:τ->List (Option Ob)} {y:τ} (hE:E r=xL nk' ty fn f O y) (h:RL nk' ty fn.results.toList (f y) (O y) s):PQ (AT nk st E (.inr r)) .ret s:=or (by rw[hE];exact⟨rfl,h⟩)
theorem lX {body:σ->Option (σ⊕ρ)} {n:Nat} {x:σ} {r:ρ} {k nk':Nat} {st':τ->St} {y:τ} (hb:∀ x z,body x=some z->WP Γ C (p++[0]) (AT nk' st E z) (st x)) (hr:whl body n x=some r) (hs:An nk' s (st x)) (hE:E r=xX nk' k st' y)
  (hk:∀ s,An nk' s (st' y)->PQ Q (.exit k) s) (hn:Γ.nt.nk=nk':=by rfl) (h:Ma (nav p C)=true:=by kernel_rfl):WP Γ C p Q s:=by
 subst hn;exact lp st E hr hs hb (λ e s he=>by rw[hE]at he;obtain⟨rfl,he⟩:=he;exact hk s he) h
theorem lR {body:σ->Option (σ⊕ρ)} {n:Nat} {x:σ} {r:ρ} {nk':Nat} {ty:Nat->Ty} {fn:Func} {f:τ->AV} {y:τ} (hb:∀ x z,body x=some z->WP Γ C (p++[0]) (AT nk' st E z) (st x)) (hr:whl body n x=some r) (hs:An nk' s (st x)) (hE:E r=xR ty fn f y)
  (hk:∀ s,RA ty fn.results.toList (f y) s->PQ Q .ret s) (hn:Γ.nt.nk=nk':=by rfl) (h:Ma (nav p C)=true:=by kernel_rfl):WP Γ C p Q s:=by
 subst hn;exact lp st E hr hs hb (λ e s he=>by rw[hE]at he;obtain⟨rfl,he⟩:=he;exact hk s he) h
theorem lL {body:σ->Option (σ⊕ρ)} {n:Nat} {x:σ} {r:ρ} {nk' nk2:Nat} {ty:Nat->Ty} {fn:Func} {f:τ->AV} {O:τ->List (Option Ob)} {y:τ} (hb:∀ x z,body x=some z->WP Γ C (p++[0]) (AT nk' st E z) (st x)) (hr:whl body n x=some r) (hs:An nk' s (st x)) (hE:E r=xL nk2 ty fn f O y)
  (hk:∀ s,RL nk2 ty fn.results.toList (f y) (O y) s->PQ Q .ret s) (hn:Γ.nt.nk=nk':=by rfl) (h:Ma (nav p C)=true:=by kernel_rfl):WP Γ C p Q s:=by
 subst hn;exact lp st E hr hs hb (λ e s he=>by rw[hE]at he;obtain⟨rfl,he⟩:=he;exact hk s he) h
def g0 (c:Code) (i:Nat) (s:St):Bool:=(gAt c i s).getD false
theorem sE {g:Bool} {v:AV} {obs:List Ob} {x:Option Eff} (ho:g=true->EH s x v obs [] none) (hk:RF Γ C p (i+1) Q ((I6 Γ (nav p C) i g v obs s).getD s)) (hg:gAt (nav p C) i s=some g:=by kernel_rfl) (hx:L9 Γ (nav p C) i s=x:=by kernel_rfl) (hgs:Eo (nav p C) i s=List.replicate (Eo (nav p C) i s).length g:=by kernel_rfl) (hn:(I6 Γ (nav p C) i g v obs s).isSome=true:=by kernel_rfl):RF Γ C p i Q s:=
 sG (gs:=Eo (nav p C) i s) ho (Qr λ b hb=>by rw[hgs]at hb;exact List.eq_of_mem_replicate hb) hk hg hx rfl hn
theorem oi {a z:ζ} (h:some a=some z):a=z:=Option.some.inj h
theorem lsS (xs:List α) (n:Nat) (y:α):xs.length=(xs.set n y).length:=List.length_set.symm
theorem tr {s1 s2 s3:St} (h:An nk s1 s2) (h':An nk s2 s3):An nk s1 s3:=An.trans h h'
theorem sg (ts:List Nat) (h:gcA nk ts s=s':=by kernel_rfl):An nk s s':=Jc4 ts h
theorem gP (ts ord:List Nat) {raw:List (Option Ob)} (hp:Pl (HU ord) raw s'.objs) (h:gcA nk ts s=⟨s'.env,raw⟩:=by kernel_rfl):An nk s s':=JdW ts ord hp h
theorem sn (t k sz:Nat) {n m:Nat} (e:n=m) (h:lkA s.env t=.osl k sz 0 n:=by kernel_rfl):An nk s ⟨(t,.osl k sz 0 m)::s.env,s.objs⟩:=JdK t k sz 0 n m h e
theorem snc (b i k sz:Nat) {n m:Nat} (e:n=m) (h:(Ke s b,(Ep s b)[i]?)=(true,some (.osl k sz 0 n)):=by kernel_rfl):An nk s ⟨s.env,s.objs.set b (some (.box ((Ep s b).set i (.osl k sz 0 m))))⟩:=Jce b i k sz n m h e
theorem so1 {encN:α->List AV} (k sz:Nat) {xss:List α} {x:α} {n:Int} (hx:idx xss n=some x) (h:DH s k=some (sz,xss.map encN):=by kernel_rfl):An nk s ⟨s.env,s.objs.set k (some (.narr sz ((xss.map encN).set n.toNat (encN x))))⟩:=Jc7 k h hx
theorem fz {enc:α->List D} {xs:List α} (t k sz:Nat) (h:MX s (lkA s.env t)=some (k,sz,0,xs.length,xs.map enc):=by kernel_rfl):An nk s ⟨(t,.d (.sl (xs.map enc)))::s.env,s.objs.set k none⟩:=JdJ t _ h F6 (by simp)
theorem fzc {enc:α->List D} {xs:List α} (kb i k sz:Nat) (h:(Ke s kb,((Ep s kb)[i]?).bind (MX s))=(true,some (k,sz,0,xs.length,xs.map enc)):=by kernel_rfl):An nk s ⟨s.env,(s.objs.set k none).set kb (some (.box ((Ep s kb).set i (.d (.sl (xs.map enc))))))⟩:=JbX kb i _ h F6 (by simp)
theorem sni {encN:α->List AV} {xs:List α} {n:Int} {enc:β->List D} (row:List AV) (zs:List β) (sz k j m isz:Nat) (h:(DH s k,MY s m)=(some (sz,(xs.map encN).set n.toNat row),some (isz,zs.map enc)):=by kernel_rfl) (hj:row[j]?=some (.osl m isz 0 zs.length):=by kernel_rfl) :
  An nk s ⟨s.env,(s.objs.set m none).set k (some (.narr sz ((xs.map encN).set n.toNat (row.set j (.own isz (zs.map enc))))))⟩:=Jcd k j m isz _ h hj rfl
theorem sno {encN:α->List AV} {xss:List α} {x:α} {n:Int} {enc:β->List D} (hx:idx xss n=some x) (row:List AV) (ys:List β) (sz k j isz:Nat) (h:DH s k=some (sz,(xss.map encN).set n.toNat row):=by kernel_rfl) (hj:row[j]?=some (.own isz (ys.map enc)):=by kernel_rfl) (hz:Nat.beq isz 0=false:=by kernel_rfl) :
  An nk s ⟨s.env,s.objs.set k (some (.narr sz ((xss.map encN).set n.toNat (row.set j (.osl s.objs.length isz 0 ys.length)))))++[some (.arr isz (ys.map enc))]⟩:=Jcb k j isz _ (ltN hx) h hj rfl hz
theorem scl {encN:α->List AV} {xss:List α} (n:Int) (row:List AV) (sz k:Nat) (y:α) (h:DH s k=some (sz,(xss.map encN).set n.toNat row):=by kernel_rfl) (hy:row=encN y:=by kernel_rfl):An nk s ⟨s.env,s.objs.set k (some (.narr sz ((xss.set n.toNat y).map encN)))⟩:=JdX k y h hy
theorem po1 {f:AV->AV} {o:Option Ob} {l m:List (Option Ob)} (h:Pl f l m):Pl f (o::l) (o::m):=Pl.o o h
theorem pn1 {f:AV->AV} (encN:α->List AV) (xss:List α) {sz:Nat} {l m:List (Option Ob)} (h:Pl f l m) (hc:∀ x,(encN x).map f=encN x:=by first|(intro _;rfl)|(rintro⟨_|_,_⟩<;>rfl)|(rintro (_|⟨_|_,_⟩)<;>rfl)):Pl f (some (.narr sz ((xss.map encN).map λ e=>e.map f))::l) (some (.narr sz (xss.map encN))::m):=Pl.n sz (nrM hc) h
attribute [irreducible] xL
end Go.AI
end
section
namespace Go.AI
variable {α ε σ ρ ζ ξ:Type}
open Classical in
noncomputable def dem (S:α->Prop) (k:α->Option ζ):Option ζ:=if h:∃ z,(∃ a,S a)/\∀ a,S a->k a=some z then some h.choose else none
theorem Rv {S:α->Prop} {k:α->Option ζ} {z:ζ} (h:dem S k=some z):∀ a,S a->k a=some z:=by
 unfold dem at h;split at h
 ·rename_i hx;cases h;exact hx.choose_spec.2
 ·cases h
theorem Y7 {S:α->Prop} {k:α->Option ζ} {z:ζ} (h0:∃ a,S a) (h:∀ a,S a->k a=some z):dem S k=some z:=by
 have hx:∃ z,(∃ a,S a)/\∀ a,S a->k a=some z:=⟨z,h0,h⟩;unfold dem;rw[dif_pos hx];obtain⟨a,ha⟩:=h0;have h1:=hx.choose_spec.2 a ha;rw[h a ha]at h1;exact h1.symm
def mapW (F:ε->σ->Option (σ⊕ρ)):List ε->σ->Option (σ⊕ρ)
 | [],x=>some (.inl x)
 | e::l,x=>match F e x with
  | none=>none
  | some (.inl y)=>mapW F l y
  | some (.inr r)=>some (.inr r)
theorem Xh {F:ε->σ->Option (σ⊕ρ)} {e:ε} {l:List ε} {x:σ} {z:σ⊕ρ} (h:mapW F (e::l) x=some z):∃ y,F e x=some y:=by
 unfold mapW at h;split at h
 ·cases h
 ·rename_i y hy;exact⟨_,hy⟩
 ·rename_i y hy;exact⟨_,hy⟩
end Go.AI
end
section
namespace Go.AI
variable {P:Program} {Γ:Cx} {C:Code} {p:List Nat} {Q:Ex->St->Prop} {s s':St} {K:St->Prop} {i nk:Nat}
variable {α β ζ ε σ ρ τ:Type}
theorem bE {X:Option ζ} {G:Prop} (h:∃ z,X=some z) (k:∀ z,X=some z->G):G:=by obtain⟨z,h⟩:=h;exact k z h
theorem Jd6 {l l1 l2:List ε} {e:ε} (h:l=l1++e::l2):e∈l:=by subst h;simp
def ndQ (Γ:Cx) (c:Code) (i:Nat) (Q:Ex->St->Prop):Ex->St->Prop:=λ _ s=>∃ o,(AW c)[i]?=some o/\Jgc Γ o (λ s'=>Gs Γ false (AW c) ((AW c).drop (i+1)) (Q .normal) s') s
structure ND (Γ:Cx) (c:Code) (i:Nat) (Q:Ex->St->Prop) (s:St):Prop where
 out:ndQ Γ c i Q .normal s
theorem Xi {m:Nat} {ops:List Oper}:∀ (l:List Oper) (Q:St->Prop) (s:St),Gs Γ false (ops.take m) l Q s->Gs Γ false ops l Q s:=by
 intro l;induction l with
 | nil=>intro Q s h;exact h
 | cons o l ih=>intro Q s h;exact F5 (ih Q) (OK h)
theorem rn (m:Nat) (hs:An Γ.nt.nk s s') (hk:RF Γ (Fw m (nav p C)) [] 0 (ndQ Γ (nav p C) m (Rk C p s' Q)) s') (h:(I4 (nav p C)&&!J0 (nav p C))=true:=by kernel_rfl):WP Γ C p Q s:=by
 refine⟨?_⟩;have hk:=hk.out;unfold AS at hk;simp only[nav,List.drop_zero]at hk;unfold Rk at hk;generalize nav p C=c at *;cases c with
 | region id ops d=>
  simp only[I4,J0,Bool.true_and,Bool.not_eq_true']at h;subst h;refine⟨s',hs,.inr (.inr ⟨rfl,?_⟩)⟩;have hk:Gs Γ false (ops.toList.take m) (ops.toList.take m) _ s':=hk;have hk:=Xi _ _ _ hk;by_cases hm:m<ops.toList.length
  ·refine⟨m,ops.toList[m],JiY hm,D8 (λ s1 h1=>?_) _ _ hk⟩;obtain⟨o,ho,h1⟩:=h1;rw[show AW (.region id ops false)=ops.toList from rfl,JiY hm]at ho;cases ho;obtain⟨q1,q2,S,q3,q4⟩:=h1;exact⟨q1,q2,S,q3,λ st' hst=>D8 (λ s2 h2=>h2.2) _ _ (q4 st' hst)⟩
  ·exfalso;obtain⟨S,_,_,hQS⟩:=EU _ _ _ hk;obtain⟨o,ho,_⟩:=hQS;rw[show AW (.region id ops false)=ops.toList from rfl,Jjj (by omega)]at ho;cases ho
 | _=>cases h
theorem nd0 {c:Code} {m:Nat} (hk:ND Γ c m Q s) (hi:Nat.ble (AW (Fw m c)).length i=true:=by kernel_rfl):RF Γ (Fw m c) [] i (ndQ Γ c m Q) s:=⟨L8 i hi hk.out⟩
structure YOK (P:Program) (Γ:Cx):Prop where
 exn:Γ.exn=LY P
def Y8 (Γ:Cx) (c:Code) (o:Oper):Bool:=!J0 c&&o.guard.isNone&&Bv Γ.nt o.dst
theorem Ta (hY:YOK P Γ) {o:Oper} {S:St->Prop} (ho:(AW (nav p C))[i]?=some o) (h0:Y8 Γ (nav p C) o=true) (hx:LY P Γ.nt o s S) (hk:∀ s',S s'->RF Γ C p (i+1) Q s'):ND Γ (nav p C) i Q s:=by
 simp only[Y8,JiZ,Bool.not_eq_true']at h0;obtain⟨⟨h1,h2⟩,h3⟩:=h0;refine⟨o,ho,by simpa using h2,h3,S,by rw[hY.exn];exact hx,λ s' hs=>?_⟩;have:=(hk s' hs).out;unfold AS at this;rw[h1]at this;exact this
def Jgy (objs:List (Option Ob)) (k:Nat):Option (Bool×Bool×List (List D×List D)):=match obA objs k with
 | some (.iter ka va _ l)=>some (ka,va,l)
 | _=>none
def itB (Γ:Cx) (c:Code) (i k:Nat) (s:St):Bool:=match (AW c)[i]? with
 | some o=>Y8 Γ c o&&(match o.op with
  | .next x b=>!b&&(match Ai s.env x with
   | .ptr k' off=>Nat.beq k' k&&Nat.beq off 0
   | _=>false)
  | _=>false)
 | none=>false
def itD (c:Code) (i:Nat):Option Tmp:=match (AW c)[i]? with
 | some o=>o.dst
 | none=>none
theorem nxt (hY:YOK P Γ) (k:Nat) {κ:Type} {encK:κ->List D} {enc:α->List D} {ka va:Bool} {m:List (κ×α)} (h0:m=[]->RF Γ C p (i+1) Q ⟨putA (itD (nav p C) i) false true (.tup [.d (.bool false)]) s.env,s.objs⟩)
  (h1:∀ e m1 m2,m=m1++e::m2->RF Γ C p (i+1) Q ⟨putA (itD (nav p C) i) false true (.tup [.d (.bool true),.top,.top]) s.env,s.objs.set k (some (.iter ka va (some (encK e.1,enc e.2)) (Bp encK enc (m1++m2))))⟩)
  (hb:itB Γ (nav p C) i k s=true:=by kernel_rfl) (hm:Jgy s.objs k=some (ka,va,Bp encK enc m):=by kernel_rfl):ND Γ (nav p C) i Q s:=by
 unfold itB at hb;unfold itD at h0 h1;unfold Jgy at hm;split at hb
 ·rename_i o ho;rw[ho]at h0 h1;simp only[JiZ]at hb;obtain⟨hb1,hb2⟩:=hb;split at hb2
  ·rename_i x b hop;simp only[JiZ,Bool.not_eq_true']at hb2;obtain⟨rfl,hb2⟩:=hb2;split at hb2
   ·rename_i k' off hx;simp only[JiZ]at hb2;have e1:=Ji5 hb2.1;have e2:=Ji5 hb2.2;subst e1;subst e2;split at hm
    ·rename_i ka' va' cur l hob;cases hm;refine Ta hY ho hb1 (Y5 hop hx hob) λ s' hs=>?_;rcases hs with⟨hl,rfl⟩|⟨l1,e,l2,hl,rfl⟩
     ·refine h0 ?_;cases m with
      | nil=>rfl
      | cons _ _=>cases hl
     ·obtain⟨m1,r,hm1,rfl,hr⟩:=List.map_eq_append_iff.1 (show Bp encK enc m=l1++e::l2 from hl);obtain⟨e',m2,rfl,rfl,rfl⟩:=List.map_eq_cons_iff.1 hr;have:=h1 e' m1 m2 hm1;unfold Bp at this;rw[List.map_append]at this;exact this
    ·cases hm
   ·cases hb2
  ·cases hb2
 ·cases hb
def nxR (Γ:Cx) (c:Code) (i:Nat) (s:St):Option St:=match (AW c)[i]? with
 | some o=>bif UQ Γ c o then(match o.op with
  | .range t x=>bif (Γ.ty t).ok then(match (Γ.ty t).kind,Ai s.env x with
   | .map _ _ _ _,.mp k=>match obA s.objs k with
    | some (.map ka va ents)=>some ⟨putA o.dst false true (.ptr s.objs.length 0) s.env,s.objs.set k none++[some (.iter ka va none ents)]⟩
    | _=>none
   | .map _ _ _ _,.fmp E=>some ⟨putA o.dst false true (.ptr s.objs.length 0) s.env,s.objs++[some (.iter false false none (Nc E))]⟩
   | _,_=>none)else none
  | .entry x=>match Ai s.env x with
   | .ptr k 0=>match obA s.objs k with
    | some (.iter ka va (some e) _)=>some ⟨putA o.dst false true (.tup [kvV ka e.1,kvV va e.2]) s.env,s.objs⟩
    | _=>none
   | _=>none
  | _=>none)else none
 | none=>none
theorem xr (hX:XOK P Γ) (hk:RF Γ C p (i+1) Q ((nxR Γ (nav p C) i s).getD s)) (h:(nxR Γ (nav p C) i s).isSome=true:=by kernel_rfl):RF Γ C p i Q s:=by
 have h:=Br (d:=s) h;generalize (nxR Γ (nav p C) i s).getD s=s' at h hk;unfold nxR at h;split at h
 ·rename_i o ho;obtain⟨h0,h⟩:=AA h;split at h
  ·rename_i t x hop;obtain⟨h1,h⟩:=AA h;split at h
   ·rename_i ks ka' va' vz k hkd hx;split at h
    ·rename_i ka va ents hob;cases h;exact Fj hX ho h0 (Xd hX.ty hop h1 hkd hx hob) hk
    ·cases h
   ·rename_i ks ka' va' vz E hkd hx;cases h;exact Fj hX ho h0 (UV hX.ty hop h1 hkd hx) hk
   ·cases h
  ·rename_i x hop;split at h
   ·rename_i k hx;split at h
    ·rename_i ka va e l hob;cases h;exact Fj hX ho h0 (Xe hop hx hob) hk
    ·cases h
   ·cases h
  ·cases h
 ·cases h
theorem cT (hk:WP Γ C (p++[0]) Q s) (h:Rr (nav p C)=true:=by kernel_rfl) (hc:Ai s.env (L7 (nav p C))=.d (.bool true):=by kernel_rfl):WP Γ C p Q s:=⟨Rj true (OI h) hc (λ _=>hk.out) (λ e=>by cases e)⟩
theorem cF (hk:WP Γ C (p++[1]) Q s) (h:Rr (nav p C)=true:=by kernel_rfl) (hc:Ai s.env (L7 (nav p C))=.d (.bool false):=by kernel_rfl):WP Γ C p Q s:=⟨Rj false (OI h) hc (λ e=>by cases e) (λ _=>hk.out)⟩
def Xj (nk:Nat) (st:List ε->σ->St) (E0:σ->Ex->St->Prop) (E:ρ->Ex->St->Prop) (F:ε->σ->Option (σ⊕ρ)) (l:List ε) (x:σ):Ex->St->Prop
 | .normal,s=>∃ l1 e l2 y,l=l1++e::l2/\F e x=some (.inl y)/\An nk s (st (l1++l2) y)
 | ex,s=>(l=[]/\E0 x ex s)\/∃ l1 e l2 r,l=l1++e::l2/\F e x=some (.inr r)/\E r ex s
theorem mg {st:List ε->σ->St} {E0:σ->Ex->St->Prop} {E:ρ->Ex->St->Prop} {F:ε->σ->Option (σ⊕ρ)} {l l1 l2:List ε} {e:ε} {x y:σ} (hl:l=l1++e::l2) (hF:F e x=some (.inl y)) (h:An nk s (st (l1++l2) y)):PQ (Xj nk st E0 E F l x) .normal s:=⟨⟨l1,e,l2,y,hl,hF,h⟩⟩
theorem mE {st:List ε->σ->St} {E0:σ->Ex->St->Prop} {E:ρ->Ex->St->Prop} {F:ε->σ->Option (σ⊕ρ)} {l:List ε} {x:σ} {k nk':Nat} {st':τ->St} {y:τ} (hl:l=[]) (hE:E0 x=xX nk' k st' y) (h:An nk' s (st' y)):PQ (Xj nk st E0 E F l x) (.exit k) s:=⟨.inl ⟨hl,by rw[hE];exact⟨rfl,h⟩⟩⟩
theorem Y9 {F:ε->σ->Option (σ⊕ρ)} {e:ε} {x y:σ} {done:List ε} (h:∀ rest,mapW F (done++rest) x=mapW F rest y) {y':σ} (hF:F e y=some (.inl y')):∀ rest,mapW F ((done++[e])++rest) x=mapW F rest y':=λ rest=>by
 rw[List.append_assoc,List.singleton_append,h];simp only[mapW,hF]
theorem lM {F:ε->σ->Option (σ⊕ρ)} {st:List ε->σ->St} {E0:σ->Ex->St->Prop} {E:ρ->Ex->St->Prop} {l:List ε} {x:σ} {nk':Nat} (hb:∀ l x,(∀ e,e∈l->∃ z,F e x=some z)->WP Γ C (p++[0]) (Xj nk' st E0 E F l x) (st l x)) (hs:An nk' s (st l x))
  (hr:∀ ord,ord.Perm l->∃ r,mapW F ord x=some r) (hE0:∀ ord y,ord.Perm l->mapW F ord x=some (.inl y)->∀ e s,E0 y e s->PQ Q e s) (hE:∀ ord r,ord.Perm l->mapW F ord x=some (.inr r)->∀ e s,E r e s->PQ Q e s)
  (hn:Γ.nt.nk=nk':=by rfl) (h:Ma (nav p C)=true:=by kernel_rfl):WP Γ C p Q s:=by
 subst hn;refine⟨?_⟩;rw[S6 h];refine⟨λ m s=>∃ done l' y,s=st l' y/\(done++l').Perm l/\(∀ rest,mapW F (done++rest) x=mapW F rest y)/\m=l'.length,l.length,⟨_,hs,[],l,x,rfl,List.Perm.refl _,λ _=>rfl,rfl⟩,?_⟩;rintro m _ ⟨done,l',y,rfl,hp,hd,rfl⟩;have hdef:∀ e,e∈l'->∃ z,F e y=some z:=λ e he=>by
  obtain⟨l1,l2,rfl⟩:=List.append_of_mem he;obtain⟨r,hr⟩:=hr (done++e::(l1++l2)) ((List.Perm.append_left done List.perm_middle.symm).trans hp);rw[hd]at hr;exact Xh hr
 refine Ox ?_ (hb l' y hdef).out;intro e s' hq;cases e with
 | normal=>
  obtain⟨l1,e,l2,y',rfl,hF,hsh⟩:=hq;refine⟨(l1++l2).length,_,by simp,hsh,done++[e],l1++l2,y',rfl,?_,Y9 hd hF,rfl⟩;rw[List.append_assoc,List.singleton_append];exact(List.Perm.append_left done List.perm_middle.symm).trans hp
 | exit k=>
  rcases hq with⟨rfl,hq⟩|⟨l1,e,l2,r,rfl,hF,hq⟩
  ·rw[List.append_nil]at hp;have hm:mapW F done x=some (.inl y):=by have:=hd [];rw[List.append_nil]at this;rw[this];rfl
   exact(hE0 done y hp hm _ _ hq).out
  ·have hm:mapW F (done++e::(l1++l2)) x=some (.inr r):=by rw[hd];simp only[mapW,hF]
   exact(hE _ r ((List.Perm.append_left done List.perm_middle.symm).trans hp) hm _ _ hq).out
 | ret=>
  rcases hq with⟨rfl,hq⟩|⟨l1,e,l2,r,rfl,hF,hq⟩
  ·rw[List.append_nil]at hp;have hm:mapW F done x=some (.inl y):=by have:=hd [];rw[List.append_nil]at this;rw[this];rfl
   exact(hE0 done y hp hm _ _ hq).out
  ·have hm:mapW F (done++e::(l1++l2)) x=some (.inr r):=by rw[hd];simp only[mapW,hF]
   exact(hE _ r ((List.Perm.append_left done List.perm_middle.symm).trans hp) hm _ _ hq).out
theorem bI {x:Option α} {f:α->Option β} {r:β} (h:x.bind f=some r):∃ a,x=some a:=by
 cases x with
 | none=>cases h
 | some a=>exact⟨a,rfl⟩
theorem bK {x:Option α} {f:α->Option β} {r:β} {a:α} (h:x.bind f=some r) (hx:x=some a):f a=some r:=by subst hx;exact h
theorem xQ {nk' k:Nat} {st':τ->St} {y:τ} {e:Ex} {G:Prop} (h:xX nk' k st' y e s) (hk:e=.exit k->An nk' s (st' y)->G):G:=hk h.1 h.2
def Li (s:St) (k:Nat):Option St:=match obA s.objs k with
 | some (.iter ka va _ l)=>some ⟨s.env,s.objs.set k (some (.iter ka va none l))⟩
 | _=>none
theorem VR (k:Nat) (h:(Li s k).isSome=true:=by kernel_rfl):An nk s ((Li s k).getD s):=by
 have h:=Br (d:=s) h;generalize (Li s k).getD s=s' at h;unfold Li at h;split at h
 ·rename_i ka va cur l hob;cases h;refine An.sem λ _ _ _ _ _ _ _ _ hI=>?_;obtain⟨F,ρ,hS,hrest⟩:=hI;refine⟨F,ρ,hS.reob hob (λ L hr=>?_) (λ sz es he=>by cases he),hrest⟩;obtain⟨h1,bm,es,clock,since,seen,c0,q1,q2,q3,q4,q4',q5,q6,_⟩:=hr;exact⟨h1,bm,es,clock,since,seen,c0,q1,q2,q3,q4,q4',q5,q6,λ p hp=>by cases hp⟩
 ·cases h
def JhP (Z:ζ->Prop) (r1:ζ->AV) (O1:ζ->List (Option Ob)):AV->List (Option Ob)->Prop:=λ r O=>∃ y,Z y/\r=r1 y/\O=O1 y
def nxN (Γ:Cx) (c:Code) (i:Nat) (ord:List Nat) (nb:Nat) (r:AV) (O1:List (Option Ob)) (s:St):Option St:=
 match (AW c)[i]? with
 | some o=>bif Y8 Γ c o&&Nat.ble nb ord.length&&Nat.ble nb O1.length&&ord.all (λ k=>Nat.blt k s.objs.length)then
   some ⟨putA o.dst false true (IS (Cw ord s.objs.length nb) r) s.env,Cy s.objs ord nb O1⟩else none
 | none=>none
theorem nc (hY:YOK P Γ) (ord:List Nat) {f:FuncId} {ys:List AV} {O0 raw0:List (Option Ob)} {nb:Nat} {Z:ζ->Prop} {r1:ζ->AV} {O1:ζ->List (Option Ob)} (hr:GC P f ys O0 nb (JhP Z r1 O1)) (hp0:raw0=O0)
  (hk:∀ y,Z y->RF Γ C p (i+1) Q ((nxN Γ (nav p C) i ord nb (r1 y) (O1 y) s).getD s)) (hg:Eo (nav p C) i s=[]:=by kernel_rfl)
  (hc:PG (nav p C) i s=some ((some f,((PG (nav p C) i s).getD ((none,[]),[])).1.2),ord):=by kernel_rfl) (hxs:((PG (nav p C) i s).getD ((none,[]),[])).1.2.map (G0 ord)=ys:=by kernel_rfl) (hO:DN s.objs ord=raw0:=by kernel_rfl)
  (hn:∀ y,(nxN Γ (nav p C) i ord nb (r1 y) (O1 y) s).isSome=true:=by intro y;kernel_rfl) (hb:Nat.ble nb ord.length=true:=by kernel_rfl) (hb2:ord.all (λ k=>Nat.blt k s.objs.length)=true:=by kernel_rfl) (h0:((AW (nav p C))[i]?.map (Y8 Γ (nav p C)))=some true:=by kernel_rfl):ND Γ (nav p C) i Q s:=by
 generalize ((PG (nav p C) i s).getD ((none,[]),[])).1.2=zs at hc hxs;subst hp0;unfold PG at hc;split at hc
 ·rename_i o ho;rw[ho]at h0;simp only[Option.map_some,Ji8]at h0;simp only[Ji8,Prod.mk.injEq]at hc;obtain⟨hc,hord⟩:=hc;rw[hc]at hord;simp only at hord;subst hord;subst hxs;subst hO;have hgob:Ej true (o.op.operands.toList.map (Ai s.env)):=by
   refine I5 (g:=true) ?_;unfold Eo at hg;rw[ho]at hg;simp only at hg;rw[hg];exact Kw
  have hall:∀ y,Nat.ble nb (O1 y).length=true:=λ y=>by
   have:=hn y;unfold nxN at this;rw[ho]at this;simp only at this;cases hb3:Nat.ble nb (O1 y).length with
   | true=>rfl
   | false=>rw[hb3]at this;simp at this
  refine Ta hY ho h0 (Xf hgob hc hr (Jjd hb) (λ r O hR=>?_) λ k hk=>?_) λ s' hs=>?_
  ·obtain⟨y,_,_,rfl⟩:=hR;exact Jjd (hall y)
  ·exact Jjd (JiI.1 hb2 k hk)
  ·obtain⟨r,O,⟨y,hy,rfl,rfl⟩,rfl⟩:=hs;have h:=hk y hy;have e:nxN Γ (nav p C) i (As s.objs zs) nb (r1 y) (O1 y) s=some ⟨putA o.dst false true (IS (Cw (As s.objs zs) s.objs.length nb) (r1 y)) s.env,Cy s.objs (As s.objs zs) nb (O1 y)⟩:=by
    unfold nxN;rw[ho];simp only[h0,hb,hall y,hb2,Bool.and_self,cond_true]
   rw[e]at h;exact h
 ·cases hc
end Go.AI
end
section
namespace Go.AI
open Go.Shelf Go.Proofs
theorem Xk {P:Program} {ρs:Ren} (L:Lays.n106 P ρs) (hf:∃ fn c,P.funcs[ρs.f 106]? = some fn/\fn.body=some c/\(fn.name == "runtime.NumGoroutine")=false) {a b:List UInt8} {z:Int} (h:some (Lib.compareBytes a b)=some z):AN P (ρs.f 106) [.d (.str a),.d (.str b)] (.d (.int .i64 z)):=by
 cases h;refine⟨hf,λ F w vs hA hF=>?_⟩;obtain⟨hl,hA⟩:=hA;obtain⟨vs⟩:=vs
 match vs,hl with
 | [x,y],_=>
  have h1:=hA 0 _ _ rfl rfl;have h2:=hA 1 _ _ rfl rfl;cases h1 with
  | d _ _ h1=>
   cases h1;cases h2 with
   | d _ _ h2=>
    cases h2;refine(Any.strings_Compare L ⟨a.toArray⟩ ⟨b.toArray⟩ w).mono ?_;rintro e w' ⟨rfl,rfl⟩;exact⟨_,F,noR,rfl,{ size:=λ b hb=>hb,old:=λ b _=>rfl,f0:=FLe.refl _,fnew:=λ b o h _=>h,frz:=hF,loc:=λ k L h=>by simp[noR]at h,dom:=λ k L h=>by simp[noR]at h,obj:=λ k L ob h=>by simp[noR]at h,sep:=λ k k' L L' ob ob' h=>by simp[noR]at h,inn:=⟨λ _ _=>none,⟨(λ k c M h=>by cases h),(λ k c M k' L ob h=>by cases h),(λ k c M k' c' M' h=>by cases h),(λ k L ob0 sz es h=>by simp[noR]at h)⟩⟩ },.d _ _ (.int _ _),Mu.refl _⟩
end Go.AI
end
section
namespace Go.Proofs
open Go.Shelf
def Jis:Go.Shelf.Ren:=⟨λ|6=>75|15=>85|14=>84|28=>99|29=>100|20=>91|21=>92|22=>93|23=>94|24=>95|25=>96|26=>97|27=>98|46=>103|47=>104|48=>105|49=>106|50=>107|57=>109|n=>n,λ|22=>99|24=>102|25=>150|3=>3|39=>156|0=>0|53=>168|55=>170|4=>4|46=>162|45=>161|50=>126|5=>5|9=>9|66=>172|70=>176|76=>178|77=>179|n=>n,λ|n=>n⟩
theorem Jit:Go.Proofs.SlLaysF0.n6 Try.prog Jis:={
 mixed:=by kernel_rfl
 f6:=⟨ "slices.SortFunc[[]sixdot/doubt.rest,sixdot/doubt.rest]",by decide,Try.func75.trans (congrArg some (by kernel_rfl))⟩
 f14:=⟨ "slices.pdqsortCmpFunc[sixdot/doubt.rest]",by decide,Try.func84.trans (congrArg some (by kernel_rfl))⟩
 f15:=Try.func85.trans (congrArg some (by kernel_rfl))
 f20:=⟨ "slices.insertionSortCmpFunc[sixdot/doubt.rest]",by decide,Try.func91.trans (congrArg some (by kernel_rfl))⟩
 f21:=⟨ "slices.heapSortCmpFunc[sixdot/doubt.rest]",by decide,Try.func92.trans (congrArg some (by kernel_rfl))⟩
 f22:=⟨ "slices.breakPatternsCmpFunc[sixdot/doubt.rest]",by decide,Try.func93.trans (congrArg some (by kernel_rfl))⟩
 f23:=⟨ "slices.choosePivotCmpFunc[sixdot/doubt.rest]",by decide,Try.func94.trans (congrArg some (by kernel_rfl))⟩
 f24:=⟨ "slices.reverseRangeCmpFunc[sixdot/doubt.rest]",by decide,Try.func95.trans (congrArg some (by kernel_rfl))⟩
 f25:=⟨ "slices.partialInsertionSortCmpFunc[sixdot/doubt.rest]",by decide,Try.func96.trans (congrArg some (by kernel_rfl))⟩
 f26:=⟨ "slices.partitionEqualCmpFunc[sixdot/doubt.rest]",by decide,Try.func97.trans (congrArg some (by kernel_rfl))⟩
 f27:=⟨ "slices.partitionCmpFunc[sixdot/doubt.rest]",by decide,Try.func98.trans (congrArg some (by kernel_rfl))⟩
 f28:=Try.func99.trans (congrArg some (by kernel_rfl))
 f29:=Try.func100.trans (congrArg some (by kernel_rfl))
 f46:=⟨ "slices.siftDownCmpFunc[sixdot/doubt.rest]",by decide,Try.func103.trans (congrArg some (by kernel_rfl))⟩
 f47:=Try.func104.trans (congrArg some (by kernel_rfl))
 f48:=Try.func105.trans (congrArg some (by kernel_rfl))
 f49:=⟨ "slices.medianAdjacentCmpFunc[sixdot/doubt.rest]",by decide,Try.func106.trans (congrArg some (by kernel_rfl))⟩
 f50:=⟨ "slices.medianCmpFunc[sixdot/doubt.rest]",by decide,Try.func107.trans (congrArg some (by kernel_rfl))⟩
 f57:=⟨ "slices.order2CmpFunc[sixdot/doubt.rest]",by decide,Try.func109.trans (congrArg some (by kernel_rfl))⟩
 t0:=Try.underlying0
 a0:=Try.isAgg0
 z0:=Try.sizeOf0
 v0:=Try.zeroValue0
 t3:=Try.underlying3
 a3:=Try.isAgg3
 z3:=Try.sizeOf3
 v3:=Try.zeroValue3
 t4:=Try.underlying4
 a4:=Try.isAgg4
 z4:=Try.sizeOf4
 v4:=Try.zeroValue4
 t5:=Try.underlying5
 a5:=Try.isAgg5
 z5:=Try.sizeOf5
 v5:=Try.zeroValue5
 t9:=Try.underlying9
 a9:=Try.isAgg9
 z9:=Try.sizeOf9
 v9:=Try.zeroValue9
 t22:=Try.underlying99
 a22:=Try.isAgg99
 z22:=Try.sizeOf99
 v22:=Try.zeroValue99
 t25:=Try.underlying150
 a25:=Try.isAgg150
 z25:=Try.sizeOf150
 v25:=Try.zeroValue150
 t39:=Try.underlying156
 a39:=Try.isAgg156
 z39:=Try.sizeOf156
 v39:=Try.zeroValue156
 t45:=Try.underlying161
 a45:=Try.isAgg161
 z45:=Try.sizeOf161
 v45:=Try.zeroValue161
 t46:=Try.underlying162
 a46:=Try.isAgg162
 z46:=Try.sizeOf162
 v46:=Try.zeroValue162
 t50:=Try.underlying126
 a50:=Try.isAgg126
 z50:=Try.sizeOf126
 v50:=Try.zeroValue126
 t53:=Try.underlying168
 a53:=Try.isAgg168
 z53:=Try.sizeOf168
 v53:=Try.zeroValue168
 t55:=Try.underlying170
 a55:=Try.isAgg170
 z55:=Try.sizeOf170
 v55:=Try.zeroValue170
 t66:=Try.underlying172
 a66:=Try.isAgg172
 z66:=Try.sizeOf172
 v66:=Try.zeroValue172
 t70:=Try.underlying176
 a70:=Try.isAgg176
 z70:=Try.sizeOf176
 v70:=Try.zeroValue176
 t76:=Try.underlying178
 a76:=Try.isAgg178
 z76:=Try.sizeOf178
 v76:=Try.zeroValue178
 t77:=Try.underlying179
 a77:=Try.isAgg179
 z77:=Try.sizeOf179
 v77:=Try.zeroValue179 }
def Jiu:Go.Shelf.Ren:=⟨λ|106=>88|213=>102|265=>108|n=>n,λ|9=>9|3=>3|n=>n,λ|n=>n⟩
theorem Jiv:Go.Proofs.Lays.n106 Try.prog Jiu:={
 mixed:=by kernel_rfl
 f106:=Try.func88.trans (congrArg some (by kernel_rfl))
 f213:=Try.func102.trans (congrArg some (by kernel_rfl))
 f265:=Try.func108.trans (congrArg some (by kernel_rfl))
 t3:=Try.underlying3
 a3:=Try.isAgg3
 z3:=Try.sizeOf3
 v3:=Try.zeroValue3
 t9:=Try.underlying9
 a9:=Try.isAgg9
 z9:=Try.sizeOf9
 v9:=Try.zeroValue9 }
end Go.Proofs
end
section
namespace Go.AI
variable {P:Program} {F:Nat->Option Obj} {ρ:Nat->Option Loc} {N:Nat->Prop} {H0 F0:Nat->Option Obj} {O:List (Option Ob)}
theorem Xl {h:Array Obj} (hS:Sim N H0 F0 F ρ O h) {k sz i j isz:Nat} {ob1 ob2 nb:Ob} {cl:AV} {es:List (List AV)} {e:List AV} {xs:List (List D)} (ho:obA O k=some ob1) (hr1:ob1.rows=some (sz,es)) (hr2:ob2.rows=some (sz,es.set i (e.set j cl))) (hcl:IT cl=false) (hnb:nb.rows=none) (hi:es[i]?=some e) (hj:e[j]?=some (.own isz xs)) (hsz:∀ e∈es,e.length=sz)
  {L:Loc} (hk:ρ k=some L) {σ:Nat->Nat->Option Loc} (hσ:Inn N F ρ O h σ) {L1:Loc} (hM:σ k (i*sz+j)=some L1) (hob1:∀ ρ',Bc F ρ' h L1 nb) (hcell:∀ ρ',RLe ρ ρ'->ρ' O.length=some L1->Bc F ρ' h L ob2) :
  ∃ ρ',RLe ρ ρ'/\Sim N H0 F0 F ρ' (O.set k (some ob2)++[some nb]) h:=by
 have hkl:=AD ho;have hjl:=Ab hj;have hne:ρ O.length=none:=by
  cases hq:ρ O.length with
  | none=>rfl
  | some L=>have:=hS.dom _ L hq;omega
 have hobA:∀ m ob,obA (O.set k (some ob2)++[some nb]) m=some ob->(m=k/\ob=ob2)\/(m≠k/\obA O m=some ob)\/(m=O.length/\ob=nb):=by
  intro m ob hm;rw[Ax,Jjf]at hm;split at hm
  ·rename_i hlt;by_cases e1:m=k
   ·subst e1;rw[AG ho]at hm;cases hm;exact .inl ⟨rfl,rfl⟩
   ·rw[Au e1]at hm;exact .inr (.inl ⟨e1,hm⟩)
  ·rename_i hlt;have:=AD hm;simp at this;have e1:m=O.length:=by omega
   subst e1;simp[obA]at hm;exact .inr (.inr ⟨rfl,hm.symm⟩)
 obtain⟨g1,g2,g3⟩:=hS.obj k L _ hk ho;have hesz:=hsz e (Ji0 hi);have hrepO:∀ (ρ':Nat->Option Loc),RLe ρ ρ'->(∀ m L',ρ' m=some L'->m≠O.length->ρ m=some L')->∀ m L' ob0 sz' es',ρ' m=some L'->obA (O.set k (some ob2)++[some nb]) m=some ob0->ob0.rows=some (sz',es')->∀ (i':Nat) (e':List AV) (j' isz':Nat) (xs':List (List D)),es'[i']?=some e'->e'[j']?=some (.own isz' xs') ->
   ∀ o1 v,h[L'.b]?=some o1->El o1 (L'.base+i'*sz'+j')=some v->Dd F h (upS σ k (i*sz+j) none m (i'*sz'+j')) isz' xs' v:=by
  intro ρ' hle hold m L' ob0 sz' es' hm hob hr0 i' e' j' isz' xs' hi' hj' o1 v' hb hv';rcases hobA m _ hob with⟨rfl,h1⟩|⟨hmk,h1⟩|⟨_,h1⟩
  ·subst h1;rw[hr2]at hr0;cases hr0;have hm':=hold m L' hm (by omega);rw[hk]at hm';cases hm';by_cases e1:i'=i
   ·subst e1;rw[Ji9 (Ab hi)]at hi';cases hi';by_cases e2:j'=j
    ·subst e2;rw[Ji9 hjl]at hj';cases hj';cases hcl
    ·rw[Jje (Ne.symm e2)]at hj';have:=hσ.rep m L ob1 sz es hk ho hr1 i' e j' isz' xs' hi hj' o1 v' hb hv';unfold upS;rw[if_neg (λ hh=>e2 (by omega))];exact this
   ·rw[Jje (Ne.symm e1)]at hi';have:=hσ.rep m L ob1 sz es hk ho hr1 i' e' j' isz' xs' hi' hj' o1 v' hb hv';unfold upS;rw[if_neg (λ hh=>e1 ((I0 hh.2 (by have:=Ab hj';have:=hsz e' (Ji0 hi');omega) (by omega)).1))];exact this
  ·have hm':=hold m L' hm (by have:=AD h1;omega);have:=hσ.rep m L' ob0 sz' es' hm' h1 hr0 i' e' j' isz' xs' hi' hj' o1 v' hb hv';unfold upS;rw[if_neg (λ hh=>hmk hh.1)];exact this
  ·subst h1;rw[hnb]at hr0;cases hr0
 have hle:RLe ρ (upR ρ O.length L1):=Cr hne;have hold:∀ m L',upR ρ O.length L1 m=some L'->m≠O.length->ρ m=some L':=λ m L' hm hn=>by rwa[A6 hn]at hm
 obtain⟨n1,n2,n3⟩:=hσ.new k _ L1 hM;refine⟨upR ρ O.length L1,hle,?_⟩;refine { size:=hS.size,old:=hS.old,f0:=hS.f0,fnew:=hS.fnew,frz:=hS.frz,loc:=λ m L' hm=>?_,dom:=λ m L' hm=>?_,obj:=λ m L' ob hm hob=>?_,sep:=λ m m' L' L'' ob ob' hm hm' hob hob' hn=>?_,inn:=⟨upS σ k (i*sz+j) none,λ k' c M hM=>hσ.new k' c M (B7 hM).1,λ k' c M m L' ob hM' hm hob=>?_,λ k' c M k'' c' M' hM hM'=>hσ.sep k' c M k'' c' M' (B7 hM).1 (B7 hM').1,hrepO _ hle hold⟩ }
 ·by_cases e1:m=O.length
  ·subst e1;rw[Av]at hm;cases hm;exact n2
  ·exact hS.loc m L' (hold m L' hm e1)
 ·by_cases e1:m=O.length
  ·subst e1;simp
  ·have:=hS.dom m L' (hold m L' hm e1);simp;omega
 ·rcases hobA m ob hob with⟨rfl,h1⟩|⟨hmk,h1⟩|⟨rfl,h1⟩
  ·have hm':=hold m L' hm (by omega);rw[hk]at hm';cases hm';refine⟨?_,g2,g3⟩;rw[h1];exact hcell _ hle (Av _ _ _)
  ·have hm':=hold m L' hm (by have:=AD h1;omega);obtain⟨q1,q2,q3⟩:=hS.obj m L' ob hm' h1;exact⟨q1.mono (FLe.refl _) hle rfl,q2,q3⟩
  ·rw[Av]at hm;cases hm;subst h1;exact⟨hob1 _,n1,n3⟩
 ·
  have key:∀ m L' ob,upR ρ O.length L1 m=some L'->obA (O.set k (some ob2)++[some nb]) m=some ob->(m≠O.length/\ρ m=some L'/\∃ ob0,obA O m=some ob0)\/(m=O.length/\L'=L1):=λ m L' ob hm hob=>by
   rcases hobA m ob hob with⟨rfl,h1⟩|⟨hmk,h1⟩|⟨rfl,h1⟩
   ·exact .inl ⟨by omega,hold m L' hm (by omega),_,ho⟩
   ·have:=AD h1;exact .inl ⟨by omega,hold m L' hm (by omega),_,h1⟩
   ·rw[Av]at hm;cases hm;exact .inr ⟨rfl,rfl⟩
  rcases key m L' ob hm hob with⟨a1,a2,o1,a3⟩|⟨rfl,rfl⟩
  ·rcases key m' L'' ob' hm' hob' with⟨b1,b2,o2,b3⟩|⟨rfl,rfl⟩
   ·exact hS.sep m m' L' L'' o1 o2 a2 b2 a3 b3 hn
   ·exact hσ.obj k _ L'' m L' o1 hM a2 a3
  ·rcases key m' L'' ob' hm' hob' with⟨b1,b2,o2,b3⟩|⟨rfl,_⟩
   ·exact(hσ.obj k _ L' m' L'' o2 hM b2 b3).symm
   ·exact absurd rfl hn
 ·obtain⟨hM1,hM2⟩:=B7 hM';rcases hobA m ob hob with⟨rfl,h1⟩|⟨hmk,h1⟩|⟨rfl,h1⟩
  ·exact hσ.obj k' c M m L' _ hM1 (hold m L' hm (by omega)) ho
  ·exact hσ.obj k' c M m L' ob hM1 (hold m L' hm (by have:=AD h1;omega)) h1
  ·rw[Av]at hm;cases hm;refine hσ.sep k _ L1 k' c M hM hM1 ?_;by_cases e1:k=k'
   ·subst e1;exact .inr λ e2=>hM2 ⟨rfl,e2.symm⟩
   ·exact .inl e1
theorem Jcp {h:Array Obj} (hS:Sim N H0 F0 F ρ O h) {k sz i j:Nat} {es:List (List AV)} {e:List AV} {E:List (List D)} (ho:obA O k=some (.narr sz es)) (hi:es[i]?=some e) (hj:e[j]?=some (.own 0 ([]::E))) :
  ∃ ρ',RLe ρ ρ'/\Sim N H0 F0 F ρ' (O.set k (some (.narr sz (es.set i (e.set j (.mp O.length)))))++[some (.map false false (Nc E))]) h:=by
 cases hk:ρ k with
 | none=>
  refine⟨ρ,RLe.refl _,hS.table (by simp) λ m L ob hm hob=>?_⟩;rw[Ax,Jjf]at hob;split at hob
  ·by_cases e1:m=k
   ·subst e1;rw[hk]at hm;cases hm
   ·rwa[Au e1]at hob
  ·have:=hS.dom m L hm;omega
 | some L=>
  obtain⟨g1,g2,g3⟩:=hS.obj k L _ hk ho;obtain⟨σ,hσ⟩:=hS.inn;obtain⟨hsz,hlen,cs,t,fr,p3,p4,p5,p6⟩:=g1;obtain⟨v,hv,_⟩:=p6 i e hi j _ hj;rcases hσ.rep k L _ sz es hk ho rfl i e j 0 _ hi hj _ v p3 hv with⟨h1,_⟩|⟨_,_,_,_,_,_,h1,_⟩|⟨_,E0,q3,L1,hM,rfl,hob⟩
  ·cases h1
  ·omega
  ·cases q3;refine Xl hS (ob2:=.narr sz (es.set i (e.set j (.mp O.length)))) ho rfl rfl rfl rfl hi hj hsz hk hσ hM (λ ρ'=>by obtain⟨b1,b2⟩:=hob;exact⟨b1,b2⟩) λ ρ' hle hL1=>?_;have hjl:=Ab hj;have hil:=Ab hi;refine⟨λ e' he'=>?_,by simpa using hlen,cs,t,fr,p3,p4,p5,λ i' e' hi' j' a' hj'=>?_⟩
   ·rcases List.mem_or_eq_of_mem_set he' with h|rfl
    ·exact hsz e' h
    ·rw[Jjf];exact hsz e (Ji0 hi)
   ·by_cases e1:i'=i
    ·subst e1;rw[Ji9 hil]at hi';cases hi';by_cases e2:j'=j
     ·subst e2;rw[Ji9 hjl]at hj';cases hj';exact⟨_,hv,λ _=>.mp _ L1 hL1⟩
     ·rw[Jje (Ne.symm e2)]at hj';obtain⟨u,hu,hr⟩:=p6 i' e hi j' a' hj';exact⟨u,hu,λ ho=>(hr ho).mono (FLe.refl _) hle⟩
    ·rw[Jje (Ne.symm e1)]at hi';obtain⟨u,hu,hr⟩:=p6 i' e' hi' j' a' hj';exact⟨u,hu,λ ho=>(hr ho).mono (FLe.refl _) hle⟩
theorem Za {h:Array Obj} (hS:Sim N H0 F0 F ρ O h) {k sz i j m isz:Nat} {ob1 ob2 nb:Ob} {es:List (List AV)} {e:List AV} {xs:List (List D)} {cl:AV} (ho:obA O k=some ob1) (hr1:ob1.rows=some (sz,es)) (hr2:ob2.rows=some (sz,es.set i (e.set j (.own isz xs)))) (hi:es[i]?=some e) (hj:e[j]?=some cl) (hm:obA O m=some nb) (hmk:m≠k) (hsz:∀ e∈es,e.length=sz)
  (hcell:∀ L,ρ k=some L->Bc F ρ h L ob1->∃ L1 o v,ρ m=some L1/\h[L.b]?=some o/\El o (L.base+i*sz+j)=some v/\Dd F h (some L1) isz xs v/\Bc F ρ h L ob2) :
  Sim N H0 F0 F ρ ((O.set m none).set k (some ob2)) h:=by
 have hjl:=Ab hj;have hobA:∀ q ob,obA ((O.set m none).set k (some ob2)) q=some ob->(q=k/\ob=ob2)\/(q≠k/\q≠m/\obA O q=some ob):=by
  intro q ob hq;have ho':obA (O.set m none) k=some ob1:=by rw[Au (Ne.symm hmk)];exact ho
  by_cases e1:q=k
  ·subst e1;rw[AG ho']at hq;cases hq;exact .inl ⟨rfl,rfl⟩
  ·rw[Au e1]at hq;by_cases e2:q=m
   ·subst e2;rw[AG hm]at hq;cases hq
   ·rw[Au e2]at hq;exact .inr ⟨e1,e2,hq⟩
 obtain⟨σ,hσ⟩:=hS.inn;cases hk:ρ k with
 | none=>
  refine hS.table (by simp) λ q L ob hq hob=>?_;rcases hobA q ob hob with⟨rfl,_⟩|⟨_,_,h1⟩
  ·rw[hk]at hq;cases hq
  ·exact h1
 | some L=>
  obtain⟨g1,g2,g3⟩:=hS.obj k L _ hk ho;have hesz:=hsz e (Ji0 hi);obtain⟨L1,o0,v,hL1,p3,hv,hown,hrepk⟩:=hcell L hk g1;have hup:∀ k' c' M',upS σ k (i*sz+j) (some L1) k' c'=some M'->(σ k' c'=some M'/\¬(k'=k/\c'=i*sz+j))\/(k'=k/\c'=i*sz+j/\ρ m=some M'):=λ k' c' M' h=>by
   unfold upS at h;split at h
   ·rename_i hh;cases h;exact .inr ⟨hh.1,hh.2,hL1⟩
   ·rename_i hh;exact .inl ⟨h,hh⟩
  refine hS.retable (by simp) (λ q L' ob hq hob=>?_) ⟨upS σ k (i*sz+j) (some L1),λ k' c' M' h'=>?_,λ k' c' M' q L' ob h' hq hob=>?_,λ k' c' M' k'' c'' M'' h' h'' hne=>?_,λ q L' ob0 sz' es' hq hob hr0 i' e' j' isz' xs' hi' hj' o1 v' hb hv'=>?_⟩
  ·rcases hobA q ob hob with⟨rfl,h1⟩|⟨_,_,h1⟩
   ·rw[hk]at hq;cases hq;exact⟨_,ho,.inr (by rw[h1];exact hrepk)⟩
   ·exact⟨ob,h1,.inl rfl⟩
  ·rcases hup k' c' M' h' with⟨h1,_⟩|⟨_,_,h1⟩
   ·exact hσ.new k' c' M' h1
   ·obtain⟨_,q2,q3⟩:=hS.obj m M' _ h1 hm;exact⟨q2,hS.loc m M' h1,q3⟩
  ·rcases hup k' c' M' h' with⟨h1,_⟩|⟨_,_,h1⟩
   ·rcases hobA q ob hob with⟨rfl,_⟩|⟨_,_,h2⟩
    ·exact hσ.obj k' c' M' q L' _ h1 hq ho
    ·exact hσ.obj k' c' M' q L' ob h1 hq h2
   ·rcases hobA q ob hob with⟨rfl,_⟩|⟨_,hqm,h2⟩
    ·exact hS.sep q m L' M' _ _ hq h1 ho hm (Ne.symm hmk)
    ·exact hS.sep q m L' M' _ _ hq h1 h2 hm hqm
  ·rcases hup k' c' M' h' with⟨h1,_⟩|⟨a1,a2,h1⟩
   ·rcases hup k'' c'' M'' h'' with⟨h2,_⟩|⟨_,_,h2⟩
    ·exact hσ.sep k' c' M' k'' c'' M'' h1 h2 hne
    ·exact(hσ.obj k' c' M' m M'' _ h1 h2 hm).symm
   ·rcases hup k'' c'' M'' h'' with⟨h2,_⟩|⟨b1,b2,h2⟩
    ·exact hσ.obj k'' c'' M'' m M' _ h2 h1 hm
    ·rcases hne with hne|hne
     ·exact absurd (a1.trans b1.symm) hne
     ·exact absurd (a2.trans b2.symm) hne
  ·rcases hobA q _ hob with⟨rfl,h1⟩|⟨hqk,_,h1⟩
   ·subst h1;rw[hr2]at hr0;cases hr0;rw[hk]at hq;cases hq;by_cases e1:i'=i
    ·subst e1;rw[Ji9 (Ab hi)]at hi';cases hi';by_cases e2:j'=j
     ·subst e2;rw[Ji9 hjl]at hj';cases hj';rw[p3]at hb;cases hb;rw[hv]at hv';cases hv';unfold upS;rw[if_pos ⟨rfl,rfl⟩];exact hown
     ·rw[Jje (Ne.symm e2)]at hj';have:=hσ.rep q L ob1 sz es hk ho hr1 i' e j' isz' xs' hi hj' o1 v' hb hv';unfold upS;rw[if_neg (λ hh=>e2 (by omega))];exact this
    ·rw[Jje (Ne.symm e1)]at hi';have:=hσ.rep q L ob1 sz es hk ho hr1 i' e' j' isz' xs' hi' hj' o1 v' hb hv';unfold upS;rw[if_neg (λ hh=>e1 ((I0 hh.2 (by have:=Ab hj';have:=hsz e' (Ji0 hi');omega) (by omega)).1))];exact this
   ·have:=hσ.rep q L' ob0 sz' es' hq h1 hr0 i' e' j' isz' xs' hi' hj' o1 v' hb hv';unfold upS;rw[if_neg (λ hh=>hqk hh.1)];exact this
theorem Jcq {h:Array Obj} (hS:Sim N H0 F0 F ρ O h) {k sz i j m:Nat} {es:List (List AV)} {e:List AV} {E:List (List D)} (ho:obA O k=some (.narr sz es)) (hi:es[i]?=some e) (hj:e[j]?=some (.mp m)) (hm:obA O m=some (.map false false (Nc E))) :
  Sim N H0 F0 F ρ ((O.set m none).set k (some (.narr sz (es.set i (e.set j (.own 0 ([]::E))))))) h:=by
 have hmk:m≠k:=λ e1=>by subst e1;rw[ho]at hm;cases hm
 cases hk:ρ k with
 | none=>
  refine hS.table (by simp) λ q L ob hq hob=>?_;by_cases e1:q=k
  ·subst e1;rw[hk]at hq;cases hq
  ·rw[Au e1]at hob;by_cases e2:q=m
   ·subst e2;rw[AG hm]at hob;cases hob
   ·rwa[Au e2]at hob
 | some L0=>
  refine Za hS (ob2:=.narr sz (es.set i (e.set j (.own 0 ([]::E))))) ho rfl rfl hi hj hm hmk (hS.obj k L0 _ hk ho).1.1 λ L hL g1=>?_;obtain⟨cs,t,fr,p3,p4,p5,p6⟩:=g1.2.2;obtain⟨v,hv,hav⟩:=p6 i e hi j _ hj;have hav:=hav rfl;cases hav with
  | mp _ L1 hL1=>
   obtain⟨b1,b2⟩:=(hS.obj m L1 _ hL1 hm).1;exact⟨L1,_,_,hL1,p3,hv,.inr (.inr ⟨rfl,E,rfl,L1,rfl,rfl,b1,b2⟩),Og (RLe.refl _) g1 hi (Ab hj) λ _ _ _ _ _ _ hn=>by cases hn⟩
theorem Jcr {h:Array Obj} (hS:Sim N H0 F0 F ρ O h) {k sz i j:Nat} {es:List (List AV)} {e:List AV} {E:List (List D)} (ho:obA O k=some (.narr sz es)) (hi:es[i]?=some e) (hj:e[j]?=some (.own 0 ([]::E))) :
  ∃ F',FLe F F'/\Sim N H0 F0 F' ρ (O.set k (some (.narr sz (es.set i (e.set j (.fmp E)))))) h:=by
 cases hk:ρ k with
 | none=>
  refine⟨F,FLe.refl _,hS.table (by simp) λ m L ob hm hob=>?_⟩;by_cases e1:m=k
  ·subst e1;rw[hk]at hm;cases hm
  ·rwa[Au e1]at hob
 | some L=>
  obtain⟨g1,g2,g3⟩:=hS.obj k L _ hk ho;obtain⟨σ,hσ⟩:=hS.inn;have hg1:=g1;obtain⟨hsz,hlen,cs,t,fr,p3,p4,p5,p6⟩:=hg1;obtain⟨v,hv,_⟩:=p6 i e hi j _ hj;have hil:=Ab hi;have hjl:=Ab hj;have hesz:=hsz e (Ji0 hi);rcases hσ.rep k L _ sz es hk ho rfl i e j 0 _ hi hj _ v p3 hv with⟨h1,_⟩|⟨_,_,_,_,_,_,h1,_⟩|⟨_,E0,q3,L1,hM,rfl,hb0,ms,clock,hh,hb1,e0,hp0,hn0,hb2,hb3⟩
  ·cases h1
  ·omega
  ·cases q3;obtain⟨n1,n2,n3⟩:=hσ.new k _ L1 hM;let F':Nat->Option Obj:=λ b=>if b=L1.b then h[b]? else F b
   have hF':∀ b,F' b=if b=L1.b then h[b]? else F b:=λ _=>rfl
   have hle:FLe F F':=λ b o hb=>by
    rw[hF'];split
    ·exact hS.frz b o hb
    ·exact hb
   have hno:∀ b,b≠L1.b->F' b=F b:=λ b hb=>by rw[hF',if_neg hb]
   have hobA:∀ q ob,obA (O.set k (some (.narr sz (es.set i (e.set j (.fmp E)))))) q=some ob->(q=k/\ob=.narr sz (es.set i (e.set j (.fmp E))))\/(q≠k/\obA O q=some ob):=λ q ob hq=>by
    by_cases e1:q=k
    ·subst e1;rw[AG ho]at hq;cases hq;exact .inl ⟨rfl,rfl⟩
    ·rw[Au e1]at hq;exact .inr ⟨e1,hq⟩
   have hold:∀ q ob,obA (O.set k (some (.narr sz (es.set i (e.set j (.fmp E)))))) q=some ob->∃ ob0,obA O q=some ob0:=λ q ob hq=>by
    rcases hobA q ob hq with⟨rfl,_⟩|⟨_,h1⟩
    ·exact⟨_,ho⟩
    ·exact⟨_,h1⟩
   refine⟨F',hle,{ size:=hS.size,old:=hS.old,f0:=hS.f0.trans hle,fnew:=λ b o hb hN=>?_,frz:=λ b o hb=>?_,loc:=hS.loc,dom:=λ q L' hq=>by simpa using hS.dom q L' hq,obj:=λ q L' ob hq hob=>?_,sep:=λ q q' L1' L2' ob ob' hq hq' h1 h2 hne=>?_,inn:=⟨upS σ k (i*sz+j) none,λ k' c M hM'=>?_,λ k' c M q L' ob hM' hq hob=>?_,λ k' c M k'' c' M' hM' hM'' hne=>hσ.sep k' c M k'' c' M' (B7 hM').1 (B7 hM'').1 hne,λ q L' ob0 sz' es' hq hob hr0 i' e' j' isz' xs' hi' hj' o1 v' hb hv'=>?_⟩ }⟩
   ·rw[hF']at hb;split at hb
    ·rename_i hx;subst hx;exact absurd n1 hN
    ·exact hS.fnew b o hb hN
   ·rw[hF']at hb;split at hb
    ·exact hb
    ·exact hS.frz b o hb
   ·rcases hobA q ob hob with⟨rfl,rfl⟩|⟨_,h1⟩
    ·rw[hk]at hq;cases hq;refine⟨⟨λ e' he'=>?_,by simpa using hlen,cs,t,fr,p3,p4,p5,λ i' e' hi' j' a' hj'=>?_⟩,g2,by rw[hno _ (hσ.obj q _ L1 q L _ hM hk ho)];exact g3⟩
     ·rcases List.mem_or_eq_of_mem_set he' with h|rfl
      ·exact hsz e' h
      ·rw[Jjf];exact hesz
     ·by_cases e1:i'=i
      ·subst e1;rw[Ji9 hil]at hi';cases hi';by_cases e2:j'=j
       ·subst e2;rw[Ji9 hjl]at hj';cases hj';refine⟨_,hv,λ _=>.fmp _ _ ⟨ms,clock,e0,?_,hb1,hp0,hn0,hb2,λ a p q hp hq=>⟨(hb3 a p q hp hq).1.mono hle,(hb3 a p q hp hq).2.mono hle⟩⟩⟩;rw[hF',if_pos rfl];exact hh
       ·rw[Jje (Ne.symm e2)]at hj';obtain⟨u,hu,hr⟩:=p6 i' e hi j' a' hj';exact⟨u,hu,λ ho=>(hr ho).mono hle (RLe.refl _)⟩
      ·rw[Jje (Ne.symm e1)]at hi';obtain⟨u,hu,hr⟩:=p6 i' e' hi' j' a' hj';exact⟨u,hu,λ ho=>(hr ho).mono hle (RLe.refl _)⟩
    ·obtain⟨r1,r2,r3⟩:=hS.obj q L' ob hq h1;exact⟨r1.mono hle (RLe.refl _) rfl,r2,by rw[hno _ (hσ.obj k _ L1 q L' ob hM hq h1)];exact r3⟩
   ·obtain⟨o1,a1⟩:=hold q ob h1;obtain⟨o2,a2⟩:=hold q' ob' h2;exact hS.sep q q' L1' L2' o1 o2 hq hq' a1 a2 hne
   ·obtain⟨m1,m2⟩:=B7 hM';obtain⟨r1,r2,r3⟩:=hσ.new k' c M m1;refine⟨r1,r2,?_⟩;rw[hno _ (hσ.sep k' c M k _ L1 m1 hM (by
     by_cases e1:k'=k
     ·subst e1;exact .inr λ e2=>m2 ⟨rfl,e2⟩
     ·exact .inl e1))]
    exact r3
   ·obtain⟨o1,a1⟩:=hold q ob hob;exact hσ.obj k' c M q L' o1 (B7 hM').1 hq a1
   ·rcases hobA q ob0 hob with⟨rfl,rfl⟩|⟨hqk,h1⟩
    ·cases hr0;rw[hk]at hq;cases hq;by_cases e1:i'=i
     ·subst e1;rw[Ji9 hil]at hi';cases hi';by_cases e2:j'=j
      ·subst e2;rw[Ji9 hjl]at hj';cases hj'
      ·rw[Jje (Ne.symm e2)]at hj';have:=hσ.rep q L _ sz es hk ho rfl i' e j' isz' xs' hi hj' o1 v' hb hv';unfold upS;rw[if_neg (λ hh=>e2 (by omega))];exact this.mono hle λ _ _=>rfl
     ·rw[Jje (Ne.symm e1)]at hi';have:=hσ.rep q L _ sz es hk ho rfl i' e' j' isz' xs' hi' hj' o1 v' hb hv';unfold upS;rw[if_neg (λ hh=>e1 ((I0 hh.2 (by have:=Ab hj';have:=hsz e' (Ji0 hi');omega) (by omega)).1))];exact this.mono hle λ _ _=>rfl
    ·have:=hσ.rep q L' ob0 sz' es' hq h1 hr0 i' e' j' isz' xs' hi' hj' o1 v' hb hv';unfold upS;rw[if_neg (λ hh=>hqk hh.1)];exact this.mono hle λ _ _=>rfl
end Go.AI
end
section
namespace Go.AI
section
variable {κ β:Type} {ek:κ->D} {ev:β->D} {s:St} {nk:Nat}
def F7 (ek:κ->D) (ev:β->D) (m:List (κ×β)):List (List D):=m.map λ p=>[ek p.1,ev p.2]
theorem Mb (m:List (κ×β)):Nc (F7 ek ev m)=Bp (λ k=>[ek k]) (λ v=>[ev v]) m:=by
 unfold Nc F7 Bp;rw[List.map_map];rfl
def Zb (ek:κ->D) (ev:β->D):Option (Bool×List (κ×β))->AV
 | none=>.d .nilm
 | some (false,m)=>.own 0 ([]::F7 ek ev m)
 | some (true,m)=>.fmp (F7 ek ev m)
def eMr (ek:κ->D) (ev:β->D) (x:Option (Bool×List (κ×β))):List AV:=[Zb ek ev x]
theorem OL (k:Nat) {xss:List (Option (Bool×List (κ×β)))} {m:List (κ×β)} {n:Int} (hx:idx xss n=some (some (false,m))) (h:DH s k=some (1,xss.map (eMr ek ev)):=by kernel_rfl) :
  An nk s ⟨s.env,s.objs.set k (some (.narr 1 ((xss.map (eMr ek ev)).set n.toNat [.mp s.objs.length])))++[some (.map false false (Bp (λ k=>[ek k]) (λ v=>[ev v]) m))]⟩:=by
 have ho:=Db h;refine An.sem λ _ _ _ _ _ _ _ _ hI=>?_;obtain⟨F,ρ,hS,hSl,hn,hdf⟩:=hI;have hi:(xss.map (eMr ek ev))[n.toNat]?=some (eMr ek ev (some (false,m))):=by rw[Ji2,(Cn hx).2.2];rfl
 obtain⟨ρ',g1,g2⟩:=Jcp (j:=0) (E:=F7 ek ev m) hS ho hi rfl;rw[Mb]at g2;exact⟨F,ρ',g2,hSl.mono (FLe.refl _) g1,hn,hdf.1,hdf.2.1,hdf.2.2.mono g1⟩
theorem Ja (k q:Nat) (m:List (κ×β)) {xss:List (Option (Bool×List (κ×β)))} {x:Option (Bool×List (κ×β))} {n:Int} (hx:idx xss n=some x) (h:DH s k=some (1,(xss.map (eMr ek ev)).set n.toNat [.mp q]):=by kernel_rfl) (hm:obA s.objs q=some (.map false false (Bp (λ k=>[ek k]) (λ v=>[ev v]) m)):=by kernel_rfl) :
  An nk s ⟨s.env,(s.objs.set q none).set k (some (.narr 1 ((xss.set n.toNat (some (false,m))).map (eMr ek ev))))⟩:=by
 have ho:=Db h;obtain⟨h0,h1,_⟩:=Cn hx;have hlt:n.toNat<(xss.map (eMr ek ev)).length:=by simp;omega
 refine An.sem λ _ _ _ _ _ _ _ _ hI=>?_;obtain⟨F,ρ,hS,hSl,hn,hdf⟩:=hI;have:=Jcq (j:=0) (E:=F7 ek ev m) hS ho (Ji9 hlt) rfl (by rw[Mb];exact hm);rw[List.set_set]at this;rw[List.map_set];exact⟨F,ρ,this,hSl,hn,hdf⟩
theorem Zc (k:Nat) {xss:List (Option (Bool×List (κ×β)))} {x:Bool×List (κ×β)} {n:Int} (hx:idx xss n=some (some x)) (h:DH s k=some (1,xss.map (eMr ek ev)):=by kernel_rfl) :
  An nk s ⟨s.env,s.objs.set k (some (.narr 1 ((xss.map (eMr ek ev)).set n.toNat [.fmp (F7 ek ev x.2)])))⟩:=by
 obtain⟨b,m⟩:=x;cases b with
 | true=>exact Jc7 (encN:=eMr ek ev) k h hx
 | false=>
  have ho:=Db h;refine An.sem λ _ _ _ _ _ _ _ _ hI=>?_;obtain⟨F,ρ,hS,hSl,hn,hdf⟩:=hI;have hi:(xss.map (eMr ek ev))[n.toNat]?=some (eMr ek ev (some (false,m))):=by rw[Ji2,(Cn hx).2.2];rfl
  obtain⟨F',g1,g2⟩:=Jcr (j:=0) (E:=F7 ek ev m) hS ho hi rfl;exact⟨F',ρ,g2,hSl.mono g1 (RLe.refl _),hn,hdf.1.mono g1,hdf.2⟩
theorem UW (k:Nat) {ka va:Bool} {e1 e2:List (List D×List D)} (hp:e1.Perm e2) (h:obA s.objs k=some (.map ka va e1):=by kernel_rfl):An nk s ⟨s.env,s.objs.set k (some (.map ka va e2))⟩:=by
 refine An.sem λ _ _ _ _ _ _ _ _ hI=>?_;obtain⟨F,ρ,hS,hrest⟩:=hI;refine⟨F,ρ,hS.reob h (λ L hr=>?_) (λ sz es he=>by cases he),hrest⟩;obtain⟨h1,es,clock,q1,q2,e0,q3,q4,q5,q6⟩:=hr;exact⟨h1,es,clock,q1,q2,e0,q3.trans hp,q4,q5,q6⟩
theorem Mc {κ β:Type} {encK:κ->List D} {enc:β->List D} {m m':List (κ×β)} (h:m.Perm m'):(Bp encK enc m).Perm (Bp encK enc m'):=h.map _
theorem xri {κ β:Type} {ek:κ->D} {ev:β->D} {Γ:Cx} {C:Code} {p:List Nat} {Q:Ex->St->Prop} {s:St} {i:Nat} {m:List (κ×β)} (k:Nat) (hk:RF Γ C p i Q ⟨s.env,s.objs.set k (some (.iter false false none (Bp (λ k=>[ek k]) (λ v=>[ev v]) m)))⟩) (h:obA s.objs k=some (.iter false false none (Nc (F7 ek ev m))):=by kernel_rfl):RF Γ C p i Q s:=by
 rw[Mb]at h;have:s.objs.set k (some (.iter false false none (Bp (λ k=>[ek k]) (λ v=>[ev v]) m)))=s.objs:=by
  have hl:k<s.objs.length:=AD h;apply List.ext_getElem?;intro j;by_cases e:k=j
  ·subst e;rw[Ji9 hl];unfold obA at h;split at h
   ·rename_i o ho;rw[ho];cases h;rfl
   ·cases h
  ·rw[Jje e]
 rwa[this]at hk
theorem Jd7 (k n:Nat) (h:obA s.objs k=some (.arr 1 (List.replicate n [.nilm])):=by kernel_rfl):An nk s ⟨s.env,s.objs.set k (some (.narr 1 ((List.replicate n (none:Option (Bool×List (κ×β)))).map (eMr ek ev))))⟩:=by
 have:=An.toN (nk:=nk) (st:=s) k 1 _ h;rw[List.map_replicate]at this⊢;exact this
theorem Jd8 (k n:Nat) {zs:List (Option (Bool×List (κ×β)))} (hz:List.replicate n none=zs) (h:obA s.objs k=some (.arr 1 (List.replicate n [.nilm])):=by kernel_rfl):An nk s ⟨s.env,s.objs.set k (some (.narr 1 (zs.map (eMr ek ev))))⟩:=by
 subst hz;exact Jd7 k n h
theorem Jd9 (k n:Nat) (h:obA s.objs k=some (.box (List.replicate n (.d .nilm))):=by kernel_rfl):An nk s ⟨s.env,s.objs.set k (some (.narr 1 ((List.replicate n (none:Option (Bool×List (κ×β)))).map (eMr ek ev))))⟩:=by
 refine An.sem λ _ _ _ _ _ _ _ _ hI=>?_;obtain⟨F,ρ,hS,hrest⟩:=hI;rw[List.map_replicate];refine⟨F,ρ,hS.reob h (λ L hr=>?_) (λ sz es he i e j isz xs hi hj=>?_),hrest⟩
 ·obtain⟨h1,h2,cs,t,fr,h3,h4,h5,h6⟩:=hr;rw[List.length_replicate]at h2;refine⟨λ e he=>by rw[List.eq_of_mem_replicate he];rfl,by rw[List.length_replicate];omega,cs,t,fr,h3,h4,h5,λ i e hi j a hj=>?_⟩;have hlt:i<n:=by have:=Ab hi;rwa[List.length_replicate]at this
  have he:=List.eq_of_mem_replicate (Ji0 hi);subst he;cases j with
  | zero=>
   have ha:a=.d .nilm:=by simpa [eMr,Zb]using hj.symm
   subst ha;have hc:i<cs.size:=by omega
   refine⟨cs[i],by rw[h1,show 0+i*1+0=i by omega];exact Ji3 hc,λ _=>h6 i _ _ ?_ (Ji3 hc)⟩;rw[List.getElem?_replicate,if_pos hlt]
  | succ j=>simp[eMr]at hj
 ·cases he;have he:=List.eq_of_mem_replicate (Ji0 hi);subst he;cases j with
  | zero=>simp[eMr,Zb]at hj
  | succ j=>simp[eMr]at hj
end
end Go.AI
end
section
namespace Go.AI
variable {P:Program} {nt:Slt} {o:Oper} {st:St}
theorem UX {Γ:Nat->Ty} (hΓ:Gt P Γ) {s t:TypeId} {x:Operand} {eb:Nat} {bs:List UInt8} (hop:o.op=.convert s t x) (hos:(Γ s).ok=true) (hot:(Γ t).ok=true) (hks:(Γ s).kind=.string) (hkt:(Γ t).kind=.slice 1 eb [.int .u8 0]) (hx:Ai st.env x=.d (.str bs)) :
  LX P nt o true st ⟨putA o.dst false true (.d (.sl ((Bq bs).map λ n=>[.int .u8 n]))) st.env,st.objs⟩:=by
 intro N H0 F0 w0 a w _ hI hdst K Qw hK;obtain⟨F,ρ,hS,hSl,hn,hdf⟩:=hI;obtain⟨ds,hds,_,hk1⟩:=(hΓ s hos).desc;obtain⟨dt,hdt,_,hk2⟩:=(hΓ t hot).desc;rw[hks]at hk1;rw[hkt]at hk2;cases hk1;obtain⟨elem,i,z,rfl,_,_,_,_,_,_,_,hu⟩:=hk2;have hu:=hu rfl;have hxr:=AJ hSl x;rw[hx]at hxr;have hxv:=hxr.str;have hr:=Lib.run_convert_string_bytes (P:=P) w s t elem ⟨bs.toArray⟩ hds hdt hu;have hr:(execOp a.eval o).run P w=.ok (.value (.slice (some ⟨w.heap.size,0,none⟩) bs.toArray.size (grownCap w bs.toArray.size 0 elem))) (Lib.bytesWorld w elem ⟨bs.toArray⟩):=by
  simp only[execOp,hop,JiF,hxv,hr,JiD,JiG];rfl
 have hheap:(Lib.bytesWorld w elem ⟨bs.toArray⟩).heap=w.heap.push (.cells (Lib.bytesCells w elem ⟨bs.toArray⟩) elem ((Lib.bytesCells w elem ⟨bs.toArray⟩).size,(Lib.bytesCells w elem ⟨bs.toArray⟩).size+1)):=by
  apply Array.ext_getElem?;intro j;rw[Array.getElem?_push];split
  ·rename_i e;rw[e];exact Lib.bytesWorld_at_new w elem _
  ·rename_i e;rcases JiO j w.heap.size with h|h
   ·exact Lib.bytesWorld_at_old w elem _ j h
   ·rw[Array.getElem?_eq_none h,Array.getElem?_eq_none (by rw[Lib.bytesWorld_size];omega)]
 have hS':=hS.pushF (.cells (Lib.bytesCells w elem ⟨bs.toArray⟩) elem ((Lib.bytesCells w elem ⟨bs.toArray⟩).size,(Lib.bytesCells w elem ⟨bs.toArray⟩).size+1));rw[← hheap]at hS';have hle:FLe F (λ b=>if b=w.heap.size then some (.cells (Lib.bytesCells w elem ⟨bs.toArray⟩) elem ((Lib.bytesCells w elem ⟨bs.toArray⟩).size,(Lib.bytesCells w elem ⟨bs.toArray⟩).size+1))else F b):=λ b o hb=>by
  have:=Aj (hS.frz b o hb);simp only[if_neg (show ¬b=w.heap.size by omega)];exact hb
 have hcapge:bs.length<=grownCap w bs.toArray.size 0 elem:=by
  show bs.length<=bs.toArray.size+w.tape w.drawn (.appendCap bs.toArray.size 0 elem) % (2 ^ 63-bs.toArray.size);simp
 have hv:A5 (λ b=>if b=w.heap.size then some (.cells (Lib.bytesCells w elem ⟨bs.toArray⟩) elem ((Lib.bytesCells w elem ⟨bs.toArray⟩).size,(Lib.bytesCells w elem ⟨bs.toArray⟩).size+1))else F b) (.sl ((Bq bs).map λ n=>[.int .u8 n])) (.slice (some ⟨w.heap.size,0,none⟩) bs.toArray.size (grownCap w bs.toArray.size 0 elem)):=by
  have hlen:((Bq bs).map λ n=>[D.int .u8 n]).length=bs.toArray.size:=by simp[Bq]
  rw[← hlen];refine .sl _ w.heap.size 0 _ 1 (Lib.bytesCells w elem ⟨bs.toArray⟩) elem _ (λ i _=>.int .u8 ((Bq bs)[i]?.getD 0)) (by rw[if_pos rfl]) (λ e he=>by simp only[JiQ]at he;obtain⟨n,_,rfl⟩:=he;rfl) (by rw[hlen];simpa using hcapge) (λ i e he j x hx=>?_) (λ i e he j x hx=>?_)
  ·rw[Ji2,Ji1]at he;obtain⟨n,hn,rfl⟩:=he;have hj:j=0:=by have:=Ab hx;simpa using this
   subst hj;have hi:i<bs.length:=by have:=Ab hn;simpa [Bq]using this
   simp[Lib.bytesCells,Array.getElem?_append,hi,Bq]
  ·rw[Ji2,Ji1]at he;obtain⟨n,hn,rfl⟩:=he;have hj:j=0:=by have:=Ab hx;simpa using this
   subst hj;cases hx;rw[hn];exact .int _ _
 unfold Oper.wp;rw[hr,Oper.upon_value];refine hK _ _ ⟨_,ρ,hS',(hSl.mono hle (RLe.refl _)).putA hn hdst (.d _ _ hv),hn.put hdst,?_⟩;rw[put_defers];exact⟨hdf.1.mono hle,hdf.2.1.trans ⟨rfl,rfl,by rw[Lib.bytesWorld_size];omega,rfl,Nat.le_succ _⟩,hdf.2.2⟩
def Jgz (Γ:Cx) (c:Code) (i:Nat) (s:St):Option (List UInt8):=
 match (AW c)[i]? with
 | some o=>match o.op with
  | .convert a b x=>match (Γ.ty a).kind,(Γ.ty b).kind,Ai s.env x with
   | .string,.slice 1 _ [.int .u8 0],.d (.str bs)=>bif (Γ.ty a).ok&&(Γ.ty b).ok then some bs else none
   | _,_,_=>none
  | _=>none
 | none=>none
def Jcs (Γ:Cx) (c:Code) (i:Nat) (bs:List UInt8) (s:St):Option St:=
 match (AW c)[i]? with
 | some o=>bif UQ Γ c o then some ⟨putA o.dst false true (.d (.sl ((Bq bs).map λ n=>[.int .u8 n]))) s.env,s.objs⟩else none
 | none=>none
theorem xsb {Γ:Cx} {C:Code} {p:List Nat} {Q:Ex->St->Prop} {s:St} {i:Nat} (hX:XOK P Γ) (bs:List UInt8) (hk:RF Γ C p (i+1) Q ((Jcs Γ (nav p C) i bs s).getD s)) (hx:Jgz Γ (nav p C) i s=some bs:=by kernel_rfl) (hn:(Jcs Γ (nav p C) i bs s).isSome=true:=by kernel_rfl):RF Γ C p i Q s:=by
 have hn:=Br (d:=s) hn;generalize (Jcs Γ (nav p C) i bs s).getD s=s' at hn hk;unfold Jcs at hn;unfold Jgz at hx;split at hn
 ·rename_i o hoo;rw[hoo]at hx;simp only at hx;obtain⟨h0,hn⟩:=AA hn;cases hn;split at hx
  ·rename_i a b x hop;split at hx
   ·rename_i eb bs' hka hkb hxe;obtain⟨h1,hx⟩:=AA hx;simp only[JiZ]at h1;cases hx;exact Fj hX hoo h0 (UX hX.ty hop h1.1 h1.2 hka hkb hxe) hk
   ·cases hx
  ·cases hx
 ·cases hn
end Go.AI
end
section
namespace Go.AI
variable {P:Program} {F:Nat->Option Obj} {ρ:Nat->Option Loc} {w:World}
theorem OM:∀ (a r:List TK) (l l':List AV) (b:Bool),Al (a++r) l l'=some b->∃ b1 b2,Al a (l.take a.length) (l'.take a.length)=some b1/\Al r (l.drop a.length) (l'.drop a.length)=some b2/\b=(b1&&b2):=by
 intro a;induction a with
 | nil=>intro r l l' b h;exact⟨true,b,by simp[Al],by simpa using h,by simp⟩
 | cons k a ih=>
  intro r l l' b h;rw[List.cons_append]at h;unfold Al at h;split at h
  ·rename_i heq;cases heq
  all_goals (first|(cases h;done)|skip)
  ·rename_i k0 ks0 k1 x xs0 k2 y ys0 e0;cases e0;split at h
   ·rename_i r' hr';obtain⟨b1,b2,h1,h2,h3⟩:=ih r _ _ _ hr';cases hk:(k1==k2)with
    | false=>rw[hk]at h;cases h
    | true=>
     rw[hk,cond_true]at h;cases h;exact⟨(x==y)&&b1,b2,by simp[Al,h1,hk],by simpa using h2,by rw[h3,Bool.and_assoc]⟩
   ·cases h
  ·rename_i ks0 x xs0 y ys0 e0;cases e0;split at h
   ·rename_i r' hr';obtain⟨b1,b2,h1,h2,h3⟩:=ih r _ _ _ hr';cases h;exact⟨(x==y)&&b1,b2,by simp[Al,h1],by simpa using h2,by rw[h3,Bool.and_assoc]⟩
   ·cases h
  ·rename_i ks0 x xs0 y ys0 e0;cases e0;split at h
   ·rename_i r' hr';obtain⟨b1,b2,h1,h2,h3⟩:=ih r _ _ _ hr';cases h;exact⟨(x==y)&&b1,b2,by simp[Al,h1],by simpa using h2,by rw[h3,Bool.and_assoc]⟩
   ·cases h
def Jda (P:Program) (t:TypeId) (a:List TK):Prop:=∃ fields i,P.underlying t=some (.struct fields)/\P.stoodInHeld t=false/\P.info? t=some i/\i.size=a.length/\fields.size=a.length/\∀ (j:Nat) f k,fields[j]? = some f->a[j]? = some k->f.name ≠ "_"/\f.offset=j/\W3 P f.type k
inductive Jct (P:Program) (t:TypeId):List TK->Prop
 | one {k:TK} (h:W3 P t k):Jct P t [k]
 | nest {a:List TK} (h:Jda P t a):Jct P t a
inductive Zd (P:Program):List Field->Nat->List TK->Prop
 | nil {i:Nat}:Zd P [] i []
 | cons {f:Field} {fs:List Field} {i:Nat} {a r:List TK} (h0:f.name ≠ "_"/\f.offset=i) (h:Jct P f.type a) (hr:Zd P fs (i+a.length) r):Zd P (f::fs) i (a++r)
def At (F:Nat->Option Obj) (ρ:Nat->Option Loc) (xs:Array Value) (o:Nat) (l:List AV):Prop:=∀ (j:Nat) a,l[j]?=some a->∃ v,xs[o+j]?=some v/\Ag F ρ a v
theorem At.take {xs:Array Value} {o:Nat} {l:List AV} (h:At F ρ xs o l) (n:Nat):At F ρ xs o (l.take n):=λ j a ha=>by
 rw[List.getElem?_take]at ha;split at ha
 ·exact h j a ha
 ·cases ha
theorem At.drop {xs:Array Value} {o:Nat} {l:List AV} (h:At F ρ xs o l) (n:Nat):At F ρ xs (o+n) (l.drop n):=λ j a ha=>by
 rw[JiR]at ha;rw[JiS];exact h _ a ha
theorem Kf {t:TypeId} {a:List TK} (h:Jda P t a) (cs:Array Value) (o:Nat):(part t cs o).run P w=.ok (.agg (cs.extract o (o+a.length))) w:=by
 obtain⟨fields,i,h1,_,h3,h4,_⟩:=h;simp only[part,JiF,JB w h1,JiD,GA,if_true,AF w h3,h4,JiG]
theorem Xm {t:TypeId} {a:List TK} (h:Jct P t a) (d:Nat) {xs ys:Array Value} {o:Nat} {l l':List AV} {b:Bool} (he:Al a l l'=some b) (hx:At F ρ xs o l) (hy:At F ρ ys o l') :
  ∃ u v,(part t xs o).run P w=.ok u w/\(part t ys o).run P w=.ok v w/\(Op.equalIn (d+1+1) t u v).run P w=.ok b w:=by
 obtain⟨e1,e2⟩:=Fg _ _ _ _ he;cases h with
 | @one k hk=>
  match l,e1 with
  | [x],_=>
   match l',e2 with
   | [y],_=>
    obtain⟨u,hu,hux⟩:=hx 0 x rfl;obtain⟨v,hv,hvy⟩:=hy 0 y rfl;refine⟨u,v,Cm (H8 hk) (by simpa using hu),Cm (H8 hk) (by simpa using hv),?_⟩;unfold Al at he;split at he
    ·rename_i heq;cases heq
    ·rename_i k0 ks0 k1 p xs0 k2 q ys0 e0 e3 e4;cases e0;simp only[List.cons.injEq]at e3 e4;obtain⟨rfl,rfl⟩:=e3;obtain⟨rfl,rfl⟩:=e4;simp only[Al]at he;cases hkk:(k1==k2)with
     | false=>rw[hkk]at he;cases he
     | true=>
      rw[hkk,cond_true]at he;have:k1=k2:=by simpa using hkk
      subst this;cases he;rw[hux.int,hvy.int,Bool.and_true];obtain⟨k3,hk3⟩:=hk;exact run_equalIn_int w (d+1) t k1 k3 p q hk3
    ·rename_i e0 e3 e4;cases e0;simp only[List.cons.injEq]at e3 e4;obtain⟨rfl,rfl⟩:=e3;obtain⟨rfl,rfl⟩:=e4;simp only[Al,Ji8]at he;subst he;rw[hux.bool,hvy.bool,Bool.and_true];exact run_equalIn_bool' w (d+1) t _ _ hk
    ·rename_i e0 e3 e4;cases e0;simp only[List.cons.injEq]at e3 e4;obtain⟨rfl,rfl⟩:=e3;obtain⟨rfl,rfl⟩:=e4;simp only[Al,Ji8]at he;subst he;rw[hux.str,hvy.str,run_equalIn_string w (d+1) t _ _ hk,B5,B5,Bool.and_true]
    ·cases he
 | nest hn=>
  refine⟨_,_,Kf hn xs o,Kf hn ys o,?_⟩;obtain⟨fields,i,h1,h2,h3,h4,h5,h6⟩:=hn;have hfo:P.fieldsOf t=fields:=by simp[Program.fieldsOf,h1]
  rw[run_equalIn_struct w (d+1) t _ _ (by rw[hfo];exact h1) h2,hfo];have hex:∀ (zs:Array Value) (m:List AV),m.length=a.length->At F ρ zs o m->∀ (j:Nat) c,m[j]?=some c->∃ v,(zs.extract o (o+a.length))[0+j]?=some v/\Ag F ρ c v:=λ zs m hm hz j c hc=>by
   obtain⟨v,hv,hr⟩:=hz j c hc;have hj:=Ab hc;refine⟨v,?_,hr⟩;rw[Jjc,Array.getElem?_extract,if_pos (by have:=Aj hv;omega)];exact hv
  refine H9 (F:=F) (ρ:=ρ) d _ _ fields.toList a 0 l l' b (by simpa using h5) (λ j f k q1 q2=>?_) he (hex xs l e1 hx) (hex ys l' e2 hy);obtain⟨a1,a2,a3⟩:=h6 j f k (by simpa using q1) q2;exact⟨a1,by omega,a3⟩
theorem Rw (d:Nat) {xs ys:Array Value} {fs:List Field} {i:Nat} {ks:List TK} (hs:Zd P fs i ks):∀ {l l':List AV} {r:Bool},Al ks l l'=some r->At F ρ xs i l->At F ρ ys i l'->(Op.eqFields (d+1+1) xs ys fs).run P w=.ok r w:=by
 induction hs with
 | nil=>
  intro l l' r h _ _;cases l with
  | cons=>simp[Al]at h
  | nil=>cases l' with
   | cons=>simp[Al]at h
   | nil=>simp[Al]at h;subst h;rfl
 | @cons f fs i a rs h0 hl _ ih=>
  intro l l' r h hx hy;obtain⟨b1,b2,h1,h2,rfl⟩:=OM _ _ _ _ _ h;obtain⟨u,v,q1,q2,q3⟩:=Xm (F:=F) (ρ:=ρ) (w:=w) hl d h1 (hx.take _) (hy.take _);obtain⟨hnm,hoff⟩:=h0;simp only[Op.eqFields];rw[if_pos hnm,hoff];simp only[JiF,q1,q2,JiD,q3];cases b1 with
  | false=>simp
  | true=>simp only[JiL,Jja,if_false,Bool.true_and];exact ih h2 (hx.drop _) (hy.drop _)
theorem Ze {l:List AV} {xs:Array Value} (h:Ag F ρ (.agg l) (.agg xs)):At F ρ xs 0 l:=by
 cases h with
 | agg _ _ hl hr=>
  intro j a ha;have hj:=Ab ha;refine⟨xs[j],?_,hr j a _ ha (Ji3 (by omega))⟩;rw[Jjc];exact Ji3 (by omega)
theorem Jcu {t:TypeId} {fields:Array Field} {ks:List TK} (hd:P.underlying t=some (.struct fields)) (hst:P.stoodInHeld t=false) (hg:P.eqGuardType P.depth t=false) (hs:Zd P fields.toList 0 ks):KS P t ks:=by
 intro l l' r xs ys F ρ w x y h hx hy;have hfo:P.fieldsOf t=fields:=by simp[Program.fieldsOf,hd]
 have hrun:(Op.equalIn 10000 t (.agg xs) (.agg ys)).run P w=.ok r w:=by
  rw[run_equalIn_struct w 9999 t xs ys (by rw[hfo];exact hd) hst,hfo];exact Rw 9997 hs h (Ze hx) (Ze hy)
 constructor
 ·simp only[JiF,run_eqGuard_agg w .eql t x y xs ys hg,JiD];rw[run_eql_struct,hrun];rfl
 ·simp only[JiF,run_eqGuard_agg w .neq t x y xs ys hg,JiD];rw[run_neq_struct,hrun];rfl
theorem Lj {t:TypeId} {k:IntKind} (hd:P.underlying t=some (.int k)):Fa P t false [.int k]:=by
 have get:∀ (F:Nat->Option Obj) (a b:List D) (x y:Value) (r:Bool),KV F false a x->KV F false b y->Al [.int k] (a.map .d) (b.map .d)=some r->∃ k' m n,x=.int k' m/\y=.int k' n/\r=(m==n):=by
  intro F a b x y r hx hy h;obtain⟨p,rfl,hp⟩:=hx;obtain⟨q,rfl,hq⟩:=hy;cases hp<;>cases hq<;>simp only[JiU,List.map_nil,Al]at h<;>first|(cases h;done)|skip
  rename_i k1 m k2 n;cases hk:(k1==k2)with
  | false=>rw[hk]at h;cases h
  | true=>
   rw[hk]at h;simp only[cond_true,Ji8,Bool.and_true]at h;have:=eq_of_beq hk;subst this;exact⟨_,_,_,rfl,rfl,h.symm⟩
 refine⟨λ F a x w b hx hs=>?_,⟨_,hd,λ F a b x y r hx hy h=>?_⟩,λ F a b x y r w hx hy h=>?_,λ F a b x y hx hy h=>?_⟩
 ·obtain⟨r,hr⟩:=Option.isSome_iff_exists.1 hs;obtain⟨k',m,n,rfl,_,_⟩:=get F a a x x r hx hx hr;show(Instr.checkKey b (9999+1) t (.int k' m)).run P w=_;rw[Instr.checkKey];simp only[JiF,run_underlying hd,JiD];rfl
 ·obtain⟨k',m,n,rfl,rfl,rfl⟩:=get F a b x y r hx hy h;simp[Instr.sameNow]
 ·obtain⟨k',m,n,rfl,rfl,rfl⟩:=get F a b x y r hx hy h;have e0:∀ q,(Op.equalIn (q+1) t (.int k' m) (.int k' n)).run P w=.ok (m==n) w:=λ q=>by simp[Op.equalIn,run_underlying hd]
  exact e0 9999
 ·obtain⟨k',m,n,rfl,rfl,h2⟩:=get F a b x y true hx hy h;have:m=n:=by simpa using h2.symm
  subst this;show Instr.sameBits (9999+1) (.int k' m) (.int k' m)=true;simp[Instr.sameBits]
theorem VS (a b:List UInt8):((⟨a.toArray⟩:ByteArray)==⟨b.toArray⟩)=(a==b):=by
 show(a.toArray==b.toArray)=(a==b);rw[Bool.eq_iff_iff,beq_iff_eq,beq_iff_eq];constructor
 ·intro h;simpa using h
 ·rintro rfl;rfl
theorem Rx {t:TypeId} (hd:P.underlying t=some .string):Fa P t false [.string]:=by
 have get:∀ (F:Nat->Option Obj) (a b:List D) (x y:Value) (r:Bool),KV F false a x->KV F false b y->Al [.string] (a.map .d) (b.map .d)=some r->∃ m n:List UInt8,x=.string ⟨m.toArray⟩/\y=.string ⟨n.toArray⟩/\r=(m==n):=by
  intro F a b x y r hx hy h;obtain⟨p,rfl,hp⟩:=hx;obtain⟨q,rfl,hq⟩:=hy;cases hp<;>cases hq<;>simp only[JiU,List.map_nil,Al]at h<;>first|(cases h;done)|skip
  simp only[Ji8,Bool.and_true]at h;exact⟨_,_,rfl,rfl,h.symm⟩
 refine⟨λ F a x w b hx hs=>?_,⟨_,hd,λ F a b x y r hx hy h=>?_⟩,λ F a b x y r w hx hy h=>?_,λ F a b x y hx hy h=>?_⟩
 ·obtain⟨r,hr⟩:=Option.isSome_iff_exists.1 hs;obtain⟨m,n,rfl,_,_⟩:=get F a a x x r hx hx hr;show(Instr.checkKey b (9999+1) t (.string _)).run P w=_;rw[Instr.checkKey];simp only[JiF,run_underlying hd,JiD];rfl
 ·obtain⟨m,n,rfl,rfl,rfl⟩:=get F a b x y r hx hy h;simp[Instr.sameNow,VS]
 ·obtain⟨m,n,rfl,rfl,rfl⟩:=get F a b x y r hx hy h;have e0:∀ q,(Op.equalIn (q+1) t (.string ⟨m.toArray⟩) (.string ⟨n.toArray⟩)).run P w=.ok (m==n) w:=λ q=>by simp[Op.equalIn,run_underlying hd,VS]
  exact e0 9999
 ·obtain⟨m,n,rfl,rfl,h2⟩:=get F a b x y true hx hy h;have:m=n:=by simpa using h2.symm
  subst this;show Instr.sameBits (9999+1) (.string ⟨m.toArray⟩) (.string ⟨m.toArray⟩)=true;simp only[Instr.sameBits];exact Ov _
end Go.AI
end
section
namespace Go.AI
open Go.Proofs
set_option maxRecDepth 100000
theorem G2:Inf Try.prog 3 1 8 (.int .i64 0):=AC (by kernel_rfl)
theorem JgA:Inf Try.prog 4 1 1 (.bool false):=AC (by kernel_rfl)
theorem Lk:Inf Try.prog 5 1 1 (.int .u8 0):=AC (by kernel_rfl)
theorem Ry:Inf Try.prog 9 1 16 (.string ⟨#[]⟩):=AC (by kernel_rfl)
theorem Jdb:Inf Try.prog 22 1 24 (.slice none 0 0):=AC (by kernel_rfl)
theorem JgB:Inf Try.prog 24 3 32 (.agg #[.int .u8 0,.int .u8 0,.slice none 0 0]):=AC (by kernel_rfl)
theorem JgC:Inf Try.prog 25 1 24 (.slice none 0 0):=AC (by kernel_rfl)
theorem JgD:Inf Try.prog 26 1 1 (.int .i8 0):=AC (by kernel_rfl)
theorem Jdc:Inf Try.prog 28 1 24 (.slice none 0 0):=AC (by kernel_rfl)
theorem Jdd:Inf Try.prog 30 3 40 (.agg #[.int .i64 0,.int .u8 0,.slice none 0 0]):=AC (by kernel_rfl)
theorem Zf:Inf Try.prog 32 1 24 (.slice none 0 0):=AC (by kernel_rfl)
theorem Jde:Inf Try.prog 34 1 24 (.slice none 0 0):=AC (by kernel_rfl)
theorem JgE:Inf Try.prog 35 1 8 (.int .i64 0):=AC (by kernel_rfl)
theorem Zg:Inf Try.prog 38 1 24 (.slice none 0 0):=AC (by kernel_rfl)
theorem Jdf:Inf Try.prog 40 3 48 (.agg #[.string ⟨#[]⟩,.slice none 0 0,.int .i64 0]):=AC (by kernel_rfl)
theorem JgF:Inf Try.prog 49 1 24 (.slice none 0 0):=AC (by kernel_rfl)
theorem Zh:Inf Try.prog 52 1 24 (.slice none 0 0):=AC (by kernel_rfl)
theorem JgG:Inf Try.prog 59 3 3 (.agg #[.int .u8 0,.int .u8 0,.int .u8 0]):=AC (by kernel_rfl)
theorem VT:Inf Try.prog 60 1 1 (.int .u8 0):=AC (by kernel_rfl)
theorem Jdg:Inf Try.prog 62 2 2 (.agg #[.int .u8 0,.int .u8 0]):=AC (by kernel_rfl)
theorem Jdh:Inf Try.prog 66 6 64 (.agg #[.string ⟨#[]⟩,.slice none 0 0,.int .u8 0,.int .u8 0,.int .i64 0,.int .i64 0]):=AC (by kernel_rfl)
theorem Zi:Inf Try.prog 68 2 2 (.agg #[.int .u8 0,.int .u8 0]):=AC (by kernel_rfl)
theorem Jdi:Inf Try.prog 70 6 56 (.agg #[.slice none 0 0,.slice none 0 0,.int .u8 0,.int .u8 0,.int .u8 0,.int .u8 0]):=AC (by kernel_rfl)
theorem JgH:Inf Try.prog 74 1 8 (.pointer none):=AC (by kernel_rfl)
theorem JgI:Inf Try.prog 76 7 104 (.agg #[.int .i64 0,.int .u8 0,.slice none 0 0,.slice none 0 0,.int .i64 0,.int .i64 0,.slice none 0 0]):=AC (by kernel_rfl)
theorem VU:Inf Try.prog 79 3 24 (.agg #[.int .i64 0,.int .i64 0,.int .u8 0]):=AC (by kernel_rfl)
theorem JgJ:Inf Try.prog 82 1 24 (.slice none 0 0):=AC (by kernel_rfl)
theorem Jdj:Inf Try.prog 87 1 24 (.slice none 0 0):=AC (by kernel_rfl)
theorem JgK:Inf Try.prog 92 2 16 (.agg #[.int .i64 0,.int .i64 0]):=AC (by kernel_rfl)
theorem JgL:Inf Try.prog 97 1 8 (.pointer none):=AC (by kernel_rfl)
theorem Zj:Inf Try.prog 99 1 24 (.slice none 0 0):=AC (by kernel_rfl)
theorem Rz:Inf Try.prog 102 3 40 (.agg #[.int .i64 0,.string ⟨#[]⟩,.string ⟨#[]⟩]):=AC (by kernel_rfl)
theorem Zk:Inf Try.prog 106 6 56 (.agg #[.int .i64 0,.int .i64 0,.int .u8 0,.int .i64 0,.int .i64 0,.string ⟨#[]⟩]):=AC (by kernel_rfl)
theorem Jea:Inf Try.prog 114 1 24 (.slice none 0 0):=AC (by kernel_rfl)
theorem Jeb:Inf Try.prog 116 1 8 (.map none):=AC (by kernel_rfl)
theorem Zl:Inf Try.prog 117 1 24 (.slice none 0 0):=AC (by kernel_rfl)
theorem Zm:Inf Try.prog 118 1 24 (.slice none 0 0):=AC (by kernel_rfl)
theorem Zn:Inf Try.prog 119 1 24 (.slice none 0 0):=AC (by kernel_rfl)
theorem Jec:Inf Try.prog 121 6 112 (.agg #[.slice none 0 0,.int .i64 0,.int .i64 0,.slice none 0 0,.slice none 0 0,.slice none 0 0]):=AC (by kernel_rfl)
theorem Zo:Inf Try.prog 122 1 24 (.slice none 0 0):=AC (by kernel_rfl)
theorem UY:Inf Try.prog 124 3 40 (.agg #[.string ⟨#[]⟩,.string ⟨#[]⟩,.int .i64 0]):=AC (by kernel_rfl)
theorem Zp:Inf Try.prog 125 1 8 (.map none):=AC (by kernel_rfl)
theorem Zq:Inf Try.prog 128 1 8 (.map none):=AC (by kernel_rfl)
theorem Jed:Inf Try.prog 129 5 40 (.agg #[.map none,.map none,.map none,.map none,.map none]):=AC (by kernel_rfl)
theorem Jee:Inf Try.prog 130 1 24 (.slice none 0 0):=AC (by kernel_rfl)
theorem UZ:Inf Try.prog 132 8 112 (.agg #[.string ⟨#[]⟩,.string ⟨#[]⟩,.int .i64 0,.int .i64 0,.slice none 0 0,.int .i64 0,.string ⟨#[]⟩,.string ⟨#[]⟩]):=AC (by kernel_rfl)
theorem Jef:Inf Try.prog 136 1 24 (.slice none 0 0):=AC (by kernel_rfl)
theorem Jeg:Inf Try.prog 140 1 8 (.nilFunc):=AC (by kernel_rfl)
theorem Jeh:Inf Try.prog 141 1 8 (.map none):=AC (by kernel_rfl)
theorem Jei:Inf Try.prog 143 1 8 (.nilFunc):=AC (by kernel_rfl)
theorem Jej:Inf Try.prog 146 1 8 (.pointer none):=AC (by kernel_rfl)
theorem Jek:Inf Try.prog 150 1 8 (.nilFunc):=AC (by kernel_rfl)
theorem Jel:Inf Try.prog 156 1 8 (.int .u64 0):=AC (by kernel_rfl)
theorem Jem:Inf Try.prog 161 1 8 (.int .i64 0):=AC (by kernel_rfl)
theorem Jen:Inf Try.prog 168 1 4 (.int .u32 0):=AC (by kernel_rfl)
theorem Jeo:Inf Try.prog 170 1 8 (.int .u64 0):=AC (by kernel_rfl)
theorem Jep:Inf Try.prog 172 1 8 (.int .u64 0):=AC (by kernel_rfl)
theorem Jeq:Inf Try.prog 176 1 8 (.pointer none):=AC (by kernel_rfl)
def ty:Nat->Ty
 | 3=>⟨true,[],1,false,[.int .i64 0],.int .i64⟩
 | 4=>⟨true,[],1,false,[.bool false],.bool⟩
 | 5=>⟨true,[],1,false,[.int .u8 0],.int .u8⟩
 | 9=>⟨true,[],1,false,[.str []],.string⟩
 | 22=>⟨true,[],1,false,[.nil],.slice 6 56 [.nil,.nil,.int .u8 0,.int .u8 0,.int .u8 0,.int .u8 0]⟩
 | 24=>⟨true,[],3,true,[.int .u8 0,.int .u8 0,.nil],.struct [(0,1),(1,1),(2,1)]⟩
 | 25=>⟨true,[],1,false,[.nil],.slice 2 2 [.int .u8 0,.int .u8 0]⟩
 | 26=>⟨true,[],1,false,[.int .i8 0],.int .i8⟩
 | 28=>⟨true,[],1,false,[.nil],.slice 6 64 [.str [],.nil,.int .u8 0,.int .u8 0,.int .i64 0,.int .i64 0]⟩
 | 30=>⟨true,[],3,true,[.int .i64 0,.int .u8 0,.nil],.struct [(0,1),(1,1),(2,1)]⟩
 | 32=>⟨true,[],1,false,[.nil],.slice 2 2 [.int .u8 0,.int .u8 0]⟩
 | 34=>⟨true,[],1,false,[.nil],.slice 3 48 [.str [],.nil,.int .i64 0]⟩
 | 35=>⟨true,[],1,false,[.int .i64 0],.int .i64⟩
 | 38=>⟨true,[],1,false,[.nil],.slice 1 1 [.int .u8 0]⟩
 | 40=>⟨true,[],3,true,[.str [],.nil,.int .i64 0],.struct [(0,1),(1,1),(2,1)]⟩
 | 49=>⟨true,[],1,false,[.nil],.slice 1 16 [.str []]⟩
 | 52=>⟨true,[],1,false,[.nil],.slice 1 1 [.int .u8 0]⟩
 | 59=>⟨true,[.int .u8,.int .u8,.int .u8],3,true,[.int .u8 0,.int .u8 0,.int .u8 0],.array 3 1⟩
 | 60=>⟨true,[],1,false,[.int .u8 0],.int .u8⟩
 | 62=>⟨true,[.int .u8,.int .u8],2,true,[.int .u8 0,.int .u8 0],.struct [(0,1),(1,1)]⟩
 | 66=>⟨true,[],6,true,[.str [],.nil,.int .u8 0,.int .u8 0,.int .i64 0,.int .i64 0],.struct [(0,1),(1,1),(2,1),(3,1),(4,1),(5,1)]⟩
 | 68=>⟨true,[.int .u8,.int .u8],2,true,[.int .u8 0,.int .u8 0],.array 2 1⟩
 | 70=>⟨true,[],6,true,[.nil,.nil,.int .u8 0,.int .u8 0,.int .u8 0,.int .u8 0],.struct [(0,1),(1,1),(2,1),(3,1),(4,2)]⟩
 | 74=>⟨true,[],1,false,[.nilp],.other⟩
 | 76=>⟨true,[],7,true,[.int .i64 0,.int .u8 0,.nil,.nil,.int .i64 0,.int .i64 0,.nil],.struct [(0,3),(3,1),(4,1),(5,1),(6,1)]⟩
 | 79=>⟨true,[.int .i64,.int .i64,.int .u8],3,true,[.int .i64 0,.int .i64 0,.int .u8 0],.struct [(0,1),(1,1),(2,1)]⟩
 | 82=>⟨true,[],1,false,[.nil],.slice 6 56 [.int .i64 0,.int .i64 0,.int .u8 0,.int .i64 0,.int .i64 0,.str []]⟩
 | 87=>⟨true,[],1,false,[.nil],.slice 1 8 [.int .i64 0]⟩
 | 92=>⟨true,[.int .i64,.int .i64],2,true,[.int .i64 0,.int .i64 0],.array 2 1⟩
 | 97=>⟨true,[],1,false,[.nilp],.other⟩
 | 99=>⟨true,[],1,false,[.nil],.slice 3 40 [.int .i64 0,.str [],.str []]⟩
 | 102=>⟨true,[.int .i64,.string,.string],3,true,[.int .i64 0,.str [],.str []],.struct [(0,1),(1,1),(2,1)]⟩
 | 106=>⟨true,[.int .i64,.int .i64,.int .u8,.int .i64,.int .i64,.string],6,true,[.int .i64 0,.int .i64 0,.int .u8 0,.int .i64 0,.int .i64 0,.str []],.struct [(0,3),(3,1),(4,1),(5,1)]⟩
 | 114=>⟨true,[],1,false,[.nil],.slice 3 24 [.int .i64 0,.int .i64 0,.int .u8 0]⟩
 | 116=>⟨true,[],1,false,[.nilm],.map [.int .i64,.int .i64,.int .u8] true false [.int .i64 0]⟩
 | 117=>⟨true,[],1,false,[.nil],.slice 1 24 [.nil]⟩
 | 118=>⟨true,[],1,false,[.nil],.slice 1 1 [.bool false]⟩
 | 119=>⟨true,[],1,false,[.nil],.slice 1 8 [.nilm]⟩
 | 121=>⟨true,[],6,true,[.nil,.int .i64 0,.int .i64 0,.nil,.nil,.nil],.struct [(0,1),(1,1),(2,1),(3,1),(4,1),(5,1)]⟩
 | 122=>⟨true,[],1,false,[.nil],.slice 3 40 [.str [],.str [],.int .i64 0]⟩
 | 124=>⟨true,[.string,.string,.int .i64],3,true,[.str [],.str [],.int .i64 0],.struct [(0,1),(1,1),(2,1)]⟩
 | 125=>⟨true,[],1,false,[.nilm],.map [.int .i64] false false [.int .i64 0]⟩
 | 128=>⟨true,[],1,false,[.nilm],.map [.int .i64] false false [.nil]⟩
 | 129=>⟨true,[],5,true,[.nilm,.nilm,.nilm,.nilm,.nilm],.array 5 1⟩
 | 130=>⟨true,[],1,false,[.nil],.slice 8 112 [.str [],.str [],.int .i64 0,.int .i64 0,.nil,.int .i64 0,.str [],.str []]⟩
 | 132=>⟨true,[],8,true,[.str [],.str [],.int .i64 0,.int .i64 0,.nil,.int .i64 0,.str [],.str []],.struct [(0,3),(3,1),(4,1),(5,3)]⟩
 | 136=>⟨true,[],1,false,[.nil],.slice 1 24 [.nil]⟩
 | 140=>⟨true,[],1,false,[.nilf],.other⟩
 | 141=>⟨true,[],1,false,[.nilm],.map [.string] false true [.int .i64 0,.str [],.str []]⟩
 | 143=>⟨true,[],1,false,[.nilf],.other⟩
 | 146=>⟨true,[],1,false,[.nilp],.other⟩
 | 150=>⟨true,[],1,false,[.nilf],.other⟩
 | 156=>⟨true,[],1,false,[.int .u64 0],.int .u64⟩
 | 161=>⟨true,[],1,false,[.int .i64 0],.int .i64⟩
 | 168=>⟨true,[],1,false,[.int .u32 0],.int .u32⟩
 | 170=>⟨true,[],1,false,[.int .u64 0],.int .u64⟩
 | 172=>⟨true,[],1,false,[.int .u64 0],.int .u64⟩
 | 176=>⟨true,[],1,false,[.nilp],.other⟩
 | _=>⟨false,[],0,false,[],.other⟩
theorem tf3:Ao Try.prog 3 (ty 3):=tfM G2 Try.underlying3 rfl
theorem tf4:Ao Try.prog 4 (ty 4):=tfM JgA Try.underlying4 rfl
theorem tf5:Ao Try.prog 5 (ty 5):=tfM Lk Try.underlying5 rfl
theorem tf9:Ao Try.prog 9 (ty 9):=tfM Ry Try.underlying9 rfl
theorem JhQ:Ao Try.prog 22 (ty 22):=tfM Jdb Try.underlying22 (slK Jdi)
theorem JhR:Ao Try.prog 24 (ty 24):=tfM JgB Try.underlying24 (stF (AZ (Cd Lk Try.underlying5) (AZ (Cd Lk Try.underlying5) (AZ (Cd Jdb Try.underlying22) Hm))))
theorem JhS:Ao Try.prog 25 (ty 25):=tfM JgC Try.underlying25 (slK Zi)
theorem JhT:Ao Try.prog 26 (ty 26):=tfM JgD Try.underlying26 rfl
theorem JhU:Ao Try.prog 28 (ty 28):=tfM Jdc Try.underlying28 (slK Jdh)
theorem JhV:Ao Try.prog 30 (ty 30):=tfM Jdd Try.underlying30 (stF (AZ (Cd G2 Try.underlying3) (AZ (Cd Lk Try.underlying5) (AZ (Cd Jdc Try.underlying28) Hm))))
theorem JhW:Ao Try.prog 32 (ty 32):=tfM Zf Try.underlying32 (slK Jdg)
theorem JhX:Ao Try.prog 34 (ty 34):=tfM Jde Try.underlying34 (slK Jdf)
theorem JhY:Ao Try.prog 35 (ty 35):=tfM JgE Try.underlying35 rfl
theorem JhZ:Ao Try.prog 38 (ty 38):=tfM Zg Try.underlying38 (slK VT (λ _=>Try.underlying60))
theorem Jh0:Ao Try.prog 40 (ty 40):=tfM Jdf Try.underlying40 (stF (AZ (Cd Ry Try.underlying9) (AZ (Cd Zg Try.underlying38) (AZ (Cd G2 Try.underlying3) Hm))))
theorem Jh1:Ao Try.prog 49 (ty 49):=tfM JgF Try.underlying49 (slK Ry)
theorem Jh2:Ao Try.prog 52 (ty 52):=tfM Zh Try.underlying52 (slK Lk (λ _=>Try.underlying5))
theorem Jh3:Ao Try.prog 59 (ty 59):=tfM JgG Try.underlying59 (arK Lk) (λ _=>UH Try.underlying59 Try.underlying5 Lk (by kernel_rfl))
theorem Jh4:Ao Try.prog 60 (ty 60):=tfM VT Try.underlying60 rfl
theorem Jh5:Ao Try.prog 62 (ty 62):=tfM Jdg Try.underlying62 (stF (AZ (Cd VT Try.underlying60) (AZ (Cd VT Try.underlying60) Hm))) (λ _=>Ns Try.underlying62 (by kernel_rfl) (by kernel_rfl) rfl λ j f k h1 h2=>match j,h1,h2 with|0,h1,h2=>(by cases h1;cases h2;exact⟨by decide,rfl,⟨_,Try.underlying60⟩⟩)|1,h1,h2=>(by cases h1;cases h2;exact⟨by decide,rfl,⟨_,Try.underlying60⟩⟩)|n+2,h1,_=>by simp at h1)
theorem Jh6:Ao Try.prog 66 (ty 66):=tfM Jdh Try.underlying66 (stF (AZ (Cd Ry Try.underlying9) (AZ (Cd Zg Try.underlying38) (AZ (Cd Lk Try.underlying5) (AZ (Cd Lk Try.underlying5) (AZ (Cd G2 Try.underlying3) (AZ (Cd G2 Try.underlying3) Hm)))))))
theorem Jh7:Ao Try.prog 68 (ty 68):=tfM Zi Try.underlying68 (arK Lk) (λ _=>UH Try.underlying68 Try.underlying5 Lk (by kernel_rfl))
theorem Jh8:Ao Try.prog 70 (ty 70):=tfM Jdi Try.underlying70 (stF (AZ (Cd Zh Try.underlying52) (AZ (Cd Zh Try.underlying52) (AZ (Cd Lk Try.underlying5) (AZ (Cd Lk Try.underlying5) (AZ (Cd Zi Try.underlying68) Hm))))))
theorem Jh9:Ao Try.prog 74 (ty 74):=tfM JgH Try.underlying74 trivial
theorem Jia:Ao Try.prog 76 (ty 76):=tfM JgI Try.underlying76 (stF (AZ (Cd Jdd Try.underlying30) (AZ (Cd Zf Try.underlying32) (AZ (Cd G2 Try.underlying3) (AZ (Cd G2 Try.underlying3) (AZ (Cd Jde Try.underlying34) Hm))))))
theorem Jib:Ao Try.prog 79 (ty 79):=tfM VU Try.underlying79 (stF (AZ (Cd G2 Try.underlying3) (AZ (Cd G2 Try.underlying3) (AZ (Cd Lk Try.underlying5) Hm)))) (λ _=>Ns Try.underlying79 (by kernel_rfl) (by kernel_rfl) rfl λ j f k h1 h2=>match j,h1,h2 with|0,h1,h2=>(by cases h1;cases h2;exact⟨by decide,rfl,⟨_,Try.underlying3⟩⟩)|1,h1,h2=>(by cases h1;cases h2;exact⟨by decide,rfl,⟨_,Try.underlying3⟩⟩)|2,h1,h2=>(by cases h1;cases h2;exact⟨by decide,rfl,⟨_,Try.underlying5⟩⟩)|n+3,h1,_=>by simp at h1)
theorem Jic:Ao Try.prog 82 (ty 82):=tfM JgJ Try.underlying82 (slK Zk)
theorem Jid:Ao Try.prog 87 (ty 87):=tfM Jdj Try.underlying87 (slK G2)
theorem Jie:Ao Try.prog 92 (ty 92):=tfM JgK Try.underlying92 (arK G2) (λ _=>UH Try.underlying92 Try.underlying3 G2 (by kernel_rfl))
theorem Jif:Ao Try.prog 97 (ty 97):=tfM JgL Try.underlying97 trivial
theorem Jig:Ao Try.prog 99 (ty 99):=tfM Zj Try.underlying99 (slK Rz)
theorem JgM:Ao Try.prog 102 (ty 102):=tfM Rz Try.underlying102 (stF (AZ (Cd G2 Try.underlying3) (AZ (Cd Ry Try.underlying9) (AZ (Cd Ry Try.underlying9) Hm)))) (λ _=>Ns Try.underlying102 (by kernel_rfl) (by kernel_rfl) rfl λ j f k h1 h2=>match j,h1,h2 with|0,h1,h2=>(by cases h1;cases h2;exact⟨by decide,rfl,⟨_,Try.underlying3⟩⟩)|1,h1,h2=>(by cases h1;cases h2;exact⟨by decide,rfl,Try.underlying9⟩)|2,h1,h2=>(by cases h1;cases h2;exact⟨by decide,rfl,Try.underlying9⟩)|n+3,h1,_=>by simp at h1)
theorem JgN:Ao Try.prog 106 (ty 106):=tfM Zk Try.underlying106 (stF (AZ (Cd VU Try.underlying79) (AZ (Cd G2 Try.underlying3) (AZ (Cd G2 Try.underlying3) (AZ (Cd Ry Try.underlying9) Hm))))) (λ _=>Jcu Try.underlying106 (by kernel_rfl) (by kernel_rfl) (.cons (a:=[.int .i64,.int .i64,.int .u8]) ⟨by decide,rfl⟩ (.nest (by obtain⟨j,h1,h2,_⟩:=VU;exact⟨_,j,Try.underlying79,(by kernel_rfl),h1,h2,rfl,λ j f k h1 h2=>match j,h1,h2 with|0,h1,h2=>(by cases h1;cases h2;exact⟨by decide,rfl,⟨_,Try.underlying3⟩⟩)|1,h1,h2=>(by cases h1;cases h2;exact⟨by decide,rfl,⟨_,Try.underlying3⟩⟩)|2,h1,h2=>(by cases h1;cases h2;exact⟨by decide,rfl,⟨_,Try.underlying5⟩⟩)|n+3,h1,_=>by simp at h1⟩)) (.cons (a:=[.int .i64]) ⟨by decide,rfl⟩ (.one ⟨_,Try.underlying3⟩) (.cons (a:=[.int .i64]) ⟨by decide,rfl⟩ (.one ⟨_,Try.underlying3⟩) (.cons (a:=[.string]) ⟨by decide,rfl⟩ (.one Try.underlying9) .nil)))))
theorem JgO:Ao Try.prog 114 (ty 114):=tfM Jea Try.underlying114 (slK VU)
theorem JgP:Ao Try.prog 116 (ty 116):=tfM Jeb Try.underlying116 (by obtain⟨j,h1,h2,h3,h4⟩:=G2;exact⟨_,_,j,_,rfl,(PD Try.underlying79 (by kernel_rfl) rfl λ j f k h1 h2=>match j,h1,h2 with|0,h1,h2=>(by cases h1;cases h2;exact⟨by decide,rfl,⟨_,Try.underlying3⟩⟩)|1,h1,h2=>(by cases h1;cases h2;exact⟨by decide,rfl,⟨_,Try.underlying3⟩⟩)|2,h1,h2=>(by cases h1;cases h2;exact⟨by decide,rfl,⟨_,Try.underlying5⟩⟩)|n+3,h1,_=>by simp at h1),h1,h4,rfl,(λ h=>by cases h),(λ _=>⟨_,rfl,rfl⟩)⟩)
theorem JgQ:Ao Try.prog 117 (ty 117):=tfM Zl Try.underlying117 (slK Zo)
theorem JgR:Ao Try.prog 118 (ty 118):=tfM Zm Try.underlying118 (slK JgA)
theorem JgS:Ao Try.prog 119 (ty 119):=tfM Zn Try.underlying119 (slK Zp)
theorem JgT:Ao Try.prog 121 (ty 121):=tfM Jec Try.underlying121 (stF (AZ (Cd Zf Try.underlying32) (AZ (Cd G2 Try.underlying3) (AZ (Cd G2 Try.underlying3) (AZ (Cd Zl Try.underlying117) (AZ (Cd Zm Try.underlying118) (AZ (Cd Zn Try.underlying119) Hm)))))))
theorem JgU:Ao Try.prog 122 (ty 122):=tfM Zo Try.underlying122 (slK UY)
theorem JgV:Ao Try.prog 124 (ty 124):=tfM UY Try.underlying124 (stF (AZ (Cd Ry Try.underlying9) (AZ (Cd Ry Try.underlying9) (AZ (Cd G2 Try.underlying3) Hm)))) (λ _=>Ns Try.underlying124 (by kernel_rfl) (by kernel_rfl) rfl λ j f k h1 h2=>match j,h1,h2 with|0,h1,h2=>(by cases h1;cases h2;exact⟨by decide,rfl,Try.underlying9⟩)|1,h1,h2=>(by cases h1;cases h2;exact⟨by decide,rfl,Try.underlying9⟩)|2,h1,h2=>(by cases h1;cases h2;exact⟨by decide,rfl,⟨_,Try.underlying3⟩⟩)|n+3,h1,_=>by simp at h1)
theorem JgW:Ao Try.prog 125 (ty 125):=tfM Zp Try.underlying125 (by obtain⟨j,h1,h2,h3,h4⟩:=G2;exact⟨_,_,j,_,rfl,(Lj Try.underlying3),h1,h4,rfl,(λ h=>by cases h),(λ _=>⟨_,rfl,rfl⟩)⟩)
theorem JgX:Ao Try.prog 128 (ty 128):=tfM Zq Try.underlying128 (by obtain⟨j,h1,h2,h3,h4⟩:=Zj;exact⟨_,_,j,_,rfl,(Lj Try.underlying3),h1,h4,rfl,(λ h=>by cases h),(λ _=>⟨_,rfl,rfl⟩)⟩)
theorem JgY:Ao Try.prog 129 (ty 129):=tfM Jed Try.underlying129 (arK Zq)
theorem JgZ:Ao Try.prog 130 (ty 130):=tfM Jee Try.underlying130 (slK UZ)
theorem Jg0:Ao Try.prog 132 (ty 132):=tfM UZ Try.underlying132 (stF (AZ (Cd UY Try.underlying124) (AZ (Cd G2 Try.underlying3) (AZ (Cd Zj Try.underlying99) (AZ (Cd Rz Try.underlying102) Hm)))))
theorem Jg1:Ao Try.prog 136 (ty 136):=tfM Jef Try.underlying136 (slK Jdj)
theorem Jg2:Ao Try.prog 140 (ty 140):=tfM Jeg Try.underlying140 trivial
theorem Jg3:Ao Try.prog 141 (ty 141):=tfM Jeh Try.underlying141 (by obtain⟨j,h1,h2,h3,h4⟩:=Rz;exact⟨_,_,j,_,rfl,(Rx Try.underlying9),h1,h4,rfl,(λ _=>⟨_,rfl,rfl⟩),(λ h=>by cases h)⟩)
theorem Jg4:Ao Try.prog 143 (ty 143):=tfM Jei Try.underlying143 trivial
theorem Jg5:Ao Try.prog 146 (ty 146):=tfM Jej Try.underlying146 trivial
theorem Jg6:Ao Try.prog 150 (ty 150):=tfM Jek Try.underlying150 trivial
theorem Jg7:Ao Try.prog 156 (ty 156):=tfM Jel Try.underlying156 rfl
theorem Jg8:Ao Try.prog 161 (ty 161):=tfM Jem Try.underlying161 rfl
theorem Jg9:Ao Try.prog 168 (ty 168):=tfM Jen Try.underlying168 rfl
theorem Jha:Ao Try.prog 170 (ty 170):=tfM Jeo Try.underlying170 rfl
theorem Jhb:Ao Try.prog 172 (ty 172):=tfM Jep Try.underlying172 rfl
theorem Jhc:Ao Try.prog 176 (ty 176):=tfM Jeq Try.underlying176 trivial
theorem tyOK:Gt Try.prog ty:=by
 intro t h;unfold ty at h;split at h
 ·exact tf3
 ·exact tf4
 ·exact tf5
 ·exact tf9
 ·exact JhQ
 ·exact JhR
 ·exact JhS
 ·exact JhT
 ·exact JhU
 ·exact JhV
 ·exact JhW
 ·exact JhX
 ·exact JhY
 ·exact JhZ
 ·exact Jh0
 ·exact Jh1
 ·exact Jh2
 ·exact Jh3
 ·exact Jh4
 ·exact Jh5
 ·exact Jh6
 ·exact Jh7
 ·exact Jh8
 ·exact Jh9
 ·exact Jia
 ·exact Jib
 ·exact Jic
 ·exact Jid
 ·exact Jie
 ·exact Jif
 ·exact Jig
 ·exact JgM
 ·exact JgN
 ·exact JgO
 ·exact JgP
 ·exact JgQ
 ·exact JgR
 ·exact JgS
 ·exact JgT
 ·exact JgU
 ·exact JgV
 ·exact JgW
 ·exact JgX
 ·exact JgY
 ·exact JgZ
 ·exact Jg0
 ·exact Jg1
 ·exact Jg2
 ·exact Jg3
 ·exact Jg4
 ·exact Jg5
 ·exact Jg6
 ·exact Jg7
 ·exact Jg8
 ·exact Jg9
 ·exact Jha
 ·exact Jhb
 ·exact Jhc
 ·cases h
theorem follows:Try.prog.follows .mixedOrders=true:=by kernel_rfl
def qfT:List (Nat×Nat):=[]
theorem Jih:∀ f k,(f,k)∈qfT->∀ vs:Array Value,vs.size=k->QD Try.prog (KR f vs):=λ _ _ h=>by cases h
def cxk (n nk:Nat):Cx:=⟨ty,⟨n,[],nk,qfT⟩,AN Try.prog,Bw Try.prog,MO Try.prog,LY Try.prog,GC Try.prog,false⟩
def cx (n:Nat):Cx:=cxk n 0
theorem Jdk (n nk:Nat):Fe Try.prog (cxk n nk):=⟨tyOK,λ _ _ _ h=>h,λ _ _ _ _ _ _ h=>h,λ _ _ _ _ _ h=>h,λ _ _ _ _ h=>h,λ _ _ _ _ _ h=>h,Jih,λ h=>by cases h⟩
end Go.AI
end
section
namespace Go.AI
section
variable {κ β α:Type}
def rowM (l:List (Option (Bool×List (κ×β)))) (i:Int):Option (List (κ×β)):=(idx l i).bind λ x=>match x with
 | some (false,m)=>some m
 | _=>none
def rowA (l:List (Option (Bool×List (κ×β)))) (i:Int):Option (Bool×List (κ×β)):=(idx l i).bind id
theorem Hu {l:List (Option (Bool×List (κ×β)))} {i:Int} {x:Bool×List (κ×β)} (h:rowA l i=some x):idx l i=some (some x):=by
 unfold rowA at h;cases hi:idx l i with
 | none=>rw[hi]at h;cases h
 | some y=>rw[hi]at h;exact congrArg some h
theorem BY {l:List (Option (Bool×List (κ×β)))} {i:Int} {m:List (κ×β)} (h:rowM l i=some m):idx l i=some (some (false,m)):=by
 obtain⟨x,h1,h2⟩:=bind_some h
 match x,h2 with
 | some (false,m'),h2=>cases h2;exact h1
 | some (true,m'),h2=>cases h2
 | none,h2=>cases h2
def Xn (p:Int×α):List (Int×α)->List (Int×α)
 | []=>[p]
 | q::r=>if p.1<=q.1 then p::q::r else q::Xn p r
def B4 (m:List (Int×α)):List (Int×α):=m.foldr Xn []
theorem Md (p:Int×α):∀ l,(Xn p l).Perm (p::l)
 | []=>List.Perm.refl _
 | q::r=>by
  unfold Xn;split
  ·exact List.Perm.refl _
  ·exact((Md p r).cons q).trans (List.Perm.swap _ _ _)
theorem D4:∀ m:List (Int×α),(B4 m).Perm m
 | []=>List.Perm.refl _
 | p::m=>(Md p (B4 m)).trans ((D4 m).cons p)
theorem Qs {p:Int×α}:∀ {l:List (Int×α)},l.Pairwise (λ a b=>a.1<=b.1)->(Xn p l).Pairwise (λ a b=>a.1<=b.1)
 | [],_=>List.pairwise_singleton _ _
 | q::r,h=>by
  rw[List.pairwise_cons]at h;unfold Xn;split
  ·rename_i hle;refine List.pairwise_cons.2 ⟨λ b hb=>?_,List.pairwise_cons.2 h⟩;rcases List.mem_cons.1 hb with rfl|hb
   ·exact hle
   ·have:=h.1 b hb;omega
  ·rename_i hle;refine List.pairwise_cons.2 ⟨λ b hb=>?_,Qs h.2⟩;rcases List.mem_cons.1 ((Md p r).subset hb)with rfl|hb
   ·omega
   ·exact h.1 b hb
theorem ON:∀ m:List (Int×α),(B4 m).Pairwise (λ a b=>a.1<=b.1)
 | []=>List.Pairwise.nil
 | _::m=>Qs (ON m)
theorem Qt:∀ {l m:List (Int×α)},l.Perm m->(l.map (·.1)).Nodup->l.Pairwise (λ a b=>a.1<=b.1)->m.Pairwise (λ a b=>a.1<=b.1)->l=m
 | [],m,hp,_,_,_=>(hp.symm.eq_nil).symm
 | a::l,[],hp,_,_,_=>by cases hp.eq_nil
 | a::l,b::m,hp,hn,h1,h2=>by
  have hn':=hn;simp only[JiU,List.nodup_cons]at hn';rw[List.pairwise_cons]at h1 h2;have hab:a=b:=by
   rcases List.mem_cons.1 (hp.subset (List.mem_cons_self (a:=a) (l:=l)))with h|h
   ·exact h
   ·rcases List.mem_cons.1 (hp.symm.subset (List.mem_cons_self (a:=b) (l:=m)))with h'|h'
    ·exact h'.symm
    ·have q1:=h1.1 b h';have q2:=h2.1 a h;exact absurd (JiQ.2 ⟨b,h',by omega⟩) hn'.1
  subst hab;rw[Qt hp.cons_inv hn'.2 h1.2 h2.2]
end
end Go.AI
end
section
namespace Go.AI
def Jcv {α:Type} (xs:List α) (i j:Int):Option (List α):=if 0<=i/\j=i+1/\j<=xs.length then some (xs.take i.toNat++xs.drop (i.toNat+1))else none
end Go.AI
end
section
namespace Go.AI
open Go.Proofs Go.RowKit Go.Lib
def zero8:List Value:=[.string ⟨#[]⟩,.string ⟨#[]⟩,.int .i64 0,.int .i64 0,.slice none 0 0,.int .i64 0,.string ⟨#[]⟩,.string ⟨#[]⟩]
theorem U0 (w:World) (ty:TypeId) (b o n c:Nat) (hn:n=1)
  (hc:∀ j,j<n*8->(w.cell? ⟨b,o+j,none⟩).isSome=true) (hf:∀ j,j<n*8->w.frozen? ⟨b,o+j,none⟩=false) :
  (Builtin.clear_ #[130] ty #[.slice (some ⟨b,o,none⟩) n c]).run Try.prog w=.ok (.tuple #[]) (w.setCells b o zero8):=by
 subst hn;have hzc:(Builtin.zeroCells (Value.agg zero8.toArray).cells 1).toList=zero8:=by kernel_rfl
 have hone:∀ v∈zero8,v.oneCell'=true:=λ v hv=>by
  simp only[zero8,List.mem_cons,List.not_mem_nil,or_false]at hv;rcases hv with rfl|rfl|rfl|rfl|rfl|rfl|rfl|rfl<;>rfl
 have hst:=run_storeCells_cells (P:=Try.prog) b o zero8 0 w (by simpa [zero8]using hc) (by simpa [zero8]using hf) hone;simp only[Nat.add_zero]at hst;have hz:∀ w,(zeroValue 132).run Try.prog w=.ok (.agg zero8.toArray) w:=Try.zeroValue132;simp only[Builtin.clear_,List.getElem?_toArray,JiV,JiF,run_underlying Try.underlying130,JiD,hz,hzc,hst];rfl
set_option maxHeartbeats 4000000 in
set_option maxRecDepth 1000000 in
theorem Zr (blk off cap i j n:Nat) (cs:List Value) (w:World) (hij:j=i+1) (hj:j<=n) (hcap:n<=cap) (hl:cs.length=n*8)
  (hc:∀ t,t<n*8->w.cell? ⟨blk,off+t,none⟩=some (cs.getD t undef)) (hf:∀ t,t<n*8->w.frozen? ⟨blk,off+t,none⟩=false) (h1:∀ u∈cs,u.oneCell'=true) :
  Calls Try.prog 74 #[.slice (some ⟨blk,off,none⟩) n cap,.int .i64 i,.int .i64 j] w λ e w'=>e=.returned (.slice (some ⟨blk,off,none⟩) (i+(n-j)) cap)/\w'=(w.drew.setCells blk (off+i*8) (cs.drop (j*8))).setCells blk (off+(i+(n-j))*8) zero8:=by
 have hlt:i<j:=by omega
 obtain⟨i0,hi0,hz1⟩:∃ i0,Try.prog.info? 132=some i0/\i0.size=8:=by obtain⟨i,h1,h2,_⟩:=UZ;exact⟨i,h1,h2⟩
 obtain⟨news,hnews⟩:∃ news,news=cs.drop (j*8):=⟨_,rfl⟩;have hlen:news.length=(n-j)*8:=by rw[hnews,List.length_drop,hl,Nat.sub_mul]
 obtain⟨A,hA,hsrc⟩:∃ A:Addr,(if cap=j then some (⟨blk,off,none⟩:Addr)else some ⟨blk,off+j*8,none⟩)=some A/\Hid (∀ t u,news[t]?=some u->w.drew.cell? (A.add t)=some u):=by
  by_cases h:cap=j
  ·refine⟨⟨blk,off,none⟩,by simp[h],λ t u hu=>?_⟩;have h0:news.length=0:=by rw[hlen];omega
   rw[List.length_eq_zero_iff.1 h0]at hu;simp at hu
  ·refine⟨⟨blk,off+j*8,none⟩,by simp[h],λ t u hu=>?_⟩;have ht:=(List.getElem?_eq_some_iff.1 hu).1;rw[hlen]at ht;rw[hnews,JiR]at hu;rw[Addr.add_lit,show off+j*8+t=off+(j*8+t) by omega];have:=hc (j*8+t) (by omega);refine Eq.trans ?_ (this.trans ?_)
   ·rfl
   ·rw[List.getD_eq_getElem?_getD,hu];rfl
 have s1:Hid (news.length=(n-j)*8):=hlen;have s2:Hid (∀ u∈news,u.oneCell'=true):=λ u hu=>h1 u (List.mem_of_mem_drop (by rw[← hnews];exact hu));have s3:Hid (∀ t,t<news.length->(w.drew.cell? ⟨blk,off+i*8+t,none⟩).isSome=true/\w.drew.frozen? ⟨blk,off+i*8+t,none⟩=false):=by
  intro t ht;rw[hlen]at ht;rw[JiS];exact⟨by show(w.cell? _).isSome=true;rw[hc (i*8+t) (by omega)];rfl,hf (i*8+t) (by omega)⟩
 obtain⟨W1,hW1⟩:∃ W1,W1=w.drew.setCells blk (off+i*8) news:=⟨_,rfl⟩;have hcl:∀ ty,(Builtin.clear_ #[130] ty #[.slice (some ⟨blk,off+(i+(n-j))*8,none⟩) (n-(i+(n-j))) (cap-(i+(n-j)))]).run Try.prog W1=.ok (.tuple #[]) (W1.setCells blk (off+(i+(n-j))*8) zero8):=
  λ ty=>U0 W1 ty blk _ _ _ (by omega) (λ t ht=>by
   rw[hW1];refine World.isSome_setCells blk news (off+i*8) w.drew _ ?_;show(w.cell? _).isSome=true;rw[JiS,hc _ (by omega)];rfl) (λ t ht=>by
   rw[hW1,World.frozen?_setCells,JiS];exact hf _ (by omega))
 have X:Aside (W1=w.drew.setCells blk (off+i*8) (cs.drop (j*8))):=by rw[hW1,hnews];rfl
 have hW:Hid (W1=w.drew.setCells blk (off+i*8) news):=hW1;have hic:i<=cap:=by omega
 have hjc:j<=cap:=by omega
 clear hW1 hc hf hnews hlen h1 hl hij
 go_enter Try.func74,Try.ntmps74
 go_wp2_with fail
 go_region_law (refine step_append_room rfl (.tmp 22) (.tmp 25) 130 rfl 132 i0 8 Try.underlying130 hi0 hz1 blk off i cap (by simp[Act.eval,Act.put]) A (n-j) (cap-j) news (by simp[Act.eval,Act.put]) s1.out hsrc.out s2.out (by omega) s3.out ?_;rw[← hW.out])
 go_wp2
 go_ret
 refine⟨rfl,?_⟩;rw[← X.out]
theorem Ll {w:World} {b o:Nat} {t:TypeId} {fr:Nat×Nat} {vs:List Value} {cur:Array Value} (hb:w.heap[b]?=some (.cells cur t fr)) (ho:o+vs.length<=cur.size) (hf:QM fr cur.size) (h1:∀ v∈vs,v.oneCell'=true) :
  w.setCells b o vs={ w with heap:=w.heap.setIfInBounds b (.cells (Bg cur o vs) t fr) }:=by
 have e1:=BF Try.prog b o t fr vs 0 cur w hb (by omega) hf h1;have e2:=run_storeCells_cells (P:=Try.prog) b o vs 0 w (λ j hj=>by
  simp only[World.cell?,hb,Option.isSome_none,Jja,if_false,Nat.add_zero];have:o+j<cur.size:=by omega
  rw[Ji3 this];rfl) (λ j hj=>HW hb (hf _ (by omega))) h1
 rw[e1]at e2;have:=congrArg (λ r:Result Unit=>match r with | .ok _ w=>w|_=>w) e2
 simpa using this.symm
theorem Zs {β:Type} {enc:β->List D} (hk:∀ x,(enc x).length=8) {xs zs:List β} {i j:Int} (h:Jcv xs i j=some zs):Bw Try.prog 74 [.osl 0 8 0 xs.length,.d (.int .i64 i),.d (.int .i64 j)] [some (.arr 8 (xs.map enc))] 1 (.osl 1 8 0 zs.length) [none,some (.arr 8 (zs.map enc))]:=by
 unfold Jcv at h;split at h
 case isFalse=>cases h
 rename_i hb;obtain⟨hb1,rfl,hb2⟩:=hb;cases h;obtain⟨q,rfl⟩:∃ q:Nat,i=q:=⟨i.toNat,by omega⟩;have hq:q<xs.length:=by omega
 simp only[Ji7];generalize hzs:xs.take q++xs.drop (q+1)=zs;have hzl:zs.length=q+(xs.length-(q+1)):=by rw[← hzs];simp;omega
 refine⟨⟨_,_,Try.func74,rfl,rfl⟩,λ N F ρ w vs hS hcr=>?_⟩;obtain⟨v,u1,u2,rfl⟩:∃ v u1 u2,vs=#[v,u1,u2]:=by
  have h1:vs.size=3:=by simpa using hcr.1.symm
  exact⟨vs[0],vs[1],vs[2],by apply Array.ext;simp[h1];intro i h1' h2;simp at h2;match i,h2 with|0,_=>rfl|1,_=>rfl|2,_=>rfl⟩
 have hv:=hcr.2 0 _ v rfl rfl;have hu1:=(hcr.2 1 _ u1 rfl rfl).int;have hu2:=(hcr.2 2 _ u2 rfl rfl).int;subst hu1;subst hu2;generalize hn:xs.length=n at hv;cases hv with
 | osl0 _ _ _ a=>omega
 | osl _ _ _ _ cap Lo hL hc hs hz=>
  obtain⟨⟨g1,g2,cs,t,fr,g3,g4,g5,g6⟩,gN,gF⟩:=hS.obj 0 Lo _ hL rfl;simp only[JiT]at g2;have hlen:∀ e∈xs.map enc,e.length=8:=λ e he=>by
   simp only[JiQ]at he;obtain⟨y,_,rfl⟩:=he;exact hk y
  obtain⟨cells,hcells⟩:∃ cells:List Value,cells=(List.range (n*8)).map λ t=>(cs[Lo.base+t]?).getD undef:=⟨_,rfl⟩;have hcl:cells.length=n*8:=by rw[hcells];simp
  have hget:∀ t,t<n*8->cells[t]?=some ((cs[Lo.base+t]?).getD undef):=λ t ht=>by
   rw[hcells,Ji2,List.getElem?_range ht];rfl
  have hat:∀ t,t<n*8->∃ u,cs[Lo.base+t]?=some u/\u.oneCell'=true:=λ t ht=>by
   have d1:t / 8<xs.length:=by omega
   have d2:t % 8<(enc xs[t / 8]).length:=by rw[hk];omega
   obtain⟨u,hu,hd⟩:=g6 (t / 8) (enc xs[t / 8]) (by rw[Ji2,JiY d1];rfl) (t % 8) _ (JiY d2);refine⟨u,?_,hd.oneCell⟩;rw[← hu];congr 1;omega
  have hbase:Lo.base+n*8<=cs.size:=by
   rcases Nat.eq_zero_or_pos n with h0|h0
   ·omega
   ·obtain⟨u,hu,_⟩:=hat (n*8-1) (by omega);have:=Aj hu;omega
  have hones:∀ u∈cells,u.oneCell'=true:=λ u hu=>by
   rw[hcells,JiQ]at hu;obtain⟨t,ht,rfl⟩:=hu;obtain⟨u,hu,h1⟩:=hat t (List.mem_range.1 ht);rw[hu];exact h1
  have hnfr:QM fr cs.size:=by rw[g4];exact g5
  have hwalk:=Zr Lo.b (Lo.base+0*8) cap q (q+1) n cells w rfl (by omega) hc hcl (λ t ht=>by
   obtain⟨u,hu,_⟩:=hat t ht;rw[List.getD_eq_getElem?_getD,hget t ht,hu];simp only[World.cell?,g3,Option.isSome_none,Jja,if_false,Nat.zero_mul,Nat.add_zero];exact hu) (λ t ht=>HW g3 (hnfr _ (by omega))) hones
  refine Calls.mono (by exact hwalk) λ e w' he=>?_;obtain⟨rfl,rfl⟩:=he;have hnl:(cells.drop ((q+1)*8)).length=(n-(q+1))*8:=by rw[List.length_drop,hcl,Nat.sub_mul]
  have e1:=Ll (w:=w.drew) (b:=Lo.b) (o:=Lo.base+0*8+q*8) (vs:=cells.drop ((q+1)*8)) g3 (by rw[hnl];omega) hnfr (λ u hu=>hones u (List.mem_of_mem_drop hu));have hz8:∀ v∈zero8,v.oneCell'=true:=λ v hv=>by
   simp only[zero8,List.mem_cons,List.not_mem_nil,or_false]at hv;rcases hv with rfl|rfl|rfl|rfl|rfl|rfl|rfl|rfl<;>rfl
  have e2:=Ll (w:=w.drew.setCells Lo.b (Lo.base+0*8+q*8) (cells.drop ((q+1)*8))) (b:=Lo.b) (o:=Lo.base+0*8+(q+(n-(q+1)))*8) (vs:=zero8) (t:=t) (fr:=fr) (cur:=Bg cs (Lo.base+0*8+q*8) (cells.drop ((q+1)*8))) (by rw[e1];exact(BX).trans (if_pos ⟨rfl,Aj g3⟩)) (by rw[A4];simp[zero8];omega) (by rw[A4];exact hnfr) hz8;have hheap:((w.drew.setCells Lo.b (Lo.base+0*8+q*8) (cells.drop ((q+1)*8))).setCells Lo.b (Lo.base+0*8+(q+(n-(q+1)))*8) zero8).heap=w.heap.setIfInBounds Lo.b (.cells (Bg (Bg cs (Lo.base+0*8+q*8) (cells.drop ((q+1)*8))) (Lo.base+0*8+(q+(n-(q+1)))*8) zero8) t fr):=by
   rw[e2,e1];show(w.heap.setIfInBounds _ _).setIfInBounds _ _=_;rw[Array.setIfInBounds_setIfInBounds]
  have hmu:Mu w ((w.drew.setCells Lo.b (Lo.base+0*8+q*8) (cells.drop ((q+1)*8))).setCells Lo.b (Lo.base+0*8+(q+(n-(q+1)))*8) zero8):=by
   refine⟨by rw[e2,e1];rfl,by rw[e2,e1];rfl,by rw[hheap];simp,by rw[e2,e1];rfl,by rw[e2,e1];exact Nat.le_succ _⟩
  have hS1:=hS.rewrite (k':=0) (L':=Lo) (x:=.cells (Bg (Bg cs (Lo.base+0*8+q*8) (cells.drop ((q+1)*8))) (Lo.base+0*8+(q+(n-(q+1)))*8) zero8) t fr) (O':=[some (.arr 8 (zs.map enc))]) hL rfl (by rw[Bn hL];exact RLe.refl _) rfl (λ j ob' hj hob'=>by
    have:=AD hob';simp at this;omega) (by simp) (by simp) (λ ob' hob'=>by
    cases hob';refine⟨λ e he=>?_,by simp only[JiT];omega,_,t,fr,by rw[Array.getElem?_setIfInBounds_self_of_lt (Aj g3)],by rw[A4,A4,g4],g5,λ i e hi j x hx=>?_⟩
    ·simp only[JiQ]at he;obtain⟨y,_,rfl⟩:=he;exact hk y
    ·simp only[Ji2,Ji1]at hi;obtain⟨y,hy,rfl⟩:=hi;have hj:j<8:=by have:=Ab hx;rw[hk]at this;exact this
     have hil:=Ab hy;rw[C8 _ _ _ _ (by rw[A4];simp[zero8];omega),if_neg (by simp[zero8];omega),C8 _ _ _ _ (by rw[hnl];omega),hnl];rw[← hzs]at hy;by_cases hiq:i<q
     ·rw[Ji6 (by simp;omega),List.getElem?_take,if_pos hiq]at hy;obtain⟨u,hu,hd⟩:=g6 i (enc y) (by rw[Ji2,hy];rfl) j x hx;exact⟨u,by rw[if_neg (by omega)];exact hu,hd⟩
     ·rw[Jjg (by simp;omega),List.length_take,Nat.min_eq_left (by omega),JiR,show q+1+(i-q)=i+1 by omega]at hy;obtain⟨u,hu,hd⟩:=g6 (i+1) (enc y) (by rw[Ji2,hy];rfl) j x hx;refine⟨u,?_,hd⟩;have hlt:=Ab hy;rw[if_pos (by omega),JiR,hget _ (by omega),show Lo.base+((q+1)*8+(Lo.base+i*8+j-(Lo.base+0*8+q*8)))=Lo.base+(i+1)*8+j by omega,hu];rfl) (λ ob' hob'=>by cases hob';rfl)
  rw[Bn hL,← hheap]at hS1;have hzn:q+(n-(q+1))=zs.length:=by omega
  obtain⟨ρ',h1,h2,h3⟩:=L4 (k:=0) (sz:=8) (lo:=0) (n:=zs.length) hS1 rfl (by simp) (v:=.slice (some ⟨Lo.b,Lo.base+0*8,none⟩) zs.length cap) (.osl 0 8 0 zs.length cap Lo hL (by omega) hs hz);rw[show((zs.map enc).drop 0).take zs.length=zs.map enc from by rw[List.drop_zero];exact List.take_of_length_le (by simp)]at h2;exact⟨_,F,ρ',by rw[hzn],h2,λ j _ L h=>h1 j L h,h3,hmu⟩
end Go.AI
end
section
namespace Go.AI
variable {P:Program} {Γ:Cx} {C:Code} {p:List Nat} {Q:Ex->St->Prop} {s s':St} {i nk:Nat} {α κ:Type}
def xKV (objs:List (Option Ob)) (agg:Bool):AV->Option (List D×List Nat×List (Nat×Nat))
 | .agg l=>bif agg then xDs objs l else none
 | v=>bif agg then none else xDs objs [v]
theorem U1 {objs:List (Option Ob)} {agg:Bool} {v:AV} {x:List D} (h:xKV objs agg v=some (x,[],[])):∃ ob,kvA objs agg v=some ⟨x,[],ob⟩/\ob:=by
 cases agg with
 | true=>
  cases v with
  | agg l=>exact I7 (l:=l) h leZ
  | _=>simp only[xKV,cond_true]at h;cases h
 | false=>
  cases v with
  | agg l=>simp only[xKV,cond_false]at h;cases h
  | _=>simp only[xKV,cond_false]at h;simp only[kvA,cond_false];exact I7 h leZ
theorem Lm [DecidableEq κ] {encK:κ->List D} {enc:α->List D} {ks:List TK} {ka va:Bool} {k:Nat} {m:List (κ×α)} {key:κ} {a:AV} {z:α} {vz:List D} (heq:∀ a b,Al ks ((encK a).map .d) ((encK b).map .d)=some (decide (a=b))) (ok:Bool) (hz:slZ vz=enc z:=by kernel_rfl) (hk:obA s.objs k=some (.map ka va (Bp encK enc m)):=by kernel_rfl) (hx:xKV s.objs ka a=some (encK key,[],[]):=by kernel_rfl) :
  EH s (He (.map ks ka va vz) s.objs (.mp k) a ok) (bif ok then .tup [kvV va (enc ((AO key m).getD z)),.d (.bool (AO key m).isSome)]else kvV va (enc ((AO key m).getD z))) [] [] none:=by
 obtain⟨ob,e2,q⟩:=U1 hx;have hv:((GY ks (encK key) (Bp encK enc m)).getD (slZ vz))=enc ((AO key m).getD z):=by
  rw[VL heq,hz];cases AO key m<;>rfl
 have hs:(GY ks (encK key) (Bp encK enc m)).isSome=(AO key m).isSome:=by rw[VL heq];cases AO key m<;>rfl
 refine .of (ob:=ob/\D0 ks (encK key) (Bp encK enc m)) ?_ ⟨q,Rp heq key m⟩;simp only[He,hk,cond_true,e2,List.isEmpty_nil,beq_self_eq_true,Bool.and_self,A3,hv,hs]
theorem Jcw (encK:κ->List D) (enc:α->List D) (m:List (κ×α)):EH s (val (.d (.int .i64 (Bp encK enc m).length))) (.d (.int .i64 m.length)) [] [] none:=by
 refine .of (ob:=True) ?_ trivial;simp only[val,Bp,JiT]
theorem Nx [DecidableEq κ] {encK:κ->List D} {enc:α->List D} {ks:List TK} {ka va:Bool} {k:Nat} {m:List (κ×α)} {key:κ} {a v:AV} {y:α} {vz:List D} (heq:∀ a b,Al ks ((encK a).map .d) ((encK b).map .d)=some (decide (a=b))) (hz:Nat.beq (enc y).length vz.length=true:=by kernel_rfl) (hk:obA s.objs k=some (.map ka va (Bp encK enc m)):=by kernel_rfl) (hx:xKV s.objs ka a=some (encK key,[],[]):=by kernel_rfl) (hv:xKV s.objs va v=some (enc y,[],[]):=by kernel_rfl) :
  EH s (Gz (.map ks ka va vz) s.objs (.mp k) a v) .top [] [] (some (k,.map ka va (Bp encK enc (BJ key y m)))):=by
 obtain⟨ob,e2,q⟩:=U1 hx;obtain⟨ob',e3,q'⟩:=U1 hv;refine .of (ob:=ob/\ob'/\D0 ks (encK key) (Bp encK enc m)/\k ∉ ([]:List Nat)/\(enc y).length=vz.length) ?_ ⟨q,q',Rp heq key m,by simp,Ji5 hz⟩;simp only[Gz,hk,e2,e3,Jc6 heq,List.isEmpty_nil,beq_self_eq_true,Bool.and_self,cond_true]
end Go.AI
end
section
namespace Go.AI
open Go.Sort Go.Shelf Go.Proofs
variable {P:Program} {ρs:Ren}
theorem Sim.more {N:Nat->Prop} {H0 F0 F:Nat->Option Obj} {ρ:Nat->Option Loc} {O:List (Option Ob)} {h:Array Obj} (hS:Sim N H0 F0 F ρ O h) (os:Array Obj):Sim N H0 F0 F ρ O (h++os):=by
 have hl:∀ b,b<h.size->(h++os)[b]?=h[b]? := λ b hb=>Array.getElem?_append_left hb;have hg:∀ b o,h[b]?=some o->(h++os)[b]?=some o:=λ b o hb=>by rw[hl b (Aj hb)];exact hb
 obtain⟨σ,hσ⟩:=hS.inn;have hM:∀ k c M,σ k c=some M->(h++os)[M.b]?=h[M.b]? := λ k c M hM=>hl _ (hσ.new k c M hM).2.1;refine { hS with size:=λ b hb=>hS.size b (by simp at hb;omega),old:=λ b hb=>?_,frz:=λ b o hb=>hg b o (hS.frz b o hb),loc:=λ k L hk=>?_,obj:=λ k L ob hk ho=>?_,inn:=⟨σ,λ k c M hM=>?_,hσ.obj,hσ.sep,λ k L ob0 sz es hk ho hr0 i e j isz xs hi hj o1 v hb hv=>?_⟩ }
 ·have:b<h.size:=by
   apply Classical.byContradiction;intro hn;exact hb (hS.size b (by omega))
  rw[hl b this];exact hS.old b hb
 ·have:=hS.loc k L hk;simp;omega
 ·obtain⟨g1,g2,g3⟩:=hS.obj k L ob hk ho;exact⟨g1.mono (FLe.refl _) (RLe.refl _) (hl _ (hS.loc k L hk)),g2,g3⟩
 ·obtain⟨g1,g2,g3⟩:=hσ.new k c M hM;exact⟨g1,by simp;omega,g3⟩
 ·rw[hl _ (hS.loc k L hk)]at hb;exact(hσ.rep k L ob0 sz es hk ho hr0 i e j isz xs hi hj o1 v hb hv).mono (FLe.refl _) λ L' hL'=>hM _ _ _ hL'
end Go.AI
end
section
namespace Go.AI
def U2 {β:Type} (lt:β->β->Bool) (x:β):List β->List β
 | []=>[x]
 | y::l=>if lt y x=true then y::U2 lt x l else x::y::l
def Kz {β:Type} (lt:β->β->Bool):List β->List β
 | []=>[]
 | x::l=>U2 lt x (Kz lt l)
def Tb {β:Type} (lt:β->β->Bool) (xs:List β):Option (List β):=if xs.length<4611686018427387904 then some (Kz lt xs)else none
section
variable {β:Type} {lt:β->β->Bool}
theorem Me (x:β):∀ l:List β,(U2 lt x l).Perm (x::l)
 | []=>.refl _
 | y::l=>by
  unfold U2;split
  ·exact((Me x l).cons y).trans (.swap x y l)
  ·exact .refl _
theorem GJ:∀ l:List β,(Kz lt l).Perm l
 | []=>.refl _
 | x::l=>(Me x _).trans ((GJ l).cons x)
theorem MZ (hn:∀ x y z,lt x y=false->lt y z=false->lt x z=false) (ha:∀ x y,lt x y=true->lt y x=false) {x:β}:∀ {l:List β},l.Pairwise (λ a b=>lt b a=false)->(U2 lt x l).Pairwise (λ a b=>lt b a=false)
 | [],_=>by simp[U2]
 | y::l,h=>by
  unfold U2;rw[List.pairwise_cons]at h;split
  ·rename_i hyx;refine List.pairwise_cons.2 ⟨λ z hz=>?_,MZ hn ha h.2⟩;rcases List.mem_cons.1 ((Me x l).mem_iff.1 hz)with rfl|hz
   ·exact ha _ _ hyx
   ·exact h.1 z hz
  ·rename_i hyx;have hyx:lt y x=false:=by simpa using hyx
   refine List.pairwise_cons.2 ⟨λ z hz=>?_,List.pairwise_cons.2 h⟩;rcases List.mem_cons.1 hz with rfl|hz
   ·exact hyx
   ·exact hn _ _ _ (h.1 z hz) hyx
theorem G3 (hn:∀ x y z,lt x y=false->lt y z=false->lt x z=false) (ha:∀ x y,lt x y=true->lt y x=false):∀ l:List β,(Kz lt l).Pairwise (λ a b=>lt b a=false)
 | []=>.nil
 | _::l=>MZ hn ha (G3 hn ha l)
theorem RB (hi:∀ x,lt x x=false) (hn:∀ x y z,lt x y=false->lt y z=false->lt x z=false) (ht:∀ x y z,lt x y=true->lt y z=true->lt x z=true) {l:List β} (hT:∀ x∈l,∀ y∈l,lt x y=false->lt y x=false->x=y):Kz lt l=l.mergeSort λ x y=>!lt y x:=by
 have ha:∀ x y,lt x y=true->lt y x=false:=λ x y h=>by
  rw[Bool.eq_false_iff];intro h';have:=ht x y x h h';rw[hi]at this;cases this
 refine List.Perm.eq_of_pairwise (le:=λ a b=>lt b a=false) (λ a b h3 h4 h1 h2=>hT _ ((GJ l).mem_iff.1 h3) _ ((List.mergeSort_perm _ _).mem_iff.1 h4) h2 h1) (G3 hn ha l) ?_ ((GJ l).trans (List.mergeSort_perm _ _).symm);have:=List.pairwise_mergeSort (le:=λ x y:β=>!lt y x) (λ a b c h1 h2=>by simp at *;exact hn _ _ _ h2 h1) (λ a b=>by
  cases h:lt b a with
  | false=>simp
  | true=>simp[ha _ _ h]) l
 exact this.imp λ h=>by simpa using h
end
end Go.AI
end
section
namespace Go.AI
open Go.Sort Go.Shelf Go.Proofs
variable {P:Program} {ρs:Ren} {β:Type} [Inhabited β]
theorem A5.is_val {F:Nat->Option Obj} {x:D} {v:Value} (h:A5 F x v) (hp:x.isPlain=true):v=x.val:=by
 cases h<;>first|rfl|cases hp
theorem PH {x:D} (hp:x.isPlain=true):x.val.oneCell'=true:=A5.oneCell (A5.val (λ _=>none) hp)
theorem Zt {g:Nat} {enc:β->List D} (hpl:∀ x,∀ d∈enc x,d.isPlain=true) {cf:β->β->Int} (hcmp:∀ x y,AN P g [.agg ((enc x).map .d),.agg ((enc y).map .d)] (.d (.int .i64 (cf x y)))) (k blk off size:Nat) (w:World):CmpLays P g #[] (λ x=>(enc x).map D.val) k cf blk off size w:=by
 intro m os dk _ x y;generalize sortWorldK (λ x=>(enc x).map D.val) k w blk off m dk os=W;have ag:∀ z:β,Ag (λ _=>none) noR (.agg ((enc z).map .d)) (.agg ((enc z).map D.val).toArray):=λ z=>by
  refine .agg _ _ (by simp) λ i a v h1 h2=>?_;simp only[Ji2,Ji1]at h1;obtain⟨d,hd,rfl⟩:=h1;simp only[List.getElem?_toArray,Ji2,hd,Option.map_some,Ji8]at h2;subst h2;exact .d _ _ (A5.val _ (hpl z d (Ji0 hd)))
 refine((hcmp x y).2 (λ _=>none) W _ ⟨rfl,λ i a v h1 h2=>?_⟩ (λ b o h=>by cases h)).mono λ e w' he=>?_
 ·match i,h1,h2 with
  | 0,h1,h2=>cases h1;cases h2;exact ag x
  | 1,h1,h2=>cases h1;cases h2;exact ag y
 ·obtain⟨v,F',ρ,rfl,hS,hv,hmu⟩:=he;refine⟨?_,w'.drawn-W.drawn,w'.heap.extract W.heap.size w'.heap.size,?_⟩
  ·have hv:Ag F' ρ (.d (.int .i64 (cf x y))) v:=hv;rw[hv.int]
  ·obtain⟨h1,h2,h3,h4,h5⟩:=hmu;have hh:w'.heap=W.heap++w'.heap.extract W.heap.size w'.heap.size:=by
    apply Array.ext_getElem?;intro b;rw[Array.getElem?_append];split
    ·rename_i hb;exact hS.old b (by omega)
    ·rename_i hb;rw[Array.getElem?_extract];split
     ·congr 1;omega
     ·rw[Array.getElem?_eq_none (by omega)]
   show w'={ W with drawn:=W.drawn+(w'.drawn-W.drawn),heap:=W.heap++w'.heap.extract W.heap.size w'.heap.size };rw[← hh,Nat.add_sub_cancel' h5];cases w';cases W;simp only at h1 h2 h4;subst h1;subst h2;subst h4;rfl
theorem RC {lt:β->β->Bool} (hS:SWO lt) {d d':Array β} (hT:∀ x∈d.toList,∀ y∈d.toList,lt x y=false->lt y x=false->x=y) (hP:PermIn 0 d.size d d') (hSo:SortedIn lt 0 d.size d'):d'=(d.toList.mergeSort λ x y=>!lt y x).toArray:=by
 obtain⟨hsz,_,hperm⟩:=hP;have e1:d'.extract 0 d.size=d':=by rw[← hsz];exact Array.extract_size
 rw[e1,Array.extract_size]at hperm
 suffices h:d'.toList=d.toList.mergeSort λ x y=>!lt y x by rw[← h]
 refine List.Perm.eq_of_pairwise (le:=λ x y=>(!lt y x)=true) ?_ ?_ ?_ (hperm.trans (List.mergeSort_perm _ _).symm)
 ·intro a b ha hb h1 h2;simp only[Bool.not_eq_true']at h1 h2;exact hT a (hperm.mem_iff.1 ha) b ((List.mergeSort_perm _ _).mem_iff.1 hb) h2 h1
 ·rw[List.pairwise_iff_getElem];intro i j hi hj hij;have hi':i<d'.size:=by simpa using hi
  have hj':j<d'.size:=by simpa using hj
  have:=hSo i j (Nat.zero_le _) hij (by omega);rw[getElem!_pos d' j hj',getElem!_pos d' i hi']at this;simpa using this
 ·refine List.pairwise_mergeSort ?_ ?_ _
  ·intro a b c h1 h2;simp only[Bool.not_eq_true']at h1 h2⊢;exact hS.ntrans c b a h2 h1
  ·intro a b;cases h:lt b a with
   | false=>simp
   | true=>simp[hS.asymmA h]
theorem U3 (L:SlLaysF0.n6 P ρs) (k:Nat) (hk1:1<=k) (aE:∀ w,(isAgg (ρs.t 24)).run P w=.ok true w) (zE:∀ w,(Go.sizeOf (ρs.t 24)).run P w=.ok k w) {enc:β->List D} (hk:∀ x,(enc x).length=k) (hpl:∀ x,∀ d∈enc x,d.isPlain=true) {cf:β->β->Int} (hO:SWO (ltOf cf)) {xs zs:List β} (hT:∀ x∈xs,∀ y∈xs,ltOf cf x y=false->ltOf cf y x=false->x=y) {g:Nat} (eg:∀ args w,(callFunc g args).run P w=.ok (.enter g args) w)
  (hcmp:∀ x y,AN P g [.agg ((enc x).map .d),.agg ((enc y).map .d)] (.d (.int .i64 (cf x y)))) (hf:∃ fn c,P.funcs[ρs.f 6]? = some fn/\fn.body=some c/\(fn.name == "runtime.NumGoroutine")=false) (h:Tb (ltOf cf) xs=some zs) :
  Bw P (ρs.f 6) [.osl 0 k 0 xs.length,.clo g []] [some (.arr k (xs.map enc))] 1 (.tup []) [some (.arr k (zs.map enc))]:=by
 have hz:xs.length<4611686018427387904/\zs=xs.mergeSort λ x y=>!(ltOf cf) y x:=by
  unfold Tb at h;split at h
  ·rename_i h1;exact⟨h1,by rw[← RB hO.irrefl hO.ntrans hO.trans hT];exact(Option.some.inj h).symm⟩
  ·cases h
 obtain⟨hlt,hzs⟩:=hz;refine⟨hf,λ N F ρ w vs hS hcr=>?_⟩;obtain⟨v,u,rfl⟩:∃ v u,vs=#[v,u]:=by
  have h1:vs.size=2:=by simpa using hcr.1.symm
  exact⟨vs[0],vs[1],by apply Array.ext;simp[h1];intro i h1' h2;simp at h2;match i,h2 with|0,_=>rfl|1,_=>rfl⟩
 have hv:=hcr.2 0 _ v rfl rfl;have hu:=hcr.2 1 _ u rfl rfl;have hu:u=.func (.func g) #[] #[]:=by
  cases hu with
  | clo _ _ vs hl _=>
   have:vs=#[]:=Array.eq_empty_of_size_eq_zero hl.symm;rw[this]
 subst hu;have hlen:zs.length=xs.length:=by rw[hzs];exact List.length_mergeSort _
 have htup:∀ F' ρ',Ag F' ρ' (.tup []) (.tuple #[]):=λ F' ρ'=>.tup [] #[] rfl λ i a v h=>by simp at h
 generalize hn:xs.length=n at hv;cases hv with
 | osl0 _ _ _ a=>
  have hx:xs=[]:=List.length_eq_zero_iff.1 hn;have hz0:zs=[]:=List.length_eq_zero_iff.1 (by omega);refine(AnyF.slices_SortFunc_none L a 0 _ w).mono λ e w' he=>?_;obtain⟨rfl,rfl⟩:=he;subst hx;subst hz0;exact⟨_,F,ρ,rfl,hS,λ j _ L h=>h,htup _ _,Mu.refl _⟩
 | osl _ _ _ _ cap Lo hL hc hs hz=>
  obtain⟨⟨g1,g2,cs,t,fr,g3,g4,g5,g6⟩,gN,gF⟩:=hS.obj 0 Lo _ hL rfl;simp only[JiT]at g2;have hdm:∀ j,j<xs.length*k->j / k<xs.length/\j % k<k/\j / k*k+j % k=j:=λ j hj=>⟨(Nat.div_lt_iff_lt_mul (by omega)).2 hj,Nat.mod_lt _ (by omega),by rw[Nat.mul_comm];exact Nat.div_add_mod j k⟩;have hcell:∀ j,j<xs.length*k->cs[Lo.base+j]?=some ((flatK (λ x=>(enc x).map D.val) k xs.toArray)[j]!):=λ j hj=>by
   obtain⟨d1,d2,d3⟩:=hdm j hj;have hx:xs.toArray[j / k]! = xs[j / k]:=by rw[getElem!_pos _ (j / k) (by simpa using d1)];simp
   have hd2:j % k<(enc xs[j / k]).length:=by rw[hk];exact d2
   obtain⟨v,hv,hd⟩:=g6 (j / k) (enc xs[j / k]) (by rw[Ji2,JiY d1];rfl) (j % k) _ (JiY hd2);have:=hd.is_val (hpl _ _ (JiK hd2));subst this;rw[get_flatK _ _ _ j (by simpa using hj),hx];rw[show Lo.base+j=Lo.base+j / k*k+j % k by omega,hv,getElem!_pos _ (j % k) (by simpa using hd2)];simp
  have hH:HoldsK (λ x=>(enc x).map D.val) k w Lo.b (Lo.base+0*k) xs.toArray:=λ j hj=>by
   have hj:j<xs.length*k:=by simpa using hj
   have:=hcell j hj;refine⟨by simp only[World.cell?,g3,Option.isSome_none,Jja,if_false,Nat.zero_mul,Nat.add_zero];exact this,HW g3 (g5 _ ?_)⟩;simp;omega
  have hcon0:=AnyQ.slices_SortFunc L k aE zE (λ x=>(enc x).map D.val) (λ x=>by simp[hk]) (λ x v hv=>by
   simp only[JiQ]at hv;obtain⟨d,hd,rfl⟩:=hv;exact PH (hpl x d hd)) cf hO g #[] Lo.b (Lo.base+0*k) cap xs.toArray w eg (Zt hpl hcmp k _ _ _ w) hH (Aj g3) (by simpa using hlt)
  have hcon:=hcon0.mono λ e w' he=>(show e=.returned (.tuple #[])/\∃ n os,w'=sortWorldK (λ x=>(enc x).map D.val) k w Lo.b (Lo.base+0*k) n (xs.toArray.toList.mergeSort λ x y=>!(ltOf cf) y x).toArray os by
   obtain⟨he,d',n,os,hp,hs',hw⟩:=he;exact⟨he,n,os,by rw[hw,← RC hO (by simpa using hT) hp hs']⟩)
  rw[show xs.toArray.size=n by simpa using hn]at hcon;refine hcon.mono λ e w' he=>?_;obtain⟨rfl,m,os,rfl⟩:=he;rw[show xs.toArray.toList=xs from rfl,← hzs];have hheap:(sortWorldK (λ x=>(enc x).map D.val) k w Lo.b (Lo.base+0*k) m zs.toArray os).heap=w.heap.setIfInBounds Lo.b (.cells (putCells id Lo.base (flatK (λ x=>(enc x).map D.val) k zs.toArray) cs) t fr)++os:=by
   simp only[sortWorldK,putRowK,grow,putRow,mapBlock,Sort.ahead,Nat.zero_mul,Nat.add_zero];congr 1;apply Array.ext_getElem?;intro i;rw[Array.getElem?_modify,Array.getElem?_setIfInBounds];split
   ·rename_i e;subst e;rw[if_pos (Aj g3),g3];rfl
   ·rfl
  have hS1:=hS.rewrite (k':=0) (L':=Lo) (x:=.cells (putCells id Lo.base (flatK (λ x=>(enc x).map D.val) k zs.toArray) cs) t fr) (O':=[some (.arr k (zs.map enc))]) hL rfl (by rw[Bn hL];exact RLe.refl _) rfl (λ j ob' hj hob'=>by
    have:=AD hob';simp at this;omega) (by simp) (by simp) (λ ob' hob'=>by
    cases hob';refine⟨λ e he=>?_,by simp;rw[hlen];exact g2,_,t,fr,by rw[Array.getElem?_setIfInBounds_self_of_lt (Aj g3)],by simp[putCells,g4],g5,λ i e hi j x hx=>?_⟩
    ·simp only[JiQ]at he;obtain⟨y,_,rfl⟩:=he;exact hk y
    ·simp only[Ji2,Ji1]at hi;obtain⟨y,hy,rfl⟩:=hi;have hj:j<k:=by have:=Ab hx;rw[hk]at this;exact this
     have hil:=Ab hy;have hlt2:i*k+j<zs.length*k:=by
      have:(i+1)*k<=zs.length*k:=JiH k (by omega);rw[Jjb]at this;omega
     have hcs:Lo.base+i*k+j<cs.size:=by
      have:=hcell (i*k+j) (by rw[← hlen];exact hlt2);have:=Aj this;omega
     refine⟨x.val,?_,A5.val _ (hpl y x (Ji0 hx))⟩;have e1:(flatK (λ x=>(enc x).map D.val) k zs.toArray)[i*k+j]! = x.val:=by
      rw[get_flatK _ _ _ _ (by simpa using hlt2)];have h1:(i*k+j) / k=i:=by rw[Nat.mul_comm,Nat.mul_add_div (by omega),Nat.div_eq_of_lt hj];omega
      have h2:(i*k+j) % k=j:=by rw[Nat.mul_comm,Nat.mul_add_mod];exact Nat.mod_eq_of_lt hj
      rw[h1,h2];have e0:zs.toArray[i]! = y:=by
       rw[getElem!_pos _ i (by simpa using hil)];simpa [JiY hil]using hy
      rw[e0];have hjl:j<((enc y).map D.val).length:=by simp[hk];exact hj
      rw[getElem!_pos _ j hjl,List.getElem_map];have:=JiY (l:=enc y) (by rw[hk];exact hj);rw[this]at hx;cases hx;rfl
     simp only[putCells,Array.getElem?_mapIdx,Ji3 hcs,Option.map_some];rw[if_pos ⟨by omega,by simp;omega⟩,show Lo.base+i*k+j-Lo.base=i*k+j by omega,e1];rfl) (λ ob' hob'=>by cases hob';rfl)
  rw[Bn hL]at hS1;refine⟨_,F,ρ,rfl,by rw[hheap];exact hS1.more os,λ j _ L h=>h,htup _ _,rfl,rfl,by rw[hheap];simp,rfl,Nat.le_add_right _ _⟩
end Go.AI
end
section
namespace Go.AI
variable {β:Type}
def ltC (c:β->β->Option Int) (x y:β):Bool:=decide ((c x y).getD 0<0)
structure VV (c:β->β->Option Int):Prop where
 tot:∀ x y,(c x y).isSome=true
 irrefl:∀ x,ltC c x x=false
 trans:∀ x y z,ltC c x y=true->ltC c y z=true->ltC c x z=true
 ntrans:∀ x y z,ltC c x y=false->ltC c y z=false->ltC c x z=false
def VW (c:β->β->Option Int) (xs:List β):Prop:=∀ x∈xs,∀ y∈xs,ltC c x y=false->ltC c y x=false->x=y
open Classical in
noncomputable def sortC (c:β->β->Option Int) (xs:List β):Option (List β):=if VV c/\VW c xs then Tb (ltC c) xs else none
theorem OO {c:β->β->Option Int} {xs zs:List β} (h:sortC c xs=some zs):(VV c/\VW c xs)/\Tb (ltC c) xs=some zs:=by
 unfold sortC at h;split at h
 ·rename_i hc;exact⟨hc,h⟩
 ·cases h
theorem Zu {c:β->β->Option Int} (hc:VV c) {xs:List β} (h1:VW c xs) (h:xs.length<4611686018427387904):sortC c xs=some (Kz (ltC c) xs):=by
 unfold sortC Tb;rw[if_pos ⟨hc,h1⟩,if_pos h]
end Go.AI
end
section
namespace Go.AI
open Go.Sort Go.Shelf Go.Proofs
theorem RD {P:Program} {g:Nat} {fn:Func} (hf:P.funcs[g]? = some fn) (hb:fn.body=some (AR fn):=by kernel_rfl) (hnm:(fn.name == "runtime.NumGoroutine")=false:=by kernel_rfl) (args:Array Value) (w:World):(callFunc g args).run P w=.ok (.enter g args) w:=by
 simp only[callFunc,JiF,run_program,JiD,hf,hnm,hb,Jja,if_false,Option.isNone_some,JiG]
theorem U4 {P:Program} {ρs:Ren} {β:Type} [Inhabited β] (L:SlLaysF0.n6 P ρs) {k:Nat} (hk1:1<=k) (aE:∀ w,(isAgg (ρs.t 24)).run P w=.ok true w) (zE:∀ w,(Go.sizeOf (ρs.t 24)).run P w=.ok k w) {enc:β->List D} (hk:∀ x,(enc x).length=k) (hpl:∀ x,∀ d∈enc x,d.isPlain=true) {c:β->β->Option Int} {g:Nat} (eg:∀ args w,(callFunc g args).run P w=.ok (.enter g args) w)
  (hcmp:∀ {x y:β} {z:Int},c x y=some z->AN P g [.agg ((enc x).map .d),.agg ((enc y).map .d)] (.d (.int .i64 z))) (hf:∃ fn c,P.funcs[ρs.f 6]? = some fn/\fn.body=some c/\(fn.name == "runtime.NumGoroutine")=false) {xs zs:List β} (h:sortC c xs=some zs) :
  Bw P (ρs.f 6) [.osl 0 k 0 xs.length,.clo g []] [some (.arr k (xs.map enc))] 1 (.tup []) [some (.arr k (zs.map enc))]:=by
 obtain⟨⟨hc,h1⟩,h⟩:=OO h;refine U3 L k hk1 aE zE hk hpl (cf:=λ x y=>(c x y).getD 0) ⟨hc.irrefl,hc.trans,hc.ntrans⟩ h1 eg (λ x y=>hcmp ?_) hf h;have:=hc.tot x y;rw[Option.isSome_iff_exists]at this;obtain⟨n,hn⟩:=this;rw[hn];rfl
end Go.AI
end
section
namespace Go.AI
structure CY (α:Type) where
 a0:α
 a1:α
 deriving DecidableEq,Inhabited
structure Aw where
 Print:(List UInt8)
 Cells:(List Int)
 Left:Int
 Right:Int
 From:Int
 To:Int
 deriving DecidableEq,Inhabited
structure Ad where
 Modes:Int
 Accept:Int
 Rules:(List Aw)
 deriving DecidableEq,Inhabited
structure Ae where
 Mode:Int
 Last:Int
 Need:Int
 deriving DecidableEq,Inhabited
structure AB where
 Up:Int
 Maybe:Int
 deriving DecidableEq,Inhabited
structure G4 where
 Print:(List UInt8)
 Cells:(List UInt8)
 To:Int
 deriving DecidableEq,Inhabited
structure Aa where
 Felt:(List AB)
 Budget:Int
 Most:Int
 Arcs:(List (List G4))
 Accepts:(List Bool)
 Before:(List (Option (Bool×(List (Int×Int)))))
 deriving DecidableEq,Inhabited
structure Af where
 Cost:Int
 Text:(List UInt8)
 Cells:(List UInt8)
 deriving DecidableEq,Inhabited
structure Ah where
 Arc:G4
 More:Int
 List:(List Af)
 First:Af
 deriving DecidableEq,Inhabited
structure AK where
 Text:(List UInt8)
 Cells:(List Int)
 Cost:Int
 deriving DecidableEq,Inhabited
structure Cz where
 P:(List Int)
 C:(List Int)
 L:Int
 R:Int
 W:(CY Int)
 deriving DecidableEq,Inhabited
structure IJ where
 Base:Int
 Drop:Int
 More:(List Cz)
 deriving DecidableEq,Inhabited
structure U5 where
 T:Ad
 L:(List AB)
 Budget:Int
 Left:Int
 Out:(List AK)
 deriving DecidableEq,Inhabited
structure F8 where
 S:Ae
 Rule:Int
 At:Int
 Text:(List UInt8)
 deriving DecidableEq,Inhabited
structure Zv (α:Type) where
 a0:α
 a1:α
 a2:α
 deriving DecidableEq,Inhabited
def A1 (_:Nat) (b:(List UInt8)) (c:(List Int)) (a:(CY Int)):Option Aw:=
 some ({ Print:=b,Cells:=c,Left:=63,Right:=63,From:=a.a0,To:=a.a1 }:Aw)
def M0 (n:Nat) :Option (List Aw):=
 (A1 n [97] [1] ({ a0:=0,a1:=0 }:(CY Int))).bind λ a=>
 (A1 n [98] [3] ({ a0:=0,a1:=0 }:(CY Int))).bind λ b=>
 (A1 n [99] [9] ({ a0:=0,a1:=0 }:(CY Int))).bind λ c=>
 (A1 n [32] [0] ({ a0:=0,a1:=0 }:(CY Int))).bind λ d=>
 some [a,b,c,d]
def E5 (n:Nat) (c:Int) (a:Int) (d:(CY Int)):Option Aw:=
 (A1 n [] [c] d).bind λ b=>
 (B1 (decide (0<=a))).bind λ _=>
 some ({ Print:=b.Print,Cells:=b.Cells,Left:=b.Left,Right:=FF .u8 1 a,From:=b.From,To:=b.To }:Aw)
def D9 (_:Nat) (a:(List Aw)):Option Ad:=
 some ({ Modes:=1,Accept:=1,Rules:=a }:Ad)
def Fk (n:Nat) (a:Int):Option Ad:=
 (M0 n).bind λ d=>
 if((A8 a 8)==1)=true then
  (E5 n 60 3 ({ a0:=0,a1:=1 }:(CY Int))).bind λ u=>
  (A1 n [49] [1] ({ a0:=1,a1:=1 }:(CY Int))).bind λ v=>
  (A1 n [50] [3] ({ a0:=1,a1:=1 }:(CY Int))).bind λ w=>
  (A1 n [32] [0] ({ a0:=1,a1:=0 }:(CY Int))).bind λ e=>
  (app 64 d [u,v,w,e]).bind λ x=>
  some ({ Modes:=2,Accept:=3,Rules:=x }:Ad)
 else
  if((A8 a 8)==2)=true then
   (E5 n 32 2 ({ a0:=0,a1:=1 }:(CY Int))).bind λ f=>
   (A1 n [65] [1] ({ a0:=1,a1:=0 }:(CY Int))).bind λ g=>
   (A1 n [66] [3] ({ a0:=1,a1:=0 }:(CY Int))).bind λ h=>
   (app 64 d [f,g,h]).bind λ y=>
   some ({ Modes:=2,Accept:=1,Rules:=y }:Ad)
  else
   if((A8 a 8)==3)=true then
    (A1 n [97,98] [7] ({ a0:=0,a1:=0 }:(CY Int))).bind λ i=>
    (A1 n [97,98,99] [15] ({ a0:=0,a1:=0 }:(CY Int))).bind λ j=>
    (A1 n [99,97] [4,4] ({ a0:=0,a1:=0 }:(CY Int))).bind λ k=>
    (app 64 d [i,j,k]).bind λ z=>
    D9 n z
   else
    if((A8 a 8)==4)=true then
     (A1 n [45] [1,3] ({ a0:=0,a1:=0 }:(CY Int))).bind λ l=>
     (app 64 d [l]).bind λ A=>
     D9 n A
    else
     if((A8 a 8)==5)=true then
      (A1 n [98] [44] ({ a0:=0,a1:=0 }:(CY Int))).bind λ b=>
      (A1 n [99,97,98] [44] ({ a0:=0,a1:=0 }:(CY Int))).bind λ c=>
      (A1 n [45] [36] ({ a0:=0,a1:=0 }:(CY Int))).bind λ m=>
      (app 64 d [({ Print:=b.Print,Cells:=b.Cells,Left:=17,Right:=b.Right,From:=b.From,To:=b.To }:Aw),({ Print:=c.Print,Cells:=c.Cells,Left:=2,Right:=c.Right,From:=c.From,To:=c.To }:Aw),m]).bind λ B=>
      D9 n B
     else
      if((A8 a 8)==6)=true then
       (E5 n 40 1 ({ a0:=0,a1:=1 }:(CY Int))).bind λ o=>
       (A1 n [225] [1] ({ a0:=1,a1:=0 }:(CY Int))).bind λ p=>
       (A1 n [226] [3] ({ a0:=1,a1:=0 }:(CY Int))).bind λ q=>
       (app 64 d [o,p,q]).bind λ C=>
       some ({ Modes:=2,Accept:=1,Rules:=C }:Ad)
      else
       if((A8 a 8)==7)=true then
        (A1 n [45] [1,5] ({ a0:=0,a1:=0 }:(CY Int))).bind λ r=>
        (A1 n [49] [5,5] ({ a0:=0,a1:=0 }:(CY Int))).bind λ s=>
        (A1 n [50] [5,9] ({ a0:=0,a1:=0 }:(CY Int))).bind λ t=>
        (app 64 d [r,s,t]).bind λ E=>
        D9 n E
       else
        D9 n d
def Fx (_:Nat) (a:Int):Option Bool:=
 some ((decide (32<=CN .u8 a 127))&&(decide (CN .u8 a 127<=126)))
def GK (n:Nat) (b:(List UInt8)) (a:Int):Option (Int⊕(Unit⊕(Int×Int))):=
 if decide (a<((b.length:Nat):Int))=true then
  (JZ b a).bind λ d=>
  (Fx n d).bind λ c=>
  if(!c)=true then
   some (.inr (.inr (a,60)))
  else
   some (.inl (A0 .i64 a 1))
 else
  some (.inr (.inl ()))
def Ln (n:Nat) (a:(List UInt8)):Option (Int×Int):=
 (whl (λ (x:Int)=>GK n a x) n 0).bind λ b=>
 match b with
 | Sum.inl _=>
  some (((a.length:Nat):Int),0)
 | Sum.inr c=>
  some c
def FO (_:Nat) (a:Int):Option Int:=
 if((decide (97<=CN .u8 a 127))&&(decide (CN .u8 a 127<=122)))=true then
  some 1
 else
  if((decide (65<=CN .u8 a 127))&&(decide (CN .u8 a 127<=90)))=true then
   some 2
  else
   if((decide (48<=CN .u8 a 127))&&(decide (CN .u8 a 127<=57)))=true then
    some 3
   else
    if((CN .u8 a 127)==32)=true then
     some 4
    else
     some 5
def DZ (n:Nat) (b:(List UInt8)) (a:Int):Option (Int⊕(Unit⊕Bool)):=
 if decide (a<((b.length:Nat):Int))=true then
  (JZ b a).bind λ d=>
  (FO n d).bind λ c=>
  if(c==4)=true then
   some (.inr (.inr true))
  else
   some (.inl (A0 .i64 a 1))
 else
  some (.inr (.inl ()))
def FH (n:Nat) (a:(List UInt8)):Option Bool:=
 (whl (λ (x:Int)=>DZ n a x) n 0).bind λ b=>
 match b with
 | Sum.inl _=>
  some false
 | Sum.inr c=>
  some c
def Mf (_:Nat) (a:Int):Option Bool:=
 some (decide (a<64))
def FI (n:Nat) (b:Aw) (a:Int):Option (Int⊕(Unit⊕Bool)):=
 if decide (a<((b.Cells.length:Nat):Int))=true then
  (idx b.Cells a).bind λ c=>
  (Mf n c).bind λ d=>
  if(((!d)||(c==63))||(c==0))=true then
   some (.inr (.inr false))
  else
   some (.inl (A0 .i64 a 1))
 else
  some (.inr (.inl ()))
def JH (n:Nat) (a:Aw) (b:Int):Option Bool:=
 if(((decide (((a.Print.length:Nat):Int)>4))||(decide (((a.Cells.length:Nat):Int)<1)))||(decide (((a.Cells.length:Nat):Int)>4)))=true then
  some false
 else
  (Ln n a.Print).bind λ c=>
  if(c.2 != 0)=true then
   some false
  else
   if((((decide (a.Left<1))||(decide (a.Left>63)))||(decide (a.Right<1)))||(decide (a.Right>63)))=true then
    some false
   else
    if((((decide (a.From<0))||(decide (a.From>=b)))||(decide (a.To<0)))||(decide (a.To>=b)))=true then
     some false
    else
     (FH n a.Print).bind λ d=>
     if d=true then
      (if((((a.Print.length:Nat):Int)==1)&&(((a.Cells.length:Nat):Int)==1))=true then idx a.Cells 0 else some default).bind λ e=>
      some (((((a.Print.length:Nat):Int)==1)&&(((a.Cells.length:Nat):Int)==1))&&(e==0))
     else
      (whl (λ (x:Int)=>FI n a x) n 0).bind λ f=>
      match f with
      | Sum.inl _=>
       some true
      | Sum.inr g=>
       some g
def FJ (_:Nat) (b:(List Int)) (c:(List Int)) (a:Int):Option (Int⊕(Unit⊕Bool)):=
 if decide (a<((b.length:Nat):Int))=true then
  (idx b a).bind λ d=>
  (idx c a).bind λ e=>
  if(d != e)=true then
   some (.inr (.inr false))
  else
   some (.inl (A0 .i64 a 1))
 else
  some (.inr (.inl ()))
def JI (n:Nat) (a:(List Int)) (b:(List Int)):Option Bool:=
 if(((a.length:Nat):Int) != ((b.length:Nat):Int))=true then
  some false
 else
  (whl (λ (x:Int)=>FJ n a b x) n 0).bind λ c=>
  match c with
  | Sum.inl _=>
   some true
  | Sum.inr d=>
   some d
def JJ (n:Nat) (a:Aw) (b:Aw):Option Bool:=
 (if(((((a.From==b.From)&&(a.To==b.To))&&(a.Left==b.Left))&&(a.Right==b.Right))&&(a.Print==b.Print))=true then JI n a.Cells b.Cells else some default).bind λ c=>
 some ((((((a.From==b.From)&&(a.To==b.To))&&(a.Left==b.Left))&&(a.Right==b.Right))&&(a.Print==b.Print))&&c)
def Et (n:Nat) (_:Ad) (b:Int) (e:Aw) (d:(List Aw)) (a:Int):Option (Int⊕(Unit⊕(Int×Int))):=
 if decide (a<((d.length:Nat):Int))=true then
  (idx d a).bind λ f=>
  (JJ n f e).bind λ c=>
  if c=true then
   some (.inr (.inr (b,20)))
  else
   some (.inl (A0 .i64 a 1))
 else
  some (.inr (.inl ()))
def Eu (n:Nat) (b:Ad) (a:Int):Option (Int⊕(Unit⊕(Int×Int))):=
 if decide (a<((b.Rules.length:Nat):Int))=true then
  (idx b.Rules a).bind λ f=>
  (JH n f b.Modes).bind λ c=>
  if(!c)=true then
   some (.inr (.inr (a,20)))
  else
   (sub b.Rules 0 a).bind λ g=>
   (whl (λ (x:Int)=>Et n b a f g x) n 0).bind λ d=>
   match d with
   | Sum.inl _=>
    some (.inl (A0 .i64 a 1))
   | Sum.inr e=>
    some (.inr (.inr e))
 else
  some (.inr (.inl ()))
def JK (n:Nat) (a:Ad):Option (Int×Int):=
 if((decide (a.Modes<1))||(decide (a.Modes>8)))=true then
  some ((-1),1)
 else
  (if(!(a.Accept==0))=true then B1 (decide (0<=a.Modes))else some default).bind λ _=>
  if((a.Accept==0)||(decide (IntKind.i64.wrap a.Accept>=FF .i64 1 a.Modes)))=true then
   some ((-1),1)
  else
   if((decide (((a.Rules.length:Nat):Int)<1))||(decide (((a.Rules.length:Nat):Int)>64)))=true then
    some ((-1),1)
   else
    (whl (λ (x:Int)=>Eu n a x) n 0).bind λ b=>
    match b with
    | Sum.inl _=>
     some (0,0)
    | Sum.inr c=>
     some c
def Mg (n:Nat) (a:Ad):Option Bool:=
 (JK n a).bind λ b=>
 some (b.2==0)
def Mh (_:Nat) :Option Ae:=
 some ({ Mode:=0,Last:=0,Need:=63 }:Ae)
def Ic (_:Nat) (b:Int) (a:Int):Option Bool:=
 (if((decide (0<=a))&&(decide (a<8)))=true then B1 (decide (0<=a))else some default).bind λ _=>
 some (((decide (0<=a))&&(decide (a<8)))&&((CN .u8 (JbM .u8 b a) 1)==1))
def Jb (n:Nat) (d:Ad) (a:Ae) (c:Int):Option (Ae×Bool):=
 if((decide (c<0))||(decide (c>=((d.Rules.length:Nat):Int))))=true then
  some (({ Mode:=0,Last:=0,Need:=0 }:Ae),false)
 else
  (idx d.Rules c).bind λ b=>
  (if(!(b.From != a.Mode))=true then Ic n b.Left a.Last else some default).bind λ e=>
  if((b.From != a.Mode)||(!e))=true then
   some (({ Mode:=0,Last:=0,Need:=0 }:Ae),false)
  else
   if(b.Print==[])=true then
    if((CN .u8 a.Need b.Right)==0)=true then
     some (({ Mode:=0,Last:=0,Need:=0 }:Ae),false)
    else
     some (({ Mode:=b.To,Last:=a.Last,Need:=CN .u8 a.Need b.Right }:Ae),true)
   else
    (JZ b.Print 0).bind λ i=>
    (FO n i).bind λ f=>
    (Ic n a.Need f).bind λ g=>
    if(!g)=true then
     some (({ Mode:=0,Last:=0,Need:=0 }:Ae),false)
    else
     (JZ b.Print (PE .i64 ((b.Print.length:Nat):Int) 1)).bind λ j=>
     (FO n j).bind λ h=>
     some (({ Mode:=b.To,Last:=h,Need:=b.Right }:Ae),true)
def CE (_:Nat) (d:Int) (a:(List Ae)) (c:(List (List Int))) (b:(List (Ae×Int))):Option (((List Ae)×(List (List Int))×(List (Ae×Int))×Int)⊕((List Ae)×(List (List Int))×(List (Ae×Int)))):=
 some (.inl (a,c,b,(A0 .i64 d 1)))
def Dq (n:Nat) (e:Int) (f:Int) (b:(List Ae)) (a:(List (List Int))) (c:(List (Ae×Int))) (d:Int):Option (((List Ae)×(List (List Int))×(List (Ae×Int))×Int)⊕((List Ae)×(List (List Int))×(List (Ae×Int)))):=
 (idx a d).bind λ g=>
 (app 8 g [e]).bind λ h=>
 CE n f b (List.set a d.toNat h) c
def BO (n:Nat) (g:Ad) (f:Int) (a:(List Ae)) (c:(List (List Int))) (b:(List (Ae×Int))) (d:Int):Option (((List Ae)×(List (List Int))×(List (Ae×Int))×Int)⊕((List Ae)×(List (List Int))×(List (Ae×Int)))):=
 if decide (d<((g.Rules.length:Nat):Int))=true then
  (idx a f).bind λ j=>
  (Jb n g j d).bind λ e=>
  if(!e.2)=true then
   CE n d a c b
  else
   if(!(Option.isSome (AO e.1 b)))=true then
    (app 24 a [e.1]).bind λ h=>
    (app 24 c [([]:(List Int))]).bind λ i=>
    Dq n f d h i (BJ e.1 ((a.length:Nat):Int) b) ((a.length:Nat):Int)
   else
    Dq n f d a c b (Option.getD (AO e.1 b) 0)
 else
  some (.inr (a,c,b))
def CF (n:Nat) (f:Ad) (a:(List Ae)) (b:(List (List Int))) (c:(List (Ae×Int))) (d:Int):Option (((List Ae)×(List (List Int))×(List (Ae×Int))×Int)⊕((List Ae)×(List (List Int)))):=
 if decide (d<((a.length:Nat):Int))=true then
  (whl (λ (x:((List Ae)×(List (List Int))×(List (Ae×Int))×Int))=>BO n f d x.1 x.2.1 x.2.2.1 x.2.2.2) n (a,b,c,0)).bind λ e=>
  some (.inl (e.1,e.2.1,e.2.2,(A0 .i64 d 1)))
 else
  some (.inr (a,b))
def GL (n:Nat) (c:Ad):Option ((List Ae)×(List (List Int))):=
 (Mh n).bind λ a=>
 (whl (λ (x:((List Ae)×(List (List Int))×(List (Ae×Int))×Int))=>CF n c x.1 x.2.1 x.2.2.1 x.2.2.2) n ([a],([[]]:List (List Int)),(BJ a 0 []),0)).bind λ b=>
 some (b.1,b.2)
def KA (n:Nat) (a:Ad):Option (List Ae):=
 (GL n a).bind λ b=>
 some b.1
def GM (n:Nat) (b:Ad) (a:Ae):Option Bool:=
 (if decide (a.Mode<b.Modes)=true then Ic n b.Accept a.Mode else some default).bind λ c=>
 (if((decide (a.Mode<b.Modes))&&c)=true then Ic n a.Need 0 else some default).bind λ d=>
 some (((decide (a.Mode<b.Modes))&&c)&&d)
def CG (_:Nat) (a:Int):Option Int:=
 (JZ [0,1,1,2,1,2,2,3,1,2,2,3,2,3,3,4,1,2,2,3,2,3,3,4,2,3,3,4,3,4,4,5,1,2,2,3,2,3,3,4,2,3,3,4,3,4,4,5,2,3,3,4,3,4,4,5,3,4,4,5,4,5,5,6,1,2,2,3,2,3,3,4,2,3,3,4,3,4,4,5,2,3,3,4,3,4,4,5,3,4,4,5,4,5,5,6,2,3,3,4,3,4,4,5,3,4,4,5,4,5,5,6,3,4,4,5,4,5,5,6,4,5,5,6,5,6,6,7,1,2,2,3,2,3,3,4,2,3,3,4,3,4,4,5,2,3,3,4,3,4,4,5,3,4,4,5,4,5,5,6,2,3,3,4,3,4,4,5,3,4,4,5,4,5,5,6,3,4,4,5,4,5,5,6,4,5,5,6,5,6,6,7,2,3,3,4,3,4,4,5,3,4,4,5,4,5,5,6,3,4,4,5,4,5,5,6,4,5,5,6,5,6,6,7,3,4,4,5,4,5,5,6,4,5,5,6,5,6,6,7,4,5,5,6,5,6,6,7,5,6,6,7,6,7,7,8] a).bind λ b=>
 some (IntKind.i64.wrap b)
def F9 (n:Nat) (a:AB) (b:Int):Option Int:=
 (CG n (GH .u8 (S1 .u8 a.Up b) a.Maybe)).bind λ c=>
 some c
def Ew (_:Nat) (a:Int):Option Bool:=
 some (a != a)
def Dy (n:Nat) (a:Int) (b:Int):Option Int:=
 (Ew n a).bind λ d=>
 (Ew n b).bind λ c=>
 if d=true then
  if c=true then
   some 0
  else
   some (-1)
 else
  if c=true then
   some 1
  else
   if decide (a<b)=true then
    some (-1)
   else
    if decide (a>b)=true then
     some 1
    else
     some 0
def Jc (_:Nat) (a:(List UInt8)) (b:(List UInt8)):Option Int:=
 some (Lib.compareBytes a b)
def Ga (_:Nat) (b:(List Int)) (a:Int):Option (Int⊕(Unit⊕Int)):=
 if decide (a<((b.length:Nat):Int))=true then
  (idx b a).bind λ c=>
  if(c != 0)=true then
   some (.inr (.inr c))
  else
   some (.inl (A0 .i64 a 1))
 else
  some (.inr (.inl ()))
def GN (n:Nat) (a:(List Int)):Option Int:=
 (whl (λ (x:Int)=>Ga n a x) n 0).bind λ b=>
 match b with
 | Sum.inl _=>
  some 0
 | Sum.inr c=>
  some c
def AQ (n:Nat) (a:Af) (b:Af):Option Int:=
 (Dy n a.Cost b.Cost).bind λ c=>
 (Jc n a.Text b.Text).bind λ d=>
 (GN n [c,d]).bind λ e=>
 some e
def Hv (n:Nat) (a:Ah) (b:Ah):Option Int:=
 (AQ n a.First b.First).bind λ c=>
 some c
def CH (_:Nat) (_:Ad) (_:(List AB)) (_:Int) (_:Int) (c:(List Ae)) (a:(List (Ae×Int))) (b:Int):Option (((List (Ae×Int))×Int)⊕(List (Ae×Int))):=
 if decide (b<((c.length:Nat):Int))=true then
  (idx c b).bind λ d=>
  some (.inl ((BJ d b a),(A0 .i64 b 1)))
 else
  some (.inr a)
def Dz (_:Nat) (a:Int) (b:Aa):Option ((Aa×Int)⊕Aa):=
 some (.inl (b,(A0 .i64 a 1)))
def Ci (_:Nat) (_:Ad) (_:(List Ae)) (_:(List (Ae×Int))) (_:Int) (_:Ae) (_:Aa) (_:Int) (c:Aw) (_:(Ae×Bool)) (a:(List Int)) (b:Int):Option (((List Int)×Int)⊕(List Int)):=
 if decide (b<((c.Cells.length:Nat):Int))=true then
  (idx c.Cells b).bind λ d=>
  (app 1 a [d]).bind λ e=>
  some (.inl (e,(A0 .i64 b 1)))
 else
  some (.inr a)
def Cj (n:Nat) (d:Ad) (i:(List Ae)) (f:(List (Ae×Int))) (c:Int) (g:Ae) (a:Aa) (b:Int):Option ((Aa×Int)⊕Aa):=
 if decide (b<((d.Rules.length:Nat):Int))=true then
  (idx d.Rules b).bind λ h=>
  (Jb n d g b).bind λ e=>
  if(!e.2)=true then
   Dz n b a
  else
   (whl (λ (x:((List Int)×Int))=>Ci n d i f c g a b h e x.1 x.2) n (([]:List Int),0)).bind λ j=>
   (idx a.Arcs c).bind λ k=>
   (S2 j).bind λ m=>
   (app 40 k [({ Print:=h.Print,Cells:=m,To:=(Option.getD (AO e.1 f) 0) }:G4)]).bind λ l=>
   Dz n b ({ Felt:=a.Felt,Budget:=a.Budget,Most:=a.Most,Arcs:=List.set a.Arcs c.toNat l,Accepts:=a.Accepts,Before:=a.Before }:Aa)
 else
  some (.inr a)
def CI (n:Nat) (d:Ad) (c:(List Ae)) (f:(List (Ae×Int))) (b:Aa) (a:Int):Option ((Aa×Int)⊕Aa):=
 if decide (a<((c.length:Nat):Int))=true then
  (idx c a).bind λ e=>
  (GM n d e).bind λ g=>
  (idx b.Accepts a).bind λ _=>
  (put b.Accepts a g).bind λ h=>
  (whl (λ (x:(Aa×Int))=>Cj n d c f a e x.1 x.2) n (({ Felt:=b.Felt,Budget:=b.Budget,Most:=b.Most,Arcs:=b.Arcs,Accepts:=h,Before:=b.Before }:Aa),0)).bind λ i=>
  some (.inl (i,(A0 .i64 a 1)))
 else
  some (.inr b)
def E6 (n:Nat) (b:Ad) (c:(List AB)) (d:Int) (e:Int):Option Aa:=
 (KA n b).bind λ a=>
 (whl (λ (x:((List (Ae×Int))×Int))=>CH n b c d e a x.1 x.2) n ([],0)).bind λ f=>
 (mkl 24 ((a.length:Nat):Int) ([]:(List G4))).bind λ g=>
 (mkl 1 ((a.length:Nat):Int) (false:Bool)).bind λ h=>
 (whl (λ (x:(Aa×Int))=>CI n b a f x.1 x.2) n (({ Felt:=c,Budget:=d,Most:=e,Arcs:=g,Accepts:=h,Before:=([]:List (Option (Bool×(List (Int×Int))))) }:Aa),0)).bind λ i=>
 some i
def Cp (n:Nat) (d:Int) (c:(List UInt8)) (e:Aa) (b:Int) (a:Int):Option ((Int×Int)⊕Int):=
 if decide (a<((c.length:Nat):Int))=true then
  (idx e.Felt (A0 .i64 d a)).bind λ f=>
  (JZ c a).bind λ h=>
  (F9 n f h).bind λ g=>
  some (.inl ((A0 .i64 b g),(A0 .i64 a 1)))
 else
  some (.inr b)
def C7 (n:Nat) (a:Int) (b:(List UInt8)) (c:Aa):Option (Int×Bool):=
 if decide (((b.length:Nat):Int)>PE .i64 ((c.Felt.length:Nat):Int) a)=true then
  some (0,false)
 else
  (whl (λ (x:(Int×Int))=>Cp n a b c x.1 x.2) n (0,0)).bind λ d=>
  some (d,true)
def BZ (_:Nat) (c:(List (Option (Bool×(List (Int×Int)))))) (a:Aa) (b:Int):Option ((Aa×Int)⊕Aa):=
 if decide (b<((c.length:Nat):Int))=true then
  (idx a.Before b).bind λ (_:(Option (Bool×(List (Int×Int)))))=>
  some (.inl (({ Felt:=a.Felt,Budget:=a.Budget,Most:=a.Most,Arcs:=a.Arcs,Accepts:=a.Accepts,Before:=List.set a.Before b.toNat (some (false,([]:(List (Int×Int))))) }:Aa),(A0 .i64 b 1)))
 else
  some (.inr a)
def B0 (_:Nat) (a:Int) (b:Aa):Option ((Aa×Int)⊕Aa):=
 some (.inl (b,(A0 .i64 a 1)))
def BA (n:Nat) (_:Aa) (_:(List (Int×Int))) (d:Int) (e1:(Int×Int)) (f:(List G4)) (a:Aa) (b:Int):Option ((Aa×Int)⊕Aa):=
 if decide (b<((f.length:Nat):Int))=true then
  (idx f b).bind λ c=>
  (C7 n d c.Cells a).bind λ e=>
  if((!e.2)||(decide (A0 .i64 e1.2 e.1>a.Budget)))=true then
   B0 n b a
  else
   (rowM a.Before (A0 .i64 d ((c.Cells.length:Nat):Int))).bind λ g=>
   if((!(Option.isSome (AO c.To g)))||(decide (A0 .i64 e1.2 e.1<(Option.getD (AO c.To g) (0:Int)))))=true then
    B0 n b ({ Felt:=a.Felt,Budget:=a.Budget,Most:=a.Most,Arcs:=a.Arcs,Accepts:=a.Accepts,Before:=List.set a.Before (Int.toNat (A0 .i64 d ((c.Cells.length:Nat):Int))) (some (false,B4 (BJ c.To (A0 .i64 e1.2 e.1) g))) }:Aa)
   else
    B0 n b ({ Felt:=a.Felt,Budget:=a.Budget,Most:=a.Most,Arcs:=a.Arcs,Accepts:=a.Accepts,Before:=List.set a.Before (Int.toNat (A0 .i64 d ((c.Cells.length:Nat):Int))) (some (false,g)) }:Aa)
 else
  some (.inr a)
def Bb (n:Nat) (c:Aa) (f:(List (Int×Int))) (a:Int) (e1:(Int×Int)) (b:Aa):Option (Aa⊕Empty):=
 (idx b.Arcs e1.1).bind λ d=>
 (whl (λ (x:(Aa×Int))=>BA n c f a e1 d x.1 x.2) n (b,0)).bind λ e=>
 some (.inl e)
noncomputable def BB (n:Nat) (c:Aa) (g:(List (Int×Int))) (a:Aa) (b:Int):Option ((Aa×Int)⊕Aa):=
 if decide (b<((List.length (List.set c.Before (Int.toNat 0) (some (false,B4 (BJ 0 0 g)))):Nat):Int))=true then
  (rowA a.Before b).bind λ h=>
  dem (λ (ord:(List (Int×Int)))=>List.Perm ord h.2) λ (ord:(List (Int×Int)))=>
  (mapW (λ (e:(Int×Int)) (x:Aa)=>Bb n c g b e x) ord ({ Felt:=a.Felt,Budget:=a.Budget,Most:=a.Most,Arcs:=a.Arcs,Accepts:=a.Accepts,Before:=List.set a.Before b.toNat (some (true,h.2)) }:Aa)).bind λ d=>
  match d with
  | Sum.inl f=>
   some (.inl (f,(A0 .i64 b 1)))
  | Sum.inr r=>
   nomatch r
 else
  some (.inr a)
noncomputable def CZ (n:Nat) (b:Aa):Option Aa:=
 (mkl 8 (A0 .i64 ((b.Felt.length:Nat):Int) 1) (none:(Option (Bool×(List (Int×Int)))))).bind λ (c:(List (Option (Bool×(List (Int×Int))))))=>
 (whl (λ (x:(Aa×Int))=>BZ n c x.1 x.2) n (({ Felt:=b.Felt,Budget:=b.Budget,Most:=b.Most,Arcs:=b.Arcs,Accepts:=b.Accepts,Before:=c }:Aa),0)).bind λ a=>
 (rowM a.Before 0).bind λ e=>
 (whl (λ (x:(Aa×Int))=>BB n a e x.1 x.2) n (({ Felt:=a.Felt,Budget:=a.Budget,Most:=a.Most,Arcs:=a.Arcs,Accepts:=a.Accepts,Before:=List.set a.Before (Int.toNat 0) (some (false,B4 (BJ 0 0 e))) }:Aa),0)).bind λ d=>
 some d
def DK (_:Nat) (_:Ah):Option Unit:=
 some ()
def Fl (n:Nat) (b:(List Ah)) (a:Int):Option (Int⊕(Unit⊕Int)):=
 if decide (a<((b.length:Nat):Int))=true then
  (idx b a).bind λ c=>
  (DK n c).bind λ _=>
  if(((c.List.length:Nat):Int)==0)=true then
   some (.inr (.inr a))
  else
   some (.inl (A0 .i64 a 1))
 else
  some (.inr (.inl ()))
def Lp (n:Nat) (a:(List Ah)):Option Int:=
 (whl (λ (x:Int)=>Fl n a x) n 0).bind λ b=>
 match b with
 | Sum.inl _=>
  some (-1)
 | Sum.inr c=>
  some c
def Id (_:Nat) (b:Int) (a:(List Ah)) (c:Int):Option (((List Ah)×Int×Int)⊕((List Ah)×Int)):=
 some (.inl (a,c,(A0 .i64 b 1)))
def FK (n:Nat) (a:(List Ah)) (b:Int) (c:Int):Option (((List Ah)×Int×Int)⊕((List Ah)×Int)):=
 if decide (c<((a.length:Nat):Int))=true then
  (idx a c).bind λ d=>
  (DK n d).bind λ _=>
  if(!(((d.List.length:Nat):Int)==0))=true then
   (idx a b).bind λ _=>
   (put a b d).bind λ e=>
   Id n c e (A0 .i64 b 1)
  else
   Id n c a b
 else
  some (.inr (a,b))
def JL (n:Nat) (b:(List Ah)):Option (List Ah):=
 (Lp n b).bind λ c=>
 if(c==(-1))=true then
  some b
 else
  (whl (λ (x:((List Ah)×Int×Int))=>FK n x.1 x.2.1 x.2.2) n (b,c,(A0 .i64 c 1))).bind λ a=>
  (sub a.1 a.2 ((a.1.length:Nat):Int)).bind λ _=>
  (UR a.1 (0+Int.toNat a.2) (Int.toNat ((a.1.length:Nat):Int)-Int.toNat a.2) (⟨⟨[],[],0⟩,0,[],⟨0,[],[]⟩⟩:Ah)).bind λ d=>
  (sub d 0 a.2).bind λ e=>
  some e
def DO (_:Nat) (a:Int) (b:(List Ah)):Option (List Ah):=
 (idx b a).bind λ d=>
 (idx b a).bind λ e=>
 (idx e.List 0).bind λ f=>
 (idx b a).bind λ g=>
 (idx b a).bind λ h=>
 (idx h.List 0).bind λ i=>
 (cat g.Arc.Print i.Text).bind λ k=>
 (idx b a).bind λ c=>
 (put b a ({ Arc:=c.Arc,More:=c.More,List:=c.List,First:=({ Cost:=A0 .i64 d.More f.Cost,Text:=k,Cells:=[] }:Af) }:Ah)).bind λ j=>
 some j
def Ey (n:Nat) (a:Ah) (b:Ah):Option Int:=
 (AQ n a.First b.First).bind λ c=>
 some c
def E7 (_:Nat) (a:Int) (b:Ah):Option ((Ah×Int)⊕Ah):=
 some (.inl (b,(A0 .i64 a 1)))
def E8 (n:Nat) (b:(List Ah)) (c:Ah) (a:Int):Option ((Ah×Int)⊕Ah):=
 if decide (a<((b.length:Nat):Int))=true then
  (idx b a).bind λ d=>
  (Ey n d c).bind λ e=>
  if decide (e<0)=true then
   (idx b a).bind λ f=>
   E7 n a f
  else
   E7 n a c
 else
  some (.inr c)
def Ie (n:Nat) (a:(List Ah)):Option Ah:=
 if decide (((a.length:Nat):Int)<1)=true then
  none
 else
  (idx a 0).bind λ b=>
  (whl (λ (x:(Ah×Int))=>E8 n a x.1 x.2) n (b,1)).bind λ c=>
  some c
def D5 (n:Nat) (a:Ah) (b:Ah):Option Bool:=
 (Hv n a b).bind λ c=>
 some (c==0)
def Ez (n:Nat) (c:Ah) (b:(List Ah)) (a:Int):Option (Int⊕(Unit⊕Int)):=
 if decide (a<((b.length:Nat):Int))=true then
  (idx b a).bind λ d=>
  (D5 n d c).bind λ e=>
  if e=true then
   some (.inr (.inr a))
  else
   some (.inl (A0 .i64 a 1))
 else
  some (.inr (.inl ()))
def GO (n:Nat) (a:Ah) (b:(List Ah)):Option Int:=
 (whl (λ (x:Int)=>Ez n a b x) n 0).bind λ c=>
 match c with
 | Sum.inl _=>
  some (-1)
 | Sum.inr d=>
  some d
def RE (_:Nat) (a:Int) (b:Int) (c:(List Ah)):Option (List Ah):=
 Jcv c a b
noncomputable def Jd (n:Nat) (a:(List Af)):Option (List Af):=
 sortC (λ (x:Af) (y:Af)=>AQ n x y) a
def BT (n:Nat) (_:Int) (_:Aa) (d:(List Ah)) (a:(List Ah)) (b:Int):Option (((List Ah)×Int)⊕(List Ah)):=
 if decide (b<((d.length:Nat):Int))=true then
  (idx a b).bind λ _=>
  (DO n b a).bind λ c=>
  (B1 (decide (List.length a=List.length c))).bind λ _=>
  some (.inl (c,(A0 .i64 b 1)))
 else
  some (.inr a)
def BU (n:Nat) (a:(List Ah)) (c:Int) (b:(List ((List UInt8)×Af))):Option (((List Ah)×(List ((List UInt8)×Af)))⊕(List ((List UInt8)×Af))):=
 (idx a c).bind λ f=>
 (sub f.List 1 ((f.List.length:Nat):Int)).bind λ h=>
 (idx a c).bind λ e=>
 (put a c ({ Arc:=e.Arc,More:=e.More,List:=h,First:=e.First }:Ah)).bind λ d=>
 (idx d c).bind λ i=>
 if decide (((i.List.length:Nat):Int)>0)=true then
  (DO n c d).bind λ g=>
  (B1 (decide (List.length d=List.length g))).bind λ _=>
  some (.inl (g,b))
 else
  (RE n c (A0 .i64 c 1) d).bind λ j=>
  some (.inl (j,b))
def Ce (n:Nat) (e:Int) (f:Aa) (b:(List Ah)) (a:(List ((List UInt8)×Af))):Option (((List Ah)×(List ((List UInt8)×Af)))⊕(List ((List UInt8)×Af))):=
 if decide (((b.length:Nat):Int)>0)=true then
  (Ie n b).bind λ g=>
  (GO n g b).bind λ d=>
  (idx b d).bind λ c=>
  if((decide (c.First.Cost>e))||((!(Option.isSome (AO c.First.Text a)))&&(((a.length:Nat):Int)==f.Most)))=true then
   some (.inr a)
  else
   (idx c.List 0).bind λ h=>
   (cat c.Arc.Cells h.Cells).bind λ i=>
   if((!(Option.isSome (AO c.First.Text a)))||((((Option.getD (AO c.First.Text a) (⟨0,[],[]⟩:Af)).Cost)==c.First.Cost)&&(Op.bytesLess i ((Option.getD (AO c.First.Text a) (⟨0,[],[]⟩:Af)).Cells))))=true then
    BU n b d (BJ c.First.Text ({ Cost:=c.First.Cost,Text:=c.First.Text,Cells:=i }:Af) a)
   else
    BU n b d a
 else
  some (.inr a)
def Bx (_:Nat) (e2:((List UInt8)×Af)) (a:(List Af)):Option ((List Af)⊕Empty):=
 (app 40 a [e2.2]).bind λ b=>
 some (.inl b)
noncomputable def CJ (n:Nat) (a:Int) (b:Aa) (g:(List Ah)):Option (List Af):=
 (JL n g).bind λ c=>
 (whl (λ (x:((List Ah)×Int))=>BT n a b c x.1 x.2) n (c,0)).bind λ h=>
 (whl (λ (x:((List Ah)×(List ((List UInt8)×Af))))=>Ce n a b x.1 x.2) n (h,[])).bind λ i=>
 dem (λ (ord:(List ((List UInt8)×Af)))=>List.Perm ord i) λ (ord:(List ((List UInt8)×Af)))=>
 (mapW (λ (e:((List UInt8)×Af)) (x:(List Af))=>Bx n e x) ord ([]:List Af)).bind λ j=>
 match j with
 | Sum.inl d=>
  (Jd n d).bind λ f=>
  (B1 (decide (List.length d=List.length f))).bind λ _=>
  some f
 | Sum.inr r=>
  nomatch r
def C0 (_:Nat) (c:Int) (a:(List (Option (Bool×(List (Int×(List Af))))))) (b:(List Ah)):Option (((List (Option (Bool×(List (Int×(List Af))))))×(List Ah)×Int)⊕((List (Option (Bool×(List (Int×(List Af))))))×(List Ah))):=
 some (.inl (a,b,(A0 .i64 c 1)))
def Bs (n:Nat) (a:Int) (f:Aa) (_:(Int×Int)) (g:(List G4)) (b:(List (Option (Bool×(List (Int×(List Af))))))) (c:(List Ah)) (e:Int):Option (((List (Option (Bool×(List (Int×(List Af))))))×(List Ah)×Int)⊕((List (Option (Bool×(List (Int×(List Af))))))×(List Ah))):=
 if decide (e<((g.length:Nat):Int))=true then
  (idx g e).bind λ d=>
  (C7 n a d.Cells f).bind λ h=>
  if h.2=true then
   (rowM b (A8 (A0 .i64 a ((d.Cells.length:Nat):Int)) 5)).bind λ j=>
   (B1 (decide ((0:Int)<=A8 (A0 .i64 a ((d.Cells.length:Nat):Int)) 5/\A8 (A0 .i64 a ((d.Cells.length:Nat):Int)) 5<((5:Nat):Int)))).bind λ _=>
   (app 112 c ([({ Arc:=d,More:=h.1,List:=(Option.getD (AO d.To j) ([]:(List Af))),First:=({ Cost:=0,Text:=[],Cells:=[] }:Af) }:Ah)])).bind λ i=>
   C0 n e (List.set b (Int.toNat (A8 (A0 .i64 a ((d.Cells.length:Nat):Int)) 5)) (some (false,j))) i
  else
   C0 n e b c
 else
  some (.inr (b,c))
noncomputable def BP (n:Nat) (a:Int) (b:Aa) (c:(List (Option (Bool×(List (Int×(List Af))))))) (e3:(Int×Int)) (d:(List Ah)):Option ((Aa×(List (Option (Bool×(List (Int×(List Af)))))))⊕Empty):=
 (idx b.Arcs e3.1).bind λ g=>
 (whl (λ (x:((List (Option (Bool×(List (Int×(List Af))))))×(List Ah)×Int))=>Bs n a b e3 g x.1 x.2.1 x.2.2) n (c,d,0)).bind λ (e:((List (Option (Bool×(List (Int×(List Af))))))×(List Ah)))=>
 (CJ n (PE .i64 b.Budget e3.2) b e.2).bind λ f=>
 if decide (((f.length:Nat):Int)>0)=true then
  (rowM e.1 (A8 a 5)).bind λ h=>
  (B1 (decide ((0:Int)<=A8 a 5/\A8 a 5<((5:Nat):Int)))).bind λ _=>
  some (.inl (b,(List.set e.1 (Int.toNat (A8 a 5)) (some (false,B4 (BJ e3.1 f h))))))
 else
  some (.inl (b,e.1))
noncomputable def A7 (n:Nat) (a:Int) (e3:(Int×Int)) (b:Aa) (c:(List (Option (Bool×(List (Int×(List Af))))))):Option ((Aa×(List (Option (Bool×(List (Int×(List Af)))))))⊕Empty):=
 (if(a==((b.Felt.length:Nat):Int))=true then idx b.Accepts e3.1 else some default).bind λ d=>
 if((a==((b.Felt.length:Nat):Int))&&d)=true then
  (app 112 ([]:List Ah) ([({ Arc:=({ Print:=[],Cells:=[],To:=0 }:G4),More:=0,List:=[({ Cost:=0,Text:=[],Cells:=[] }:Af)],First:=({ Cost:=0,Text:=[],Cells:=[] }:Af) }:Ah)])).bind λ e=>
  BP n a b c e3 e
 else
  BP n a b c e3 ([]:List Ah)
noncomputable def Bt (n:Nat) (b:Aa) (c:(List (Option (Bool×(List (Int×(List Af))))))) (a:Int):Option ((Aa×(List (Option (Bool×(List (Int×(List Af))))))×Int)⊕(Aa×(List (Option (Bool×(List (Int×(List Af)))))))):=
 if decide (a>=0)=true then
  (idx c (A8 a 5)).bind λ (_:(Option (Bool×(List (Int×(List Af))))))=>
  (B1 (decide ((0:Int)<=A8 a 5/\A8 a 5<((5:Nat):Int)))).bind λ _=>
  (rowA b.Before a).bind λ g=>
  dem (λ (ord:(List (Int×Int)))=>List.Perm ord g.2) λ (ord:(List (Int×Int)))=>
  (mapW (λ (e:(Int×Int)) (x:(Aa×(List (Option (Bool×(List (Int×(List Af))))))))=>A7 n a e x.1 x.2) ord (({ Felt:=b.Felt,Budget:=b.Budget,Most:=b.Most,Arcs:=b.Arcs,Accepts:=b.Accepts,Before:=List.set b.Before a.toNat (some (true,g.2)) }:Aa),(List.set c (Int.toNat (A8 a 5)) (some (false,([]:(List (Int×(List Af))))))))).bind λ (f:((Aa×(List (Option (Bool×(List (Int×(List Af)))))))⊕Empty))=>
  match f with
  | Sum.inl d=>
   some (.inl (d.1,d.2,(PE .i64 a 1)))
  | Sum.inr r=>
   nomatch r
 else
  some (.inr (b,c))
noncomputable def CC (n:Nat) (a:Aa):Option (Aa×(List Af)):=
 (whl (λ (x:(Aa×(List (Option (Bool×(List (Int×(List Af))))))×Int))=>Bt n x.1 x.2.1 x.2.2) n (a,(List.replicate 5 (none:(Option (Bool×(List (Int×(List Af))))))),((a.Felt.length:Nat):Int))).bind λ (b:(Aa×(List (Option (Bool×(List (Int×(List Af))))))))=>
 (rowM b.2 0).bind λ c=>
 (B1 (decide ((0:Int)<=0/\0<((5:Nat):Int)))).bind λ _=>
 some (b.1,(Option.getD (AO 0 c) ([]:(List Af))))
def Fm (_:Nat) (d:(Aa×(List Af))) (a:(List AK)) (b:Int):Option (((List AK)×Int)⊕(List AK)):=
 if decide (b<((d.2.length:Nat):Int))=true then
  (idx d.2 b).bind λ c=>
  (app 48 a [({ Text:=c.Text,Cells:=Bq c.Cells,Cost:=c.Cost }:AK)]).bind λ e=>
  some (.inl (e,(A0 .i64 b 1)))
 else
  some (.inr a)
noncomputable def Je (n:Nat) (a:Ad) (b:(List AB)) (c:Int) (d:Int):Option (List AK):=
 (Mg n a).bind λ e=>
 if(!e)=true then
  some []
 else
  (E6 n a b c d).bind λ f=>
  (CZ n f).bind λ g=>
  (CC n g).bind λ h=>
  (whl (λ (x:((List AK)×Int))=>Fm n h x.1 x.2) n (([]:List AK),0)).bind λ i=>
  some i
noncomputable def Be (n:Nat) (c:Ad) (d:(List AB)) (a:Int):Option ((List AK)×Int):=
 if decide (a<0)=true then
  some ([],1)
 else
  (Je n c d a 17).bind λ b=>
  if decide (((b.length:Nat):Int)>16)=true then
   some ([],2)
  else
   some (b,0)
noncomputable def Gb (n:Nat) (c:Ad) (d:(List AB)) (a:Int):Option (AK×Bool):=
 if decide (a<0)=true then
  some (({ Text:=[],Cells:=[],Cost:=0 }:AK),false)
 else
  (Je n c d a 1).bind λ b=>
  if(((b.length:Nat):Int)==0)=true then
   some (({ Text:=[],Cells:=[],Cost:=0 }:AK),false)
  else
   (idx b 0).bind λ e=>
   some (e,true)
def DA (_:Nat) (b:(List Int)) (c:(List Int)) (a:Int):Option (Int⊕(Unit⊕Bool)):=
 if decide (a<((b.length:Nat):Int))=true then
  (idx b a).bind λ d=>
  (idx c a).bind λ e=>
  if(d != e)=true then
   some (.inr (.inr false))
  else
   some (.inl (A0 .i64 a 1))
 else
  some (.inr (.inl ()))
def DP (n:Nat) (a:(List Int)) (b:(List Int)):Option Bool:=
 if(((a.length:Nat):Int) != ((b.length:Nat):Int))=true then
  some false
 else
  (whl (λ (x:Int)=>DA n a b x) n 0).bind λ c=>
  match c with
  | Sum.inl _=>
   some true
  | Sum.inr d=>
   some d
def Lq (n:Nat) (a:AK) (b:AK):Option Bool:=
 (if((a.Text==b.Text)&&(a.Cost==b.Cost))=true then DP n a.Cells b.Cells else some default).bind λ c=>
 some (((a.Text==b.Text)&&(a.Cost==b.Cost))&&c)
def Dr (n:Nat) (b:(List AK)) (c:(List AK)) (a:Int):Option (Int⊕(Unit⊕Bool)):=
 if decide (a<((b.length:Nat):Int))=true then
  (idx b a).bind λ d=>
  (idx c a).bind λ e=>
  (Lq n d e).bind λ f=>
  if(!f)=true then
   some (.inr (.inr false))
  else
   some (.inl (A0 .i64 a 1))
 else
  some (.inr (.inl ()))
def Ds (n:Nat) (a:(List AK)) (b:(List AK)):Option Bool:=
 if(((a.length:Nat):Int) != ((b.length:Nat):Int))=true then
  some false
 else
  (whl (λ (x:Int)=>Dr n a b x) n 0).bind λ c=>
  match c with
  | Sum.inl _=>
   some true
  | Sum.inr d=>
   some d
def DQ (_:Nat) (_:Ad) (a:(List AB)) (b:Int):Option (((List AB)×Int)⊕(List AB)):=
 if decide (b<5)=true then
  (app 2 a [({ Up:=1,Maybe:=2 }:AB)]).bind λ c=>
  some (.inl (c,(A0 .i64 b 1)))
 else
  some (.inr a)
noncomputable def If (n:Nat) :Option Bool:=
 (Fk n 0).bind λ a=>
 (whl (λ (x:((List AB)×Int))=>DQ n a x.1 x.2) n (([]:List AB),0)).bind λ h=>
 (Be n a [({ Up:=3,Maybe:=0 }:AB)] 0).bind λ b=>
 (Be n a [({ Up:=3,Maybe:=0 }:AB)] 1).bind λ c=>
 (Be n a [({ Up:=1,Maybe:=10 }:AB)] 0).bind λ d=>
 (Be n a h 0).bind λ i=>
 (Be n a [({ Up:=3,Maybe:=0 }:AB)] (-1)).bind λ j=>
 (Gb n a h 0).bind λ e=>
 (Gb n a [({ Up:=62,Maybe:=0 }:AB)] 0).bind λ k=>
 (Be n a [] 3).bind λ f=>
 (if(b.2==0)=true then Ds n b.1 ([({ Text:=[98],Cells:=[3],Cost:=0 }:AK)])else some default).bind λ g=>
 (if(((b.2==0)&&g)&&(c.2==0))=true then Ds n c.1 ([({ Text:=[98],Cells:=[3],Cost:=0 }:AK),({ Text:=[97],Cells:=[1],Cost:=1 }:AK)])else some default).bind λ l=>
 (if((((((((((((b.2==0)&&g)&&(c.2==0))&&l)&&(d.2==0))&&(((d.1.length:Nat):Int)==3))&&(i.2==2))&&(j.2==1))&&e.2)&&(e.1.Text==[97,97,97,97,97]))&&(!k.2))&&(f.2==0))=true then Ds n f.1 ([({ Text:=[],Cells:=[],Cost:=0 }:AK)])else some default).bind λ m=>
 some (((((((((((((b.2==0)&&g)&&(c.2==0))&&l)&&(d.2==0))&&(((d.1.length:Nat):Int)==3))&&(i.2==2))&&(j.2==1))&&e.2)&&(e.1.Text==[97,97,97,97,97]))&&(!k.2))&&(f.2==0))&&m)
def Ea (_:Nat) (c:Cz) (a:Aw) (b:Int):Option ((Aw×Int)⊕Aw):=
 if((decide (b<((c.P.length:Nat):Int)))&&(decide (b<3)))=true then
  (idx c.P b).bind λ d=>
  (sub [97,98,99,65,66,49,50,45,46] (IntKind.i64.wrap (A8 d 9)) (A0 .i64 (IntKind.i64.wrap (A8 d 9)) 1)).bind λ e=>
  (cat a.Print e).bind λ f=>
  some (.inl (({ Print:=f,Cells:=a.Cells,Left:=a.Left,Right:=a.Right,From:=a.From,To:=a.To }:Aw),(A0 .i64 b 1)))
 else
  some (.inr a)
def CQ (_:Nat) (c:Cz) (a:Aw) (b:Int):Option ((Aw×Int)⊕Aw):=
 if((decide (b<((c.C.length:Nat):Int)))&&(decide (b<2)))=true then
  (idx c.C b).bind λ d=>
  (idx [1,3,9,5,7,32,44,60] (A8 d 8)).bind λ e=>
  (app 1 a.Cells [e]).bind λ f=>
  some (.inl (({ Print:=a.Print,Cells:=f,Left:=a.Left,Right:=a.Right,From:=a.From,To:=a.To }:Aw),(A0 .i64 b 1)))
 else
  some (.inr a)
def Hw (n:Nat) (a:Cz) (c:Int):Option Aw:=
 (idx [63,63,2,8,17,62,4,1] (A8 a.L 8)).bind λ d=>
 (idx [63,63,2,8,17,62,4,1] (A8 a.R 8)).bind λ e=>
 (B1 (!(c==0))).bind λ _=>
 (B1 (!(c==0))).bind λ _=>
 (whl (λ (x:(Aw×Int))=>Ea n a x.1 x.2) n (({ Print:=[],Cells:=([]:List Int),Left:=d,Right:=e,From:=A8 (IntKind.i64.wrap a.W.a0) c,To:=A8 (IntKind.i64.wrap a.W.a1) c }:Aw),0)).bind λ b=>
 (idx [1,3,9,5,7,32,44,60] (A8 (JbL .u8 a.L 8) 8)).bind λ f=>
 (whl (λ (x:(Aw×Int))=>CQ n a x.1 x.2) n (({ Print:=b.Print,Cells:=[f],Left:=b.Left,Right:=b.Right,From:=b.From,To:=b.To }:Aw),0)).bind λ g=>
 some g
def G5 (_:Nat) (a:Int):Option Bool:=
 some ((decide (CN .u8 a 127>=32))&&(decide (CN .u8 a 127<=126)))
def GP (n:Nat) (b:(List UInt8)) (a:Int):Option (Int⊕(Unit⊕(Int×Int))):=
 if decide (a<((b.length:Nat):Int))=true then
  (JZ b a).bind λ d=>
  (G5 n d).bind λ c=>
  if(!c)=true then
   some (.inr (.inr (a,60)))
  else
   some (.inl (A0 .i64 a 1))
 else
  some (.inr (.inl ()))
def Lr (n:Nat) (a:(List UInt8)):Option (Int×Int):=
 (whl (λ (x:Int)=>GP n a x) n 0).bind λ b=>
 match b with
 | Sum.inl _=>
  some (((a.length:Nat):Int),0)
 | Sum.inr c=>
  some c
def Ig (n:Nat) (a:(List UInt8)):Option Bool:=
 (Lr n a).bind λ b=>
 some (b.2==0)
def Mi (_:Nat) (a:Int):Option Bool:=
 some ((CN .u8 a 127)==32)
def DB (n:Nat) (c:Aw) (a:Bool) (b:Int):Option ((Bool×Int)⊕Bool):=
 if decide (b<((c.Print.length:Nat):Int))=true then
  (if(!a)=true then JZ c.Print b else some default).bind λ e=>
  (if(!a)=true then Mi n e else some default).bind λ d=>
  some (.inl ((a||d),(A0 .i64 b 1)))
 else
  some (.inr a)
def C1 (_:Nat) (c:Aw) (_:Bool) (a:Bool) (b:Int):Option ((Bool×Int)⊕(Bool⊕Bool)):=
 if decide (b<((c.Cells.length:Nat):Int))=true then
  (idx c.Cells b).bind λ d=>
  if decide (d>=63)=true then
   some (.inr (.inr false))
  else
   (if(!a)=true then idx c.Cells b else some default).bind λ e=>
   some (.inl ((a||(e==0)),(A0 .i64 b 1)))
 else
  some (.inr (.inl a))
def JM (n:Nat) (a:Aw) (b:Int):Option Bool:=
 (Ig n a.Print).bind λ e=>
 if((((!e)||(decide (((a.Print.length:Nat):Int)>4)))||(decide (((a.Cells.length:Nat):Int)<1)))||(decide (((a.Cells.length:Nat):Int)>4)))=true then
  some false
 else
  if((((((((decide (a.Left<1))||(decide (a.Left>63)))||(decide (a.Right<1)))||(decide (a.Right>63)))||(decide (a.From<0)))||(decide (a.From>=b)))||(decide (a.To<0)))||(decide (a.To>=b)))=true then
   some false
  else
   (whl (λ (x:(Bool×Int))=>DB n a x.1 x.2) n (false,0)).bind λ c=>
   (whl (λ (x:(Bool×Int))=>C1 n a c x.1 x.2) n (false,0)).bind λ f=>
   match f with
   | Sum.inl d=>
    if(!c)=true then
     some (!d)
    else
     some (((((a.Print.length:Nat):Int)==1)&&(((a.Cells.length:Nat):Int)==1))&&d)
   | Sum.inr g=>
    some g
def FL (n:Nat) (a:Aw) (b:Aw):Option Bool:=
 (if(a.Print==b.Print)=true then DP n a.Cells b.Cells else some default).bind λ c=>
 some ((((((a.Print==b.Print)&&c)&&(a.Left==b.Left))&&(a.Right==b.Right))&&(a.From==b.From))&&(a.To==b.To))
def EA (n:Nat) (c:Ad) (a:Int) (b:Int):Option (Int⊕(Unit⊕(Int×Int))):=
 if decide (b<a)=true then
  (idx c.Rules b).bind λ d=>
  (idx c.Rules a).bind λ e=>
  (FL n d e).bind λ f=>
  if f=true then
   some (.inr (.inr (a,20)))
  else
   some (.inl (A0 .i64 b 1))
 else
  some (.inr (.inl ()))
def EB (n:Nat) (b:Ad) (a:Int):Option (Int⊕(Unit⊕(Int×Int))):=
 if decide (a<((b.Rules.length:Nat):Int))=true then
  (idx b.Rules a).bind λ c=>
  (JM n c b.Modes).bind λ d=>
  if(!d)=true then
   some (.inr (.inr (a,20)))
  else
   (whl (λ (x:Int)=>EA n b a x) n 0).bind λ e=>
   match e with
   | Sum.inl _=>
    some (.inl (A0 .i64 a 1))
   | Sum.inr f=>
    some (.inr (.inr f))
 else
  some (.inr (.inl ()))
def JN (n:Nat) (a:Ad):Option (Int×Int):=
 (if(!(((decide (a.Modes<1))||(decide (a.Modes>8)))||(a.Accept==0)))=true then B1 (decide (0<=a.Modes))else some default).bind λ _=>
 if((((((decide (a.Modes<1))||(decide (a.Modes>8)))||(a.Accept==0))||(decide (IntKind.i64.wrap a.Accept>=FF .i64 1 a.Modes)))||(decide (((a.Rules.length:Nat):Int)<1)))||(decide (((a.Rules.length:Nat):Int)>64)))=true then
  some ((-1),1)
 else
  (whl (λ (x:Int)=>EB n a x) n 0).bind λ b=>
  match b with
  | Sum.inl _=>
   some (0,0)
  | Sum.inr c=>
   some c
def Mj (n:Nat) (b:Ad):Option Bool:=
 (JN n b).bind λ a=>
 some (a.2==0)
def Dt (_:Nat) (a:Int) (b:Ad):Option ((Ad×Int)⊕Ad):=
 some (.inl (b,(A0 .i64 a 1)))
def CS (n:Nat) (d:IJ) (c:Ad) (b:Ad) (a:Int):Option ((Ad×Int)⊕Ad):=
 if decide (a<((c.Rules.length:Nat):Int))=true then
  (B1 (decide (0<=a))).bind λ _=>
  if((CN .u8 (JbM .u8 d.Drop a) 1)==0)=true then
   (idx c.Rules a).bind λ e=>
   (app 64 b.Rules [e]).bind λ f=>
   Dt n a ({ Modes:=b.Modes,Accept:=b.Accept,Rules:=f }:Ad)
  else
   Dt n a b
 else
  some (.inr b)
def Du (_:Nat) (a:Int) (b:Ad):Option ((Ad×Int)⊕Ad):=
 some (.inl (b,(A0 .i64 a 1)))
def CT (n:Nat) (d:IJ) (_:Ad) (a:Ad) (b:Int):Option ((Ad×Int)⊕Ad):=
 if((decide (b<((d.More.length:Nat):Int)))&&(decide (b<2)))=true then
  (idx d.More b).bind λ g=>
  (Hw n g a.Modes).bind λ e=>
  (app 64 a.Rules [e]).bind λ c=>
  (Mj n ({ Modes:=a.Modes,Accept:=a.Accept,Rules:=c }:Ad)).bind λ f=>
  if(!f)=true then
   (sub c 0 (PE .i64 ((c.length:Nat):Int) 1)).bind λ h=>
   Du n b ({ Modes:=a.Modes,Accept:=a.Accept,Rules:=h }:Ad)
  else
   Du n b ({ Modes:=a.Modes,Accept:=a.Accept,Rules:=c }:Ad)
 else
  some (.inr a)
def Eb (_:Nat) (a:Ad):Option Ad:=
 some a
def Fn (n:Nat) (c:IJ):Option Ad:=
 (Fk n c.Base).bind λ a=>
 (whl (λ (x:(Ad×Int))=>CS n c a x.1 x.2) n (({ Modes:=a.Modes,Accept:=a.Accept,Rules:=([]:List Aw) }:Ad),0)).bind λ d=>
 (whl (λ (x:(Ad×Int))=>CT n c a x.1 x.2) n (d,0)).bind λ b=>
 if(((b.Rules.length:Nat):Int)==0)=true then
  Eb n ({ Modes:=b.Modes,Accept:=b.Accept,Rules:=a.Rules }:Ad)
 else
  Eb n b
def Fp (_:Nat) (c:(List (CY Int))) (b:(List AB)) (a:Int):Option (((List AB)×Int)⊕(List AB)):=
 if((decide (a<((c.length:Nat):Int)))&&(decide (a<5)))=true then
  (idx c a).bind λ d=>
  (idx c a).bind λ e=>
  (app 2 b [({ Up:=A8 d.a0 64,Maybe:=A8 e.a1 64 }:AB)]).bind λ f=>
  some (.inl (f,(A0 .i64 a 1)))
 else
  some (.inr b)
def Ls (n:Nat) (a:(List (CY Int))):Option (List AB):=
 (whl (λ (x:((List AB)×Int))=>Fp n a x.1 x.2) n (([]:List AB),0)).bind λ b=>
 some b
def Fq (_:Nat) (b:(List AK)) (e:(List UInt8)) (a:Int):Option (Int⊕(Unit⊕(AK×Bool))):=
 if decide (a<((b.length:Nat):Int))=true then
  (idx b a).bind λ c=>
  if(c.Text==e)=true then
   (idx b a).bind λ d=>
   some (.inr (.inr (d,true)))
  else
   some (.inl (A0 .i64 a 1))
 else
  some (.inr (.inl ()))
def Lt (n:Nat) (c:(List AK)) (d:(List UInt8)):Option (AK×Bool):=
 (whl (λ (x:Int)=>Fq n c d x) n 0).bind λ a=>
 match a with
 | Sum.inl _=>
  some (({ Text:=[],Cells:=[],Cost:=0 }:AK),false)
 | Sum.inr b=>
  some b
def B8 (n:Nat) (_:Bool) (b:((List AK)×Int)) (d:((List AK)×Int)) (a:Int):Option (Int⊕(Unit⊕Bool)):=
 if decide (a<((b.1.length:Nat):Int))=true then
  (idx b.1 a).bind λ e=>
  (Lt n d.1 e.Text).bind λ c=>
  (if(!(!c.2))=true then idx b.1 a else some default).bind λ f=>
  if((!c.2)||(decide (c.1.Cost>f.Cost)))=true then
   some (.inr (.inr false))
  else
   some (.inl (A0 .i64 a 1))
 else
  some (.inr (.inl ()))
noncomputable def EC (n:Nat) (o:IJ) (p:(List (CY Int))) (c:(Zv Int)):Option Bool:=
 (If n).bind λ d=>
 (Fn n o).bind λ g=>
 (Ls n p).bind λ f=>
 (Be n g f (IntKind.i64.wrap (A8 c.a0 5))).bind λ a=>
 (Be n g f (A0 .i64 (IntKind.i64.wrap (A8 c.a0 5)) 1)).bind λ b=>
 if(a.2==2)=true then
  some ((b.2==2)&&d)
 else
  (if(((!(a.2 != 0))&&(b.2==0))&&!(decide (((b.1.length:Nat):Int)<((a.1.length:Nat):Int))))=true then sub b.1 0 ((a.1.length:Nat):Int)else some default).bind λ q=>
  (if(((!(a.2 != 0))&&(b.2==0))&&!(decide (((b.1.length:Nat):Int)<((a.1.length:Nat):Int))))=true then Ds n q a.1 else some default).bind λ i=>
  if(((a.2 != 0)||((b.2==0)&&((decide (((b.1.length:Nat):Int)<((a.1.length:Nat):Int)))||(!i))))||((b.2 != 0)&&(b.2 != 2)))=true then
   some false
  else
   if(((f.length:Nat):Int)==0)=true then
    some d
   else
    (app 2 ([]:List AB) f).bind λ e=>
    (B1 (!(((e.length:Nat):Int)==0))).bind λ _=>
    (idx e (A8 (IntKind.i64.wrap c.a1) ((e.length:Nat):Int))).bind λ j=>
    (B1 (decide (0<=(A8 c.a2 6)))).bind λ _=>
    (idx e (A8 (IntKind.i64.wrap c.a1) ((e.length:Nat):Int))).bind λ k=>
    (put e (A8 (IntKind.i64.wrap c.a1) ((e.length:Nat):Int)) ({ Up:=k.Up,Maybe:=ior .u8 j.Maybe (FF .u8 1 (A8 c.a2 6)) }:AB)).bind λ r=>
    (Be n g r (IntKind.i64.wrap (A8 c.a0 5))).bind λ h=>
    if(h.2 != 0)=true then
     some ((h.2==2)&&d)
    else
     (whl (λ (x:Int)=>B8 n d a h x) n 0).bind λ l=>
     match l with
     | Sum.inl _=>
      some d
     | Sum.inr m=>
      some m
end Go.AI
end
