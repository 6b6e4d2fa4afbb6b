/- Part 4 of 7 of the proof. -/
import Derived.Test.YtnpikfdkjmebjaaLC
import Derived.KernelRfl
import Derived.RecoverIn
import Derived.TacticsInMore
import Derived.Test.YtnpikfdkjmebjaaProg
section
namespace Go.AI
variable {Γ:Cx} {C:Code} {p:List Nat} {Q:Ex->St->Prop} {s s':St} {K:St->Prop} {i:Nat} {nk:Nat}
variable {α β ζ:Type}
theorem BU {x:Option α} {d:α} (h:x.isSome=true):x=some (x.getD d):=by
 cases x with
 | none=>cases h
 | some x=>rfl
structure WP (Γ:Cx) (C:Code) (p:List Nat) (Q:Ex->St->Prop) (s:St):Prop where
 out:wpA Γ (nav p C) Q s
structure RF (Γ:Cx) (C:Code) (p:List Nat) (i:Nat) (Q:Ex->St->Prop) (s:St):Prop where
 out:A7 Γ C p i (Q .normal) s
structure PQ (Q:Ex->St->Prop) (e:Ex) (s:St):Prop where
 out:Q e s
structure RA (ty:Nat->Ty) (rs:List ResultVar) (r:AV) (s:St):Prop where
 out:Vd ty rs r s
theorem IA (k:Nat):∀ (p:List Nat) (C:Code),nav (p++[k]) C=Jac (nav p C) k:=by
 intro p;induction p with
 | nil=>intro C;rfl
 | cons a p ih=>intro C;exact ih (Jac C a)
def XM:Code->Bool
 | .seq _ _=>true
 | _=>false
def Jax:Code->Bool
 | .cond _ _ _=>true
 | _=>false
def JeP (id:Nat):Code->Bool
 | .block i _=>Nat.beq i id
 | _=>false
def Qq:Code->Bool
 | .loop _=>true
 | _=>false
theorem JdR (h:XM (nav p C)=true):nav p C=.seq (nav (p++[0]) C) (nav (p++[1]) C):=by
 rw[IA,IA];cases hc:nav p C<;>rw[hc]at h<;>first|rfl|cases h
theorem Jay (h:Jax (nav p C)=true):nav p C=.cond (Tr (nav p C)) (nav (p++[0]) C) (nav (p++[1]) C):=by
 rw[IA,IA];cases hc:nav p C<;>rw[hc]at h<;>first|rfl|cases h
theorem JdS {id:Nat} (h:JeP id (nav p C)=true):nav p C=.block id (nav (p++[0]) C):=by
 rw[IA];cases hc:nav p C with
 | block j c=>rw[hc]at h;have:=Jl6 h;subst this;rfl
 | _=>rw[hc]at h;cases h
theorem Jaz (h:Qq (nav p C)=true):nav p C=.loop (nav (p++[0]) C):=by
 rw[IA];cases hc:nav p C<;>rw[hc]at h<;>first|rfl|cases h
theorem sq (hw:WP Γ C (p++[0]) (Ry Γ.nt.nk (wpA Γ (nav (p++[1]) C) Q) Q) s) (h:XM (nav p C)=true:=by kernel_rfl):WP Γ C p Q s:=⟨Jfu (JdR h) hw.out⟩
theorem rg (hs:Ay Γ.nt.nk s s') (hk:RF Γ C p 0 (Ts C p s' Q) s') (h:Iw (nav p C)=true:=by kernel_rfl):WP Γ C p Q s:=⟨Sx h hs hk.out⟩
theorem rz (hk:RF Γ C p 0 (Ts C p s Q) s) (h:Iw (nav p C)=true:=by kernel_rfl):WP Γ C p Q s:=⟨Sx h JdB hk.out⟩
theorem sr (hk:RF Γ C (p++[0]) 0 (Ts C (p++[0]) s (Ry Γ.nt.nk (wpA Γ (nav (p++[1]) C) Q) Q)) s) (h:(XM (nav p C)&&Iw (nav (p++[0]) C))=true:=by kernel_rfl):WP Γ C p Q s:=by
 simp only[Jl0]at h;exact sq (rz hk h.2) h.1
theorem ae {s0:St} (hk:PQ Q .normal s) (h:Nat.ble (Bd (nav p C)).length i=true:=by kernel_rfl) (hd:MQ (JY (nav p C)) (Cg (nav p C)) s0.env s.env=true:=by kernel_rfl):RF Γ C p i (Ts C p s0 Q) s:=⟨NT i h ⟨hd,hk.out⟩⟩
theorem en {s0:St} {p':List Nat} (hk:WP Γ C p' Q s) (h:Nat.ble (Bd (nav p C)).length i=true:=by kernel_rfl) (hd:MQ (JY (nav p C)) (Cg (nav p C)) s0.env s.env=true:=by kernel_rfl):RF Γ C p i (Ts C p s0 (Ry Γ.nt.nk (wpA Γ (nav p' C) Q) Q)) s:=⟨NT i h ⟨hd,⟨s,.refl s,hk.out⟩⟩⟩
theorem bk (id:Nat) (hw:WP Γ C (p++[0]) (IZ id Q) s) (h:JeP id (nav p C)=true:=by kernel_rfl):WP Γ C p Q s:=⟨Jae id (JdS h) hw.out⟩
theorem ex (k:Nat) (hq:PQ Q (.exit k) s) (h:nav p C=.exit k:=by kernel_rfl):WP Γ C p Q s:=⟨Jds k h hq.out⟩
theorem re (hq:PQ Q .ret s) (h:nav p C=.ret:=by kernel_rfl):WP Γ C p Q s:=⟨Jfv h hq.out⟩
theorem sk (hq:PQ Q .normal s) (h:nav p C=.skip:=by kernel_rfl):WP Γ C p Q s:=⟨Jdt h hq.out⟩
theorem cn {c:Bool} {x y:Option ζ} {r:ζ} (H:(if c=true then x else y)=some r) (h1:x=some r->WP Γ C (p++[0]) Q s) (h2:y=some r->WP Γ C (p++[1]) Q s) (h:Jax (nav p C)=true:=by kernel_rfl) (hc:Al s.env (Tr (nav p C))=.d (.bool c):=by kernel_rfl):WP Γ C p Q s:=by
 refine⟨Jdr c (Jay h) hc (λ e=>?_) (λ e=>?_)⟩
 ·rw[if_pos e]at H;exact(h1 H).out
 ·rw[if_neg (by rw[e];simp)]at H;exact(h2 H).out
theorem sj {σ ζ:Type} (sJ:σ->St) (F:σ->Option ζ) (z:ζ) (hb:∀ x,F x=some z->WP Γ C (p++[1]) Q (sJ x)) (ha:(∀ x,F x=some z->WP Γ C (p++[1]) Q (sJ x))->WP Γ C (p++[0]) (Ry Γ.nt.nk (wpA Γ (nav (p++[1]) C) Q) Q) s) (h:XM (nav p C)=true:=by kernel_rfl):WP Γ C p Q s:=sq (ha hb) h
theorem lp {σ ρ:Type} {body:σ->Option (σ⊕ρ)} {n:Nat} {x:σ} {r:ρ} (st:σ->St) (E:ρ->Ex->St->Prop) (hr:whl body n x=some r) (hs:Ay Γ.nt.nk s (st x))
  (hb:∀ x z,body x=some z->WP Γ C (p++[0]) (AO Γ.nt.nk st E z) (st x)) (hE:∀ e s,E r e s->PQ Q e s) (h:Qq (nav p C)=true:=by kernel_rfl):WP Γ C p Q s:=⟨Jdu st E (Jaz h) hr hs (λ x z hx=>(hb x z hx).out) (λ e s he=>(hE e s he).out)⟩
theorem fo {P:Program} {fn:Func} {f:FuncId} {args:List AV} {r:AV} (hfol:P.follows .mixedOrders=true) (hΓ:Gv P Γ) (hf:P.funcs[f]?=some fn) (h:WP Γ (AR fn) [] (Ve Γ.ty fn.results.toList r) s)
  (hb:fn.body=some (AR fn):=by kernel_rfl) (hnm:(fn.name == "runtime.NumGoroutine")=false:=by kernel_rfl) (hnt:Γ.nt.n=fn.ntmps:=by kernel_rfl) (hlen:Nat.ble args.length fn.ntmps=true:=by kernel_rfl) (hs:(⟨(List.range args.length).zip args,[]⟩:St)=s:=by kernel_rfl) (hrd:Γ.rd=false:=by kernel_rfl):AQ P f args r:=
 Jje hfol hΓ hrd hf hb hnm hnt hlen hs h.out
theorem YT {c a b:AV} {t x y z:Bool} {r q q':Prop} (hc:Un c=some (t,r)) (ha:unP t a=some (x,q)) (hb:unP (!t) b=some (y,q')) (hr:r) (hq:q) (hq':q') (hz:(bif t then x else y)=z:=by kernel_rfl):ES (G9 c a b) (.d (.bool z)) [] [] none:=hz▸Jau hc ha hb hr hq hq'
theorem bx {G:Prop} {x:Option α} {f:α->Option β} {r:β} (h:x.bind f=some r) (k:∀ a,x=some a->f a=some r->G):G:=by obtain⟨a,h1,h2⟩:=bind_some h;exact k a h1 h2
theorem bs {x:Option α} {f:α->Option β} {r:β} (h:x.bind f=some r):∃ a,x=some a/\f a=some r:=bind_some h
theorem qs (hs:Ay Γ.nt.nk s s') (h:WP Γ C p Q s'):PQ (Ry Γ.nt.nk (wpA Γ (nav p C) Q) Q) .normal s:=⟨s',hs,h.out⟩
theorem qz (h:WP Γ C p Q s):PQ (Ry Γ.nt.nk (wpA Γ (nav p C) Q) Q) .normal s:=⟨s,.refl s,h.out⟩
theorem qx {B:St->Prop} {k:Nat} (h:PQ Q (.exit k) s):PQ (Ry nk B Q) (.exit k) s:=⟨h.out⟩
theorem qr {B:St->Prop} (h:PQ Q .ret s):PQ (Ry nk B Q) .ret s:=⟨h.out⟩
theorem qN {id:Nat} (h:PQ Q .normal s):PQ (IZ id Q) .normal s:=⟨h.out⟩
theorem qH {id:Nat} (h:PQ Q .normal s):PQ (IZ id Q) (.exit id) s:=⟨Jaf h.out⟩
theorem qR {id:Nat} (h:PQ Q .ret s):PQ (IZ id Q) .ret s:=⟨h.out⟩
theorem og {σ ρ:Type} {st:σ->St} {E:ρ->Ex->St->Prop} {y:σ} (h:Ay nk s (st y)):PQ (AO nk st E (.inl y)) .normal s:=⟨Jag h⟩
theorem oe {σ ρ:Type} {st:σ->St} {E:ρ->Ex->St->Prop} {r:ρ} {k:Nat} (h:E r (.exit k) s):PQ (AO nk st E (.inr r)) (.exit k) s:=⟨WD h⟩
theorem or {σ ρ:Type} {st:σ->St} {E:ρ->Ex->St->Prop} {r:ρ} (h:E r .ret s):PQ (AO nk st E (.inr r)) .ret s:=⟨YO h⟩
theorem pr {ty:Nat->Ty} {rs:List ResultVar} {r:AV} (h:RA ty rs r s):PQ (Ve ty rs r) .ret s:=⟨h.out⟩
def nxP (Γ:Cx) (C:Code) (p:List Nat) (i n:Nat) (s:St):St:=(YP Γ (Bd (nav p C)) (((Bd (nav p C)).drop i).take n) s).getD s
theorem ck (n:Nat) (hk:RF Γ C p (i+n) Q (nxP Γ C p i n s)) (h:(YP Γ (Bd (nav p C)) (((Bd (nav p C)).drop i).take n) s).isSome=true:=by kernel_rfl):RF Γ C p i Q s:=⟨Ji9 n _ (BU h) rfl hk.out⟩
def Ea (_:St) (x:Option Eff) (v:AV) (obs:List Ob) (rm:List Nat) (upd:Option (Nat×Ob)):Prop:=ES x v obs rm upd
theorem sp {v:AV} {obs:List Ob} {rm:List Nat} {upd:Option (Nat×Ob)} {x:Option Eff} (ho:Ea s x v obs rm upd) (hk:RF Γ C p (i+1) Q ((OM Γ (nav p C) i v obs rm upd s).getD s)) (hx:NU Γ (nav p C) i s=x:=by kernel_rfl) (hn:(OM Γ (nav p C) i v obs rm upd s).isSome=true:=by kernel_rfl):RF Γ C p i Q s:=⟨JkI _ hx ho (BU hn) rfl hk.out⟩
def opV (Γ:Cx) (c:Code) (i:Nat) (s:St):AV:=match NU Γ c i s with
 | some e=>e.v
 | none=>.top
theorem so {ob:Prop} (ho:ob) (hk:RF Γ C p (i+1) Q ((OM Γ (nav p C) i (opV Γ (nav p C) i s) [] [] none s).getD s)) (hx:NU Γ (nav p C) i s=A9 (opV Γ (nav p C) i s) ob:=by kernel_rfl) (hn:(OM Γ (nav p C) i (opV Γ (nav p C) i s) [] [] none s).isSome=true:=by kernel_rfl):RF Γ C p i Q s:=sp (JeN ho) hk hx hn
theorem sG {g:Bool} {v:AV} {obs:List Ob} {x:Option Eff} {gs:List Bool} (ho:g=true->Ea s x v obs [] none) (hi:Fb g gs) (hk:RF Γ C p (i+1) Q ((Kq Γ (nav p C) i g v obs s).getD s)) (hg:gAt (nav p C) i s=some g:=by kernel_rfl) (hx:NU Γ (nav p C) i s=x:=by kernel_rfl) (hgs:FB (nav p C) i s=gs:=by kernel_rfl) (hn:(Kq Γ (nav p C) i g v obs s).isSome=true:=by kernel_rfl):RF Γ C p i Q s:=⟨JeK _ hg hx ho hgs hi (BU hn) rfl hk.out⟩
theorem soG {g:Bool} {ob:Prop} {gs:List Bool} (ho:g=true->ob) (hi:Fb g gs) (hk:RF Γ C p (i+1) Q ((Kq Γ (nav p C) i g (opV Γ (nav p C) i s) [] s).getD s)) (hg:gAt (nav p C) i s=some g:=by kernel_rfl) (hx:NU Γ (nav p C) i s=A9 (opV Γ (nav p C) i s) ob:=by kernel_rfl) (hgs:FB (nav p C) i s=gs:=by kernel_rfl) (hn:(Kq Γ (nav p C) i g (opV Γ (nav p C) i s) [] s).isSome=true:=by kernel_rfl):RF Γ C p i Q s:=sG (λ e=>JeN (ho e)) hi hk hg hx hgs hn
def plV (Γ:Cx) (c:Code) (i:Nat) (s:St):AV×List Ob:=(Jas Γ c i s).getD (.top,[])
theorem gp (g:Bool) {gs:List Bool} (hi:Fb g gs) (hk:RF Γ C p (i+1) Q ((Kq Γ (nav p C) i g (plV Γ (nav p C) i s).1 (plV Γ (nav p C) i s).2 s).getD s)) (hg:gAt (nav p C) i s=some g:=by kernel_rfl) (hp:(Jas Γ (nav p C) i s).isSome=true:=by kernel_rfl) (hgs:FB (nav p C) i s=gs:=by kernel_rfl) (hn:(Kq Γ (nav p C) i g (plV Γ (nav p C) i s).1 (plV Γ (nav p C) i s).2 s).isSome=true:=by kernel_rfl):RF Γ C p i Q s:=
 ⟨JeK _ hg rfl (λ _=>Jjh (BU (d:=(.top,[])) hp)) hgs hi (BU hn) rfl hk.out⟩
def gl (Γ:Cx) (c:Code) (g:Bool):Nat->Nat->St->Option (List Bool×St)
 | 0,_,s=>some ([],s)
 | n+1,i,s=>match gAt c i s,(Jas Γ c i s).isSome,Kq Γ c i g (plV Γ c i s).1 (plV Γ c i s).2 s with
  | some g',true,some s1=>match gl Γ c g n (i+1) s1 with
   | some (l,s2)=>some (g'::(FB c i s++l),s2)
   | none=>none
  | _,_,_=>none
theorem SB {g:Bool}:∀ {l:List Bool},(∀ b∈l,b=g)->Fb g l:=by
 intro l;induction l with
 | nil=>intro _;trivial
 | cons b l ih=>intro h;exact⟨λ e=>by rw[h b (by simp)];exact e,ih λ x hx=>h x (by simp[hx])⟩
theorem Jjm {g:Bool}:∀ (n i:Nat) (s:St) (l:List Bool) (s2:St),gl Γ (nav p C) g n i s=some (l,s2)->(∀ b∈l,b=g)->RF Γ C p (i+n) Q s2->RF Γ C p i Q s:=by
 intro n;induction n with
 | zero=>intro i s l s2 h _ hk;cases h;exact hk
 | succ n ih=>
  intro i s l s2 h hl hk;simp only[gl]at h;split at h
  ·rename_i g' s1 h1 h2 h3;split at h
   ·rename_i l' s2' h4;cases h;have e:g'=g:=hl g' (by simp);subst e;have hlast:=ih (i+1) s1 l' s2 h4 (λ b hb=>hl b (by simp[hb])) (by rw[JlT,Nat.add_comm 1 n];exact hk);refine gp g' (SB λ b hb=>hl b (by simp[hb])) ?_ h1 h2 rfl (by rw[h3];rfl);rw[h3];exact hlast
   ·cases h
  ·cases h
theorem gc (n:Nat) (g:Bool) (hk:RF Γ C p (i+n) Q ((gl Γ (nav p C) g n i s).getD ([],s)).2) (h1:(gl Γ (nav p C) g n i s).isSome=true:=by kernel_rfl) (h2:((gl Γ (nav p C) g n i s).getD ([],s)).1=List.replicate ((gl Γ (nav p C) g n i s).getD ([],s)).1.length g:=by kernel_rfl):RF Γ C p i Q s:=by
 refine Jjm n i s _ _ (BU (d:=([],s)) h1) (λ b hb=>?_) hk;have hb':b∈((gl Γ (nav p C) g n i s).getD ([],s)).1:=hb;rw[h2]at hb';exact List.eq_of_mem_replicate hb'
def bo:AV->Bool
 | .d (.bool b)=>b
 | .gv _ (.d (.bool b))=>b
 | _=>false
def pkO (c:Code) (i:Nat) (s:St):AV×AV×AV:=
 match (Bd c)[i]? with
 | some o=>match o.op with
  | .pick x y z=>(Al s.env x,Al s.env y,Al s.env z)
  | _=>(.top,.top,.top)
 | none=>(.top,.top,.top)
def pkT (c:Code) (i:Nat) (s:St):Bool:=bo (pkO c i s).1
def pkX (c:Code) (i:Nat) (s:St):Bool:=bo (pkO c i s).2.1
def pkY (c:Code) (i:Nat) (s:St):Bool:=bo (pkO c i s).2.2
def pkV (c:Code) (i:Nat) (s:St):AV:=.d (.bool (bif pkT c i s then pkX c i s else pkY c i s))
theorem pA (hk:RF Γ C p (i+1) Q ((Sy Γ (nav p C) i (pkV (nav p C) i s) s).getD s)) (h:Mt (nav p C) i s=G9 (.d (.bool (pkT (nav p C) i s))) (.gv (pkT (nav p C) i s) (.d (.bool (pkX (nav p C) i s)))) (.d (.bool (pkY (nav p C) i s))):=by kernel_rfl) (hn:(Sy Γ (nav p C) i (pkV (nav p C) i s) s).isSome=true:=by kernel_rfl):RF Γ C p i Q s:=⟨JeL _ h Jat (BU hn) rfl hk.out⟩
theorem pO (hk:RF Γ C p (i+1) Q ((Sy Γ (nav p C) i (pkV (nav p C) i s) s).getD s)) (h:Mt (nav p C) i s=G9 (.d (.bool (pkT (nav p C) i s))) (.d (.bool (pkX (nav p C) i s))) (.gv (!(pkT (nav p C) i s)) (.d (.bool (pkY (nav p C) i s)))):=by kernel_rfl) (hn:(Sy Γ (nav p C) i (pkV (nav p C) i s) s).isSome=true:=by kernel_rfl):RF Γ C p i Q s:=⟨JeL _ h JdI (BU hn) rfl hk.out⟩
theorem pG {g:Bool} {v:AV} {x:Option Eff} (ho:g=true->ES x v [] [] none) (hk:RF Γ C p (i+1) Q ((Tt Γ (nav p C) i g v s).getD s)) (hg:gAt (nav p C) i s=some g:=by kernel_rfl) (hx:Mt (nav p C) i s=x:=by kernel_rfl) (hn:(Tt Γ (nav p C) i g v s).isSome=true:=by kernel_rfl):RF Γ C p i Q s:=⟨Jfw _ hg hx ho (BU hn) rfl hk.out⟩
theorem sF (hk:RF Γ C p (i+1) Q ((XH Γ (nav p C) i ((Na Γ (nav p C) i s).getD []) s).getD s)) (hx:(Na Γ (nav p C) i s).isSome=true:=by kernel_rfl) (hn:(XH Γ (nav p C) i ((Na Γ (nav p C) i s).getD []) s).isSome=true:=by kernel_rfl):RF Γ C p i Q s:=⟨Jjg _ _ (BU hx) (BU hn) rfl hk.out⟩
theorem sK (obj:Bool) (hk:RF Γ C p (i+1) Q ((XJ Γ (nav p C) i obj ((Mv Γ (nav p C) i s).getD (0,[])).1 ((Mv Γ (nav p C) i s).getD (0,[])).2 s).getD s)) (hx:(Mv Γ (nav p C) i s).isSome=true:=by kernel_rfl) (hn:(XJ Γ (nav p C) i obj ((Mv Γ (nav p C) i s).getD (0,[])).1 ((Mv Γ (nav p C) i s).getD (0,[])).2 s).isSome=true:=by kernel_rfl):RF Γ C p i Q s:=⟨Jjj _ obj _ (BU (d:=(0,[])) hx) (BU hn) rfl hk.out⟩
theorem ca (m:Bool) {f:FuncId} {ys:List AV} {r:AV} (hr:Γ.calls f ys r) (hk:RF Γ C p (i+1) Q ((ON Γ (nav p C) i m (Ix r) r s).getD s)) (hc:Jc (nav p C) i s=some (f,ys,[],[]):=by kernel_rfl) (hn:(ON Γ (nav p C) i m (Ix r) r s).isSome=true:=by kernel_rfl):RF Γ C p i Q s:=⟨Jao _ m hc leZ rfl hr (.inl rfl) rfl (BU hn) rfl hk.out⟩
theorem cb (m:Bool) {f:FuncId} {xs ys:List AV} {ks:List Nat} {obl:List (Nat×Nat)} {r:AV} {ls:List Nat} (hob:GA obl) (hxs:xs=ys) (hr:Γ.calls f ys r) (hf:ks=[]\/JC r) (hls:Ix r=ls) (hk:RF Γ C p (i+1) Q ((ON Γ (nav p C) i m ls r s).getD s)) (hc:Jc (nav p C) i s=some (f,xs,ks,obl):=by kernel_rfl) (hn:(ON Γ (nav p C) i m ls r s).isSome=true:=by kernel_rfl):RF Γ C p i Q s:=⟨Jao _ m hc hob hxs hr hf hls (BU hn) rfl hk.out⟩
theorem cG (m:Bool) {g:Bool} {gs:List Bool} {f:FuncId} {xs ys:List AV} {ks:List Nat} {obl:List (Nat×Nat)} {r:AV} {ls:List Nat} (hob:GA obl) (hxs:xs=ys) (hr:g=true->Γ.calls f ys r) (hf:ks=[]\/JC r) (hi:Fb g gs) (hls:Ix r=ls) (hk:RF Γ C p (i+1) Q ((Qm Γ (nav p C) i g m ls r s).getD s)) (hg:gAt (nav p C) i s=some g:=by kernel_rfl) (hc:Jc (nav p C) i s=some (f,xs,ks,obl):=by kernel_rfl) (hgs:FB (nav p C) i s=gs:=by kernel_rfl) (hn:(Qm Γ (nav p C) i g m ls r s).isSome=true:=by kernel_rfl):RF Γ C p i Q s:=⟨Jjb _ m hg hc hob hxs hr hf hgs hi hls (BU hn) rfl hk.out⟩
theorem JdT {α β:Type} {f:α->β} {xs:List α} {l m:List Nat} (h:l=m):(xs.map f).length::l=xs.length::m:=by rw[h,JlU]
theorem AC (e:α->List D) {xs:List α} {n:Int} {x:α} (h:idx xs n=some x):Ea s (A9 (.dptr ((xs.map e)[n.toNat]?.getD []) 0) (0<=n/\n<(xs.map e).length/\((xs.map e)[n.toNat]?.getD []).length=(e x).length)) (.dptr (e x) 0) [] [] none:=
 JdD (esz:=(e x).length) (eb:=0) (ez:=[]) h (Nat.beq_refl _)
theorem Bs (k esz:Nat) {xs:List α} {n:Int} {x:α} (h:idx xs n=some x):Ea s (A9 (.eptr k esz (0+n.toNat) 0) (0<=n/\n<(xs.length:Nat)/\esz=esz)) (.eptr k esz (0+n.toNat) 0) [] [] none:=JdE (esz:=esz) (eb:=0) (ez:=[]) h
theorem JdU (k esz:Nat) {xs:List α} {m:Nat} {n:Int} {x:α} (e:m=xs.length) (h:idx xs n=some x):Ea s (A9 (.eptr k esz (0+n.toNat) 0) (0<=n/\n<(m:Nat)/\esz=esz)) (.eptr k esz (0+n.toNat) 0) [] [] none:=by
 subst e;exact Bs k esz h
def ldV (l:List D) (off:Nat) (t:Ty):AV:=(CA (l.map .d) off t).getD .top
theorem De (e:α->List D) (k off:Nat) (t:Ty) {xs:List α} {n:Int} {x:α} (h:idx xs n=some x) (hk:obA s.objs k=some (.arr (e x).length (xs.map e)):=by kernel_rfl) (hv:(CA ((e x).map .d) off t).isSome=true:=by kernel_rfl) (hl:Nat.ble (off+t.size) (e x).length=true:=by kernel_rfl) :
  Ea s (CX t s.objs (.eptr k (e x).length (0+n.toNat) off)) (ldV (e x) off t) [] [] none:=JfC hk h (BU hv) hl
def stV (c:Code) (i:Nat) (s:St):AV:=
 match (Bd c)[i]? with
 | some o=>match o.op with
  | .store _ _ v=>unG (Al s.env v)
  | _=>.top
 | none=>.top
def stR (c:Code) (i:Nat) (s:St):List D:=((xDs s.objs (Ar (stV c i s))).getD ([],[],[])).1
theorem stA (e:α->List D) (k off:Nat) (t:Ty) {xs zs:List α} {n:Int} {x y:α} (h:idx xs n=some x) (hz:put xs n y=some zs) (hk:RF Γ C p (i+1) Q ((OM Γ (nav p C) i .top [] [] (some (k,.arr (e x).length (zs.map e))) s).getD s))
  (h1:obA s.objs k=some (.arr (e x).length (xs.map e)):=by kernel_rfl) (h2:xDs s.objs (Ar (stV (nav p C) i s))=some (stR (nav p C) i s,[],[]):=by kernel_rfl) (h3:(Bz (stV (nav p C) i s)&&(Ar (stV (nav p C) i s)).all CG)=true:=by kernel_rfl) (h4:Gm (e x) off (stR (nav p C) i s)=e y:=by kernel_rfl) (h5:(Nat.beq (stR (nav p C) i s).length t.size&&Nat.ble (off+t.size) (e x).length)=true:=by kernel_rfl)
  (hx:NU Γ (nav p C) i s=EO t s.objs (.eptr k (e x).length (0+n.toNat) off) (stV (nav p C) i s):=by kernel_rfl) (hn:(OM Γ (nav p C) i .top [] [] (some (k,.arr (e x).length (zs.map e))) s).isSome=true:=by kernel_rfl):RF Γ C p i Q s:=
 sp (JfD h1 h hz h2 leZ (by rw[h3];rfl) h4 h5) hk hx hn
theorem Bh (e:α->List D) (k esz:Nat) {xs ys zs:List α} {eb:Nat} (h:app eb xs ys=some zs) (hk:obA s.objs k=some (.arr esz (xs.map e)):=by kernel_rfl) (hl:∀ y,(e y).length=esz:=by intro _;rfl):Ea s (Ct esz eb s.objs (.osl k esz 0 xs.length) (((ys.map e).drop 0).take ys.length) (0+ys.length<=(ys.map e).length)) (.osl s.objs.length esz 0 zs.length) [.arr esz (zs.map e)] [k] none:=JfF hk B1 hl (by simp) h
theorem Qr {x y z:List UInt8} (h:cat x y=some z):Ea s (Um .add x y) (.d (.str z)) [] [] none:=JfG h
theorem FC {t:List UInt8} {n b:Int} (h:Iu t n=some b):Ea s (A9 (.d (.int .u8 (t[n.toNat]?.getD 0).toNat)) (0<=n/\n<t.length)) (.d (.int .u8 b)) [] [] none:=JdF h
theorem Ll {t z:List UInt8} {l h:Int} (hz:sub t l h=some z):Ea s (A9 (.d (.str ((t.take h.toNat).drop l.toNat))) (0<=l/\l<=h/\h<=t.length)) (.d (.str z)) [] [] none:=JdG hz
theorem JaA (e:α->List D) (esz:Nat) {xs zs:List α} {l h:Int} (hz:sub xs l h=some zs) (hl:∀ y,(e y).length=esz:=by intro _;rfl):Ea s (A9 (.d (.sl (((xs.map e).take h.toNat).drop l.toNat))) (0<=l/\l<=h/\h<=(xs.map e).length/\∀ y∈xs.map e,y.length=esz)) (.d (.sl (zs.map e))) [] [] none:=JfH hz hl
theorem WK (k esz:Nat) {xs zs:List α} {l h:Int} (hz:sub xs l h=some zs):Ea s (A9 (.osl k esz (0+l.toNat) (h.toNat-l.toNat)) (0<=l/\l<=h/\h<=(xs.length:Int)/\esz=esz)) (.osl k esz (0+l.toNat) (h.toNat-l.toNat)) [] [] none:=JfJ hz
theorem JeQ (e:α->List D) (esz:Nat) {zs:List α} {n:Int} {z:α} {eb:Nat} (h:mkl eb n z=some zs):Ea s (some ⟨.osl s.objs.length esz 0 n.toNat,[.arr esz (List.replicate n.toNat (e z))],[],none,0<=n/\n<=n/\n.toNat*eb<=70368744177664⟩) (.osl s.objs.length esz 0 zs.length) [.arr esz (zs.map e)] [] none:=Jji h rfl
theorem JdV {b:List Int} {z:List UInt8} (h:Vg b=some z):Ea s (ML (.slice 1 1 [.int .u8 0]) .string (.d (.sl (b.map λ n=>[.int .u8 n])))) (.d (.str z)) [] [] none:=JdH h
theorem AS (e:α->List D) (xs:List α):Ea s (val (.d (.int .i64 (xs.map e).length))) (.d (.int .i64 xs.length)) [] [] none:=JfI (esz:=0) (eb:=0) (ez:=[])
theorem cl (ls:List Nat) {f:FuncId} {ys:List AV} {r:AV} (hr:Γ.calls f ys r) (hk:RF Γ C p (i+1) Q ((ON Γ (nav p C) i true ls r s).getD s)) (hls:Ix r=ls:=by simp only[Ix,Vj,Vi,Sz,JlU,List.nil_append,List.append_nil,List.cons_append]) (hc:Jc (nav p C) i s=some (f,ys,[],[]):=by kernel_rfl) (hn:(ON Γ (nav p C) i true ls r s).isSome=true:=by kernel_rfl):RF Γ C p i Q s:=⟨Jao _ true hc leZ rfl hr (.inl rfl) hls (BU hn) rfl hk.out⟩
theorem TC {encN:α->List AV} {xss:List α} {x:α} {row:List AV} {n:Int} {k sz off:Nat} {t:Ty} {v:AV} (h:idx xss n=some x) (hk:obA s.objs k=some (.narr sz ((xss.map encN).set n.toNat row)):=by kernel_rfl) (hv:CA row off t=some v:=by kernel_rfl) (hs:(Ar v).all CG=true:=by kernel_rfl) (hl:Nat.ble (off+t.size) row.length=true:=by kernel_rfl) :
  Ea s (CX t s.objs (.eptr k sz (0+n.toNat) off)) v [] [] none:=JfM hk h hv hs hl
theorem WL {encN:α->List AV} {xss:List α} {x:α} {row row':List AV} {n:Int} {k sz off:Nat} {t:Ty} {v:AV} (h:idx xss n=some x) (hk:obA s.objs k=some (.narr sz ((xss.map encN).set n.toNat row)):=by kernel_rfl) (hc:(Bz v&&(Ar v).all CG)=true:=by kernel_rfl) (hy:splice row off (Ar v)=row':=by kernel_rfl) (hl:(Nat.beq (Ar v).length t.size&&Nat.ble (off+t.size) sz)=true:=by kernel_rfl) :
  Ea s (EO t s.objs (.eptr k sz (0+n.toNat) off) v) .top [] [] (some (k,.narr sz ((xss.map encN).set n.toNat row'))):=JfN hk h hc hy hl
theorem JdW {encN:α->List AV} {xss yss:List α} {y:α} {esz eb k:Nat} {e:List D} (h:app eb xss [y]=some yss) (hk:obA s.objs k=some (.narr esz (xss.map encN)):=by kernel_rfl) (hl:Nat.beq e.length esz=true:=by kernel_rfl) :
  Ea s (Ct esz eb s.objs (.osl k esz 0 xss.length) [e] True) (.osl s.objs.length esz 0 yss.length) [.narr esz (xss.map encN++[e.map toN])] [k] none:=JdM hk hl trivial h
theorem Kt {κ:Type} [DecidableEq κ] {encK:κ->List D} {enc:α->List D} {ks:List TK} {k:Nat} {m:List (κ×α)} {key:κ} {l:List AV} {z:α} {vz:List D} {e1:α->D} (heq:∀ a b,Az ks ((encK a).map .d) ((encK b).map .d)=some (decide (a=b))) (ok:Bool) (he:∀ x,enc x=[e1 x]:=by intro _;rfl) (hz:vz=[e1 z]:=by kernel_rfl) (hk:obA s.objs k=some (.map true false (AH encK enc m)):=by kernel_rfl) (hx:xDs s.objs l=some (encK key,[],[]):=by kernel_rfl) :
  Ea s (FT (.map ks true false vz) s.objs (.mp k) (.agg l) ok) (bif ok then .tup [.d (e1 ((BR key m).getD z)),.d (.bool (BR key m).isSome)]else .d (e1 ((BR key m).getD z))) [] [] none:=Jav heq he hz hk hx ok
theorem Lm {κ:Type} [DecidableEq κ] {encK:κ->List D} {enc:α->List D} {ks:List TK} {k:Nat} {m:List (κ×α)} {key:κ} {l:List AV} {v:AV} {y:α} {vz:List D} {e1:α->D} (heq:∀ a b,Az ks ((encK a).map .d) ((encK b).map .d)=some (decide (a=b))) (he:∀ x,enc x=[e1 x]:=by intro _;rfl) (hz:Nat.beq vz.length 1=true:=by kernel_rfl) (hk:obA s.objs k=some (.map true false (AH encK enc m)):=by kernel_rfl) (hx:xDs s.objs l=some (encK key,[],[]):=by kernel_rfl) (hv:v=.d (e1 y):=by kernel_rfl) (hvx:xDs s.objs [v]=some (enc y,[],[]):=by kernel_rfl) :
  Ea s (G8 (.map ks true false vz) s.objs (.mp k) (.agg l) v) .top [] [] (some (k,.map true false (AH encK enc (Eh key y m)))):=JdJ heq he hz hk hx hv hvx
def XN:AV->Bool
 | .d _=>true
 | .agg l=>l.all Ml
 | _=>false
theorem Qs (l m:List (Option (Nat×Nat×Nat))):ksE (l++m)=ksE l++ksE m:=by
 induction l with
 | nil=>rfl
 | cons a l ih=>cases a<;>simp[ksE,ih]
theorem JaB {a:AV} (h:Ml a=true):ksE (Kl a a)=[]:=by
 cases a with
 | d x=>cases x<;>rfl
 | _=>cases h
theorem JdX {objs:List (Option Ob)} {a:AV} (h:Ml a=true):LD objs a a:=by
 cases a with
 | d x=>exact WG
 | _=>cases h
theorem Jjn {objs:List (Option Ob)}:∀ {l:List AV},l.all Ml=true->YA objs l l/\ksE (P3 l l)=[]:=by
 intro l;induction l with
 | nil=>intro _;exact⟨trivial,rfl⟩
 | cons a l ih=>
  intro h;simp only[List.all_cons,Jl0]at h;obtain⟨h1,h2⟩:=ih h.2;exact⟨⟨JdX h.1,h1⟩,by simp only[P3,Qs,JaB h.1,h2,List.append_nil]⟩
theorem JaC {objs:List (Option Ob)} {a:AV} (h:XN a=true):P4 objs a a/\ksE (LE a a)=[]:=by
 cases a with
 | d x=>exact⟨WG,JaB (a:=.d x) rfl⟩
 | agg l=>exact Jjn h
 | _=>cases h
theorem JeR {objs:List (Option Ob)}:∀ {l:List AV},l.all XN=true->Wn objs l l/\ksE (LF l l)=[]:=by
 intro l;induction l with
 | nil=>intro _;exact⟨trivial,rfl⟩
 | cons a l ih=>
  intro h;simp only[List.all_cons,Jl0]at h;obtain⟨h1,h2⟩:=ih h.2;obtain⟨h3,h4⟩:=JaC (objs:=objs) h.1;exact⟨⟨h3,h1⟩,by simp only[LF,Qs,h4,h2,List.append_nil]⟩
theorem rd {ty:Nat->Ty} {rs:List ResultVar} {r:AV} (hd:XN r=true:=by kernel_rfl) (h:Qn ty s rs=some [r]:=by kernel_rfl):RA ty rs r s:=⟨Jjc [] h (JaC hd).1 (JaC (objs:=[]) hd).2 (by simp)⟩
theorem rdT {ty:Nat->Ty} {rs:List ResultVar} {l:List AV} (hd:l.all XN=true:=by kernel_rfl) (h:Qn ty s rs=some l:=by kernel_rfl) (hl:Nat.beq l.length 1=false:=by kernel_rfl):RA ty rs (.tup l) s:=⟨Jjd h hl (JeR hd).1 [] (JeR (objs:=[]) hd).2 (by simp)⟩
structure OV (s:St) (a r:AV):Prop where
 out:LD s.objs a r
structure OC (s:St) (a r:List AV):Prop where
 out:YA s.objs a r
structure OA (s:St) (a r:AV):Prop where
 out:P4 s.objs a r
structure OT (s:St) (a r:List AV):Prop where
 out:Wn s.objs a r
theorem c0:OC s [] []:=⟨trivial⟩
theorem c1 {a r:AV} {l m:List AV} (h:OV s a r) (h':OC s l m):OC s (a::l) (r::m):=⟨⟨h.out,h'.out⟩⟩
theorem a1 {l m:List AV} (h:OC s l m):OA s (.agg l) (.agg m):=⟨h.out⟩
theorem ad {x:D} {r:AV} (h:OV s (.d x) r):OA s (.d x) r:=⟨h.out⟩
theorem ao {k sz lo n:Nat} {r:AV} (h:OV s (.osl k sz lo n) r):OA s (.osl k sz lo n) r:=⟨h.out⟩
theorem t0:OT s [] []:=⟨trivial⟩
theorem t1 {a r:AV} {l m:List AV} (h:OA s a r) (h':OT s l m):OT s (a::l) (r::m):=⟨⟨h.out,h'.out⟩⟩
theorem vd {x:D}:OV s (.d x) (.d x):=⟨WG⟩
theorem vn:OV s (.d .nil) (.d (.sl [])):=⟨YQ⟩
theorem vz {sz:Nat}:OV s (.d .nil) (.own sz []):=⟨YR⟩
theorem vo {enc:α->List D} {xs:List α} {k sz:Nat} (h:obA s.objs k=some (.arr sz (xs.map enc)):=by kernel_rfl):OV s (.osl k sz 0 xs.length) (.own sz (xs.map enc)):=⟨Jar h⟩
theorem rO {ty:Nat->Ty} {rs:List ResultVar} {v r:AV} (ks:List Nat) (ho:OA s v r) (h:Qn ty s rs=some [v]:=by kernel_rfl) (hks:ksE (LE v r)=ks:=by kernel_rfl) (hnd:ks.Nodup:=by decide):RA ty rs r s:=⟨Jjc ks h ho.out hks hnd⟩
theorem rT {ty:Nat->Ty} {rs:List ResultVar} {vs l:List AV} (ks:List Nat) (ho:OT s vs l) (h:Qn ty s rs=some vs:=by kernel_rfl) (hl:Nat.beq vs.length 1=false:=by kernel_rfl) (hks:ksE (LF vs l)=ks:=by kernel_rfl) (hnd:ks.Nodup:=by decide):RA ty rs (.tup l) s:=⟨Jjd h hl ho.out ks hks hnd⟩
structure RL (nk:Nat) (ty:Nat->Ty) (rs:List ResultVar) (r:AV) (O1:List (Option Ob)) (s:St):Prop where
 out:∃ s',Ay nk s s'/\Jdo ty rs r O1 s'
def JkJ (vs:List AV):AV:=match vs with
 | [v]=>v
 | vs=>.tup vs
theorem rl {ty:Nat->Ty} {rs:List ResultVar} {r:AV} {O1:List (Option Ob)} (sh:Ay nk s s') (h:(Qn ty s' rs).map JkJ=some r:=by kernel_rfl) (hO:s'.objs=O1:=by kernel_rfl):RL nk ty rs r O1 s:=by
 refine⟨s',sh,hO,?_⟩;cases hb:Qn ty s' rs with
 | none=>rw[hb]at h;cases h
 | some vs=>
  rw[hb]at h;obtain⟨p,e1,q1⟩:=Tu hb;rw[e1];simp only[Option.map_some,Jl9]at h
  match vs,h with
  | [],h=>exact⟨q1,h.symm⟩
  | [v],h=>exact⟨q1,h⟩
  | v::v'::l,h=>exact⟨q1,h.symm⟩
theorem pL {ty:Nat->Ty} {rs:List ResultVar} {r:AV} {O1:List (Option Ob)} (h:RL nk ty rs r O1 s):PQ (Sw nk ty rs r O1) .ret s:=⟨h.out⟩
theorem pL' {ty:Nat->Ty} {rs:List ResultVar} {r:AV} {O1:List (Option Ob)} (h:RL nk ty rs r O1 s):PQ (Sw nk ty rs r O1) .normal s:=⟨h.out⟩
theorem fl {P:Program} {fn:Func} {f:FuncId} {args:List AV} {O0 O1:List (Option Ob)} {nb:Nat} {r:AV} (hfol:P.follows .mixedOrders=true) (hΓ:Gv P Γ) (hf:P.funcs[f]?=some fn) (h:WP Γ (AR fn) [] (Sw nb Γ.ty fn.results.toList r O1) s)
  (hb:fn.body=some (AR fn):=by kernel_rfl) (hnm:(fn.name == "runtime.NumGoroutine")=false:=by kernel_rfl) (hnt:Γ.nt=⟨fn.ntmps,[],nb,Γ.nt.qf⟩:=by kernel_rfl) (hlen:Nat.ble args.length fn.ntmps=true:=by kernel_rfl) (hs:(⟨(List.range args.length).zip args,O0⟩:St)=s:=by kernel_rfl) (hrd:Γ.rd=false:=by kernel_rfl):BV P f args O0 nb r O1:=
 JdA hfol hΓ hrd hf hb hnm hnt hlen hs h.out
theorem lt (ord:List Nat) {f:FuncId} {ys:List AV} {O0 O1:List (Option Ob)} {nb:Nat} {r:AV} (hr:Γ.lent f ys O0 nb r O1) (hk:RF Γ C p (i+1) Q ((SA Γ (nav p C) i ord nb r O1 s).getD s)) (hc:Kr (nav p C) i s=some (f,((Kr (nav p C) i s).getD (0,[],[])).2.1,ord):=by kernel_rfl)
  (hxs:((Kr (nav p C) i s).getD (0,[],[])).2.1.map (IX ord)=ys:=by kernel_rfl) (hO:Fw s.objs ord=O0:=by kernel_rfl) (hn:(SA Γ (nav p C) i ord nb r O1 s).isSome=true:=by kernel_rfl):RF Γ C p i Q s:=⟨lentS hc hxs hO hr (BU hn) hk.out⟩
theorem leM {enc:α->List D} {xs:List α}:0+xs.length<=(xs.map enc).length:=by simp
theorem ltP (ord:List Nat) {f:FuncId} {ys:List AV} {O0 O1 raw0:List (Option Ob)} {nb:Nat} {r:AV} (hr:Γ.lent f ys O0 nb r O1) (hp0:Pl (IW ord) raw0 O0) (hk:RF Γ C p (i+1) Q ((SA Γ (nav p C) i ord nb r O1 s).getD s)) (hc:Kr (nav p C) i s=some (f,((Kr (nav p C) i s).getD (0,[],[])).2.1,ord):=by kernel_rfl)
  (hxs:((Kr (nav p C) i s).getD (0,[],[])).2.1.map (IX ord)=ys:=by kernel_rfl) (hO:Fw s.objs ord=raw0:=by kernel_rfl) (hn:(SA Γ (nav p C) i ord nb r O1 s).isSome=true:=by kernel_rfl):RF Γ C p i Q s:=lt ord hr hk hc hxs (hO.trans hp0.eq) hn
theorem tb {f:AV->AV} {raw:List (Option Ob)} (O:List (Option Ob)) (hp:Pl f raw O) (hk:RF Γ C p i Q ⟨s.env,O⟩) (h:s.objs=raw:=by kernel_rfl):RF Γ C p i Q s:=by
 rw[hp.eq]at h;rw[← h]at hk;exact hk
theorem JaD (esz:Nat) {α:Type} {zs:List α} {n:Int} {z:α} {eb:Nat} {ez:List D} (h:mkl eb n z=some zs):Ea s (some ⟨.osl s.objs.length esz 0 n.toNat,[.arr esz (List.replicate n.toNat ez)],[],none,0<=n/\n<=n/\n.toNat*eb<=70368744177664⟩) (.osl s.objs.length esz 0 n.toNat) [.arr esz (List.replicate n.toNat ez)] [] none:=by
 have:0<=n/\n.toNat*eb<=70368744177664:=by
  unfold mkl at h;split at h
  ·assumption
  ·cases h
 exact .of rfl ⟨this.1,Int.le_refl _,this.2⟩
theorem TD {α:Type} {zs:List α} {n:Int} {z:α} {eb:Nat} (h:mkl eb n z=some zs):List.replicate n.toNat z=zs:=by
 unfold mkl at h;split at h
 ·exact Option.some.inj h
 ·cases h
theorem Pu {α:Type} {zs:List α} {n:Int} {z:α} {eb:Nat} (h:mkl eb n z=some zs):n.toNat=zs.length:=by
 rw[← TD h];simp
theorem SC {a b:Nat} {u:Unit} (h:B7 (decide (a=b))=some u):a=b:=of_decide_eq_true (Pt h)
theorem Pv (k sz off m:Nat) {j:Nat} {n:Int} {u:Unit} (h:B7 (decide (0<=n/\n<(m:Nat)))=some u):Ea s (A9 (bif Nat.beq sz sz then .eptr k sz (j+n.toNat) off else .eptr k sz j (off+n.toNat*sz)) (0<=n/\n<(m:Nat))) (.eptr k sz (j+n.toNat) off) [] [] none:=by
 have hb:Nat.beq sz sz=true:=Nat.beq_refl sz;rw[hb];exact .of rfl ((of_decide_eq_true (Pt h)))
def Jlv:D->Bool
 | .sl es=>es.isEmpty
 | .po _=>false
 | _=>true
theorem YU {enc:α->List D} {xs:List α} (h:∀ a,(enc a).all Jlv=true):∀ e∈xs.map enc,∀ x∈e,D.flat x:=by
 intro e he x hx;simp only[JlR]at he;obtain⟨a,_,rfl⟩:=he;have:=JlJ.1 (h a) x hx;cases x<;>first|trivial|exact List.isEmpty_iff.1 this|cases this
end Go.AI
end
section
namespace Go.AI
variable {P:Program} {Γ:Cx} {C:Code} {p:List Nat} {Q:Ex->St->Prop} {s s':St} {K:St->Prop} {i:Nat}
variable {α β ζ:Type}
structure XOK (P:Program) (Γ:Cx):Prop where
 ty:I0 P Γ.ty
 ext:Γ.ext=OF P
def JaE (Γ:Cx) (c:Code) (o:Oper):Bool:=!JY c&&o.guard.isNone&&BE Γ.nt o.dst&&ndB o.op
theorem Qt (hX:XOK P Γ) {o:Oper} (ho:(Bd (nav p C))[i]?=some o) (h0:JaE Γ (nav p C) o=true) (hx:UQ P Γ.nt o true s s') (hk:RF Γ C p (i+1) Q s'):RF Γ C p i Q s:=by
 refine⟨?_⟩;have hk:=hk.out;unfold A7 at hk⊢;simp only[JaE,Jl0,Bool.not_eq_true']at h0;obtain⟨⟨⟨h1,h2⟩,h3⟩,h4⟩:=h0;rw[CE ho];show A1 _ _ _ _ _ _;have hgN:o.guard=none:=by simpa using h2
 unfold A1;rw[hgN];simp only[Bw,h3,JlM,cond_false];exact⟨λ _=>.inr (.inr ⟨h1,.inl ⟨s',by rw[hX.ext];exact hx.ok h4,hk⟩⟩),λ h=>by cases h⟩
def Jjo (c:Code) (i:Nat):Option (Operand×Nat):=
 match (Bd c)[i]? with
 | some o=>match o.op with
  | .call ⟨.builtin .clear,args,ts⟩=>match args.toList,ts.toList with
   | [d],[t]=>some (d,t)
   | _,_=>none
  | _=>none
 | none=>none
end Go.AI
end
section
namespace Go.AI
variable {α:Type}
def inB (n:Nat) (i:Int):Option Unit:=B7 (decide (0<=i)&&decide (i<n))
end Go.AI
end
section
namespace Go.AI
variable {P:Program} {nt:Slt} {o:Oper} {st:St}
variable {Γ:Cx} {C:Code} {p:List Nat} {Q:Ex->St->Prop} {s s':St} {i:Nat} {α:Type}
theorem JfS {n:Nat} {i:Int} {y:Unit} (h:inB n i=some y):0<=i/\i<n:=by
 unfold inB B7 at h;split at h
 ·rename_i hc;simpa using hc
 ·cases h
end Go.AI
end
section
namespace Go.AI
variable {P:Program} {F F':Nat->Option Obj} {ρ ρ':Nat->Option Loc} {N:Nat->Prop} {H0 F0:Nat->Option Obj} {O objs:List (Option Ob)} {w:World} {w0:W0}
def Jjp (objs:List (Option Ob)) (j:Nat):Option (List (Option Ob)):=
 match obA objs 0 with
 | some (.lp d ts vs _)=>some (objs.set 0 (some (.lp d ts vs j)))
 | _=>none
def exJ (js:List Code):Ex->Nat->Prop
 | .normal,0=>True
 | .ret,i+2=>js[i]?=some .ret
 | .exit k,i+2=>js[i]?=some (.exit k)
 | _,_=>False
def JkK (nb:Nat) (js:List Code) (j:Nat) (objs1:List (Option Ob)) (e:Ex) (s:St):Prop:=exJ js e j/\∃ s',Ay nb s s'/\lpJ s'.objs 0=some (js,1)/\Jjp s'.objs j=some objs1
end Go.AI
end
section
namespace Go.AI
variable {P:Program} {Γ:Cx} {C:Code} {p:List Nat} {Q:Ex->St->Prop} {s s':St} {K:St->Prop} {i nk:Nat}
variable {α β ζ:Type}
structure JQ (Q:Ex->St->Prop) (js:List Code) (j:Nat) (s:St):Prop where
 out:Uq Q js j s
theorem jz {js:List Code} (h:PQ Q .normal s):JQ Q js 0 s:=⟨h.out⟩
theorem jn {js:List Code} {j:Nat} {x y:Option ζ} {r:ζ} (H:(if Nat.beq j 0=true then x else y)=some r) (h1:x=some r->PQ Q .normal s) (h2:y=some r->JQ Q js j s):JQ Q js j s:=by
 split at H
 ·rename_i h;have:=Jl6 h;subst this;exact jz (h1 H)
 ·exact h2 H
theorem jx {js:List Code} {j:Nat} (k e:Nat) {x y:Option ζ} {r:ζ} (H:(if Nat.beq j (k+2)=true then x else y)=some r) (h1:x=some r->PQ Q (.exit e) s) (h2:y=some r->JQ Q js j s) (h:js[k]?=some (.exit e):=by kernel_rfl):JQ Q js j s:=by
 split at H
 ·rename_i hj;have:=Jl6 hj;subst this;refine⟨?_⟩;simp only[Uq,h];exact(h1 H).out
 ·exact h2 H
def JfT (Γ:Cx) (c:Code) (o:Oper):Bool:=!JY c&&BE Γ.nt o.dst&&ndB o.op
def gY (c:Code) (i:Nat) (s:St):Option Bool:=match (Bd c)[i]? with
 | some o=>Bw (Bd c) s.env o.guard
 | none=>none
theorem YV (hX:XOK P Γ) {o:Oper} {g:Bool} (ho:(Bd (nav p C))[i]?=some o) (h0:JfT Γ (nav p C) o=true) (hg:gY (nav p C) i s=some g) (hgt:g=true) (hx:OF P Γ.nt o g s s') (hk:RF Γ C p (i+1) Q s'):RF Γ C p i Q s:=by
 refine⟨?_⟩;have hk:=hk.out;unfold A7 at hk⊢;simp only[JfT,Jl0,Bool.not_eq_true']at h0;obtain⟨⟨h1,h3⟩,h4⟩:=h0;rw[CE ho];show A1 _ _ _ _ _ _;unfold A1;have hga:Bw (Bd (nav p C)) s.env o.guard=some g:=by
  unfold gY at hg;rw[ho]at hg;exact hg
 rw[hga];simp only[h3,JlM,cond_false];exact⟨λ _=>.inr (.inr ⟨h1,.inl ⟨s',by rw[hX.ext];exact hx,hk⟩⟩),λ h=>by rw[hgt]at h;cases h⟩
theorem JaF {nt:Slt} {o:Oper} {st:St} {v:AV} {O1:List (Option Ob)} {g:Bool} (h:OF P nt o true st ⟨putA o.dst false true v st.env,O1⟩):OF P nt o g st ⟨putA o.dst o.guard.isSome g v st.env,O1⟩:=by
 intro N H0 F0 w0 a w hg hI hdst rd n K Qw hqr hK;subst hg;refine h N H0 F0 w0 a w rfl hI hdst rd n K Qw hqr λ a' w' hI'=>hK a' w' ?_;obtain⟨F,ρ,hS,hSl,hrest⟩:=hI';refine⟨F,ρ,hS,?_,hrest⟩;cases hgs:o.guard.isSome with
 | false=>exact hSl
 | true=>
  cases hd:o.dst with
  | none=>rw[hd]at hSl;exact hSl
  | some d=>
   rw[hd]at hSl;intro t;have:=hSl t;simp only[putA,cond_true,cond_false,Bi]at this⊢;split
   ·rename_i e;rw[if_pos e]at this;exact .gvT _ _ this
   ·rename_i e;rw[if_neg e]at this;exact this
def GB (m:Nat):Code->Code
 | .region id ops _=>.region id (ops.toList.take m).toArray false
 | c=>c
def WM (Γ:Cx) (c:Code) (m:Nat) (Q:Ex->St->Prop):Ex->St->Prop:=λ _ s=>phX Γ (Cg c) (Q .normal) ((Cg c).size-(m+1)) (m+1) s
def JdY (Γ:Cx) (c:Code) (b x m:Nat) (s0:St) (Q:Ex->St->Prop):Ex->St->Prop:=λ e s=>Jfh Γ.ty (Cg c) b x m s0.env s.env s0.objs (bif Nat.blt (yM (Cg c) b m) m then s.objs.dropLast else s.objs)/\∃ F,(Cg c)[m]?=some F/\A1 Γ false (Cg c).toList F (WM Γ c m Q e) s
theorem rx (x m:Nat) (hs:Ay Γ.nt.nk s s') (hk:RF (cxX Γ (Cg (nav p C)) x) (GB m (nav p C)) [] 0 (JdY Γ (nav p C) 0 x m s' Q) s') (h:(Iw (nav p C)&&JY (nav p C))=true:=by kernel_rfl) (hb:Mn (Cg (nav p C)) 0 x m=true:=by kernel_rfl):WP Γ C p Q s:=by
 refine⟨?_⟩;have hk:=hk.out;generalize nav p C=c at *;cases c with
 | region id ops d=>
  simp only[Iw,JY,Bool.true_and]at h;subst h;exact⟨s',hs,.inr (.inl ⟨rfl,.inl ⟨ops.size-(m+1)+1,.inr ⟨x,m,Nat.zero_le _,hb,hk⟩⟩⟩)⟩
 | _=>cases h
theorem WN {ops:List Oper} {m:Nat} {env:List (Nat×AV)} {g:Option (Nat×Bool)} {v:Bool} (h:Bw (ops.take m) env g=some v):Bw ops env g=some v:=by
 unfold Bw at h⊢;split at h
 ·exact h
 ·rename_i j want;rcases JlP j m with hj|hj
  ·rw[Jmj hj]at h;exact h
  ·rw[Jmk (by rw[List.length_take];omega)]at h;cases h
theorem Qu {ops:List Oper} {m:Nat} {o:Oper} {Q:St->Prop} (h:A1 Γ false (ops.take m) o Q s):A1 Γ false ops o Q s:=by
 unfold A1 at h⊢;split at h
 ·exact h.elim
 ·rename_i g hg;rw[WN hg];exact h
theorem mx {c:Code} {b x m:Nat} {s0:St} (hk:RF Γ (GB (m+1) c) [] m (WM Γ c m Q) s) (hi:Nat.ble (Bd (GB m c)).length i=true:=by kernel_rfl) (h:Iw c=true:=by kernel_rfl) (hm:Nat.blt m (Cg c).size=true:=by kernel_rfl)
  (h1:ldL Γ.ty (Cg c) b x m s0.env s.env s0.objs=ldL Γ.ty (Cg c) b x m s0.env s.env (bif Nat.blt (yM (Cg c) b m) m then s.objs.dropLast else s.objs):=by kernel_rfl) (h2:(ldL Γ.ty (Cg c) b x m s0.env s.env s0.objs).all Option.isSome=true:=by kernel_rfl):RF (cxX Γ (Cg c) x) (GB m c) [] i (JdY Γ c b x m s0 Q) s:=by
 refine⟨NT i hi ⟨⟨h1,h2⟩,?_⟩⟩;have hk:=hk.out;have hm:=Jme hm;cases c with
 | region id ops d=>
  simp only[Cg]at hm⊢;have hg:=Jl4 (show m<ops.size by omega);refine⟨ops[m],hg,?_⟩;have hk:HR Γ false (ops.toList.take (m+1)) ((ops.toList.take (m+1)).drop m) (WM Γ (.region id ops d) m Q .normal) s:=hk;rw[show(ops.toList.take (m+1)).drop m=[ops[m]] by
   rw[List.drop_take,List.drop_eq_getElem_cons (by simp;omega)];simp]at hk
  exact Qu hk
 | _=>cases h
theorem rlz (x m:Nat) (hs:Ay Γ.nt.nk s s') (hk:RF (cxX Γ (Cg (nav p C)) x) (GB m (nav p C)) [] 1 (JdY Γ (nav p C) 1 x m (lzS (Cg (nav p C)) s') Q) (lzS (Cg (nav p C)) s')) (h:(Iw (nav p C)&&JY (nav p C))=true:=by kernel_rfl) (hb:(Xr (Cg (nav p C))&&lzD Γ (Cg (nav p C))&&Mn (Cg (nav p C)) 1 x m)=true:=by kernel_rfl):WP Γ C p Q s:=by
 refine⟨?_⟩;have hk:=hk.out;rw[Jl0]at hb;obtain⟨hl,hb⟩:=hb;generalize nav p C=c at *;cases c with
 | region id ops d=>
  simp only[Iw,JY,Bool.true_and]at h;subst h;exact⟨s',hs,.inr (.inl ⟨rfl,.inr (.inr ⟨ops.size-(m+1)+1,hl,.inr ⟨x,m,(NR hb).1.2.2,hb,hk⟩⟩)⟩)⟩
 | _=>cases h
theorem nz {c:Code} {m:Nat} (hk:PQ Q .normal s) (hi:Nat.ble (Bd (GB (m+1) c)).length i=true:=by kernel_rfl) (hm:Nat.beq (Cg c).size (m+1)=true:=by kernel_rfl):RF Γ (GB (m+1) c) [] i (WM Γ c m Q) s:=by
 refine⟨NT i hi ?_⟩;unfold WM;have hm:=Jl6 hm;rw[hm,Nat.sub_self];exact⟨hm.symm,hk.out⟩
theorem nx {c:Code} {m:Nat} (x m2:Nat) (hk:RF (cxX Γ (Cg c) x) (GB m2 c) [] (m+1) (JdY Γ c (m+1) x m2 s Q) s) (hi:Nat.ble (Bd (GB (m+1) c)).length i=true:=by kernel_rfl) (h:Iw c=true:=by kernel_rfl) (hb:Mn (Cg c) (m+1) x m2=true:=by kernel_rfl):RF Γ (GB (m+1) c) [] i (WM Γ c m Q) s:=by
 refine⟨NT i hi ?_⟩;have hk:=hk.out;cases c with
 | region id ops d=>
  have hbb:=(NR hb).1;simp only[Cg]at hbb;unfold WM;simp only[Cg];refine Jft (f:=ops.size-(m2+1)+1) (by omega) (.inr ⟨x,m2,hbb.2.2,hb,?_⟩);exact hk
 | _=>cases h
def Gq (ev:Operand->AV):Op->Option FuncId×List AV
 | .call ⟨.value (.func f),args,_⟩=>(some f,args.toList.map ev)
 | .call ⟨.value x,args,_⟩=>match ev x with
  | .clo f l=>(some f,args.toList.map ev++l)
  | _=>(none,[])
 | _=>(none,[])
theorem RB {ev ev':Operand->AV} {op:Op} (h:∀ y∈op.operands.toList,ev y=ev' y):Gq ev op=Gq ev' op:=by
 cases op with
 | call c=>
  obtain⟨callee,args,ts⟩:=c;cases callee with
  | value x=>
   have ha:args.toList.map ev=args.toList.map ev':=JlX λ y hy=>h y (by simp[Op.operands,Call.operands];exact .inr (by simpa using hy));have hx:=h x (by simp[Op.operands,Call.operands]);cases x<;>simp only[Gq,ha,hx]
  | _=>rfl
 | _=>rfl
theorem YW {nt:Slt} {o:Oper} {st:St} {f:FuncId} {xs:List AV} {nb:Nat} {r:AV} {O1:List (Option Ob)} (hgob:Fu true (o.op.operands.toList.map (Al st.env))) (hc:Gq (λ y=>unG (Al st.env y)) o.op=(some f,xs))
  (hcall:BV P f (xs.map (IX (AL st.objs xs))) (Fw st.objs (AL st.objs xs)) nb r O1) (hnb:nb<=(AL st.objs xs).length) (hnb1:nb<=O1.length) (hord:∀ k∈AL st.objs xs,k<st.objs.length) :
  UQ P nt o true st ⟨putA o.dst false true (MN (D1 (AL st.objs xs) st.objs.length nb) r) st.env,Dk st.objs (AL st.objs xs) nb O1⟩:=by
 intro N H0 F0 w0 a w _ hI hdst K Qw hK;obtain⟨F,ρ,hS,hSl,hn,hdf⟩:=hI;have hk:∀ v w' F' ρ'',FLe F F'->RLe ρ ρ''->Sim N H0 F0 F' ρ'' (Dk st.objs (AL st.objs xs) nb O1) w'.heap->Ak F' ρ'' (MN (D1 (AL st.objs xs) st.objs.length nb) r) v->Mu w w'->K (a.put o.dst v) w':=
  λ v w' F' ρ'' hF hρ hS' hv hmu=>hK _ _ ⟨F',ρ'',hS',(hSl.mono hF hρ).putA hn hdst hv,hn.put hdst,by rw[put_defers];exact⟨hdf.1.mono hF,hdf.2.1.trans hmu,hdf.2.2.mono hρ⟩⟩
 have hev:∀ y∈o.op.operands.toList,Ak F ρ (unG (Al st.env y)) (a.eval y):=λ y hy=>BM rfl _ hgob _ (List.mem_map_of_mem hy) _ (A5 hSl y);unfold Gq at hc;split at hc
 ·rename_i f' args ts hop;cases hc;exact UP (ev:=λ y=>unG (Al st.env y)) hop hS (λ y hy=>hev y (by rw[hop];simp[Op.operands,Call.operands];exact .inr (by simpa using hy))) hcall hnb hnb1 hord hk
 ·rename_i x args ts _ hop;split at hc
  ·rename_i f' l hx;have hx:unG (Al st.env x)=.clo f' l:=hx;cases hc;have hxr:=hev x (by rw[hop];simp[Op.operands,Call.operands]);rw[hx]at hxr;generalize hxv:a.eval x=xv at hxr;cases hxr with
   | clo _ _ vs hl hr=>
    have hcr0:=MZ (args:=args) (a:=a) (ev:=λ y=>unG (Al st.env y)) (λ y hy=>hev y (by rw[hop];simp[Op.operands,Call.operands];exact .inr (by simpa using hy)));refine PR (vs:=args.map a.eval++vs) (λ fn c hf hb hnm=>?_) hS ⟨by simp[hl],λ i y v hy hv=>?_⟩ hcall hnb hnb1 hord hk
    ·simp only[execOp,hop,resolve,hxv,Deferred.ofValue,JlG,JlH,JlE,invoke,callFunc,run_program,hf,hnm,hb,Jmb,if_false,Option.isNone_some,Array.empty_append]
    ·rw[Array.toList_append]at hv;have hl0:=hcr0.1;by_cases hi:i<(args.toList.map (λ y=>unG (Al st.env y))).length
     ·rw[Jl7 hi]at hy;rw[Jl7 (by omega)]at hv;exact hcr0.2 i y v hy hv
     ·rw[Jmh (by omega)]at hy;rw[Jmh (by omega)]at hv;rw[← hl0]at hv;exact hr _ y v hy (by simpa using hv)
  ·cases hc
 ·cases hc
def RC (c:Code) (i:Nat) (s:St):Option ((Option FuncId×List AV)×List Nat):=
 match (Bd c)[i]? with
 | some o=>some (Gq (λ y=>unG (Al s.env y)) o.op,AL s.objs (Gq (λ y=>unG (Al s.env y)) o.op).2)
 | none=>none
def nxS (Γ:Cx) (ops:Array Oper) (x:Nat) (c:Code) (i:Nat) (g:Bool) (ord:List Nat) (nb:Nat) (r:AV) (O1:List (Option Ob)) (s:St):Option St:=
 match (Bd c)[i]? with
 | some o=>bif !JY c&&Nat.beq i x&&Nat.blt x ops.size.pred&&BE Γ.nt o.dst&&Nat.ble nb ord.length&&Nat.ble nb O1.length&&ord.all (λ k=>Nat.blt k s.objs.length)then
   some ⟨putA o.dst o.guard.isSome g (MN (D1 ord s.objs.length nb) r) s.env,Dk s.objs ord nb O1⟩else none
 | none=>none
theorem xs {c:Code} {x m:Nat} (hX:XOK P Γ) {g:Bool} (hgt:g=true) {gs:List Bool} (hi:Fb g gs) (ord:List Nat) {f:FuncId} {ys:List AV} {O0 O1 raw0:List (Option Ob)} {nb:Nat} {r:AV} (hr:BV P f ys O0 nb r O1) (hp0:raw0=O0)
  (hk:RF (cxX Γ (Cg c) x) (GB m c) [] (i+1) Q ((nxS Γ (Cg c) x (GB m c) i g ord nb r O1 s).getD s)) (hreg:Iw c=true:=by kernel_rfl) (hg:gY (GB m c) i s=some g:=by kernel_rfl) (hgs:FB (GB m c) i s=gs:=by kernel_rfl)
  (hc:RC (GB m c) i s=some ((some f,((RC (GB m c) i s).getD ((none,[]),[])).1.2),ord):=by kernel_rfl) (hxs:((RC (GB m c) i s).getD ((none,[]),[])).1.2.map (IX ord)=ys:=by kernel_rfl) (hO:Fw s.objs ord=raw0:=by kernel_rfl)
  (hn:(nxS Γ (Cg c) x (GB m c) i g ord nb r O1 s).isSome=true:=by kernel_rfl):RF (cxX Γ (Cg c) x) (GB m c) [] i Q s:=by
 generalize ((RC (GB m c) i s).getD ((none,[]),[])).1.2=zs at hc hxs;have hn:=BU (d:=s) hn;generalize (nxS Γ (Cg c) x (GB m c) i g ord nb r O1 s).getD s=s' at hn hk;subst hp0;unfold RC at hc;unfold nxS at hn;split at hn
 ·rename_i o ho;rw[ho]at hc;simp only[Jl9,Prod.mk.injEq]at hc;obtain⟨hc,hord⟩:=hc;rw[hc]at hord;simp only at hord;obtain⟨h0,hn⟩:=AU hn;simp only[Jl0]at h0;obtain⟨⟨⟨⟨⟨⟨h1,h2⟩,h3⟩,h4⟩,h5⟩,h6⟩,h7⟩:=h0;cases hn;subst hord;subst hxs;subst hO;have hix:=Jl6 h2;subst hix;have hox:(Cg c)[i]?=some o:=by
   cases c with
   | region id ops d=>
    simp only[GB,Bd,List.getElem?_take]at ho;split at ho
    ·show ops[i]?=some o;simpa using ho
    ·cases ho
   | _=>cases hreg
  have hgob:Fu true (o.op.operands.toList.map (Al s.env)):=by
   subst hgs;unfold FB at hi;rw[ho]at hi;rw[← hgt];exact Kp hi
  refine⟨?_⟩;have hk:=hk.out;unfold A7 at hk⊢;simp only[nav]at hk⊢;rw[CE ho];show A1 _ _ _ _ _ _;unfold A1;have hga:Bw (Bd (GB m c)) s.env o.guard=some g:=by
   unfold gY at hg;rw[ho]at hg;exact hg
  rw[hga];have h4:BE (cxX Γ (Cg c) i).nt o.dst=true:=h4;simp only[h4,JlM,cond_false];refine⟨λ _=>.inr (.inr ⟨by simpa using h1,.inl ⟨_,⟨hox,_,_,rfl,λ env he=>?_⟩,hk⟩⟩),λ h=>by rw[hgt]at h;cases h⟩;rw[hX.ext];have hgob':Fu true (o.op.operands.toList.map (Al env)):=by
   rw[JlX he];exact hgob
  have hc':Gq (λ y=>unG (Al env y)) o.op=(some f,zs):=by
   rw[RB (ev':=λ y=>unG (Al s.env y)) λ y hy=>by rw[he y hy]];exact hc
  have hnd:ndB o.op=true:=by
   cases hop:o.op with
   | defer d=>rw[hop]at hc;cases hc
   | _=>rfl
  exact JaF (st:=⟨env,s.objs⟩) ((YW (st:=⟨env,s.objs⟩) hgob' hc' hr (Jme h5) (Jme h6) λ k hk=>by
   exact Jme (JlJ.1 h7 k hk)).ok hnd)
 ·cases hn
theorem rq {js:List Code} {j:Nat} {O1:List (Option Ob)} {e:Ex} (sh:Ay nk s s') (h:exJ js e j:=by first|exact trivial|exact rfl) (h1:lpJ s'.objs 0=some (js,1):=by kernel_rfl) (h2:Jjp s'.objs j=some O1:=by kernel_rfl):PQ (JkK nk js j O1) e s:=⟨⟨h,s',sh,h1,h2⟩⟩
end Go.AI
end
section
namespace Go.AI
variable {P:Program} {F F':Nat->Option Obj} {ρ ρ':Nat->Option Loc} {N:Nat->Prop} {H0 F0:Nat->Option Obj} {O objs:List (Option Ob)} {w:World} {w0:W0} {nt:Slt} {o:Oper} {st:St}
def JkL (o:Oper) (k:Nat) (ka va:Bool) (left:List (List D×List D)) (st:St) (st':St):Prop:=
 (left=[]/\st'=⟨putA o.dst false true (.tup [.d (.bool false)]) st.env,st.objs⟩) \/
 ∃ l1 e l2,left=l1++e::l2/\st'=⟨putA o.dst false true (.tup [.d (.bool true),.top,.top]) st.env,st.objs.set k (some (.iter ka va (some e) (l1++l2)))⟩
theorem Vm {es:Array MapEntry} {seen:Array Nat} {e:MapEntry} (hn:(es.toList.map (·.born)).Nodup) (he:e∈(leftOf es seen).toList):∃ l1 l2,(leftOf es seen).toList=l1++e::l2/\(leftOf es (seen.push e.born)).toList=l1++l2:=by
 have h1:(leftOf es (seen.push e.born)).toList=(leftOf es seen).toList.filter λ x=>!(x.born==e.born):=by
  unfold leftOf;simp only[Array.toList_filter,List.filter_filter];refine List.filter_congr λ x _=>?_;rw[contains_push];cases seen.contains x.born<;>cases (x.born==e.born)<;>rfl
 rw[h1];have hsub:((leftOf es seen).toList.map (·.born)).Nodup:=by
  have:(leftOf es seen).toList.Sublist es.toList:=by unfold leftOf;rw[Array.toList_filter];exact List.filter_sublist
  exact List.Nodup.sublist (this.map _) hn
 generalize (leftOf es seen).toList=l at he hsub;clear h1 hn;induction l with
 | nil=>cases he
 | cons x l ih=>
  rw[JlV,List.nodup_cons]at hsub;rcases List.mem_cons.1 he with rfl|he
  ·refine⟨[],l,rfl,?_⟩;simp only[List.filter_cons,beq_self_eq_true,JlM,Jmb,if_false,List.nil_append];refine List.filter_eq_self.2 λ y hy=>?_;have:y.born≠e.born:=λ h=>hsub.1 (by rw[← h];exact List.mem_map_of_mem hy);simp[this]
  ·obtain⟨l1,l2,q1,q2⟩:=ih he hsub.2;have hne:x.born≠e.born:=λ h=>hsub.1 (by rw[h];exact List.mem_map_of_mem he);exact⟨x::l1,l2,by rw[q1];rfl,by rw[List.filter_cons];simp[hne,q2]⟩
theorem JaG {x:Operand} {k:Nat} {ka va:Bool} {cur:Option (List D×List D)} {left:List (List D×List D)} (hop:o.op=.next x false) (hx:Al st.env x=.ptr k 0) (ho:obA st.objs k=some (.iter ka va cur left)) :
  Mr P nt o st (JkL o k ka va left st):=by
 intro N H0 F0 w0 a w hI hdst r n K Qw _ hK;obtain⟨F,ρ,hS,hSl,hn,hdf⟩:=hI;have hxr:=A5 hSl x;rw[hx]at hxr;generalize hxv:a.eval x=xv at hxr;cases hxr with
 | ptr _ _ L hL=>
  obtain⟨⟨b0,bm,es,clock,since,seen,c0,h1,h2,h3,h4,h4',h5,h6,h7,h8⟩,gN,gF⟩:=hS.obj k L _ hL ho;have hbm:w.heap[bm]?=some (.map es clock):=hS.frz bm _ h1;have hpt:(⟨L.b,L.base+0,none⟩:Addr)=⟨L.b,0,none⟩:=by rw[b0]
  refine C3 (by rw[hop];intro c e;cases e) ?_;unfold Oper.wp;rcases run_next_at (P:=P) w o.type L.b bm since c0 seen es clock h2 hbm h3 h4 with⟨he,hr⟩|⟨e,he,w1,hw1,hr⟩
  ·have hx:(execOp a.eval o).run P w=.ok (.value (.tuple #[.bool false])) w:=by
    simp only[execOp,hop,hxv,hpt,hr,JlG,JlE,JlH]
   rw[hx,Oper.upon_value];have hl:left=[]:=List.length_eq_zero_iff.1 (by rw[← h6];exact he);refine hK _ _ _ (.inl ⟨hl,rfl⟩) ⟨F,ρ,hS,hSl.putA hn hdst ?_,hn.put hdst,by rw[put_defers];exact hdf⟩;exact .tup _ _ rfl λ j a u ha hu=>by
    match j with
    | 0=>simp at ha hu;subst ha;subst hu;exact .mkBool _
    | j+1=>simp at ha
  ·have hx:(execOp a.eval o).run P w=.ok (.value (.tuple #[.bool true,e.key,e.val])) (ChangeMaps.setBlock w1 L.b (.mapIter (some bm) since (seen.push e.born) clock)):=by
    simp only[execOp,hop,hxv,hpt,hr,JlG,JlE,JlH]
   rw[hx,Oper.upon_value];obtain⟨m1,m2,e1,e2⟩:=Vm h5 he;have hlen:left.length=m1.length+(m2.length+1):=by rw[← h6,← Array.length_toList,e1];simp
   obtain⟨l1,p,l2,hsp,hl1,hl2⟩:∃ l1 p l2,left=l1++p::l2/\l1.length=m1.length/\l2.length=m2.length:=by
    refine⟨left.take m1.length,left[m1.length],left.drop (m1.length+1),?_,by simp;omega,by simp;omega⟩;rw[← List.drop_eq_getElem_cons (by omega),List.take_append_drop]
   have hheap:(ChangeMaps.setBlock w1 L.b (.mapIter (some bm) since (seen.push e.born) clock)).heap=w.heap.setIfInBounds L.b (.mapIter (some bm) since (seen.push e.born) clock):=by
    rcases hw1 with rfl|rfl<;>rfl
   have hmu:Mu w (ChangeMaps.setBlock w1 L.b (.mapIter (some bm) since (seen.push e.born) clock)):=by
    rcases hw1 with rfl|rfl
    ·exact⟨rfl,rfl,by rw[hheap];simp,rfl,JlO _⟩
    ·exact⟨rfl,rfl,by rw[hheap];simp,rfl,Nat.le_succ _⟩
   have hei:=mem_left he;have hmid:∀ (i:Nat) (q:List D×List D),(l1++p::l2)[i]?=some q->∀ u:MapEntry,(m1++e::m2)[i]?=some u->KV F ka q.1 u.key/\KV F va q.2 u.val:=λ i q hq u hu=>by
    rw[← hsp]at hq;rw[← e1]at hu;exact h7 i q u hq (by simpa using hu)
   have hpe:KV F ka p.1 e.key/\KV F va p.2 e.val:=by
    refine hmid l1.length p (by simp) e (by rw[hl1];simp)
   have hrep:∀ h':Array Obj,h'[L.b]?=some (.mapIter (some bm) since (seen.push e.born) clock)->Bv F ρ h' L (.iter ka va (some p) (l1++l2)):=λ h' hh=>by
    refine⟨b0,bm,es,clock,since,seen.push e.born,clock,h1,hh,h3,h4',h4',h5,?_,λ i q u hq hu=>?_,λ q hq=>?_⟩
    ·rw[← Array.length_toList,e2];simp;omega
    ·have hu:(m1++m2)[i]?=some u:=by rw[← e2];simpa using hu
     by_cases hi:i<l1.length
     ·rw[Jl7 hi]at hq;rw[Jl7 (by omega)]at hu;exact hmid i q (by rw[Jl7 hi];exact hq) u (by rw[Jl7 (by omega)];exact hu)
     ·rw[Jmh (by omega)]at hq;rw[Jmh (by omega)]at hu;refine hmid (i+1) q ?_ u ?_
      ·rw[Jmh (by omega),show i+1-l1.length=(i-l1.length)+1 by omega,List.getElem?_cons_succ];exact hq
      ·rw[Jmh (by omega),show i+1-m1.length=(i-m1.length)+1 by omega,List.getElem?_cons_succ];exact hu
    ·cases hq;exact⟨e,seen,hei.1,rfl,rfl,hpe.1,hpe.2⟩
   have hlt:=hS.loc k L hL;have hS1:=hS.rewrite (k':=k) (L':=L) (x:=.mapIter (some bm) since (seen.push e.born) clock) (O':=st.objs.set k (some (.iter ka va (some p) (l1++l2)))) hL ho (by rw[BQ hL];exact RLe.refl _) rfl (λ j ob' hj hob'=>by
    rw[BT,if_neg (λ hh=>hj hh.1)]at hob';exact⟨hob',hj⟩) (by simp) (by simpa using A6 ho) (λ ob' hob'=>by
    rw[BT,if_pos ⟨rfl,A6 ho⟩]at hob';cases hob';rw[BQ hL];exact hrep _ (by rw[Cj,if_pos ⟨rfl,hlt⟩])) (λ ob' hob'=>by
    rw[BT,if_pos ⟨rfl,A6 ho⟩]at hob';cases hob';rfl)
   rw[BQ hL]at hS1;refine hK _ _ _ (.inr ⟨l1,p,l2,hsp,rfl⟩) ⟨F,ρ,by rw[hheap];exact hS1,hSl.putA hn hdst ?_,hn.put hdst,by rw[put_defers];exact⟨hdf.1,hdf.2.1.trans hmu,hdf.2.2⟩⟩;exact .tup _ _ rfl λ j a u ha hu=>by
    match j with
    | 0=>simp at ha hu;subst ha;subst hu;exact .mkBool _
    | 1=>simp at ha;subst ha;exact .top _
    | 2=>simp at ha;subst ha;exact .top _
    | j+3=>simp at ha
def JfU (o:Oper) (xs:List AV) (nb:Nat) (R:AV->List (Option Ob)->Prop) (st:St) (st':St):Prop:=
 ∃ r O1,R r O1/\st'=⟨putA o.dst false true (MN (D1 (AL st.objs xs) st.objs.length nb) r) st.env,Dk st.objs (AL st.objs xs) nb O1⟩
theorem YX {f:FuncId} {xs:List AV} {nb:Nat} {R:AV->List (Option Ob)->Prop} (hgob:Fu true (o.op.operands.toList.map (Al st.env))) (hc:Gq (λ y=>unG (Al st.env y)) o.op=(some f,xs))
  (hcall:HY P f (xs.map (IX (AL st.objs xs))) (Fw st.objs (AL st.objs xs)) nb R) (hnb:nb<=(AL st.objs xs).length) (hnb1:∀ r O1,R r O1->nb<=O1.length) (hord:∀ k∈AL st.objs xs,k<st.objs.length) :
  Mr P nt o st (JfU o xs nb R st):=by
 intro N H0 F0 w0 a w hI hdst rr n K Qw _ hK;obtain⟨F,ρ,hS,hSl,hn,hdf⟩:=hI;have hk:∀ r O1,R r O1->∀ v w' F' ρ'',FLe F F'->RLe ρ ρ''->Sim N H0 F0 F' ρ'' (Dk st.objs (AL st.objs xs) nb O1) w'.heap->Ak F' ρ'' (MN (D1 (AL st.objs xs) st.objs.length nb) r) v->Mu w w'->K (a.put o.dst v) w':=
  λ r O1 hR v w' F' ρ'' hF hρ hS' hv hmu=>hK _ _ _ ⟨r,O1,hR,rfl⟩ ⟨F',ρ'',hS',(hSl.mono hF hρ).putA hn hdst hv,hn.put hdst,by rw[put_defers];exact⟨hdf.1.mono hF,hdf.2.1.trans hmu,hdf.2.2.mono hρ⟩⟩
 have hev:∀ y∈o.op.operands.toList,Ak F ρ (unG (Al st.env y)) (a.eval y):=λ y hy=>BM rfl _ hgob _ (List.mem_map_of_mem hy) _ (A5 hSl y);have hnd:∀ c,o.op≠.defer c:=λ c e=>by rw[e]at hc;cases hc
 unfold Gq at hc;split at hc
 ·rename_i f' args ts hop;cases hc;refine C3 hnd (OE (vs:=args.map a.eval) (λ fn c hf hb hnm=>?_) hS (MZ (ev:=λ y=>unG (Al st.env y)) λ y hy=>hev y (by rw[hop];simp[Op.operands,Call.operands];exact .inr (by simpa using hy))) hcall hnb hnb1 hord hk);simp only[execOp,hop,resolve,Act.eval,Deferred.ofValue,JlG,JlH,JlE,invoke,callFunc,run_program,hf,hnm,hb,Jmb,if_false,Option.isNone_some,Array.empty_append,Array.append_empty]
 ·rename_i x args ts _ hop;split at hc
  ·rename_i f' l hx;have hx:unG (Al st.env x)=.clo f' l:=hx;cases hc;have hxr:=hev x (by rw[hop];simp[Op.operands,Call.operands]);rw[hx]at hxr;generalize hxv:a.eval x=xv at hxr;cases hxr with
   | clo _ _ vs hl hr=>
    have hcr0:=MZ (args:=args) (a:=a) (ev:=λ y=>unG (Al st.env y)) (λ y hy=>hev y (by rw[hop];simp[Op.operands,Call.operands];exact .inr (by simpa using hy)));refine C3 hnd (OE (vs:=args.map a.eval++vs) (λ fn c hf hb hnm=>?_) hS ⟨by simp[hl],λ i y v hy hv=>?_⟩ hcall hnb hnb1 hord hk)
    ·simp only[execOp,hop,resolve,hxv,Deferred.ofValue,JlG,JlH,JlE,invoke,callFunc,run_program,hf,hnm,hb,Jmb,if_false,Option.isNone_some,Array.empty_append]
    ·rw[Array.toList_append]at hv;have hl0:=hcr0.1;by_cases hi:i<(args.toList.map (λ y=>unG (Al st.env y))).length
     ·rw[Jl7 hi]at hy;rw[Jl7 (by omega)]at hv;exact hcr0.2 i y v hy hv
     ·rw[Jmh (by omega)]at hy;rw[Jmh (by omega)]at hv;rw[← hl0]at hv;exact hr _ y v hy (by simpa using hv)
  ·cases hc
 ·cases hc
end Go.AI
end
section
namespace Go.AI
variable {P:Program}
theorem YY {nt:Slt} {o:Oper} {st:St} {x:Operand} {tys:Array TypeId} {f:FuncId} {caps:List AV} (hop:o.op=.defer ⟨.value x,#[],tys⟩) (hgob:Fu true (o.op.operands.toList.map (Al st.env))) (hx:unG (Al st.env x)=.clo f caps) (hd:o.dst=none) (hQ:(f,caps.length)∈nt.qf):OF P nt o true st st:=by
 intro N H0 F0 w0 a w _ hI hdst rd n K Qw hqr hK;have hrd:rd=none:=hqr (List.ne_nil_of_mem hQ);subst hrd;obtain⟨F,ρ,hS,hSl,hn,hdf,hmu,hrk⟩:=hI;have hxr:Ak F ρ (unG (Al st.env x)) (a.eval x):=BM rfl _ hgob _ (List.mem_map_of_mem (by rw[hop];simp[Op.operands,Call.operands])) _ (A5 hSl x);rw[hx]at hxr;generalize hxv:a.eval x=xv at hxr;cases hxr with
 | clo _ _ vs hl hr=>
  have hex:(execOp a.eval o).run P w=.ok (.defer (MR f vs)) w:=by
   simp only[execOp,hop,resolve,hxv,Deferred.ofValue,JlG,JlH,JlE,MR];simp
  obtain⟨l,q1,q2,q3⟩:=hdf;refine⟨λ _ _=>trivial,?_⟩;show Oper.uponIn _ _ _ _ _ _ _ ((execOp a.eval o).run P w);rw[hex,Oper.uponIn_defer,hd];exact hK _ _ ⟨F,ρ,hS,hSl,hn,⟨l,.quiet (by rw[← hl];exact hQ) q1,q2,q3⟩,hmu,hrk⟩
end Go.AI
end
section
namespace Go.AI
variable {P:Program} {Γ:Cx} {C:Code} {p:List Nat} {Q:Ex->St->Prop} {s s':St} {i:Nat}
def dfB (nt:Slt) (c:Code) (i:Nat) (s:St):Bool:=match (Bd c)[i]? with
 | some o=>!JY c&&o.guard.isNone&&o.dst.isNone&&(match o.op with
  | .defer ⟨.value x,args,_⟩=>args.isEmpty&&(match Al s.env x with
   | .clo f caps=>nt.qf.any λ q=>Nat.beq q.1 f&&Nat.beq q.2 caps.length
   | _=>false)
  | _=>false)
 | none=>false
theorem xd (hX:XOK P Γ) (hk:RF Γ C p (i+1) Q s) (h:dfB Γ.nt (nav p C) i s=true:=by kernel_rfl):RF Γ C p i Q s:=by
 unfold dfB at h;split at h
 ·rename_i o ho;simp only[Jl0,Bool.not_eq_true']at h;obtain⟨⟨⟨h1,h2⟩,h3⟩,h4⟩:=h;split at h4
  ·rename_i x args tys hop;simp only[Jl0]at h4;obtain⟨ha,h4⟩:=h4;have hae:args=#[]:=by simpa using ha
   subst hae;split at h4
   ·rename_i f caps hx;obtain⟨q,hq,hq2⟩:=List.any_eq_true.mp h4;simp only[Jl0]at hq2;have e1:=Jl6 hq2.1;have e2:=Jl6 hq2.2;have hQ:(f,caps.length)∈Γ.nt.qf:=by rw[← e1,← e2];exact hq
    have hgN:o.guard=none:=by simpa using h2
    have hdN:o.dst=none:=by simpa using h3
    refine⟨?_⟩;have hk:=hk.out;unfold A7 at hk⊢;rw[CE ho];show A1 _ _ _ _ _ _;unfold A1;rw[hgN];simp only[Bw,hdN,BE,JlM,cond_false];refine⟨λ _=>.inr (.inr ⟨h1,.inl ⟨s,?_,hk⟩⟩),λ h=>by cases h⟩;rw[hX.ext];refine YY hop ?_ (by rw[hx];rfl) hdN hQ;rw[hop];simp[Op.operands,Call.operands,hx,Fu]
   ·cases h4
  ·cases h4
 ·cases h
end Go.AI
end
section
namespace Go.AI
variable {s:St} {nk:Nat} {α β:Type} {enc:β->List D}
theorem TE (e:β->List D) (esz:Nat) {xs zs:List β} {l:Int} (hz:sub xs l ((xs.length:Nat):Int)=some zs) (hl:∀ y,(e y).length=esz:=by intro _;rfl):Ea s (A9 (.d (.sl (((xs.map e).take (((xs.map e).length:Nat):Int).toNat).drop l.toNat))) (0<=l/\l<=(((xs.map e).length:Nat):Int)/\(((xs.map e).length:Nat):Int)<=(xs.map e).length/\∀ y∈xs.map e,y.length=esz)) (.d (.sl (zs.map e))) [] [] none:=by
 have h0:(((xs.map e).length:Nat):Int)=((xs.length:Nat):Int):=by rw[JlU]
 rw[h0];have:=JaA (s:=s) e esz hz hl;rw[h0]at this;exact this
theorem JaH {P:Program} {Γ:Nat->Ty} {nt:Slt} {o:Oper} {st:St} (hΓ:I0 P Γ) {s t:TypeId} {x:Operand} {eb:Nat} {es:List (List D)} {ob:Prop} (hop:o.op=.convert s t x) (hs:(Γ s).ok=true) (ht:(Γ t).ok=true) (hks:(Γ s).kind=.slice 1 eb [.int .u8 0]) (hkt:(Γ t).kind=.string)
  (hgob:Fu true (o.op.operands.toList.map (Al st.env))) (hel:FY st.objs (unG (Al st.env x))=some (es,ob)) (hob:ob) (hby:∀ e∈es,NJ e):UQ P nt o true st ⟨putA o.dst false true (.d (.str (es.map Mk))) st.env,st.objs⟩:=by
 intro N H0 F0 w0 a w _ hI hdst K Qw hK;obtain⟨F,ρ,hS,hSl,hn,hdf⟩:=hI;obtain⟨d,hd,_,hk⟩:=(hΓ s hs).desc;obtain⟨d',hd',_,hk'⟩:=(hΓ t ht).desc;rw[hks]at hk;rw[hkt]at hk';obtain⟨elem,i,z,rfl,_,_,_,_,_,_,_,hu⟩:=hk;cases hk';have hxr:Ak F ρ (unG (Al st.env x)) (a.eval x):=BM rfl _ hgob _ (List.mem_map_of_mem (by rw[hop];simp[Op.operands])) _ (A5 hSl x);obtain⟨v,hr,hv⟩:=JeJ (P:=P) (objs:=st.objs) hS (λ _ _ h=>h) hd (hu rfl) hd' hel hob hby hxr;have hr:(execOp a.eval o).run P w=.ok (.value v) w:=by
  simp only[execOp,hop,JlG,hr,JlE,JlH]
 unfold Oper.wp;rw[hr,Oper.upon_value];exact hK _ _ ⟨F,ρ,hS,hSl.putA hn hdst hv,hn.put hdst,by rw[put_defers];exact hdf⟩
def nxV (Γ:Cx) (c:Code) (i:Nat) (g:Bool) (z:List UInt8) (s:St):Option St:=
 match (Bd c)[i]? with
 | some o=>bif JfT Γ c o then some ⟨putA o.dst o.guard.isSome g (.d (.str z)) s.env,s.objs⟩else none
 | none=>none
def cvA (Γ:Cx) (c:Code) (i:Nat) (s:St):Option (AV×Nat):=
 match (Bd c)[i]? with
 | some o=>match o.op with
  | .convert a b x=>match (Γ.ty a).kind,(Γ.ty b).kind with
   | .slice 1 eb [.int .u8 0],.string=>bif (Γ.ty a).ok&&(Γ.ty b).ok then some (unG (Al s.env x),eb)else none
   | _,_=>none
  | _=>none
 | none=>none
theorem xv {Γ:Cx} {P:Program} {C:Code} {p:List Nat} {Q:Ex->St->Prop} {i:Nat} (hX:XOK P Γ) {g:Bool} (hgt:g=true) {gs:List Bool} (hi:Fb g gs) (k:Nat) {bs:List Int} {z:List UInt8} (hz:Vg bs=some z) (hk:RF Γ C p (i+1) Q ((nxV Γ (nav p C) i g z s).getD s)) (hg:gY (nav p C) i s=some g:=by kernel_rfl) (hgs:FB (nav p C) i s=gs:=by kernel_rfl)
  (hc:(cvA Γ (nav p C) i s).map Prod.fst=some (.osl k 1 0 bs.length):=by kernel_rfl) (ho:Nb s k=some (1,bs.map λ n=>[D.int .u8 n]):=by kernel_rfl) (hn:(nxV Γ (nav p C) i g z s).isSome=true:=by kernel_rfl):RF Γ C p i Q s:=by
 have hn:=BU (d:=s) hn;generalize (nxV Γ (nav p C) i g z s).getD s=s' at hn hk;obtain⟨⟨u,eb⟩,hc,hu⟩:=Jl2.1 hc;cases hu;unfold cvA at hc;unfold nxV at hn;split at hn
 ·rename_i o hoo;rw[hoo]at hc;simp only at hc;obtain⟨h0,hn⟩:=AU hn;cases hn;split at hc
  ·rename_i a b x hop;split at hc
   ·rename_i eb' hka hkb;obtain⟨h1,hc⟩:=AU hc;simp only[Jl0]at h1;simp only[Jl9,Prod.mk.injEq]at hc;obtain⟨hcx,rfl⟩:=hc;have hgob:Fu true (o.op.operands.toList.map (Al s.env)):=by
     subst hgs;unfold FB at hi;rw[hoo]at hi;rw[← hgt];exact Kp hi
    unfold Vg at hz;split at hz
    ·rename_i hall;cases hz;simp only[JlJ,Jl0,decide_eq_true_eq]at hall;have hby:∀ e∈bs.map λ n=>[D.int .u8 n],NJ e:=λ e he=>by
      simp only[JlR]at he;obtain⟨n,hn,rfl⟩:=he;obtain⟨q1,q2⟩:=hall n hn;refine⟨UInt8.ofNat n.toNat,?_⟩;have:(UInt8.ofNat n.toNat).toNat=n.toNat:=by simp;omega
      rw[this];congr 2;omega
     have hmap:(bs.map λ n=>[D.int .u8 n]).map Mk=bs.map λ n=>UInt8.ofNat n.toNat:=by
      rw[List.map_map];rfl
     have hel:FY s.objs (unG (Al s.env x))=some (bs.map λ n=>[D.int .u8 n],0+bs.length<=(bs.map λ n=>[D.int .u8 n]).length):=by
      rw[hcx];simp only[FY,Ks ho,Nat.beq_refl,cond_true];rw[B1]
     have:=JaH (P:=P) (Γ:=Γ.ty) (nt:=Γ.nt) (o:=o) (st:=s) hX.ty hop h1.1 h1.2 hka hkb hgob hel (by simp) hby
     rw[hmap]at this;exact YV hX hoo h0 hg hgt (JaF (this.ok (by rw[hop];rfl))) hk
    ·cases hz
   ·cases hc
  ·cases hc
 ·cases hn
end Go.AI
end
section
namespace Go.AI
variable {Γ:Cx} {C:Code} {p:List Nat} {Q:Ex->St->Prop} {s s':St} {K:St->Prop} {i:Nat} {nk:Nat}
variable {α β ζ:Type}
def xX {σ:Type} (nk k:Nat) (st:σ->St):σ->Ex->St->Prop:=λ y e s=>e=Ex.exit k/\Ay nk s (st y)
def xR {σ:Type} (ty:Nat->Ty) (fn:Func) (r:σ->AV):σ->Ex->St->Prop:=λ y e s=>e=Ex.ret/\RA ty fn.results.toList (r y) s
def xL {σ:Type} (nk:Nat) (ty:Nat->Ty) (fn:Func) (r:σ->AV) (O:σ->List (Option Ob)):σ->Ex->St->Prop:=λ y e s=>e=Ex.ret/\RL nk ty fn.results.toList (r y) (O y) s
def xS {σ τ:Type} (a:σ->Ex->St->Prop) (b:τ->Ex->St->Prop):σ⊕τ->Ex->St->Prop
 | .inl y=>a y
 | .inr y=>b y
variable {σ ρ τ:Type} {st:σ->St} {E:ρ->Ex->St->Prop}
theorem xo {r:ρ} {k nk':Nat} {st':τ->St} {y:τ} (hE:E r=xX nk' k st' y) (h:Ay nk' s (st' y)):PQ (AO nk st E (.inr r)) (.exit k) s:=oe (by rw[hE];exact⟨rfl,h⟩)
theorem ro {r:ρ} {ty:Nat->Ty} {fn:Func} {f:τ->AV} {y:τ} (hE:E r=xR ty fn f y) (h:RA ty fn.results.toList (f y) s):PQ (AO nk st E (.inr r)) .ret s:=or (by rw[hE];exact⟨rfl,h⟩)
theorem lo {r:ρ} {nk':Nat} {ty:Nat->Ty} {fn:Func} {f:τ->AV} {O:τ->List (Option Ob)} {y:τ} (hE:E r=xL nk' ty fn f O y) (h:RL nk' ty fn.results.toList (f y) (O y) s):PQ (AO nk st E (.inr r)) .ret s:=or (by rw[hE];exact⟨rfl,h⟩)
theorem lX {body:σ->Option (σ⊕ρ)} {n:Nat} {x:σ} {r:ρ} {k nk':Nat} {st':τ->St} {y:τ} (hb:∀ x z,body x=some z->WP Γ C (p++[0]) (AO nk' st E z) (st x)) (hr:whl body n x=some r) (hs:Ay nk' s (st x)) (hE:E r=xX nk' k st' y)
  (hk:∀ s,Ay nk' s (st' y)->PQ Q (.exit k) s) (hn:Γ.nt.nk=nk':=by rfl) (h:Qq (nav p C)=true:=by kernel_rfl):WP Γ C p Q s:=by
 subst hn;exact lp st E hr hs hb (λ e s he=>by rw[hE]at he;obtain⟨rfl,he⟩:=he;exact hk s he) h
theorem lR {body:σ->Option (σ⊕ρ)} {n:Nat} {x:σ} {r:ρ} {nk':Nat} {ty:Nat->Ty} {fn:Func} {f:τ->AV} {y:τ} (hb:∀ x z,body x=some z->WP Γ C (p++[0]) (AO nk' st E z) (st x)) (hr:whl body n x=some r) (hs:Ay nk' s (st x)) (hE:E r=xR ty fn f y)
  (hk:∀ s,RA ty fn.results.toList (f y) s->PQ Q .ret s) (hn:Γ.nt.nk=nk':=by rfl) (h:Qq (nav p C)=true:=by kernel_rfl):WP Γ C p Q s:=by
 subst hn;exact lp st E hr hs hb (λ e s he=>by rw[hE]at he;obtain⟨rfl,he⟩:=he;exact hk s he) h
theorem lL {body:σ->Option (σ⊕ρ)} {n:Nat} {x:σ} {r:ρ} {nk' nk2:Nat} {ty:Nat->Ty} {fn:Func} {f:τ->AV} {O:τ->List (Option Ob)} {y:τ} (hb:∀ x z,body x=some z->WP Γ C (p++[0]) (AO nk' st E z) (st x)) (hr:whl body n x=some r) (hs:Ay nk' s (st x)) (hE:E r=xL nk2 ty fn f O y)
  (hk:∀ s,RL nk2 ty fn.results.toList (f y) (O y) s->PQ Q .ret s) (hn:Γ.nt.nk=nk':=by rfl) (h:Qq (nav p C)=true:=by kernel_rfl):WP Γ C p Q s:=by
 subst hn;exact lp st E hr hs hb (λ e s he=>by rw[hE]at he;obtain⟨rfl,he⟩:=he;exact hk s he) h
def g0 (c:Code) (i:Nat) (s:St):Bool:=(gAt c i s).getD false
theorem sE {g:Bool} {v:AV} {obs:List Ob} {x:Option Eff} (ho:g=true->Ea s x v obs [] none) (hk:RF Γ C p (i+1) Q ((Kq Γ (nav p C) i g v obs s).getD s)) (hg:gAt (nav p C) i s=some g:=by kernel_rfl) (hx:NU Γ (nav p C) i s=x:=by kernel_rfl) (hgs:FB (nav p C) i s=List.replicate (FB (nav p C) i s).length g:=by kernel_rfl) (hn:(Kq Γ (nav p C) i g v obs s).isSome=true:=by kernel_rfl):RF Γ C p i Q s:=
 sG (gs:=FB (nav p C) i s) ho (SB λ b hb=>by rw[hgs]at hb;exact List.eq_of_mem_replicate hb) hk hg hx rfl hn
theorem oi {a z:ζ} (h:some a=some z):a=z:=Option.some.inj h
theorem lsS (xs:List α) (n:Nat) (y:α):xs.length=(xs.set n y).length:=List.length_set.symm
theorem tr {s1 s2 s3:St} (h:Ay nk s1 s2) (h':Ay nk s2 s3):Ay nk s1 s3:=Ay.trans h h'
theorem sg (ts:List Nat) (h:gcA nk ts s=s':=by kernel_rfl):Ay nk s s':=JeM ts h
theorem gP (ts ord:List Nat) {raw:List (Option Ob)} (hp:Pl (IW ord) raw s'.objs) (h:gcA nk ts s=⟨s'.env,raw⟩:=by kernel_rfl):Ay nk s s':=JfO ts ord hp h
theorem sn (t k sz:Nat) {n m:Nat} (e:n=m) (h:lkA s.env t=.osl k sz 0 n:=by kernel_rfl):Ay nk s ⟨(t,.osl k sz 0 m)::s.env,s.objs⟩:=JfB t k sz 0 n m h e
theorem snc (b i k sz:Nat) {n m:Nat} (e:n=m) (h:(LV s b,(CN s b)[i]?)=(true,some (.osl k sz 0 n)):=by kernel_rfl):Ay nk s ⟨s.env,s.objs.set b (some (.box ((CN s b).set i (.osl k sz 0 m))))⟩:=JdP b i k sz n m h e
theorem so1 {encN:α->List AV} (k sz:Nat) {xss:List α} {x:α} {n:Int} (hx:idx xss n=some x) (h:Ej s k=some (sz,xss.map encN):=by kernel_rfl):Ay nk s ⟨s.env,s.objs.set k (some (.narr sz ((xss.map encN).set n.toNat (encN x))))⟩:=Jjl k h hx
theorem fz {enc:α->List D} {xs:List α} (t k sz:Nat) (h:OO s (lkA s.env t)=some (k,sz,0,xs.length,xs.map enc):=by kernel_rfl):Ay nk s ⟨(t,.d (.sl (xs.map enc)))::s.env,s.objs.set k none⟩:=JfA t _ h B1 (by simp)
theorem fzc {enc:α->List D} {xs:List α} (kb i k sz:Nat) (h:(LV s kb,((CN s kb)[i]?).bind (OO s))=(true,some (k,sz,0,xs.length,xs.map enc)):=by kernel_rfl):Ay nk s ⟨s.env,(s.objs.set k none).set kb (some (.box ((CN s kb).set i (.d (.sl (xs.map enc))))))⟩:=JdC kb i _ h B1 (by simp)
theorem snr {encN:α->List AV} {xs:List α} {n:Int} (row:List AV) (sz k j m isz:Nat) {n1 n2:Nat} (e:n1=n2) (h:Ej s k=some (sz,(xs.map encN).set n.toNat row):=by kernel_rfl) (hj:row[j]?=some (.osl m isz 0 n1):=by kernel_rfl):Ay nk s ⟨s.env,s.objs.set k (some (.narr sz ((xs.map encN).set n.toNat (row.set j (.osl m isz 0 n2)))))⟩:=JdQ k j m isz n1 n2 _ h hj e rfl
theorem sni {encN:α->List AV} {xs:List α} {n:Int} {enc:β->List D} (row:List AV) (zs:List β) (sz k j m isz:Nat) (h:(Ej s k,Nb s m)=(some (sz,(xs.map encN).set n.toNat row),some (isz,zs.map enc)):=by kernel_rfl) (hj:row[j]?=some (.osl m isz 0 zs.length):=by kernel_rfl) :
  Ay nk s ⟨s.env,(s.objs.set m none).set k (some (.narr sz ((xs.map encN).set n.toNat (row.set j (.own isz (zs.map enc))))))⟩:=XL k j m isz _ h hj rfl
theorem sno {encN:α->List AV} {xss:List α} {x:α} {n:Int} {enc:β->List D} (hx:idx xss n=some x) (row:List AV) (ys:List β) (sz k j isz:Nat) (h:Ej s k=some (sz,(xss.map encN).set n.toNat row):=by kernel_rfl) (hj:row[j]?=some (.own isz (ys.map enc)):=by kernel_rfl) :
  Ay nk s ⟨s.env,s.objs.set k (some (.narr sz ((xss.map encN).set n.toNat (row.set j (.osl s.objs.length isz 0 ys.length)))))++[some (.arr isz (ys.map enc))]⟩:=XK k j isz _ (ltN hx) h hj rfl
theorem scl {encN:α->List AV} {xss:List α} (n:Int) (row:List AV) (sz k:Nat) (y:α) (h:Ej s k=some (sz,(xss.map encN).set n.toNat row):=by kernel_rfl) (hy:row=encN y:=by kernel_rfl):Ay nk s ⟨s.env,s.objs.set k (some (.narr sz ((xss.set n.toNat y).map encN)))⟩:=JfP k y h hy
theorem po1 {f:AV->AV} {o:Option Ob} {l m:List (Option Ob)} (h:Pl f l m):Pl f (o::l) (o::m):=Pl.o o h
theorem pn1 {f:AV->AV} (encN:α->List AV) (xss:List α) {sz:Nat} {l m:List (Option Ob)} (h:Pl f l m) (hc:∀ x,(encN x).map f=encN x:=by first|(intro _;rfl)|(rintro⟨_|_,_⟩<;>rfl)):Pl f (some (.narr sz ((xss.map encN).map λ e=>e.map f))::l) (some (.narr sz (xss.map encN))::m):=Pl.n sz (nrM hc) h
attribute [irreducible] xL
end Go.AI
end
section
namespace Go.AI
variable {α ε σ ρ ζ ξ:Type}
open Classical in
noncomputable def dem (S:α->Prop) (k:α->Option ζ):Option ζ:=if h:∃ z,(∃ a,S a)/\∀ a,S a->k a=some z then some h.choose else none
theorem JfV {S:α->Prop} {k:α->Option ζ} {z:ζ} (h:dem S k=some z):∀ a,S a->k a=some z:=by
 unfold dem at h;split at h
 ·rename_i hx;cases h;exact hx.choose_spec.2
 ·cases h
theorem JfW {S:α->Prop} {k:α->Option ζ} {z:ζ} (h0:∃ a,S a) (h:∀ a,S a->k a=some z):dem S k=some z:=by
 have hx:∃ z,(∃ a,S a)/\∀ a,S a->k a=some z:=⟨z,h0,h⟩;unfold dem;rw[dif_pos hx];obtain⟨a,ha⟩:=h0;have h1:=hx.choose_spec.2 a ha;rw[h a ha]at h1;exact h1.symm
def nlS (xs:List α) (b:Bool):Prop:=xs≠[]->b=false
def nlO:Option (List α)->Bool->Prop
 | none,b=>b=true
 | some xs,b=>nlS xs b
end Go.AI
end
section
namespace Go.AI
variable {P:Program} {Γ:Cx} {C:Code} {p:List Nat} {Q:Ex->St->Prop} {s s':St} {K:St->Prop} {i nk:Nat}
variable {α β ζ ε σ ρ τ:Type}
def ndQ (Γ:Cx) (c:Code) (i:Nat) (Q:Ex->St->Prop):Ex->St->Prop:=λ _ s=>∃ o,(Bd c)[i]?=some o/\Ji3 Γ o (λ s'=>HR Γ false (Bd c) ((Bd c).drop (i+1)) (Q .normal) s') s
structure ND (Γ:Cx) (c:Code) (i:Nat) (Q:Ex->St->Prop) (s:St):Prop where
 out:ndQ Γ c i Q .normal s
theorem YZ {m:Nat} {ops:List Oper}:∀ (l:List Oper) (Q:St->Prop) (s:St),HR Γ false (ops.take m) l Q s->HR Γ false ops l Q s:=by
 intro l;induction l with
 | nil=>intro Q s h;exact h
 | cons o l ih=>intro Q s h;exact HD (ih Q) (Qu h)
theorem rn (m:Nat) (hs:Ay Γ.nt.nk s s') (hk:RF Γ (GB m (nav p C)) [] 0 (ndQ Γ (nav p C) m (Ts C p s' Q)) s') (h:(Iw (nav p C)&&!JY (nav p C))=true:=by kernel_rfl):WP Γ C p Q s:=by
 refine⟨?_⟩;have hk:=hk.out;unfold A7 at hk;simp only[nav,List.drop_zero]at hk;unfold Ts at hk;generalize nav p C=c at *;cases c with
 | region id ops d=>
  simp only[Iw,JY,Bool.true_and,Bool.not_eq_true']at h;subst h;refine⟨s',hs,.inr (.inr ⟨rfl,?_⟩)⟩;have hk:HR Γ false (ops.toList.take m) (ops.toList.take m) _ s':=hk;have hk:=YZ _ _ _ hk;by_cases hm:m<ops.toList.length
  ·refine⟨m,ops.toList[m],JlZ hm,Fi (λ s1 h1=>?_) _ _ hk⟩;obtain⟨o,ho,h1⟩:=h1;rw[show Bd (.region id ops false)=ops.toList from rfl,JlZ hm]at ho;cases ho;obtain⟨q1,q2,S,q3,q4⟩:=h1;exact⟨q1,q2,S,q3,λ st' hst=>Fi (λ s2 h2=>h2.2) _ _ (q4 st' hst)⟩
  ·exfalso;obtain⟨S,_,_,hQS⟩:=F7 _ _ _ hk;obtain⟨o,ho,_⟩:=hQS;rw[show Bd (.region id ops false)=ops.toList from rfl,Jmk (by omega)]at ho;cases ho
 | _=>cases h
theorem nd0 {c:Code} {m:Nat} (hk:ND Γ c m Q s) (hi:Nat.ble (Bd (GB m c)).length i=true:=by kernel_rfl):RF Γ (GB m c) [] i (ndQ Γ c m Q) s:=⟨NT i hi hk.out⟩
structure YOK (P:Program) (Γ:Cx):Prop where
 exn:Γ.exn=Mr P
def Y0 (Γ:Cx) (c:Code) (o:Oper):Bool:=!JY c&&o.guard.isNone&&BE Γ.nt o.dst
theorem Qv (hY:YOK P Γ) {o:Oper} {S:St->Prop} (ho:(Bd (nav p C))[i]?=some o) (h0:Y0 Γ (nav p C) o=true) (hx:Mr P Γ.nt o s S) (hk:∀ s',S s'->RF Γ C p (i+1) Q s'):ND Γ (nav p C) i Q s:=by
 simp only[Y0,Jl0,Bool.not_eq_true']at h0;obtain⟨⟨h1,h2⟩,h3⟩:=h0;refine⟨o,ho,by simpa using h2,h3,S,by rw[hY.exn];exact hx,λ s' hs=>?_⟩;have:=(hk s' hs).out;unfold A7 at this;rw[h1]at this;exact this
def Jjq (objs:List (Option Ob)) (k:Nat):Option (Bool×Bool×List (List D×List D)):=match obA objs k with
 | some (.iter ka va _ l)=>some (ka,va,l)
 | _=>none
def itB (Γ:Cx) (c:Code) (i k:Nat) (s:St):Bool:=match (Bd c)[i]? with
 | some o=>Y0 Γ c o&&(match o.op with
  | .next x b=>!b&&(match Al s.env x with
   | .ptr k' off=>Nat.beq k' k&&Nat.beq off 0
   | _=>false)
  | _=>false)
 | none=>false
def itD (c:Code) (i:Nat):Option Tmp:=match (Bd c)[i]? with
 | some o=>o.dst
 | none=>none
theorem nxt (hY:YOK P Γ) (k:Nat) {κ:Type} {encK:κ->List D} {enc:α->List D} {ka va:Bool} {m:List (κ×α)} (h0:m=[]->RF Γ C p (i+1) Q ⟨putA (itD (nav p C) i) false true (.tup [.d (.bool false)]) s.env,s.objs⟩)
  (h1:∀ e m1 m2,m=m1++e::m2->RF Γ C p (i+1) Q ⟨putA (itD (nav p C) i) false true (.tup [.d (.bool true),.top,.top]) s.env,s.objs.set k (some (.iter ka va (some (encK e.1,enc e.2)) (AH encK enc (m1++m2))))⟩)
  (hb:itB Γ (nav p C) i k s=true:=by kernel_rfl) (hm:Jjq s.objs k=some (ka,va,AH encK enc m):=by kernel_rfl):ND Γ (nav p C) i Q s:=by
 unfold itB at hb;unfold itD at h0 h1;unfold Jjq at hm;split at hb
 ·rename_i o ho;rw[ho]at h0 h1;simp only[Jl0]at hb;obtain⟨hb1,hb2⟩:=hb;split at hb2
  ·rename_i x b hop;simp only[Jl0,Bool.not_eq_true']at hb2;obtain⟨rfl,hb2⟩:=hb2;split at hb2
   ·rename_i k' off hx;simp only[Jl0]at hb2;have e1:=Jl6 hb2.1;have e2:=Jl6 hb2.2;subst e1;subst e2;split at hm
    ·rename_i ka' va' cur l hob;cases hm;refine Qv hY ho hb1 (JaG hop hx hob) λ s' hs=>?_;rcases hs with⟨hl,rfl⟩|⟨l1,e,l2,hl,rfl⟩
     ·refine h0 ?_;cases m with
      | nil=>rfl
      | cons _ _=>cases hl
     ·obtain⟨m1,r,hm1,rfl,hr⟩:=List.map_eq_append_iff.1 (show AH encK enc m=l1++e::l2 from hl);obtain⟨e',m2,rfl,rfl,rfl⟩:=List.map_eq_cons_iff.1 hr;have:=h1 e' m1 m2 hm1;unfold AH at this;rw[List.map_append]at this;exact this
    ·cases hm
   ·cases hb2
  ·cases hb2
 ·cases hb
def JkM (Z:ζ->Prop) (r1:ζ->AV) (O1:ζ->List (Option Ob)):AV->List (Option Ob)->Prop:=λ r O=>∃ y,Z y/\r=r1 y/\O=O1 y
def nxN (Γ:Cx) (c:Code) (i:Nat) (ord:List Nat) (nb:Nat) (r:AV) (O1:List (Option Ob)) (s:St):Option St:=
 match (Bd c)[i]? with
 | some o=>bif Y0 Γ c o&&Nat.ble nb ord.length&&Nat.ble nb O1.length&&ord.all (λ k=>Nat.blt k s.objs.length)then
   some ⟨putA o.dst false true (MN (D1 ord s.objs.length nb) r) s.env,Dk s.objs ord nb O1⟩else none
 | none=>none
theorem nc (hY:YOK P Γ) (ord:List Nat) {f:FuncId} {ys:List AV} {O0 raw0:List (Option Ob)} {nb:Nat} {Z:ζ->Prop} {r1:ζ->AV} {O1:ζ->List (Option Ob)} (hr:HY P f ys O0 nb (JkM Z r1 O1)) (hp0:raw0=O0)
  (hk:∀ y,Z y->RF Γ C p (i+1) Q ((nxN Γ (nav p C) i ord nb (r1 y) (O1 y) s).getD s)) (hg:FB (nav p C) i s=[]:=by kernel_rfl)
  (hc:RC (nav p C) i s=some ((some f,((RC (nav p C) i s).getD ((none,[]),[])).1.2),ord):=by kernel_rfl) (hxs:((RC (nav p C) i s).getD ((none,[]),[])).1.2.map (IX ord)=ys:=by kernel_rfl) (hO:Fw s.objs ord=raw0:=by kernel_rfl)
  (hn:∀ y,(nxN Γ (nav p C) i ord nb (r1 y) (O1 y) s).isSome=true:=by intro y;kernel_rfl) (hb:Nat.ble nb ord.length=true:=by kernel_rfl) (hb2:ord.all (λ k=>Nat.blt k s.objs.length)=true:=by kernel_rfl) (h0:((Bd (nav p C))[i]?.map (Y0 Γ (nav p C)))=some true:=by kernel_rfl):ND Γ (nav p C) i Q s:=by
 generalize ((RC (nav p C) i s).getD ((none,[]),[])).1.2=zs at hc hxs;subst hp0;unfold RC at hc;split at hc
 ·rename_i o ho;rw[ho]at h0;simp only[Option.map_some,Jl9]at h0;simp only[Jl9,Prod.mk.injEq]at hc;obtain⟨hc,hord⟩:=hc;rw[hc]at hord;simp only at hord;subst hord;subst hxs;subst hO;have hgob:Fu true (o.op.operands.toList.map (Al s.env)):=by
   refine Kp (g:=true) ?_;unfold FB at hg;rw[ho]at hg;simp only at hg;rw[hg];exact EA
  have hall:∀ y,Nat.ble nb (O1 y).length=true:=λ y=>by
   have:=hn y;unfold nxN at this;rw[ho]at this;simp only at this;cases hb3:Nat.ble nb (O1 y).length with
   | true=>rfl
   | false=>rw[hb3]at this;simp at this
  refine Qv hY ho h0 (YX hgob hc hr (Jme hb) (λ r O hR=>?_) λ k hk=>?_) λ s' hs=>?_
  ·obtain⟨y,_,_,rfl⟩:=hR;exact Jme (hall y)
  ·exact Jme (JlJ.1 hb2 k hk)
  ·obtain⟨r,O,⟨y,hy,rfl,rfl⟩,rfl⟩:=hs;have h:=hk y hy;have e:nxN Γ (nav p C) i (AL s.objs zs) nb (r1 y) (O1 y) s=some ⟨putA o.dst false true (MN (D1 (AL s.objs zs) s.objs.length nb) (r1 y)) s.env,Dk s.objs (AL s.objs zs) nb (O1 y)⟩:=by
    unfold nxN;rw[ho];simp only[h0,hb,hall y,hb2,Bool.and_self,cond_true]
   rw[e]at h;exact h
 ·cases hc
end Go.AI
end
section
namespace Go.AI
variable {P:Program} {nk:Nat} {s:St}
def JfX (k:Nat):AV->Bool
 | .ptr k' 0=>Nat.beq k' k
 | _=>false
theorem JdZ {k:Nat} {a:AV} (h:JfX k a=true):a=.ptr k 0:=by
 unfold JfX at h;split at h
 ·rw[Jl6 h]
 ·cases h
def Jd0:List AV->Bool
 | []=>true
 | .d _::r=>Jd0 r
 | _=>false
def Vn:List AV->List D
 | .d x::r=>x::Vn r
 | _=>[]
theorem TF:∀ {l:List AV},Jd0 l=true->l=(Vn l).map .d
 | [],_=>rfl
 | .d x::r,h=>by
  have:=TF (l:=r) h;simp only[Vn,JlV,← this]
theorem JfY (ts:List Nat) (a:AV) (env:List (Nat×AV)) (t:Nat):lkA ((ts.map λ t=>(t,a))++env) t=if t∈ts then a else lkA env t:=by
 induction ts with
 | nil=>simp
 | cons x ts ih=>
  rw[JlV,List.cons_append,Bi];by_cases e:x=t
  ·subst e;simp
  ·rw[if_neg e,ih];by_cases h:t∈ts
   ·rw[if_pos h,if_pos (List.mem_cons_of_mem _ h)]
   ·rw[if_neg h,if_neg (λ hh=>(List.mem_cons.1 hh).elim (λ h'=>e h'.symm) h)]
theorem Pw (ts:List Nat) (k:Nat) (h:(LV s k&&Jd0 (CN s k)&&ts.all λ t=>JfX k (lkA s.env t))=true):Ay nk s ⟨(ts.map λ t=>(t,AV.dptr (Vn (CN s k)) 0))++s.env,s.objs.set k none⟩:=by
 simp only[Jl0]at h;obtain⟨⟨h1,h2⟩,h3⟩:=h;have ho:=Iy h1;have hd:=TF h2;refine Ay.sem λ _ _ _ _ _ _ _ _ hI=>?_;obtain⟨F,ρ,hS,hSl,hn,hdf⟩:=hI;have hle:=Fy (ρ:=ρ) hS [k];have key:∀ v,Ak F ρ (.ptr k 0) v->Ak (HS F ρ _ [k]) ρ (.dptr (Vn (CN s k)) 0) v:=λ v hv=>by
  cases hv with
  | ptr _ _ L hL=>
   obtain⟨p1,p2,cs,t,fr,p3,p4,p5,p6⟩:=(hS.obj k L _ hL ho).1;have hc:∀ (j:Nat) (x:D),(Vn (CN s k))[j]?=some x->∃ v,cs[j]?=some v/\Bo F x v:=λ j x hx=>by
    have hb:(CN s k)[j]?=some (.d x):=by rw[hd,Jl3,hx];rfl
    have hj:=Af hb;have hv:cs[j]?=some cs[j]:=Jl4 (by omega);have:=p6 j _ _ hb hv;cases this with
    | d _ _ h=>exact⟨_,hv,h⟩
   rw[p1];refine .dptr _ 0 L.b 0 cs t fr (λ j=>cs.getD j undef) ?_ (λ j x hx=>?_) λ j x hx=>?_
   ·rw[Lg (List.mem_singleton_self k) hL];exact p3
   ·obtain⟨v,hv,_⟩:=hc j x hx;rw[Jmd,hv];simp[hv]
   ·obtain⟨v,hv,hr⟩:=hc j x hx;have:cs.getD j undef=v:=by simp[hv]
    rw[this];exact hr.mono hle
 refine⟨HS F ρ _ [k],ρ,?_,?_,hn,hdf.1.mono hle,hdf.2⟩
 ·show Sim _ _ _ _ _ (s.objs.set k none) _;rw[← XD];exact hS.freeze [k] λ k' hk'=>by simp at hk';subst hk';exact⟨_,ho⟩
 ·have hm:=hSl.mono hle (RLe.refl _);intro t;rw[JfY];split
  ·rename_i ht;have:=hSl t;rw[JdZ (JlJ.1 h3 t ht)]at this;exact key _ this
  ·exact hm t
theorem Jjr (t:Nat) {e:List D} {l:List (List D)} (h:lkA s.env t=.d (.po (e::l))):Ay nk s ⟨(t,.dptr e 0)::s.env,s.objs⟩:=by
 refine Ay.sem λ _ _ _ _ _ _ _ _ hI=>?_;obtain⟨F,ρ,hS,hSl,hn,hdf⟩:=hI;refine⟨F,ρ,hS,λ t'=>?_,hn,hdf⟩;rw[Bi];split
 ·rename_i e';subst e';have:=hSl t;rw[h]at this;generalize Array.getD _ t undef=v at this⊢;cases this with
  | d _ _ h=>
   cases h with
   | po _ _ b o cs ty fr g h1 h2 h3=>exact .dptr _ 0 b o cs ty fr g h1 h2 h3
 ·exact hSl t'
theorem SD (t:Nat) {e:List D} (h:lkA s.env t=.dptr e 0):Ay nk s ⟨(t,.d (.po [e]))::s.env,s.objs⟩:=by
 refine Ay.sem λ _ _ _ _ _ _ _ _ hI=>?_;obtain⟨F,ρ,hS,hSl,hn,hdf⟩:=hI;refine⟨F,ρ,hS,λ t'=>?_,hn,hdf⟩;rw[Bi];split
 ·rename_i e';subst e';have:=hSl t;rw[h]at this;generalize Array.getD _ t undef=v at this⊢;cases this with
  | dptr _ _ b o cs ty fr g h1 h2 h3=>exact .d _ _ (.po _ _ b o cs ty fr g h1 h2 h3)
 ·exact hSl t'
end Go.AI
end
section
namespace Go.AI
variable {P:Program} {F F':Nat->Option Obj} {ρ ρ':Nat->Option Loc} {N:Nat->Prop} {H0 F0:Nat->Option Obj} {O objs:List (Option Ob)} {w:World} {w0:W0} {nk:Nat} {s:St}
theorem XO {en:List (List D×AV)}:∀ e∈(en.map λ p=>[p.2]:List (List AV)),e.length=1:=λ e he=>by
 obtain⟨p,_,rfl⟩:=JlR.1 he;rfl
theorem Vo {en:List (List D×AV)} {i:Nat} {a b:AV} {key:List D}:((en.set i (key,b)).map λ p=>[p.2])=(en.map λ p=>[p.2]).set i ([a].set 0 b):=by rw[List.map_set];rfl
theorem Vp {h:Array Obj} {L:Loc} {ka:Bool} {dv:AV} {en:List (List D×AV)} {i:Nat} {key:List D} {a:AV} (H:Bv F ρ h L (.nmp ka dv en)) (hi:en[i]?=some (key,a)):∃ o v,h[L.b]?=some o/\E8 o (L.base+i*1+0)=some v/\(JE a=false->Ak F ρ a v) /\
  ∀ ρ' dv' b,RLe ρ ρ'->Ak F ρ' dv' (.slice none 0 0)->(JE b=false->Ak F ρ' b v)->Bv F ρ' h L (.nmp ka dv' (en.set i (key,b))):=by
 obtain⟨h0,hd,es,clock,h1,hb,h2,h3⟩:=H;have hlt:i<es.size:=by rw[h2];exact Af hi
 have hq:es[i]?=some es[i]:=Jl4 hlt;refine⟨_,es[i].val,h1,by simp only[E8,h0];rw[show 0+i*1+0=i by omega,hq];rfl,(h3 i _ _ hi hq).2,λ ρ' dv' b hρ hdv hb'=>⟨h0,hdv,es,clock,h1,hb,by simpa using h2,λ j p q hp hq'=>?_⟩⟩;by_cases e:j=i
 ·subst e;rw[Jma (Af hi)]at hp;cases hp;rw[hq]at hq';cases hq';exact⟨(h3 j _ _ hi hq).1,hb'⟩
 ·rw[Jmf (Ne.symm e)]at hp;obtain⟨g1,g2⟩:=h3 j p q hp hq';exact⟨g1,λ ho=>(g2 ho).mono (FLe.refl _) hρ⟩
theorem JfZ {h:Array Obj} (hS:Sim N H0 F0 F ρ O h) {k i isz:Nat} {ka:Bool} {dv:AV} {en:List (List D×AV)} {key:List D} {xs:List (List D)} (ho:obA O k=some (.nmp ka dv en)) (hi:en[i]?=some (key,.own isz xs)) :
  ∃ ρ',RLe ρ ρ'/\Sim N H0 F0 F ρ' (O.set k (some (.nmp ka (.osl O.length isz 0 0) (en.set i (key,.osl O.length isz 0 xs.length))))++[some (.arr isz xs)]) h:=
 U3 hS ho (i:=i) (j:=0) (e:=[.own isz xs]) (isz:=isz) rfl (by simp only[Ob.rows];rw[Vo (a:=.own isz xs)]) (by rw[Jl3,hi];rfl) rfl XO λ L H=>by
  obtain⟨o,v,h1,h2,_,h3⟩:=Vp H hi;exact⟨o,v,h1,h2,λ ρ' hρ hv=>h3 ρ' _ _ hρ (.osl0 _ _ _ _) λ _=>hv⟩
theorem Jd1 {h:Array Obj} (hS:Sim N H0 F0 F ρ O h) {k isz:Nat} {ka:Bool} {dv:AV} {en:List (List D×AV)} (ho:obA O k=some (.nmp ka dv en)) :
  Sim N H0 F0 F ρ (O.set k (some (.nmp ka (.osl O.length isz 0 0) en))++[some (.arr isz [])]) h:=by
 have hget:∀ q L ob,ρ q=some L->obA (O.set k (some (.nmp ka (.osl O.length isz 0 0) en))++[some (.arr isz [])]) q=some ob->(q=k/\ob=.nmp ka (.osl O.length isz 0 0) en)\/(q≠k/\obA O q=some ob):=λ q L ob hq hob=>by
  have:=hS.dom q L hq;rw[AM,Jmg,if_pos this]at hob;by_cases e:q=k
  ·subst e;rw[AT ho]at hob;cases hob;exact .inl ⟨rfl,rfl⟩
  ·rw[AJ e]at hob;exact .inr ⟨e,hob⟩
 obtain⟨σ,hσ⟩:=hS.inn;refine hS.retable (by simp) (λ q L ob hq hob=>?_) ⟨σ,hσ.new,λ k' c M q L ob hM hq hob=>?_,hσ.sep,λ q L ob0 sz es hq hob hr0=>?_⟩
 ·rcases hget q L ob hq hob with⟨rfl,rfl⟩|⟨_,h1⟩
  ·obtain⟨⟨h0,hd,r⟩,_⟩:=hS.obj q L _ hq ho;exact⟨_,ho,.inr ⟨h0,.osl0 _ _ _ _,r⟩⟩
  ·exact⟨ob,h1,.inl rfl⟩
 ·rcases hget q L ob hq hob with⟨rfl,rfl⟩|⟨_,h1⟩
  ·exact hσ.obj k' c M q L _ hM hq ho
  ·exact hσ.obj k' c M q L ob hM hq h1
 ·rcases hget q L ob0 hq hob with⟨rfl,rfl⟩|⟨_,h1⟩
  ·exact hσ.rep q L _ sz es hq ho hr0
  ·exact hσ.rep q L ob0 sz es hq h1 hr0
theorem Jf0 {h:Array Obj} (hS:Sim N H0 F0 F ρ O h) {k i m isz:Nat} {ka:Bool} {dv:AV} {en:List (List D×AV)} {key:List D} {xs:List (List D)} (ho:obA O k=some (.nmp ka dv en)) (hi:en[i]?=some (key,.osl m isz 0 xs.length)) (hm:obA O m=some (.arr isz xs)) :
  Sim N H0 F0 F ρ ((O.set m none).set k (some (.nmp ka (.d (.sl [])) (en.set i (key,.own isz xs))))) h:=
 U4 hS ho (i:=i) (j:=0) (e:=[.osl m isz 0 xs.length]) rfl (by simp only[Ob.rows];rw[Vo (a:=.osl m isz 0 xs.length)]) (by rw[Jl3,hi];rfl) rfl hm XO λ L H=>by
  obtain⟨o,v,h1,h2,h4,h3⟩:=Vp H hi;exact⟨o,v,h1,h2,h4 rfl,h3 ρ _ _ (RLe.refl _) (.d _ _ (.sl0 _ _)) λ hn=>by cases hn⟩
open Classical in
theorem Jf1 {h:Array Obj} (hS:Sim N H0 F0 F ρ O h) {k:Nat} {ka:Bool} {dv:AV} {en:List (List D×AV)} (ho:obA O k=some (.nmp ka dv en)) (hn:∀ p∈en,isN p.2=true) :
  ∃ F',FLe F F'/\Sim N H0 F0 F' ρ (O.set k (some (.nmp ka (.d (.sl [])) (en.map λ p=>(p.1,.d (ofN p.2)))))) h:=by
 have hobA:∀ q ob,obA (O.set k (some (.nmp ka (.d (.sl [])) (en.map λ p=>(p.1,.d (ofN p.2)))))) q=some ob->(q=k/\ob=.nmp ka (.d (.sl [])) (en.map λ p=>(p.1,.d (ofN p.2))))\/(q≠k/\obA O q=some ob):=λ q ob hq=>by
  by_cases e1:q=k
  ·subst e1;rw[AT ho]at hq;cases hq;exact .inl ⟨rfl,rfl⟩
  ·rw[AJ e1]at hq;exact .inr ⟨e1,hq⟩
 obtain⟨σ,hσ⟩:=hS.inn;cases hk:ρ k with
 | none=>
  refine⟨F,FLe.refl _,hS.table (by simp) λ q L ob hq hob=>?_⟩;rcases hobA q ob hob with⟨rfl,_⟩|⟨_,h1⟩
  ·rw[hk]at hq;cases hq
  ·exact h1
 | some L=>
  obtain⟨g1,g2,g3⟩:=hS.obj k L _ hk ho;let F':Nat->Option Obj:=λ b=>if ∃ c M,σ k c=some M/\M.b=b then h[b]? else F b
  have hF':∀ b,F' b=if ∃ c M,σ k c=some M/\M.b=b then h[b]? else F b:=λ _=>rfl
  have hle:FLe F F':=λ b o hb=>by
   rw[hF'];split
   ·exact hS.frz b o hb
   ·exact hb
  have hfM:∀ c M,σ k c=some M->F' M.b=h[M.b]? := λ c M hM=>by rw[hF',if_pos ⟨c,M,hM,rfl⟩]
  have hno:∀ b,(∀ c M,σ k c=some M->M.b≠b)->F' b=F b:=λ b h2=>by
   rw[hF',if_neg];rintro⟨c,M,h3,h4⟩;exact h2 c M h3 h4
  refine⟨F',hle,{ size:=hS.size,old:=hS.old,f0:=hS.f0.trans hle,fnew:=λ b o hb hN=>?_,frz:=λ b o hb=>?_,loc:=hS.loc,dom:=λ q L' hq=>by simpa using hS.dom q L' hq,obj:=λ q L' ob hq hob=>?_,sep:=λ q q' L1 L2 ob ob' hq hq' h1 h2 hne=>?_,inn:=?_ }⟩
  ·rw[hF']at hb;split at hb
   ·rename_i hx;obtain⟨c,M,hM,rfl⟩:=hx;exact absurd (hσ.new k c M hM).1 hN
   ·exact hS.fnew b o hb hN
  ·rw[hF']at hb;split at hb
   ·exact hb
   ·exact hS.frz b o hb
  ·rcases hobA q ob hob with⟨rfl,rfl⟩|⟨h1,h2⟩
   ·rw[hk]at hq;cases hq;refine⟨?_,g2,by rw[hno _ λ c M hM=>(hσ.obj q c M q L _ hM hk ho).symm];exact g3⟩;obtain⟨h0,hd,es,clock,q1,qb,q2,q3⟩:=g1;refine⟨h0,.d _ _ (.sl0 _ _),es,clock,q1,qb,by simpa using q2,λ i p q' hp hq'=>?_⟩;simp only[Jl3,Jl2]at hp;obtain⟨p0,hp0,rfl⟩:=hp;obtain⟨r1,r2⟩:=q3 i p0 q' hp0 hq';refine⟨r1.mono hle,λ _=>?_⟩;have hisN:=hn p0 (Jl1 hp0);obtain⟨kc,a⟩:=p0;cases a with
    | d y=>exact(r2 rfl).mono hle (RLe.refl _)
    | own isz xs=>
     refine .d _ _ ?_;show Bo F' (.sl xs) q'.val;have hown:=hσ.rep q L _ 1 _ hk ho rfl i [.own isz xs] 0 isz xs (by rw[Jl3,hp0];rfl) rfl _ q'.val q1 (by simp only[E8,h0];rw[show 0+i*1+0=i by omega,hq'];rfl);rcases hown with⟨rfl,a,ha⟩|⟨M,cap,hM,hv,hcap,_,_,⟨q1,q2,cs1,t1,fr1,q3,q4,q5,q6⟩⟩
     ·rw[ha];exact .sl0 _ _
     ·rw[hv];refine .sl xs M.b M.base cap isz cs1 t1 fr1 (λ i j=>(cs1[M.base+i*isz+j]?).getD undef) (by rw[hfM _ M hM];exact q3) q1 hcap (λ i e hi j x hx=>?_) (λ i e hi j x hx=>?_)
      ·obtain⟨u,hu,_⟩:=q6 i e hi j x hx;simp only[hu,JlK]
      ·obtain⟨u,hu,hd⟩:=q6 i e hi j x hx;simp only[hu,JlK];exact hd.mono hle
    | _=>cases hisN
   ·obtain⟨q1,q2,q3⟩:=hS.obj q L' ob hq h2;refine⟨q1.mono hle (RLe.refl _) rfl,q2,?_⟩;rw[hno L'.b λ c M hM=>(hσ.obj k c M q L' ob hM hq h2).symm];exact q3
  ·have key:∀ q ob,obA (O.set k (some (.nmp ka (.d (.sl [])) (en.map λ p=>(p.1,.d (ofN p.2)))))) q=some ob->∃ o,obA O q=some o:=λ q ob h=>by
    rcases hobA q ob h with⟨rfl,_⟩|⟨_,h⟩
    ·exact⟨_,ho⟩
    ·exact⟨_,h⟩
   obtain⟨o1,e1⟩:=key q ob h1;obtain⟨o2,e2⟩:=key q' ob' h2;exact hS.sep q q' L1 L2 o1 o2 hq hq' e1 e2 hne
  ·refine⟨λ k' c=>if k'=k then none else σ k' c,λ k' c M hM=>?_,λ k' c M q L' ob hM hq hob=>?_,λ k' c M k'' c' M' hM hM' hne=>?_,λ q L' ob0 sz' es' hq hob hr0 i e j isz xs hi hj o1 v hb hv=>?_⟩
   ·split at hM
    ·cases hM
    ·rename_i hkk;obtain⟨n1,n2,n3⟩:=hσ.new k' c M hM;refine⟨n1,n2,?_⟩;rw[hno M.b λ c' M' hM'=>hσ.sep k c' M' k' c M hM' hM (.inl (Ne.symm hkk))];exact n3
   ·split at hM
    ·cases hM
    ·rcases hobA q ob hob with⟨rfl,_⟩|⟨_,h1⟩
     ·exact hσ.obj k' c M q L' _ hM hq ho
     ·exact hσ.obj k' c M q L' ob hM hq h1
   ·split at hM
    ·cases hM
    ·split at hM'
     ·cases hM'
     ·exact hσ.sep k' c M k'' c' M' hM hM' hne
   ·rcases hobA q ob0 hob with⟨rfl,rfl⟩|⟨h1,h2⟩
    ·cases hr0;simp only[List.map_map,Jl3,Jl2,Function.comp]at hi;obtain⟨p,_,rfl⟩:=hi;cases j<;>simp at hj
    ·simp only[if_neg h1];exact(hσ.rep q L' ob0 sz' es' hq h2 hr0 i e j isz xs hi hj o1 v hb hv).mono hle λ _ _=>rfl
theorem Jf2 {h:Array Obj} (hS:Sim N H0 F0 F ρ O h) {k:Nat} {ka va:Bool} (ho:obA O k=some (.map ka va [])):Sim N H0 F0 F ρ (O.set k (some (.nmp ka (.d (.sl [])) []))) h:=by
 have hobA:∀ q ob,obA (O.set k (some (.nmp ka (.d (.sl [])) []))) q=some ob->(q=k/\ob=.nmp ka (.d (.sl [])) [])\/(q≠k/\obA O q=some ob):=λ q ob hq=>by
  by_cases e1:q=k
  ·subst e1;rw[AT ho]at hq;cases hq;exact .inl ⟨rfl,rfl⟩
  ·rw[AJ e1]at hq;exact .inr ⟨e1,hq⟩
 obtain⟨σ,hσ⟩:=hS.inn;refine hS.retable (by simp) (λ q L ob hq hob=>?_) ⟨σ,hσ.new,λ k' c M q L ob hM hq hob=>?_,hσ.sep,λ q L ob0 sz es hq hob hr0 i e j isz xs hi=>?_⟩
 ·rcases hobA q ob hob with⟨rfl,rfl⟩|⟨_,h1⟩
  ·obtain⟨⟨hb,es,clock,q1,q2,q3,q4⟩,_⟩:=hS.obj q L _ hq ho;exact⟨_,ho,.inr ⟨hb,.d _ _ (.sl0 _ _),es,clock,q1,q2,q3,λ i p q hp=>by simp at hp⟩⟩
  ·exact⟨ob,h1,.inl rfl⟩
 ·rcases hobA q ob hob with⟨rfl,rfl⟩|⟨_,h1⟩
  ·exact hσ.obj k' c M q L _ hM hq ho
  ·exact hσ.obj k' c M q L ob hM hq h1
 ·rcases hobA q ob0 hob with⟨rfl,rfl⟩|⟨_,h1⟩
  ·cases hr0;simp at hi
  ·exact hσ.rep q L ob0 sz es hq h1 hr0 i e j isz xs hi
section
variable {κ β:Type} [DecidableEq κ] {encK:κ->List D} {enc:β->List D} {isz:Nat}
def Ek (encK:κ->List D) (isz:Nat) (enc:β->List D) (m:List (κ×List β)):List (List D×AV):=m.map λ p=>(encK p.1,.own isz (p.2.map enc))
def EJ (encK:κ->List D) (enc:β->List D) (m:List (κ×List β)):List (List D×AV):=m.map λ p=>(encK p.1,.d (.sl (p.2.map enc)))
theorem nmM {κ β:Type} {encK:κ->List D} {isz:Nat} {enc:β->List D} {m:List (κ×List β)} {f:AV->AV} (hc:∀ sz es,f (.own sz es)=.own sz es):(Ek encK isz enc m).map (λ p=>(p.1,f p.2))=Ek encK isz enc m:=by
 unfold Ek;rw[List.map_map];exact JlX λ p _=>by simp only[Function.comp,hc]
theorem Je {κ β:Type} {encK:κ->List D} {enc:β->List D} {m:List (κ×List β)} {f:AV->AV} (hc:∀ x,f (.d x)=.d x):(EJ encK enc m).map (λ p=>(p.1,f p.2))=EJ encK enc m:=by
 unfold EJ;rw[List.map_map];exact JlX λ p _=>by simp only[Function.comp,hc]
def HT (encK:κ->List D) (isz:Nat) (enc:β->List D) (key:κ) (a:AV):List (κ×List β)->List (List D×AV)
 | []=>[]
 | p::r=>if key=p.1 then(encK key,a)::Ek encK isz enc r else(encK p.1,.own isz (p.2.map enc))::HT encK isz enc key a r
def LH (encK:κ->List D) (isz:Nat) (enc:β->List D) (key:κ) (a:AV):List (κ×List β)->List (List D×AV)
 | []=>[(encK key,a)]
 | p::r=>if key=p.1 then(encK key,a)::Ek encK isz enc r else(encK p.1,.own isz (p.2.map enc))::LH encK isz enc key a r
theorem Y1 {key:κ} {a:AV} {m:List (κ×List β)} (h:BR key m=none):HT encK isz enc key a m=Ek encK isz enc m:=by
 induction m with
 | nil=>rfl
 | cons p r ih=>
  simp only[BR]at h;by_cases e:key=p.1
  ·rw[if_pos e]at h;cases h
  ·rw[if_neg e]at h;simp only[HT,if_neg e,ih h,Ek,JlV]
theorem Y2 {key:κ} {xs:List β} {m:List (κ×List β)} (h:BR key m=some xs):∃ i,(Ek encK isz enc m)[i]?=some (encK key,.own isz (xs.map enc))/\∀ a,(Ek encK isz enc m).set i (encK key,a)=HT encK isz enc key a m:=by
 induction m with
 | nil=>cases h
 | cons p r ih=>
  simp only[BR]at h;by_cases e:key=p.1
  ·rw[if_pos e]at h;cases h;exact⟨0,by rw[e];rfl,λ a=>by simp only[HT,if_pos e,Ek,JlV,List.set_cons_zero]⟩
  ·rw[if_neg e]at h;obtain⟨i,h1,h2⟩:=ih h;exact⟨i+1,by simpa [Ek]using h1,λ a=>by simp only[HT,if_neg e,← h2 a,Ek,JlV,List.set_cons_succ]⟩
theorem Jd2 (key:κ) (a:AV) (m:List (κ×List β)):∃ i,(LH encK isz enc key a m)[i]?=some (encK key,a)/\∀ b,(LH encK isz enc key a m).set i (encK key,b)=LH encK isz enc key b m:=by
 induction m with
 | nil=>exact⟨0,rfl,λ b=>rfl⟩
 | cons p r ih=>
  by_cases e:key=p.1
  ·exact⟨0,by simp only[LH,if_pos e];rfl,λ b=>by simp only[LH,if_pos e,List.set_cons_zero]⟩
  ·obtain⟨i,h1,h2⟩:=ih;exact⟨i+1,by simpa only [LH,if_neg e,List.getElem?_cons_succ]using h1,λ b=>by simp only[LH,if_neg e,← h2 b,List.set_cons_succ]⟩
theorem JaI (key:κ) (ys:List β) (m:List (κ×List β)):LH encK isz enc key (.own isz (ys.map enc)) m=Ek encK isz enc (Eh key ys m):=by
 induction m with
 | nil=>rfl
 | cons p r ih=>
  by_cases e:key=p.1
  ·simp only[LH,Eh,if_pos e,Ek,JlV]
  ·simp only[LH,Eh,if_neg e,ih,Ek,JlV]
variable {ks:List TK} (heq:∀ a b,Az ks ((encK a).map .d) ((encK b).map .d)=some (decide (a=b)))
include heq
theorem Vq (a b:κ):eqK ks (encK a) (encK b)=decide (a=b):=by simp only[eqK,heq,JlK]
theorem JkN (key:κ) (n:Nat) (m:List (κ×List β)):(Hx ks (encK key) (HT encK isz enc key (.osl n isz 0 (Cl key m).length) m)).getD (.osl n isz 0 0)=.osl n isz 0 (Cl key m).length:=by
 have hget:∀ a,Hx ks (encK key) (HT encK isz enc key a m)=(BR key m).map λ _=>a:=λ a=>by
  induction m with
  | nil=>rfl
  | cons p r ih=>
   by_cases e:key=p.1
   ·simp only[HT,BR,if_pos e,Hx,Vq heq,decide_true,cond_true,Option.map_some]
   ·simp only[HT,BR,if_neg e,Hx,Vq heq,decide_eq_false e,cond_false,ih]
 rw[hget];unfold Cl;cases BR key m<;>rfl
theorem Jjs (key:κ) (m:List (κ×List β)):(Hx ks (encK key) (EJ encK enc m)).getD (.d (.sl []))=.d (.sl ((Cl key m).map enc)):=by
 have hget:Hx ks (encK key) (EJ encK enc m)=(BR key m).map λ xs=>.d (.sl (xs.map enc)):=by
  induction m with
  | nil=>rfl
  | cons p r ih=>
   simp only[EJ,JlV,Hx,BR,Vq heq];by_cases e:key=p.1
   ·simp only[if_pos e,decide_eq_true e,cond_true,Option.map_some]
   ·simp only[if_neg e,decide_eq_false e,cond_false];exact ih
 rw[hget];unfold Cl;cases BR key m<;>rfl
theorem JkO (key:κ) (a v:AV) (m:List (κ×List β)):JX ks (encK key) v (HT encK isz enc key a m)=LH encK isz enc key v m:=by
 induction m with
 | nil=>rfl
 | cons p r ih=>
  by_cases e:key=p.1
  ·simp only[HT,LH,if_pos e,JX,Vq heq,decide_true,cond_true]
  ·simp only[HT,LH,if_neg e,JX,Vq heq,decide_eq_false e,cond_false,ih]
theorem JeS (key:κ) (a:AV) (m:List (κ×List β)):E7 ks (encK key) (HT encK isz enc key a m):=by
 refine⟨by rw[heq];rfl,?_⟩;have hO:∀ m:List (κ×List β),∀ p∈Ek encK isz enc m,(Az ks ((encK key).map .d) (p.1.map .d)).isSome=true:=λ m p hp=>by
  simp only[Ek,JlR]at hp;obtain⟨q,_,rfl⟩:=hp;rw[heq];rfl
 induction m with
 | nil=>intro p hp;simp[HT]at hp
 | cons q r ih=>
  intro p hp;by_cases e:key=q.1
  ·simp only[HT,if_pos e,List.mem_cons]at hp;rcases hp with rfl|hp
   ·simp only[heq];rfl
   ·exact hO r p hp
  ·simp only[HT,if_neg e,List.mem_cons]at hp;rcases hp with rfl|hp
   ·simp only[heq];rfl
   ·exact ih p hp
theorem Jf3 (key:κ) (m:List (κ×List β)):E7 ks (encK key) (EJ encK enc m):=by
 refine⟨by rw[heq];rfl,λ p hp=>?_⟩;simp only[EJ,JlR]at hp;obtain⟨q,_,rfl⟩:=hp;rw[heq];rfl
omit heq
theorem JaJ {k n:Nat} {m:List (κ×List β)} {key:κ} {x:D} (heq:∀ a b,Az ks ((encK a).map .d) ((encK b).map .d)=some (decide (a=b))) (hx:xD s.objs (.d x)=some (x,[],[]):=by kernel_rfl) (hK:encK key=[x]:=by kernel_rfl) (hk:obA s.objs k=some (.nmp false (.osl n isz 0 0) (HT encK isz enc key (.osl n isz 0 (Cl key m).length) m)):=by kernel_rfl) :
  Ea s (FT (.map ks false false [.nil]) s.objs (.mp k) (.d x) false) (.osl n isz 0 (Cl key m).length) [] [] none:=by
 obtain⟨ob,e2,q⟩:=HE (objs:=s.objs) (l:=[.d x]) (x:=[x]) (ks:=[]) (o:=[]) (by simp only[xDs,hx];rfl) leZ;refine .of (ob:=ob/\E7 ks (encK key) (HT encK isz enc key (.osl n isz 0 (Cl key m).length) m)) ?_ ⟨q,JeS heq key _ m⟩;rw[← hK]at e2;have hg:=JkN (isz:=isz) (enc:=enc) heq key n m;simp only[FT,hk,kvA,cond_false,e2,hg,List.isEmpty_nil,beq_self_eq_true,Bool.and_self,Bool.not_false,Jc6,CG,A9,cond_true]
theorem Y3 {k:Nat} {m:List (κ×List β)} {key:κ} {x:D} (heq:∀ a b,Az ks ((encK a).map .d) ((encK b).map .d)=some (decide (a=b))) (hx:xD s.objs (.d x)=some (x,[],[]):=by kernel_rfl) (hK:encK key=[x]:=by kernel_rfl) (hk:obA s.objs k=some (.nmp false (.d (.sl [])) (EJ encK enc m)):=by kernel_rfl) :
  Ea s (FT (.map ks false false [.nil]) s.objs (.mp k) (.d x) false) (.d (.sl ((Cl key m).map enc))) [] [] none:=by
 obtain⟨ob,e2,q⟩:=HE (objs:=s.objs) (l:=[.d x]) (x:=[x]) (ks:=[]) (o:=[]) (by simp only[xDs,hx];rfl) leZ;refine .of (ob:=ob/\E7 ks (encK key) (EJ encK enc m)) ?_ ⟨q,Jf3 heq key m⟩;rw[← hK]at e2;have hg:=Jjs (enc:=enc) heq key m;simp only[FT,hk,kvA,cond_false,e2,hg,List.isEmpty_nil,beq_self_eq_true,Bool.and_self,Bool.not_false,Jc6,CG,A9,cond_true]
theorem Jd3 {k n n' l':Nat} {m:List (κ×List β)} {key:κ} {x:D} {a:AV} (heq:∀ a b,Az ks ((encK a).map .d) ((encK b).map .d)=some (decide (a=b))) (hx:xD s.objs (.d x)=some (x,[],[]):=by kernel_rfl) (hK:encK key=[x]:=by kernel_rfl) (hk:obA s.objs k=some (.nmp false (.osl n isz 0 0) (HT encK isz enc key a m)):=by kernel_rfl) :
  Ea s (G8 (.map ks false false [.nil]) s.objs (.mp k) (.d x) (.osl n' isz 0 l')) .top [] [] (some (k,.nmp false (.osl n isz 0 0) (LH encK isz enc key (.osl n' isz 0 l') m))):=by
 obtain⟨ob,e2,q⟩:=HE (objs:=s.objs) (l:=[.d x]) (x:=[x]) (ks:=[]) (o:=[]) (by simp only[xDs,hx];rfl) leZ;refine .of (ob:=ob/\E7 ks (encK key) (HT encK isz enc key a m)) ?_ ⟨q,JeS heq key a m⟩;have hp:=JkO (isz:=isz) (enc:=enc) heq key a (.osl n' isz 0 l') m;rw[← hK]at e2;simp only[G8,hk,kvA,cond_false,e2,hp,List.isEmpty_nil,beq_self_eq_true,Bool.and_self,Bool.not_false,CG,cond_true]
theorem JeT (k:Nat) {ka va:Bool} (h:obA s.objs k=some (.map ka va []):=by kernel_rfl):Ay nk s ⟨s.env,s.objs.set k (some (.nmp ka (.d (.sl [])) []))⟩:=
 Ay.sem λ _ _ _ _ _ _ _ _ hI=>by
  obtain⟨F,ρ,hS,hSl,hn,hdf⟩:=hI;exact⟨F,ρ,Jf2 hS h,hSl,hn,hdf⟩
theorem Jjt (k n:Nat) (key:κ) (m:List (κ×List β)) {ka:Bool} {dv:AV} (h:obA s.objs k=some (.nmp ka dv (Ek encK isz enc m)):=by kernel_rfl) (hn:s.objs.length=n:=by kernel_rfl) :
  Ay nk s ⟨s.env,s.objs.set k (some (.nmp ka (.osl n isz 0 0) (HT encK isz enc key (.osl n isz 0 (Cl key m).length) m)))++[some (.arr isz ((Cl key m).map enc))]⟩:=by
 subst hn;refine Ay.sem λ _ _ _ _ _ _ _ _ hI=>?_;obtain⟨F,ρ,hS,hSl,hn,hdf⟩:=hI;unfold Cl;cases hg:BR key m with
 | none=>
  have:=Jd1 (isz:=isz) hS h;rw[Y1 hg];exact⟨F,ρ,this,hSl,hn,hdf⟩
 | some xs=>
  obtain⟨i,h1,h2⟩:=Y2 (encK:=encK) (isz:=isz) (enc:=enc) hg;obtain⟨ρ',g1,g2⟩:=JfZ hS h h1;rw[h2,JlU]at g2;exact⟨F,ρ',g2,hSl.mono (FLe.refl _) g1,hn,hdf.1,hdf.2.1,hdf.2.2.mono g1⟩
theorem Jju (k n:Nat) (key:κ) (ys:List β) (m:List (κ×List β)) {ka:Bool} {dv:AV} (h:obA s.objs k=some (.nmp ka dv (LH encK isz enc key (.osl n isz 0 ys.length) m)):=by kernel_rfl) (hm:obA s.objs n=some (.arr isz (ys.map enc)):=by kernel_rfl) :
  Ay nk s ⟨s.env,(s.objs.set n none).set k (some (.nmp ka (.d (.sl [])) (Ek encK isz enc (Eh key ys m))))⟩:=by
 refine Ay.sem λ _ _ _ _ _ _ _ _ hI=>?_;obtain⟨F,ρ,hS,hSl,hn,hdf⟩:=hI;obtain⟨i,h1,h2⟩:=Jd2 (encK:=encK) (isz:=isz) (enc:=enc) key (.osl n isz 0 ys.length) m;have:=Jf0 (xs:=ys.map enc) hS h (by rw[JlU];exact h1) hm;rw[h2,JaI]at this;exact⟨F,ρ,this,hSl,hn,hdf⟩
theorem XP {κ β:Type} {encK:κ->List D} {enc:β->List D} {isz:Nat} (k:Nat) (m:List (κ×List β)) {ka:Bool} {dv:AV} (h:obA s.objs k=some (.nmp ka dv (Ek encK isz enc m)):=by kernel_rfl):Ay nk s ⟨s.env,s.objs.set k (some (.nmp ka (.d (.sl [])) (EJ encK enc m)))⟩:=by
 refine Ay.sem λ _ _ _ _ _ _ _ _ hI=>?_;obtain⟨F,ρ,hS,hSl,hn,hdf⟩:=hI;obtain⟨F',h1,h2⟩:=Jf1 hS h λ p hp=>by
  simp only[Ek,JlR]at hp;obtain⟨q,_,rfl⟩:=hp;rfl
 have e:((Ek encK isz enc m).map λ p=>(p.1,AV.d (ofN p.2)))=EJ encK enc m:=by
  unfold Ek EJ;rw[List.map_map];rfl
 rw[e]at h2;exact⟨F',ρ,h2,hSl.mono h1 (RLe.refl _),hn,hdf.1.mono h1,hdf.2⟩
end
end Go.AI
end
section
namespace Go.AI
variable {P:Program} {Γ:Cx} {C:Code} {p:List Nat} {Q:Ex->St->Prop} {s s':St} {i nk:Nat} {α κ:Type}
def xKV (objs:List (Option Ob)) (agg:Bool):AV->Option (List D×List Nat×List (Nat×Nat))
 | .agg l=>bif agg then xDs objs l else none
 | v=>bif agg then none else xDs objs [v]
theorem WO {objs:List (Option Ob)} {agg:Bool} {v:AV} {x:List D} (h:xKV objs agg v=some (x,[],[])):∃ ob,kvA objs agg v=some ⟨x,[],ob⟩/\ob:=by
 cases agg with
 | true=>
  cases v with
  | agg l=>exact HE (l:=l) h leZ
  | _=>simp only[xKV,cond_true]at h;cases h
 | false=>
  cases v with
  | agg l=>simp only[xKV,cond_false]at h;cases h
  | _=>simp only[xKV,cond_false]at h;simp only[kvA,cond_false];exact HE h leZ
theorem JaK [DecidableEq κ] {encK:κ->List D} {enc:α->List D} {ks:List TK} {ka va:Bool} {k:Nat} {m:List (κ×α)} {key:κ} {a:AV} {z:α} {vz:List D} (heq:∀ a b,Az ks ((encK a).map .d) ((encK b).map .d)=some (decide (a=b))) (ok:Bool) (hz:vz=enc z:=by kernel_rfl) (hk:obA s.objs k=some (.map ka va (AH encK enc m)):=by kernel_rfl) (hx:xKV s.objs ka a=some (encK key,[],[]):=by kernel_rfl) :
  Ea s (FT (.map ks ka va vz) s.objs (.mp k) a ok) (bif ok then .tup [kvV va (enc ((BR key m).getD z)),.d (.bool (BR key m).isSome)]else kvV va (enc ((BR key m).getD z))) [] [] none:=by
 obtain⟨ob,e2,q⟩:=WO hx;have hv:((Hx ks (encK key) (AH encK enc m)).getD vz)=enc ((BR key m).getD z):=by
  rw[XI heq,hz];cases BR key m<;>rfl
 have hs:(Hx ks (encK key) (AH encK enc m)).isSome=(BR key m).isSome:=by rw[XI heq];cases BR key m<;>rfl
 refine .of (ob:=ob/\E7 ks (encK key) (AH encK enc m)) ?_ ⟨q,TA heq key m⟩;simp only[FT,hk,cond_true,e2,List.isEmpty_nil,beq_self_eq_true,Bool.and_self,A9,hv,hs]
theorem Y4 [DecidableEq κ] {encK:κ->List D} {enc:α->List D} {ks:List TK} {ka va:Bool} {k:Nat} {m:List (κ×α)} {key:κ} {a:AV} {z y:α} {vz:List D} (heq:∀ a b,Az ks ((encK a).map .d) ((encK b).map .d)=some (decide (a=b))) (h:some ((BR key m).getD z)=some y) (hz:vz=enc z:=by kernel_rfl) (hk:obA s.objs k=some (.map ka va (AH encK enc m)):=by kernel_rfl) (hx:xKV s.objs ka a=some (encK key,[],[]):=by kernel_rfl) :
  Ea s (FT (.map ks ka va vz) s.objs (.mp k) a false) (kvV va (enc y)) [] [] none:=by
 have:=JaK (va:=va) (z:=z) heq false hz hk hx;rw[Option.some.inj h]at this;exact this
theorem Jd4 [DecidableEq κ] {encK:κ->List D} {enc:α->List D} {ks:List TK} {ka va:Bool} {k:Nat} {m:List (κ×α)} {key:κ} {a v:AV} {y:α} {vz:List D} (heq:∀ a b,Az ks ((encK a).map .d) ((encK b).map .d)=some (decide (a=b))) (hz:Nat.beq (enc y).length vz.length=true:=by kernel_rfl) (hk:obA s.objs k=some (.map ka va (AH encK enc m)):=by kernel_rfl) (hx:xKV s.objs ka a=some (encK key,[],[]):=by kernel_rfl) (hv:xKV s.objs va v=some (enc y,[],[]):=by kernel_rfl) :
  Ea s (G8 (.map ks ka va vz) s.objs (.mp k) a v) .top [] [] (some (k,.map ka va (AH encK enc (Eh key y m)))):=by
 obtain⟨ob,e2,q⟩:=WO hx;obtain⟨ob',e3,q'⟩:=WO hv;refine .of (ob:=ob/\ob'/\E7 ks (encK key) (AH encK enc m)/\k ∉ ([]:List Nat)/\(enc y).length=vz.length) ?_ ⟨q,q',TA heq key m,by simp,Jl6 hz⟩;simp only[G8,hk,e2,e3,JeO heq,List.isEmpty_nil,beq_self_eq_true,Bool.and_self,cond_true]
theorem JaL (k off m esz:Nat) {xs:List α} {n:Int} {x:α} (h:idx xs n=some x) (hm:xs.length=m:=by kernel_rfl):Ea s (A9 (.ptr k (off+n.toNat*esz)) (0<=n/\n<(m:Nat))) (.ptr k (off+n.toNat*esz)) [] [] none:=by
 obtain⟨h1,h2,_⟩:=CM h;exact .of rfl ⟨h1,by rw[← hm];exact h2⟩
theorem Jd5 {sz:Nat} {enc:α->List D} (he:∀ x,(enc x).length=sz):∀ (xs:List α) (i:Nat) (x:α),xs[i]?=some x->((xs.flatMap enc).drop (i*sz)).take sz=enc x:=by
 intro xs;induction xs with
 | nil=>intro i x h;simp at h
 | cons y ys ih=>
  intro i x h;cases i with
  | zero=>
   simp only[JlW,Jl9]at h;subst h;rw[Nat.zero_mul,List.drop_zero,List.flatMap_cons,List.take_left' (he y)]
  | succ i=>
   simp only[List.getElem?_cons_succ]at h;rw[List.flatMap_cons,Jmc,Nat.one_mul,Nat.add_comm,← List.drop_drop,List.drop_left' (he y)];exact ih i x h
theorem Jd6 {enc:α->List D} (k off m esz:Nat) (t:Ty) {xs:List α} {n:Int} {x:α} (he:∀ x,(enc x).length=esz) (h:idx xs n=some x) (hk:obA s.objs k=some (.box (CN s k)):=by kernel_rfl) (hc:((CN s k).drop off).take (m*esz)=(xs.flatMap enc).map .d:=by kernel_rfl) (hm:xs.length=m:=by kernel_rfl) (ht:(t.agg&&Nat.beq t.size esz&&Nat.ble (off+m*esz) (CN s k).length)=true:=by kernel_rfl) :
  Ea s (CX t s.objs (.ptr k (off+n.toNat*esz))) (.agg ((enc x).map .d)) [] [] none:=by
 generalize CN s k=cells at hk hc ht;obtain⟨h1,h3,h2⟩:=CM h;simp only[Jl0]at ht;have hs:=Jl6 ht.1.2;have hle:=Jme ht.2;have hi:=(List.getElem?_eq_some_iff.1 h2).1;have hin:(n.toNat+1)*esz<=m*esz:=JlI _ (by omega);rw[Jmc,Nat.one_mul]at hin
 have hg:(cells.drop (off+n.toNat*esz)).take esz=(enc x).map .d:=by
  have e1:(((cells.drop off).take (m*esz)).drop (n.toNat*esz)).take esz=(cells.drop (off+n.toNat*esz)).take esz:=by
   rw[List.drop_take,List.take_take,List.drop_drop,Nat.min_eq_left (by omega)]
  rw[← e1,hc,← List.map_drop,← List.map_take,Jd5 he xs _ x h2]
 have hob:off+n.toNat*esz+t.size<=cells.length:=by rw[hs];omega
 have:CX t s.objs (.ptr k (off+n.toNat*esz))=A9 (.agg ((enc x).map .d)) (off+n.toNat*esz+t.size<=cells.length):=by
  simp only[CX,hk,CA,ht.1.1,cond_true,hs,hg]
 rw[this];exact .of rfl hob
def Jf4 (cells:List AV) (off m esz:Nat) (enc:α->List D) (d:α) (zs:List α):List AV:=cells.take off++((((List.range m).map λ j=>zs.getD j d).flatMap enc).map .d++cells.drop (off+m*esz))
theorem JaM (d:α) (zs:List α):((List.range zs.length).map λ j=>zs.getD j d)=zs:=by
 refine List.ext_getElem? λ i=>?_;rw[Jl3];by_cases h:i<zs.length
 ·rw[List.getElem?_range h,Option.map_some,JlZ h,List.getD_eq_getElem?_getD,JlZ h];rfl
 ·rw[Jmk (by simpa using h),Jmk (by omega)];rfl
theorem Y5 (vs cells:List AV) (o:Nat) (h:o+vs.length<=cells.length):splice cells o vs=cells.take o++(vs++cells.drop (o+vs.length)):=by
 refine List.ext_getElem? λ i=>?_;rw[Mo vs o cells i h,List.getElem?_append,List.length_take,Nat.min_eq_left (by omega)];by_cases h1:i<o
 ·rw[if_neg (by omega),if_pos h1,Jmj h1]
 ·rw[if_neg h1,List.getElem?_append];by_cases h2:i<o+vs.length
  ·rw[if_pos ⟨by omega,h2⟩,if_pos (by omega)]
  ·rw[if_neg (by omega),if_neg (by omega),JlS];congr 1;omega
theorem JaN {sz:Nat} {enc:α->List D} (he:∀ x,(enc x).length=sz) (y:α):∀ (xs:List α) (i:Nat),i<xs.length->(xs.set i y).flatMap enc=(xs.flatMap enc).take (i*sz)++(enc y++(xs.flatMap enc).drop (i*sz+sz)):=by
 intro xs;induction xs with
 | nil=>intro i h;simp at h
 | cons x xs ih=>
  intro i h;cases i with
  | zero=>rw[List.set_cons_zero,List.flatMap_cons,List.flatMap_cons,Nat.zero_mul,List.take_zero,List.nil_append,Jmd,List.drop_left' (he x)]
  | succ i=>
   rw[List.set_cons_succ,List.flatMap_cons,List.flatMap_cons,ih i (by simpa using h),Jmc,Nat.one_mul];have e1:∀ n,(enc x++xs.flatMap enc).take (n+sz)=enc x++(xs.flatMap enc).take n:=λ n=>by rw[← he x,Nat.add_comm,List.take_length_add_append]
   have e2:∀ n,(enc x++xs.flatMap enc).drop (n+sz)=(xs.flatMap enc).drop n:=λ n=>by rw[← he x,Nat.add_comm,List.drop_length_add_append]
   rw[e1,show i*sz+sz+sz=(i*sz+sz)+sz from rfl,e2,List.append_assoc]
theorem Jd7 {enc:α->List D} (k off m esz:Nat) (t:Ty) (d:α) {xs zs:List α} {n:Int} {y:α} {v:AV} (he:∀ x,(enc x).length=esz) (h:put xs n y=some zs) (hk:obA s.objs k=some (.box (CN s k)):=by kernel_rfl) (hc:((CN s k).drop off).take (m*esz)=(xs.flatMap enc).map .d:=by kernel_rfl) (hm:xs.length=m:=by kernel_rfl) (hv:Ar v=(enc y).map .d:=by kernel_rfl) (hv2:(Bz v&&(Ar v).all CG)=true:=by kernel_rfl) (ht:(Nat.beq t.size esz&&Nat.ble (off+m*esz) (CN s k).length)=true:=by kernel_rfl) :
  Ea s (EO t s.objs (.ptr k (off+n.toNat*esz)) v) .top [] [] (some (k,.box (Jf4 (CN s k) off m esz enc d zs))):=by
 generalize CN s k=cells at hk hc ht;simp only[Jl0]at ht;have hs:=Jl6 ht.1;have hle:=Jme ht.2;obtain⟨h1,h2,h3⟩:0<=n/\n<xs.length/\zs=xs.set n.toNat y:=by
  unfold put at h;split at h
  ·rename_i hc;cases h;exact⟨hc.1,hc.2,rfl⟩
  ·cases h
 have hi:n.toNat<xs.length:=by omega
 have hin:(n.toNat+1)*esz<=m*esz:=JlI _ (by omega);rw[Jmc,Nat.one_mul]at hin
 have hvl:(Ar v).length=esz:=by rw[hv,JlU,he]
 have hzl:zs.length=m:=by rw[h3,Jmg,hm]
 have hX:(cells.drop off).take (m*esz)=(xs.flatMap enc).map .d:=hc;have key:splice cells (off+n.toNat*esz) (Ar v)=Jf4 cells off m esz enc d zs:=by
  rw[Y5 _ _ _ (by rw[hvl];omega),hvl];unfold Jf4;have hz:((List.range m).map λ j=>zs.getD j d)=zs:=by rw[← hzl];exact JaM d zs
  rw[hz,h3,JaN he y xs _ hi,List.map_append,List.map_append,List.map_take,List.map_drop,← hX,← hv];rw[List.take_take,Nat.min_eq_left (by omega),List.take_add,List.append_assoc,List.append_assoc];congr 2;rw[List.append_assoc];congr 1;rw[List.drop_take,List.drop_drop];have:cells.drop (off+m*esz)=(cells.drop (off+(n.toNat*esz+esz))).drop (m*esz-(n.toNat*esz+esz)):=by rw[List.drop_drop];congr 1;omega
  rw[this,List.take_append_drop];congr 1;omega
 refine .of (ob:=(Ar v).length=t.size/\off+n.toNat*esz+t.size<=cells.length) ?_ ⟨by rw[hvl,hs],by rw[hs];omega⟩;simp only[EO,hk,hv2,cond_true,key]
theorem Jf5 (k off esz n:Nat) {h:Int} {y:Unit} (hg:inB (n+1) h=some y):Ea s (A9 (.bsl k off esz h.toNat) (0<=h/\h<=(n:Nat))) (.bsl k off esz h.toNat) [] [] none:=by
 obtain⟨h1,h2⟩:=JfS hg;exact .of rfl ⟨h1,by omega⟩
theorem Jd8 (k off esz:Nat) {n:Nat} {xs:List α} {i:Int} {x:α} (h:idx (xs.take n) i=some x):Ea s (A9 (.ptr k (off+i.toNat*esz)) (0<=i/\i<(n:Nat)/\esz=esz)) (.ptr k (off+i.toNat*esz)) [] [] none:=by
 obtain⟨h1,h2,_⟩:=CM h;simp only[List.length_take]at h2;exact .of rfl ⟨h1,by omega,rfl⟩
theorem JaO {n:Nat} {xs:List α} {i:Int} {x:α} (h:idx (xs.take n) i=some x):idx xs i=some x:=by
 obtain⟨h1,h2,h3⟩:=CM h;simp only[List.length_take]at h2;rw[Jmj (by omega)]at h3;have h4:=List.getElem?_eq_some_iff.1 h3;unfold idx;rw[h3];simp;omega
def oD (e:α->List D):Option (List α)->D
 | none=>.nil
 | some xs=>.sl (xs.map e)
def eOp (e:α->List D) (x:Option (List α)):List D:=[oD e x]
theorem Jd9 {F:Nat->Option Obj} {t elem:TypeId} (hd:P.underlying t=some (.slice elem)) {e:α->List D} {r:Option (List α)} {v:Value} (h:Bo F (oD e r) v):∃ b,nlO r b/\∀ w,(Op.equal t v (.slice none 0 0)).run P w=.ok b w:=by
 have e0:∀ (q:Nat) p m c (w:World),(Op.equalIn (q+1) t (.slice p m c) (.slice none 0 0)).run P w=.ok p.isNone w:=λ q p m c w=>by
  cases p<;>simp[Op.equalIn,run_underlying hd]
 have e1:∀ p m c (w:World),(Op.equal t (.slice p m c) (.slice none 0 0)).run P w=.ok p.isNone w:=λ p m c w=>e0 9999 p m c w;cases r with
 | none=>
  cases h;exact⟨true,rfl,λ w=>e1 none 0 0 w⟩
 | some xs=>
  have h':Bo F (.sl (xs.map e)) v:=h;generalize hl:xs.map e=l at h';cases h' with
  | sl0 ad cap=>exact⟨_,λ hne=>absurd (List.map_eq_nil_iff.1 hl) hne,λ w=>e1 ad 0 cap w⟩
  | sl _ b off cap=>exact⟨_,λ _=>rfl,λ w=>e1 (some ⟨b,off,none⟩) l.length cap w⟩
theorem JaP {o:Oper} {st:St} {nt:Slt} {T:Nat->Ty} (hΓ:I0 P T) {t yt:TypeId} {x y:Operand} {e:α->List D} {r:Option (List α)} {esz eb:Nat} {ez:List D} (hop:o.op=.binOp .neq t x y yt) (hok:(T t).ok=true) (hkind:(T t).kind=.slice esz eb ez) (hx:Al st.env x=.d (oD e r)) (hy:Al st.env y=.d .nil) :
  Mr P nt o st (λ s'=>∃ b,nlO r b/\s'=⟨putA o.dst false true (.d (.bool (!b))) st.env,st.objs⟩):=by
 intro N H0 F0 w0 a w hI hdst rd n K Qw _ hK;obtain⟨F,ρ,hS,hSl,hn,hdf⟩:=hI;obtain⟨d,hd,_,hkd⟩:=(hΓ t hok).desc;rw[hkind]at hkd;obtain⟨elem,i,z,rfl,_⟩:=hkd;have hxr:=A5 hSl x;rw[hx]at hxr;have hyr:=A5 hSl y;rw[hy]at hyr;have hyn:=hyr.nil;generalize hxv:a.eval x=xv at hxr;cases hxr with
 | d _ _ hxd=>
  obtain⟨b,hb,he⟩:=Jd9 hd hxd;have hs:∃ p m c,xv=.slice p m c:=by
   cases r with
   | none=>cases hxd;exact⟨_,_,_,rfl⟩
   | some xs=>
    have h':Bo F (.sl (xs.map e)) xv:=hxd;generalize xs.map e=l at h';cases h'<;>exact⟨_,_,_,rfl⟩
  obtain⟨p,m,c,rfl⟩:=hs;have hrun:(execOp a.eval o).run P w=.ok (.value (.bool (!b))) w:=by
   simp only[execOp,hop,hxv,hyn,eqGuard,binOp,he,JlG,JlE,JlH];simp
  refine C3 (by rw[hop];intro c e;cases e) ?_;unfold Oper.wp;rw[hrun,Oper.upon_value];exact hK _ _ _ ⟨b,hb,rfl⟩ ⟨F,ρ,hS,hSl.putA hn hdst (.mkBool _),hn.put hdst,by rw[put_defers];exact hdf⟩
def Jjv (Γ:Cx) (c:Code) (i:Nat) (s:St):Bool:=match (Bd c)[i]? with
 | some o=>Y0 Γ c o&&(match o.op with
  | .binOp .neq t _ y _=>(Γ.ty t).ok&&(match (Γ.ty t).kind,Al s.env y with
   | .slice _ _ _,.d .nil=>true
   | _,_=>false)
  | _=>false)
 | none=>false
def nlW (c:Code) (i:Nat) (s:St):AV:=match (Bd c)[i]? with
 | some o=>(match o.op with
  | .binOp _ _ x _ _=>Al s.env x
  | _=>.top)
 | none=>.top
theorem nlo (hY:YOK P Γ) (hX:XOK P Γ) {r:Option (List α)} {enc:α->List D} (hk:∀ b,nlO r b->RF Γ C p (i+1) Q ⟨putA (itD (nav p C) i) false true (.d (.bool (!b))) s.env,s.objs⟩) (hb:Jjv Γ (nav p C) i s=true:=by kernel_rfl) (hv:nlW (nav p C) i s=.d (oD enc r):=by kernel_rfl):ND Γ (nav p C) i Q s:=by
 unfold Jjv at hb;unfold itD at hk;unfold nlW at hv;split at hb
 ·rename_i o ho;rw[ho]at hk hv;simp only[Jl0]at hb;obtain⟨hb1,hb2⟩:=hb;split at hb2
  ·rename_i t x y yt hop;simp only[Jl0]at hb2;obtain⟨hb2,hb3⟩:=hb2;split at hb3
   ·rename_i hkd hy;simp only[hop]at hv;refine Qv hY ho hb1 (JaP hX.ty hop hb2 hkd hv hy) λ s' hs=>?_;obtain⟨b,hb,rfl⟩:=hs;exact hk b hb
   ·cases hb3
  ·cases hb2
 ·cases hb
theorem Jjw (t:Nat) {enc:α->List D} {r:Option (List α)} (h:lkA s.env t=.d (oD enc r):=by kernel_rfl):Ay nk s ⟨(t,.d (.sl ((r.getD []).map enc)))::s.env,s.objs⟩:=by
 cases r with
 | none=>exact .nilD t h
 | some xs=>
  have:AV.d (.sl (((some xs).getD []).map enc))=lkA s.env t:=by rw[h];rfl
  rw[this];exact .dup t
def cPG (e:α->List D):List (List α×Int)->List (List D)
 | []=>[]
 | p::r=>[[.sl (p.1.map e),.po (cPG e r),.int .u8 p.2]]
def dPG (e:α->List D) (x:List (List α×Int)):D:=.po (cPG e x)
def ePG (e:α->List D) (x:List (List α×Int)):List D:=[dPG e x]
theorem JeU (t:Nat) {e:α->List D} {x r:List (List α×Int)} {p:List α×Int} (hp:x=p::r) (h:lkA s.env t=.d (dPG e x):=by kernel_rfl):Ay nk s ⟨(t,.dptr [.sl (p.1.map e),dPG e r,.int .u8 p.2] 0)::s.env,s.objs⟩:=by
 subst hp;exact Jjr t h
theorem Y6 {o:Oper} {st:St} {nt:Slt} {t yt tt:TypeId} {b:BinOp} {x y:Operand} {e:α->List D} {r:List (List α×Int)} (hop:o.op=.binOp b t x y yt) (hb:b=.neq\/b=.eql) (hu:P.underlying t=some (.pointer tt)) (hx:Al st.env x=.d (dPG e r)) (hy:Al st.env y=.d .nilp) :
  UQ P nt o true st ⟨putA o.dst false true (.d (.bool (bif decide (b=.eql)then r.isEmpty else !r.isEmpty))) st.env,st.objs⟩:=by
 intro N H0 F0 w0 a w _ hI hdst K Qw hK;obtain⟨F,ρ,hS,hSl,hn,hdf⟩:=hI;have hxr:=A5 hSl x;rw[hx]at hxr;have hyr:=A5 hSl y;rw[hy]at hyr;generalize hxv:a.eval x=xv at hxr;generalize hyv:a.eval y=yv at hyr;have hyn:yv=.pointer none:=by
  cases hyr with
  | d _ _ h=>cases h;rfl
 subst hyn;have hp:∃ ad:Option Addr,xv=.pointer ad/\ad.isNone=r.isEmpty:=by
  cases r with
  | nil=>
   cases hxr with
   | d _ _ h=>
    have h:Bo F (.po []) xv:=h;cases h;exact⟨none,rfl,rfl⟩
  | cons p r=>
   cases hxr with
   | d _ _ h=>
    have h:Bo F (.po ([.sl (p.1.map e),.po (cPG e r),.int .u8 p.2]::[])) xv:=h;cases h;exact⟨_,rfl,rfl⟩
 obtain⟨ad,rfl,had⟩:=hp;have e0:∀ (q:Nat) (w:World),(Op.equalIn (q+1) t (.pointer ad) (.pointer none)).run P w=.ok ad.isNone w:=λ q w=>by
  cases ad<;>simp[Op.equalIn,run_underlying hu]
 have e1:∀ (w:World),(Op.equal t (.pointer ad) (.pointer none)).run P w=.ok ad.isNone w:=λ w=>e0 9999 w;have hrun:(execOp a.eval o).run P w=.ok (.value (.bool (bif decide (b=.eql)then r.isEmpty else !r.isEmpty))) w:=by
  rcases hb with rfl|rfl
  ·simp only[execOp,hop,hxv,hyv,eqGuard,binOp,e1,JlG,JlE,JlH,had];simp
  ·simp only[execOp,hop,hxv,hyv,eqGuard,binOp,e1,JlG,JlE,JlH,had];simp
 unfold Oper.wp;rw[hrun,Oper.upon_value];exact hK _ _ ⟨F,ρ,hS,hSl.putA hn hdst (.mkBool _),hn.put hdst,by rw[put_defers];exact hdf⟩
def Jea:D->D
 | .nilp=>.po []
 | x=>x
theorem JaQ {F:Nat->Option Obj} {x:D} {v:Value} (h:Bo F x v):Bo F (Jea x) v:=by
 cases x with
 | nilp=>cases h;exact .po0
 | _=>exact h
theorem JaR {o:Oper} {st:St} {nt:Slt} {t:TypeId} {x:Operand} {ds:List D} (hop:o.op=.box t x) (hx:Al st.env x=.agg (ds.map .d)) :
  UQ P nt o true st ⟨putA o.dst false true (.d (.po [ds.map Jea])) st.env,st.objs⟩:=by
 intro N H0 F0 w0 a w _ hI hdst K Qw hK;obtain⟨F,ρ,hS,hSl,hn,hdf⟩:=hI;have hxr:=A5 hSl x;rw[hx]at hxr;generalize hxv:a.eval x=xv at hxr;cases hxr with
 | agg _ vs hl hr=>
  have hS':=hS.pushF (.cells vs t);have hle:FLe F (λ b=>if b=w.heap.size then some (.cells vs t)else F b):=λ b o hb=>by
   have:=Av (hS.frz b o hb);simp only[if_neg (show ¬b=w.heap.size by omega)];exact hb
  have hrun:(execOp a.eval o).run P w=.ok (.value (.pointer (some ⟨w.heap.size,0,none⟩))) { w with heap:=w.heap.push (.cells vs t) }:=by
   simp only[execOp,hop,hxv];exact Ec (by simp[Instr.box,newVar,newRow,Value.cells])
  unfold Oper.wp;rw[hrun,Oper.upon_value];refine hK _ _ ⟨_,ρ,hS',(hSl.mono hle (RLe.refl _)).putA hn hdst (.d _ _ (.po (ds.map Jea) [] w.heap.size 0 vs t (0,0) (λ j=>vs.getD j undef) (by simp) (λ j x hj=>?_) λ j x hj=>?_)),hn.put hdst,by rw[put_defers];exact⟨hdf.1.mono hle,hdf.2.1.trans (Mu.push rfl rfl rfl),hdf.2.2⟩⟩
  ·have hlt:j<vs.size:=by have:=Af hj;rw[JlU]at hl this;omega
   simp[Array.getD,hlt]
  ·have hlt:j<vs.size:=by have:=Af hj;rw[JlU]at hl this;omega
   rw[Jl3,Jl2]at hj;obtain⟨x,hj,rfl⟩:=hj;have h1:=hr j (.d x) vs[j] (by rw[Jl3,hj];rfl) (Jl4 hlt);cases h1 with
   | d _ _ h2=>
    have:vs.getD j undef=vs[j]:=by simp[Array.getD,hlt]
    rw[this];exact JaQ (h2.mono hle)
theorem WQ {T:Nat->Ty} (hΓ:I0 P T) {o:Oper} {st:St} {nt:Slt} {d:Operand} {t:TypeId} {k:Nat} {ks:List TK} {ka va ka':Bool} {vz:List D} {dv:AV} {en:List (List D×AV)} (hop:o.op=.call ⟨.builtin .clear,#[d],#[t]⟩) (hok:(T t).ok=true) (hkind:(T t).kind=.map ks ka va vz)
  (hd:Al st.env d=.mp k) (ho:obA st.objs k=some (.nmp ka' dv en)) :
  UQ P nt o true st ⟨putA o.dst false true (.tup []) st.env,st.objs.set k (some (.nmp ka' (.d (.sl [])) []))⟩:=by
 intro N H0 F0 w0 a w _ hI hdst K Qw hK;obtain⟨F,ρ,hS,hSl,hn,hdf⟩:=hI;obtain⟨desc,hde,_,hk⟩:=(hΓ t hok).desc;rw[hkind]at hk;obtain⟨kt,et,i,z,rfl,_⟩:=hk;have hdr:=A5 hSl d;rw[hd]at hdr;generalize hxd:a.eval d=xd at hdr;cases hdr with
 | mp _ L hL=>
  obtain⟨⟨g0,gd,es,clock,g1,gb,g2,g3⟩,_⟩:=hS.obj k L _ hL ho;obtain⟨σ,hσ⟩:=hS.inn;have hLb:=hS.loc k L hL;have hexec:(execOp a.eval o).run P w=.ok (.value (.tuple #[])) { w with heap:=w.heap.setIfInBounds L.b (.map #[] clock) }:=by
   have hget:(getObj L.b).run P w=.ok (.map es clock) w:=by simp[getObj,Sem.run,g1]
   have hset:∀ o,(setObj L.b o).run P w=.ok () { w with heap:=w.heap.setIfInBounds L.b o }:=λ o=>by simp[setObj,Sem.run,g1]
   simp only[execOp,hop,resolve,invoke,builtin,JlG,JlH,JlE,List.map_toArray,JlV,List.map_nil,hxd,Builtin.clear_,List.getElem?_toArray,JlW,run_underlying hde,hget,hset]
  have hat:∀ ob',obA (st.objs.set k (some (.nmp ka' (.d (.sl [])) []))) k=some ob'->ob'=.nmp ka' (.d (.sl [])) []:=λ ob' h=>by
   rw[AT ho]at h;cases h;rfl
  have hO:∀ j ob',j≠k->obA (st.objs.set k (some (.nmp ka' (.d (.sl [])) []))) j=some ob'->obA st.objs j=some ob'/\j≠k:=λ j ob' hj h=>by
   rw[AJ hj]at h;exact⟨h,hj⟩
  have:=hS.rewrite' (k':=k) (L':=L) (x:=.map #[] clock) (O':=st.objs.set k (some (.nmp ka' (.d (.sl [])) []))) hL ho (by rw[BQ hL];exact RLe.refl _) rfl hO (by simp) (by simpa using A6 ho) (λ ob' h=>by
    rw[hat ob' h,BQ hL];exact⟨g0,.d _ _ (.sl0 _ _),#[],clock,by rw[Cj,if_pos ⟨rfl,hLb⟩],⟨λ x hx=>by simp at hx,by simp⟩,rfl,λ i p q hp=>by simp at hp⟩) ⟨σ,hσ.rewrite hS hL ho rfl hO λ ob0 sz es h hr i e j isz xs hi=>by
    rw[hat ob0 h]at hr;cases hr;simp at hi⟩
  rw[BQ hL]at this;unfold Oper.wp;rw[hexec,Oper.upon_value];exact hK _ _ ⟨F,ρ,this,hSl.putA hn hdst (.tup [] #[] rfl λ i a v h=>by simp at h),hn.put hdst,by rw[put_defers];exact⟨hdf.1,hdf.2.1.trans Jlt,hdf.2.2⟩⟩
def Jeb (Γ:Cx) (c:Code) (i k:Nat) (s:St):Option St:=
 match (Bd c)[i]?,Jjo c i with
 | some o,some (d,t)=>bif JaE Γ c o&&(Γ.ty t).ok then(match (Γ.ty t).kind,Al s.env d,obA s.objs k with
  | .map _ _ _ _,.mp k',some (.nmp ka _ _)=>bif Nat.beq k' k then some ⟨putA o.dst false true (.tup []) s.env,s.objs.set k (some (.nmp ka (.d (.sl [])) []))⟩else none
  | _,_,_=>none)else none
 | _,_=>none
theorem xzm (hX:XOK P Γ) (k:Nat) (hk:RF Γ C p (i+1) Q ((Jeb Γ (nav p C) i k s).getD s)) (hn:(Jeb Γ (nav p C) i k s).isSome=true:=by kernel_rfl):RF Γ C p i Q s:=by
 have hn:=BU (d:=s) hn;generalize (Jeb Γ (nav p C) i k s).getD s=s' at hn hk;unfold Jeb at hn;split at hn
 ·rename_i o d t hoo hcl;obtain⟨h0,hn⟩:=AU hn;simp only[Jl0]at h0;obtain⟨h1,h2⟩:=h0;split at hn
  ·rename_i hkd hd ho;obtain⟨h3,hn⟩:=AU hn;have:=Jl6 h3;subst this;cases hn;unfold Jjo at hcl;rw[hoo]at hcl;simp only at hcl;split at hcl
   ·rename_i args ts hop;split at hcl
    ·rename_i d' t1 ha ht;cases hcl;have ha:args=#[d]:=by rw[← Array.toArray_toList (xs:=args),ha]
     have ht:ts=#[t]:=by rw[← Array.toArray_toList (xs:=ts),ht]
     subst ha;subst ht;exact Qt hX hoo h1 (WQ hX.ty hop h2 hkd hd ho) hk
    ·cases hcl
   ·cases hcl
  ·cases hn
 ·cases hn
def Jec (Γ:Cx) (c:Code) (i:Nat) (s:St):Option St:=
 match (Bd c)[i]? with
 | some o=>bif JaE Γ c o then(match o.op with
  | .box _ x=>(match Al s.env x with
   | .agg l=>bif Jd0 l then some ⟨putA o.dst false true (.d (.po [(Vn l).map Jea])) s.env,s.objs⟩else none
   | _=>none)
  | _=>none)else none
 | none=>none
theorem xbd (hX:XOK P Γ) (hk:RF Γ C p (i+1) Q ((Jec Γ (nav p C) i s).getD s)) (hn:(Jec Γ (nav p C) i s).isSome=true:=by kernel_rfl):RF Γ C p i Q s:=by
 have hn:=BU (d:=s) hn;generalize (Jec Γ (nav p C) i s).getD s=s' at hn hk;unfold Jec at hn;split at hn
 ·rename_i o hoo;obtain⟨h1,hn⟩:=AU hn;split at hn
  ·rename_i t x hop;split at hn
   ·rename_i l hx;obtain⟨h2,hn⟩:=AU hn;cases hn;exact Qt hX hoo h1 (JaR (ds:=Vn l) hop (by rw[← TF h2];exact hx)) hk
   ·cases hn
  ·cases hn
 ·cases hn
def Jed (Γ:Cx) (c:Code) (i t:Nat) (b:Bool) (s:St):Option St:=
 match (Bd c)[i]? with
 | some o=>bif JaE Γ c o then(match o.op with
  | .binOp .neq t' _ y _=>(match Al s.env y with
   | .d .nilp=>bif Nat.beq t' t then some ⟨putA o.dst false true (.d (.bool b)) s.env,s.objs⟩else none
   | _=>none)
  | _=>none)else none
 | none=>none
theorem xpn (hX:XOK P Γ) (e:α->List D) {r:List (List α×Int)} {t tt:TypeId} (hu:P.underlying t=some (.pointer tt)) (hk:RF Γ C p (i+1) Q ((Jed Γ (nav p C) i t (!r.isEmpty) s).getD s)) (hx:nlW (nav p C) i s=.d (dPG e r):=by kernel_rfl) (hn:(Jed Γ (nav p C) i t (!r.isEmpty) s).isSome=true:=by kernel_rfl):RF Γ C p i Q s:=by
 have hn:=BU (d:=s) hn;generalize (Jed Γ (nav p C) i t (!r.isEmpty) s).getD s=s' at hn hk;unfold Jed at hn;unfold nlW at hx;split at hn
 ·rename_i o hoo;rw[hoo]at hx;obtain⟨h1,hn⟩:=AU hn;split at hn
  ·rename_i t' x y yt hop;simp only[hop]at hx;split at hn
   ·rename_i hy;obtain⟨h2,hn⟩:=AU hn;cases hn;have:=Jl6 h2;subst this;exact Qt hX hoo h1 (Y6 hop (.inl rfl) hu hx hy) hk
   ·cases hn
  ·cases hn
 ·cases hn
end Go.AI
end
section
namespace Go.AI
variable {P:Program} {α β:Type} {nk:Nat} {s:St} {encN:α->List AV}
theorem Jf6 (k:Nat) {x:α} {n:Int} {zs:List α} {e:α->List D} (hm:List.replicate n.toNat x=zs) (h:Nb s k=some (1,List.replicate n.toNat [.nil])) (hx:e x=[.sl []]):Ay nk s ⟨s.env,s.objs.set k (some (.arr 1 (zs.map e)))⟩:=by
 have ho:=Ks h;subst hm;refine Ay.sem λ N H0 F0 w0 nt a w _ hI=>?_;obtain⟨F,ρ,hS,hSl,hn,hdf⟩:=hI;refine⟨F,ρ,hS.retable (by simp) (λ q L ob hq hob=>?_) ?_,hSl,hn,hdf⟩
 ·by_cases e1:q=k
  ·subst e1;rw[AT ho]at hob;cases hob;refine⟨_,ho,.inr ?_⟩;obtain⟨p1,p2,cs,t,fr,p3,p4,p5,p6⟩:=(hS.obj q L _ hq ho).1;refine⟨λ e' he=>?_,by simpa using p2,cs,t,fr,p3,p4,p5,λ i e' hi j y hy=>?_⟩
   ·rw[List.map_replicate]at he;rw[(List.mem_replicate.1 he).2,hx];rfl
   ·rw[List.map_replicate,List.getElem?_replicate]at hi;split at hi
    ·rename_i hl;cases hi;rw[hx]at hy;cases j with
     | zero=>
      cases hy;obtain⟨v,hv,hd⟩:=p6 i [.nil] (by rw[List.getElem?_replicate,if_pos hl]) 0 .nil rfl;cases hd;exact⟨_,hv,.sl0 _ _⟩
     | succ j=>simp at hy
    ·cases hi
  ·rw[AJ e1]at hob;exact⟨ob,hob,.inl rfl⟩
 ·obtain⟨σ,hσ⟩:=hS.inn;refine⟨σ,hσ.new,λ k' c M j L ob hM hj hob=>?_,hσ.sep,λ j L ob0 sz' es' hj hob hr0=>?_⟩
  ·by_cases e:j=k
   ·subst e;exact hσ.obj k' c M j L _ hM hj ho
   ·rw[AJ e]at hob;exact hσ.obj k' c M j L ob hM hj hob
  ·by_cases e:j=k
   ·subst e;rw[AT ho]at hob;cases hob;cases hr0
   ·rw[AJ e]at hob;exact hσ.rep j L ob0 sz' es' hj hob hr0
theorem XQ {xss:List α} {x:α} {m n:Int} {row:List AV} (hx:idx xss n=some x) (hne:m.toNat≠n.toNat):((xss.map encN).set m.toNat row).set n.toNat (encN x)=(xss.map encN).set m.toNat row:=
 WJ (by rw[Jmf hne,Jl3,(CM hx).2.2];rfl)
theorem Jf7 (k:Nat) {sz:Nat} {xss:List α} {x:α} {m n:Int} {row:List AV} (h:Ej s k=some (sz,(xss.map encN).set m.toNat row)) (hx:idx xss n=some x) (hne:m.toNat≠n.toNat) :
  Ay nk s ⟨s.env,s.objs.set k (some (.narr sz (((xss.map encN).set m.toNat row).set n.toNat (encN x))))⟩:=by
 have ho:=DT h;rw[XQ hx hne,HF ho];exact Ay.sem λ _ _ _ _ _ _ _ _ h=>h
theorem Jf8 (k:Nat) {sz:Nat} {xss:List α} {x:α} {m n:Int} {row:List AV} (h:Ej s k=some (sz,((xss.map encN).set m.toNat row).set n.toNat (encN x))) (hx:idx xss n=some x) (hne:m.toNat≠n.toNat) :
  Ay nk s ⟨s.env,s.objs.set k (some (.narr sz ((xss.map encN).set m.toNat row)))⟩:=by
 have ho:=DT h;rw[XQ hx hne]at ho;rw[HF ho];exact Ay.sem λ _ _ _ _ _ _ _ _ h=>h
theorem Jjx {xss:List α} {x:α} {m n:Int} {row:List AV} (hx:idx xss n=some x):n.toNat<((xss.map encN).set m.toNat row).length:=ltS (ltN hx)
theorem OP {a b:Nat} (h:B7 (decide (a≠b))=some ()):a≠b:=by
 unfold B7 at h;split at h
 ·rename_i h1;exact of_decide_eq_true h1
 ·cases h
theorem Jf9 {xss:List α} {x:α} {row row2:List AV} {m n:Int} {k sz off:Nat} {t:Ty} {v:AV} (h:idx xss n=some x) (hk:obA s.objs k=some (.narr sz (((xss.map encN).set m.toNat row).set n.toNat row2)):=by kernel_rfl) (hv:CA row2 off t=some v:=by kernel_rfl) (hs:(Ar v).all CG=true:=by kernel_rfl) (hl:Nat.ble (off+t.size) row2.length=true:=by kernel_rfl) :
  Ea s (CX t s.objs (.eptr k sz (0+n.toNat) off)) v [] [] none:=by
 have hlt:n.toNat<((xss.map encN).set m.toNat row).length:=Jjx h;have hi:(((xss.map encN).set m.toNat row).set n.toNat row2)[n.toNat]?=some row2:=Jma hlt;refine ES.of (ob:=sz=sz/\0+n.toNat<(((xss.map encN).set m.toNat row).set n.toNat row2).length/\off+t.size<=row2.length/\(Ar v).all CG=true) ?_ ⟨rfl,?_,Jme hl,hs⟩
 ·simp only[CX,hk,Jmd,hi,JlK,hv,A9]
 ·simp only[Jmg,Jmd];rw[Jmg]at hlt;exact hlt
end Go.AI
end
section
namespace Go.AI
variable {P:Program} {F:Nat->Option Obj} {ρ:Nat->Option Loc} {w:World}
theorem Qx:∀ (a r:List TK) (l l':List AV) (b:Bool),Az (a++r) l l'=some b->∃ b1 b2,Az a (l.take a.length) (l'.take a.length)=some b1/\Az r (l.drop a.length) (l'.drop a.length)=some b2/\b=(b1&&b2):=by
 intro a;induction a with
 | nil=>intro r l l' b h;exact⟨true,b,by simp[Az],by simpa using h,by simp⟩
 | cons k a ih=>
  intro r l l' b h;rw[List.cons_append]at h;unfold Az at h;split at h
  ·rename_i heq;cases heq
  all_goals (first|(cases h;done)|skip)
  ·rename_i k0 ks0 k1 x xs0 k2 y ys0 e0;cases e0;split at h
   ·rename_i r' hr';obtain⟨b1,b2,h1,h2,h3⟩:=ih r _ _ _ hr';cases hk:(k1==k2)with
    | false=>rw[hk]at h;cases h
    | true=>
     rw[hk,cond_true]at h;cases h;exact⟨(x==y)&&b1,b2,by simp[Az,h1,hk],by simpa using h2,by rw[h3,Bool.and_assoc]⟩
   ·cases h
  ·rename_i ks0 x xs0 y ys0 e0;cases e0;split at h
   ·rename_i r' hr';obtain⟨b1,b2,h1,h2,h3⟩:=ih r _ _ _ hr';cases h;exact⟨(x==y)&&b1,b2,by simp[Az,h1],by simpa using h2,by rw[h3,Bool.and_assoc]⟩
   ·cases h
  ·rename_i ks0 x xs0 y ys0 e0;cases e0;split at h
   ·rename_i r' hr';obtain⟨b1,b2,h1,h2,h3⟩:=ih r _ _ _ hr';cases h;exact⟨(x==y)&&b1,b2,by simp[Az,h1],by simpa using h2,by rw[h3,Bool.and_assoc]⟩
   ·cases h
def JeV (P:Program) (t:TypeId) (a:List TK):Prop:=∃ fields i,P.underlying t=some (.struct fields)/\P.stoodInHeld t=false/\P.info? t=some i/\i.size=a.length/\fields.size=a.length/\∀ (j:Nat) f k,fields[j]? = some f->a[j]? = some k->f.name ≠ "_"/\f.offset=j/\YN P f.type k
inductive Jee (P:Program) (t:TypeId):List TK->Prop
 | one {k:TK} (h:YN P t k):Jee P t [k]
 | nest {a:List TK} (h:JeV P t a):Jee P t a
inductive JaS (P:Program):List Field->Nat->List TK->Prop
 | nil {i:Nat}:JaS P [] i []
 | cons {f:Field} {fs:List Field} {i:Nat} {a r:List TK} (h0:f.name ≠ "_"/\f.offset=i) (h:Jee P f.type a) (hr:JaS P fs (i+a.length) r):JaS P (f::fs) i (a++r)
def At (F:Nat->Option Obj) (ρ:Nat->Option Loc) (xs:Array Value) (o:Nat) (l:List AV):Prop:=∀ (j:Nat) a,l[j]?=some a->∃ v,xs[o+j]?=some v/\Ak F ρ a v
theorem At.take {xs:Array Value} {o:Nat} {l:List AV} (h:At F ρ xs o l) (n:Nat):At F ρ xs o (l.take n):=λ j a ha=>by
 rw[List.getElem?_take]at ha;split at ha
 ·exact h j a ha
 ·cases ha
theorem At.drop {xs:Array Value} {o:Nat} {l:List AV} (h:At F ρ xs o l) (n:Nat):At F ρ xs (o+n) (l.drop n):=λ j a ha=>by
 rw[JlS]at ha;rw[JlT];exact h _ a ha
theorem LW {t:TypeId} {a:List TK} (h:JeV P t a) (cs:Array Value) (o:Nat):(part t cs o).run P w=.ok (.agg (cs.extract o (o+a.length))) w:=by
 obtain⟨fields,i,h1,_,h3,h4,_⟩:=h;simp only[part,JlG,Lf w h1,JlE,HW,if_true,AY w h3,h4,JlH]
theorem Y7 {t:TypeId} {a:List TK} (h:Jee P t a) (d:Nat) {xs ys:Array Value} {o:Nat} {l l':List AV} {b:Bool} (he:Az a l l'=some b) (hx:At F ρ xs o l) (hy:At F ρ ys o l') :
  ∃ u v,(part t xs o).run P w=.ok u w/\(part t ys o).run P w=.ok v w/\(Op.equalIn (d+1+1) t u v).run P w=.ok b w:=by
 obtain⟨e1,e2⟩:=Gy _ _ _ _ he;cases h with
 | @one k hk=>
  match l,e1 with
  | [x],_=>
   match l',e2 with
   | [y],_=>
    obtain⟨u,hu,hux⟩:=hx 0 x rfl;obtain⟨v,hv,hvy⟩:=hy 0 y rfl;refine⟨u,v,CK (Ja hk) (by simpa using hu),CK (Ja hk) (by simpa using hv),?_⟩;unfold Az at he;split at he
    ·rename_i heq;cases heq
    ·rename_i k0 ks0 k1 p xs0 k2 q ys0 e0 e3 e4;cases e0;simp only[List.cons.injEq]at e3 e4;obtain⟨rfl,rfl⟩:=e3;obtain⟨rfl,rfl⟩:=e4;simp only[Az]at he;cases hkk:(k1==k2)with
     | false=>rw[hkk]at he;cases he
     | true=>
      rw[hkk,cond_true]at he;have:k1=k2:=by simpa using hkk
      subst this;cases he;rw[hux.int,hvy.int,Bool.and_true];obtain⟨k3,hk3⟩:=hk;exact run_equalIn_int w (d+1) t k1 k3 p q hk3
    ·rename_i e0 e3 e4;cases e0;simp only[List.cons.injEq]at e3 e4;obtain⟨rfl,rfl⟩:=e3;obtain⟨rfl,rfl⟩:=e4;simp only[Az,Jl9]at he;subst he;rw[hux.bool,hvy.bool,Bool.and_true];exact run_equalIn_bool' w (d+1) t _ _ hk
    ·rename_i e0 e3 e4;cases e0;simp only[List.cons.injEq]at e3 e4;obtain⟨rfl,rfl⟩:=e3;obtain⟨rfl,rfl⟩:=e4;simp only[Az,Jl9]at he;subst he;rw[hux.str,hvy.str,run_equalIn_string w (d+1) t _ _ hk,Ci,Ci,Bool.and_true]
    ·cases he
 | nest hn=>
  refine⟨_,_,LW hn xs o,LW hn ys o,?_⟩;obtain⟨fields,i,h1,h2,h3,h4,h5,h6⟩:=hn;have hfo:P.fieldsOf t=fields:=by simp[Program.fieldsOf,h1]
  rw[run_equalIn_struct w (d+1) t _ _ (by rw[hfo];exact h1) h2,hfo];have hex:∀ (zs:Array Value) (m:List AV),m.length=a.length->At F ρ zs o m->∀ (j:Nat) c,m[j]?=some c->∃ v,(zs.extract o (o+a.length))[0+j]?=some v/\Ak F ρ c v:=λ zs m hm hz j c hc=>by
   obtain⟨v,hv,hr⟩:=hz j c hc;have hj:=Af hc;refine⟨v,?_,hr⟩;rw[Jmd,Array.getElem?_extract,if_pos (by have:=Av hv;omega)];exact hv
  refine Jb (F:=F) (ρ:=ρ) d _ _ fields.toList a 0 l l' b (by simpa using h5) (λ j f k q1 q2=>?_) he (hex xs l e1 hx) (hex ys l' e2 hy);obtain⟨a1,a2,a3⟩:=h6 j f k (by simpa using q1) q2;exact⟨a1,by omega,a3⟩
theorem TG (d:Nat) {xs ys:Array Value} {fs:List Field} {i:Nat} {ks:List TK} (hs:JaS P fs i ks):∀ {l l':List AV} {r:Bool},Az ks l l'=some r->At F ρ xs i l->At F ρ ys i l'->(Op.eqFields (d+1+1) xs ys fs).run P w=.ok r w:=by
 induction hs with
 | nil=>
  intro l l' r h _ _;cases l with
  | cons=>simp[Az]at h
  | nil=>cases l' with
   | cons=>simp[Az]at h
   | nil=>simp[Az]at h;subst h;rfl
 | @cons f fs i a rs h0 hl _ ih=>
  intro l l' r h hx hy;obtain⟨b1,b2,h1,h2,rfl⟩:=Qx _ _ _ _ _ h;obtain⟨u,v,q1,q2,q3⟩:=Y7 (F:=F) (ρ:=ρ) (w:=w) hl d h1 (hx.take _) (hy.take _);obtain⟨hnm,hoff⟩:=h0;simp only[Op.eqFields];rw[if_pos hnm,hoff];simp only[JlG,q1,q2,JlE,q3];cases b1 with
  | false=>simp
  | true=>simp only[JlM,Jmb,if_false,Bool.true_and];exact ih h2 (hx.drop _) (hy.drop _)
theorem JaT {l:List AV} {xs:Array Value} (h:Ak F ρ (.agg l) (.agg xs)):At F ρ xs 0 l:=by
 cases h with
 | agg _ _ hl hr=>
  intro j a ha;have hj:=Af ha;refine⟨xs[j],?_,hr j a _ ha (Jl4 (by omega))⟩;rw[Jmd];exact Jl4 (by omega)
theorem XR {t:TypeId} {fields:Array Field} {ks:List TK} (hd:P.underlying t=some (.struct fields)) (hst:P.stoodInHeld t=false) (hg:P.eqGuardType P.depth t=false) (hs:JaS P fields.toList 0 ks):MS P t ks:=by
 intro l l' r xs ys F ρ w x y h hx hy;have hfo:P.fieldsOf t=fields:=by simp[Program.fieldsOf,hd]
 have hrun:(Op.equalIn 10000 t (.agg xs) (.agg ys)).run P w=.ok r w:=by
  rw[run_equalIn_struct w 9999 t xs ys (by rw[hfo];exact hd) hst,hfo];exact TG 9997 hs h (JaT hx) (JaT hy)
 constructor
 ·simp only[JlG,run_eqGuard_agg w .eql t x y xs ys hg,JlE];rw[run_eql_struct,hrun];rfl
 ·simp only[JlG,run_eqGuard_agg w .neq t x y xs ys hg,JlE];rw[run_neq_struct,hrun];rfl
theorem TH {t:TypeId} {k:IntKind} (hd:P.underlying t=some (.int k)):HB P t false [.int k]:=by
 have get:∀ (F:Nat->Option Obj) (a b:List D) (x y:Value) (r:Bool),KV F false a x->KV F false b y->Az [.int k] (a.map .d) (b.map .d)=some r->∃ k' m n,x=.int k' m/\y=.int k' n/\r=(m==n):=by
  intro F a b x y r hx hy h;obtain⟨p,rfl,hp⟩:=hx;obtain⟨q,rfl,hq⟩:=hy;cases hp<;>cases hq<;>simp only[JlV,List.map_nil,Az]at h<;>first|(cases h;done)|skip
  rename_i k1 m k2 n;cases hk:(k1==k2)with
  | false=>rw[hk]at h;cases h
  | true=>
   rw[hk]at h;simp only[cond_true,Jl9,Bool.and_true]at h;have:=eq_of_beq hk;subst this;exact⟨_,_,_,rfl,rfl,h.symm⟩
 refine⟨λ F a x w b hx hs=>?_,⟨_,hd,λ F a b x y r hx hy h=>?_⟩,λ F a b x y r w hx hy h=>?_,λ F a b x y hx hy h=>?_⟩
 ·obtain⟨r,hr⟩:=Option.isSome_iff_exists.1 hs;obtain⟨k',m,n,rfl,_,_⟩:=get F a a x x r hx hx hr;show(Instr.checkKey b (9999+1) t (.int k' m)).run P w=_;rw[Instr.checkKey];simp only[JlG,run_underlying hd,JlE];rfl
 ·obtain⟨k',m,n,rfl,rfl,rfl⟩:=get F a b x y r hx hy h;simp[Instr.sameNow]
 ·obtain⟨k',m,n,rfl,rfl,rfl⟩:=get F a b x y r hx hy h;have e0:∀ q,(Op.equalIn (q+1) t (.int k' m) (.int k' n)).run P w=.ok (m==n) w:=λ q=>by simp[Op.equalIn,run_underlying hd]
  exact e0 9999
 ·obtain⟨k',m,n,rfl,rfl,h2⟩:=get F a b x y true hx hy h;have:m=n:=by simpa using h2.symm
  subst this;show Instr.sameBits (9999+1) (.int k' m) (.int k' m)=true;simp[Instr.sameBits]
end Go.AI
end
section
namespace Go.AI
open Go.Proofs
set_option maxRecDepth 100000
theorem Hm:Inf Try.prog 3 1 8 (.int .i64 0):=AK (by kernel_rfl)
theorem JaU:Inf Try.prog 4 1 1 (.bool false):=AK (by kernel_rfl)
theorem LJ:Inf Try.prog 5 1 1 (.int .u8 0):=AK (by kernel_rfl)
theorem RD:Inf Try.prog 9 1 16 (.string ⟨#[]⟩):=AK (by kernel_rfl)
theorem JeW:Inf Try.prog 22 1 24 (.slice none 0 0):=AK (by kernel_rfl)
theorem Jjy:Inf Try.prog 24 3 32 (.agg #[.int .u8 0,.int .u8 0,.slice none 0 0]):=AK (by kernel_rfl)
theorem JeX:Inf Try.prog 26 1 24 (.slice none 0 0):=AK (by kernel_rfl)
theorem JeY:Inf Try.prog 28 3 40 (.agg #[.int .i64 0,.int .u8 0,.slice none 0 0]):=AK (by kernel_rfl)
theorem Vr:Inf Try.prog 30 1 24 (.slice none 0 0):=AK (by kernel_rfl)
theorem JeZ:Inf Try.prog 32 3 56 (.agg #[.slice none 0 0,.string ⟨#[]⟩,.string ⟨#[]⟩]):=AK (by kernel_rfl)
theorem Jjz:Inf Try.prog 33 1 8 (.int .i64 0):=AK (by kernel_rfl)
theorem Je0:Inf Try.prog 42 6 64 (.agg #[.string ⟨#[]⟩,.slice none 0 0,.int .u8 0,.int .u8 0,.int .i64 0,.int .i64 0]):=AK (by kernel_rfl)
theorem JaV:Inf Try.prog 44 1 24 (.slice none 0 0):=AK (by kernel_rfl)
theorem Je1:Inf Try.prog 45 2 2 (.agg #[.int .u8 0,.int .u8 0]):=AK (by kernel_rfl)
theorem Je2:Inf Try.prog 47 6 56 (.agg #[.slice none 0 0,.slice none 0 0,.int .u8 0,.int .u8 0,.int .u8 0,.int .u8 0]):=AK (by kernel_rfl)
theorem JjA:Inf Try.prog 50 1 24 (.slice none 0 0):=AK (by kernel_rfl)
theorem Je3:Inf Try.prog 51 3 3 (.agg #[.int .u8 0,.int .u8 0,.int .u8 0]):=AK (by kernel_rfl)
theorem Je4:Inf Try.prog 52 1 1 (.int .u8 0):=AK (by kernel_rfl)
theorem Je5:Inf Try.prog 59 1 24 (.slice none 0 0):=AK (by kernel_rfl)
theorem JjB:Inf Try.prog 60 1 24 (.slice none 0 0):=AK (by kernel_rfl)
theorem Je6:Inf Try.prog 63 1 8 (.pointer none):=AK (by kernel_rfl)
theorem JjC:Inf Try.prog 66 1 8 (.pointer none):=AK (by kernel_rfl)
theorem JjD:Inf Try.prog 70 1 8 (.pointer none):=AK (by kernel_rfl)
theorem JjE:Inf Try.prog 72 8 112 (.agg #[.int .i64 0,.int .u8 0,.slice none 0 0,.int .i64 0,.slice none 0 0,.string ⟨#[]⟩,.string ⟨#[]⟩,.bool false]):=AK (by kernel_rfl)
theorem JjF:Inf Try.prog 74 1 24 (.slice none 0 0):=AK (by kernel_rfl)
theorem XS:Inf Try.prog 79 3 24 (.agg #[.int .i64 0,.int .i64 0,.int .u8 0]):=AK (by kernel_rfl)
theorem Je7:Inf Try.prog 82 1 24 (.slice none 0 0):=AK (by kernel_rfl)
theorem JjG:Inf Try.prog 87 2 16 (.agg #[.int .i64 0,.int .i64 0]):=AK (by kernel_rfl)
theorem JjH:Inf Try.prog 90 1 24 (.slice none 0 0):=AK (by kernel_rfl)
theorem Je8:Inf Try.prog 92 1 24 (.slice none 0 0):=AK (by kernel_rfl)
theorem JjI:Inf Try.prog 94 1 8 (.map none):=AK (by kernel_rfl)
theorem Je9:Inf Try.prog 95 1 24 (.slice none 0 0):=AK (by kernel_rfl)
theorem JjJ:Inf Try.prog 97 3 56 (.agg #[.slice none 0 0,.slice none 0 0,.bool false]):=AK (by kernel_rfl)
theorem Jfa:Inf Try.prog 98 1 24 (.slice none 0 0):=AK (by kernel_rfl)
theorem JaW:Inf Try.prog 100 3 48 (.agg #[.string ⟨#[]⟩,.slice none 0 0,.int .i64 0]):=AK (by kernel_rfl)
theorem JaX:Inf Try.prog 101 1 8 (.map none):=AK (by kernel_rfl)
theorem JaY:Inf Try.prog 102 1 8 (.map none):=AK (by kernel_rfl)
theorem JaZ:Inf Try.prog 103 1 24 (.slice none 0 0):=AK (by kernel_rfl)
theorem Ja0:Inf Try.prog 104 1 24 (.slice none 0 0):=AK (by kernel_rfl)
theorem Jga:Inf Try.prog 106 5 72 (.agg #[.pointer none,.slice none 0 0,.map none,.slice none 0 0,.map none]):=AK (by kernel_rfl)
theorem Ja1:Inf Try.prog 109 2 24 (.agg #[.int .i64 0,.string ⟨#[]⟩]):=AK (by kernel_rfl)
theorem WR:Inf Try.prog 111 2 16 (.agg #[.int .i64 0,.int .i64 0]):=AK (by kernel_rfl)
theorem Qy:Inf Try.prog 113 2 24 (.agg #[.int .i64 0,.string ⟨#[]⟩]):=AK (by kernel_rfl)
theorem Ja2:Inf Try.prog 115 4 40 (.agg #[.int .i64 0,.int .i64 0,.int .i64 0,.string ⟨#[]⟩]):=AK (by kernel_rfl)
theorem WS:Inf Try.prog 117 1 8 (.pointer none):=AK (by kernel_rfl)
theorem WT:Inf Try.prog 118 1 24 (.slice none 0 0):=AK (by kernel_rfl)
theorem Jgb:Inf Try.prog 120 3 40 (.agg #[.slice none 0 0,.pointer none,.int .u8 0]):=AK (by kernel_rfl)
theorem Jgc:Inf Try.prog 121 1 24 (.slice none 0 0):=AK (by kernel_rfl)
theorem Jgd:Inf Try.prog 122 1 8 (.map none):=AK (by kernel_rfl)
theorem Ja3:Inf Try.prog 125 1 24 (.slice none 0 0):=AK (by kernel_rfl)
theorem Jge:Inf Try.prog 126 5 120 (.agg #[.slice none 0 0,.slice none 0 0,.slice none 0 0,.slice none 0 0,.slice none 0 0]):=AK (by kernel_rfl)
theorem Ja4:Inf Try.prog 132 6 56 (.agg #[.int .i64 0,.int .i64 0,.int .u8 0,.int .i64 0,.int .i64 0,.string ⟨#[]⟩]):=AK (by kernel_rfl)
theorem Ja5:Inf Try.prog 138 3 24 (.agg #[.int .i64 0,.int .i64 0,.int .i64 0]):=AK (by kernel_rfl)
theorem Jgf:Inf Try.prog 139 1 8 (.map none):=AK (by kernel_rfl)
theorem Jgg:Inf Try.prog 140 1 24 (.slice none 0 0):=AK (by kernel_rfl)
theorem Jgh:Inf Try.prog 142 1 24 (.slice none 0 0):=AK (by kernel_rfl)
theorem Ja6:Inf Try.prog 146 4 48 (.agg #[.int .i64 0,.string ⟨#[]⟩,.int .i64 0,.string ⟨#[]⟩]):=AK (by kernel_rfl)
theorem Ja7:Inf Try.prog 148 5 56 (.agg #[.int .i64 0,.int .i64 0,.string ⟨#[]⟩,.int .i64 0,.string ⟨#[]⟩]):=AK (by kernel_rfl)
theorem Jgi:Inf Try.prog 149 1 24 (.slice none 0 0):=AK (by kernel_rfl)
theorem Ja8:Inf Try.prog 150 1 24 (.slice none 0 0):=AK (by kernel_rfl)
theorem Ja9:Inf Try.prog 153 3 32 (.agg #[.int .u8 0,.string ⟨#[]⟩,.int .i64 0]):=AK (by kernel_rfl)
def ty:Nat->Ty
 | 3=>⟨true,[],1,false,[.int .i64 0],.int .i64⟩
 | 4=>⟨true,[],1,false,[.bool false],.bool⟩
 | 5=>⟨true,[],1,false,[.int .u8 0],.int .u8⟩
 | 9=>⟨true,[],1,false,[.str []],.string⟩
 | 22=>⟨true,[],1,false,[.nil],.slice 6 56 [.nil,.nil,.int .u8 0,.int .u8 0,.int .u8 0,.int .u8 0]⟩
 | 24=>⟨true,[],3,true,[.int .u8 0,.int .u8 0,.nil],.struct [(0,1),(1,1),(2,1)]⟩
 | 26=>⟨true,[],1,false,[.nil],.slice 6 64 [.str [],.nil,.int .u8 0,.int .u8 0,.int .i64 0,.int .i64 0]⟩
 | 28=>⟨true,[],3,true,[.int .i64 0,.int .u8 0,.nil],.struct [(0,1),(1,1),(2,1)]⟩
 | 30=>⟨true,[],1,false,[.nil],.slice 1 1 [.int .u8 0]⟩
 | 32=>⟨true,[],3,true,[.nil,.str [],.str []],.struct [(0,1),(1,1),(2,1)]⟩
 | 33=>⟨true,[],1,false,[.int .i64 0],.int .i64⟩
 | 42=>⟨true,[],6,true,[.str [],.nil,.int .u8 0,.int .u8 0,.int .i64 0,.int .i64 0],.struct [(0,1),(1,1),(2,1),(3,1),(4,1),(5,1)]⟩
 | 44=>⟨true,[],1,false,[.nil],.slice 1 1 [.int .u8 0]⟩
 | 45=>⟨true,[.int .u8,.int .u8],2,true,[.int .u8 0,.int .u8 0],.array 2 1⟩
 | 47=>⟨true,[],6,true,[.nil,.nil,.int .u8 0,.int .u8 0,.int .u8 0,.int .u8 0],.struct [(0,1),(1,1),(2,1),(3,1),(4,2)]⟩
 | 50=>⟨true,[],1,false,[.nil],.slice 3 3 [.int .u8 0,.int .u8 0,.int .u8 0]⟩
 | 51=>⟨true,[.int .u8,.int .u8,.int .u8],3,true,[.int .u8 0,.int .u8 0,.int .u8 0],.array 3 1⟩
 | 52=>⟨true,[],1,false,[.int .u8 0],.int .u8⟩
 | 59=>⟨true,[],1,false,[.nil],.slice 1 16 [.str []]⟩
 | 60=>⟨true,[],1,false,[.nil],.slice 1 24 [.nil]⟩
 | 63=>⟨true,[],1,false,[.nilp],.other⟩
 | 66=>⟨true,[],1,false,[.nilp],.other⟩
 | 70=>⟨true,[],1,false,[.nilp],.other⟩
 | 72=>⟨true,[],8,true,[.int .i64 0,.int .u8 0,.nil,.int .i64 0,.nil,.str [],.str [],.bool false],.struct [(0,3),(3,1),(4,3),(7,1)]⟩
 | 74=>⟨true,[],1,false,[.nil],.slice 6 56 [.int .i64 0,.int .i64 0,.int .u8 0,.int .i64 0,.int .i64 0,.str []]⟩
 | 79=>⟨true,[.int .i64,.int .i64,.int .u8],3,true,[.int .i64 0,.int .i64 0,.int .u8 0],.struct [(0,1),(1,1),(2,1)]⟩
 | 82=>⟨true,[],1,false,[.nil],.slice 1 8 [.int .i64 0]⟩
 | 87=>⟨true,[.int .i64,.int .i64],2,true,[.int .i64 0,.int .i64 0],.array 2 1⟩
 | 90=>⟨true,[],1,false,[.nil],.slice 3 24 [.int .i64 0,.int .i64 0,.int .u8 0]⟩
 | 92=>⟨true,[],1,false,[.nil],.slice 1 1 [.bool false]⟩
 | 94=>⟨true,[],1,false,[.nilm],.map [.int .i64,.int .i64,.int .u8] true false [.int .i64 0]⟩
 | 95=>⟨true,[],1,false,[.nil],.slice 1 24 [.nil]⟩
 | 97=>⟨true,[],3,true,[.nil,.nil,.bool false],.struct [(0,1),(1,1),(2,1)]⟩
 | 98=>⟨true,[],1,false,[.nil],.slice 3 48 [.str [],.nil,.int .i64 0]⟩
 | 100=>⟨true,[],3,true,[.str [],.nil,.int .i64 0],.struct [(0,1),(1,1),(2,1)]⟩
 | 101=>⟨true,[],1,false,[.nilm],.map [.int .i64,.string] true false [.int .i64 0]⟩
 | 102=>⟨true,[],1,false,[.nilm],.map [.int .i64,.int .i64] true true [.int .i64 0,.int .i64 0,.str [],.int .i64 0,.str []]⟩
 | 103=>⟨true,[],1,false,[.nil],.slice 2 24 [.int .i64 0,.str []]⟩
 | 104=>⟨true,[],1,false,[.nil],.slice 1 24 [.nil]⟩
 | 106=>⟨true,[],5,true,[.nilp,.nil,.nilm,.nil,.nilm],.struct [(0,1),(1,1),(2,1),(3,1),(4,1)]⟩
 | 109=>⟨true,[.int .i64,.string],2,true,[.int .i64 0,.str []],.struct [(0,1),(1,1)]⟩
 | 111=>⟨true,[.int .i64,.int .i64],2,true,[.int .i64 0,.int .i64 0],.struct [(0,1),(1,1)]⟩
 | 113=>⟨true,[.int .i64,.string],2,true,[.int .i64 0,.str []],.struct [(0,1),(1,1)]⟩
 | 115=>⟨true,[.int .i64,.int .i64,.int .i64,.string],4,true,[.int .i64 0,.int .i64 0,.int .i64 0,.str []],.struct [(0,2),(2,2)]⟩
 | 117=>⟨true,[],1,false,[.nilp],.other⟩
 | 118=>⟨true,[],1,false,[.nil],.slice 4 40 [.int .i64 0,.int .i64 0,.int .i64 0,.str []]⟩
 | 120=>⟨true,[],3,true,[.nil,.nilp,.int .u8 0],.struct [(0,1),(1,1),(2,1)]⟩
 | 121=>⟨true,[],1,false,[.nil],.slice 1 8 [.nilp]⟩
 | 122=>⟨true,[],1,false,[.nilm],.map [.int .u8] false false [.nil]⟩
 | 125=>⟨true,[],1,false,[.nil],.slice 1 24 [.nil]⟩
 | 126=>⟨true,[],5,true,[.nil,.nil,.nil,.nil,.nil],.array 5 1⟩
 | 132=>⟨true,[.int .i64,.int .i64,.int .u8,.int .i64,.int .i64,.string],6,true,[.int .i64 0,.int .i64 0,.int .u8 0,.int .i64 0,.int .i64 0,.str []],.struct [(0,3),(3,1),(4,1),(5,1)]⟩
 | 138=>⟨true,[.int .i64,.int .i64,.int .i64],3,true,[.int .i64 0,.int .i64 0,.int .i64 0],.struct [(0,1),(1,1),(2,1)]⟩
 | 139=>⟨true,[],1,false,[.nilm],.map [.int .i64,.int .i64,.int .i64] true false [.bool false]⟩
 | 140=>⟨true,[],1,false,[.nil],.slice 3 24 [.int .i64 0,.int .i64 0,.int .i64 0]⟩
 | 142=>⟨true,[],1,false,[.nil],.slice 1 24 [.nil]⟩
 | 146=>⟨true,[],4,true,[.int .i64 0,.str [],.int .i64 0,.str []],.array 2 2⟩
 | 148=>⟨true,[],5,true,[.int .i64 0,.int .i64 0,.str [],.int .i64 0,.str []],.struct [(0,1),(1,4)]⟩
 | 149=>⟨true,[],1,false,[.nil],.slice 2 24 [.int .i64 0,.str []]⟩
 | 150=>⟨true,[],1,false,[.nil],.slice 3 32 [.int .u8 0,.str [],.int .i64 0]⟩
 | 153=>⟨true,[.int .u8,.string,.int .i64],3,true,[.int .u8 0,.str [],.int .i64 0],.struct [(0,1),(1,1),(2,1)]⟩
 | _=>⟨false,[],0,false,[],.other⟩
theorem tf3:AD Try.prog 3 (ty 3):=tfM Hm Try.underlying3 rfl
theorem tf4:AD Try.prog 4 (ty 4):=tfM JaU Try.underlying4 rfl
theorem tf5:AD Try.prog 5 (ty 5):=tfM LJ Try.underlying5 rfl
theorem tf9:AD Try.prog 9 (ty 9):=tfM RD Try.underlying9 rfl
theorem JkP:AD Try.prog 22 (ty 22):=tfM JeW Try.underlying22 (slK Je2)
theorem JkQ:AD Try.prog 24 (ty 24):=tfM Jjy Try.underlying24 (stF (A3 (BW LJ Try.underlying5) (A3 (BW LJ Try.underlying5) (A3 (BW JeW Try.underlying22) FA))))
theorem JkR:AD Try.prog 26 (ty 26):=tfM JeX Try.underlying26 (slK Je0)
theorem JkS:AD Try.prog 28 (ty 28):=tfM JeY Try.underlying28 (stF (A3 (BW Hm Try.underlying3) (A3 (BW LJ Try.underlying5) (A3 (BW JeX Try.underlying26) FA))))
theorem JkT:AD Try.prog 30 (ty 30):=tfM Vr Try.underlying30 (slK Je4 (λ _=>Try.underlying52))
theorem JkU:AD Try.prog 32 (ty 32):=tfM JeZ Try.underlying32 (stF (A3 (BW Vr Try.underlying30) (A3 (BW RD Try.underlying9) (A3 (BW RD Try.underlying9) FA))))
theorem JkV:AD Try.prog 33 (ty 33):=tfM Jjz Try.underlying33 rfl
theorem JkW:AD Try.prog 42 (ty 42):=tfM Je0 Try.underlying42 (stF (A3 (BW RD Try.underlying9) (A3 (BW Vr Try.underlying30) (A3 (BW LJ Try.underlying5) (A3 (BW LJ Try.underlying5) (A3 (BW Hm Try.underlying3) (A3 (BW Hm Try.underlying3) FA)))))))
theorem JkX:AD Try.prog 44 (ty 44):=tfM JaV Try.underlying44 (slK LJ (λ _=>Try.underlying5))
theorem JkY:AD Try.prog 45 (ty 45):=tfM Je1 Try.underlying45 (arK LJ) (λ _=>WB Try.underlying45 Try.underlying5 LJ (by kernel_rfl))
theorem JkZ:AD Try.prog 47 (ty 47):=tfM Je2 Try.underlying47 (stF (A3 (BW JaV Try.underlying44) (A3 (BW JaV Try.underlying44) (A3 (BW LJ Try.underlying5) (A3 (BW LJ Try.underlying5) (A3 (BW Je1 Try.underlying45) FA))))))
theorem Jk0:AD Try.prog 50 (ty 50):=tfM JjA Try.underlying50 (slK Je3)
theorem Jk1:AD Try.prog 51 (ty 51):=tfM Je3 Try.underlying51 (arK LJ) (λ _=>WB Try.underlying51 Try.underlying5 LJ (by kernel_rfl))
theorem Jk2:AD Try.prog 52 (ty 52):=tfM Je4 Try.underlying52 rfl
theorem Jk3:AD Try.prog 59 (ty 59):=tfM Je5 Try.underlying59 (slK RD)
theorem Jk4:AD Try.prog 60 (ty 60):=tfM JjB Try.underlying60 (slK Vr)
theorem Jk5:AD Try.prog 63 (ty 63):=tfM Je6 Try.underlying63 trivial
theorem Jk6:AD Try.prog 66 (ty 66):=tfM JjC Try.underlying66 trivial
theorem Jk7:AD Try.prog 70 (ty 70):=tfM JjD Try.underlying70 trivial
theorem Jk8:AD Try.prog 72 (ty 72):=tfM JjE Try.underlying72 (stF (A3 (BW JeY Try.underlying28) (A3 (BW Hm Try.underlying3) (A3 (BW JeZ Try.underlying32) (A3 (BW JaU Try.underlying4) FA)))))
theorem Jk9:AD Try.prog 74 (ty 74):=tfM JjF Try.underlying74 (slK Ja4)
theorem Jla:AD Try.prog 79 (ty 79):=tfM XS Try.underlying79 (stF (A3 (BW Hm Try.underlying3) (A3 (BW Hm Try.underlying3) (A3 (BW LJ Try.underlying5) FA)))) (λ _=>Lj Try.underlying79 (by kernel_rfl) (by kernel_rfl) rfl λ j f k h1 h2=>match j,h1,h2 with|0,h1,h2=>(by cases h1;cases h2;exact⟨by decide,rfl,⟨_,Try.underlying3⟩⟩)|1,h1,h2=>(by cases h1;cases h2;exact⟨by decide,rfl,⟨_,Try.underlying3⟩⟩)|2,h1,h2=>(by cases h1;cases h2;exact⟨by decide,rfl,⟨_,Try.underlying5⟩⟩)|n+3,h1,_=>by simp at h1)
theorem Jlb:AD Try.prog 82 (ty 82):=tfM Je7 Try.underlying82 (slK Hm)
theorem Jlc:AD Try.prog 87 (ty 87):=tfM JjG Try.underlying87 (arK Hm) (λ _=>WB Try.underlying87 Try.underlying3 Hm (by kernel_rfl))
theorem Jld:AD Try.prog 90 (ty 90):=tfM JjH Try.underlying90 (slK XS)
theorem Jle:AD Try.prog 92 (ty 92):=tfM Je8 Try.underlying92 (slK JaU)
theorem Jlf:AD Try.prog 94 (ty 94):=tfM JjI Try.underlying94 (by obtain⟨j,h1,h2,h3,h4⟩:=Hm;exact⟨_,_,j,_,rfl,(Gp Try.underlying79 (by kernel_rfl) rfl λ j f k h1 h2=>match j,h1,h2 with|0,h1,h2=>(by cases h1;cases h2;exact⟨by decide,rfl,⟨_,Try.underlying3⟩⟩)|1,h1,h2=>(by cases h1;cases h2;exact⟨by decide,rfl,⟨_,Try.underlying3⟩⟩)|2,h1,h2=>(by cases h1;cases h2;exact⟨by decide,rfl,⟨_,Try.underlying5⟩⟩)|n+3,h1,_=>by simp at h1),h1,h4,rfl,(λ h=>by cases h),(λ _=>⟨_,rfl,rfl⟩)⟩)
theorem Jlg:AD Try.prog 95 (ty 95):=tfM Je9 Try.underlying95 (slK Jfa)
theorem Jlh:AD Try.prog 97 (ty 97):=tfM JjJ Try.underlying97 (stF (A3 (BW Je9 Try.underlying95) (A3 (BW Je8 Try.underlying92) (A3 (BW JaU Try.underlying4) FA))))
theorem Jli:AD Try.prog 98 (ty 98):=tfM Jfa Try.underlying98 (slK JaW)
theorem JjK:AD Try.prog 100 (ty 100):=tfM JaW Try.underlying100 (stF (A3 (BW RD Try.underlying9) (A3 (BW Vr Try.underlying30) (A3 (BW Hm Try.underlying3) FA))))
theorem JjL:AD Try.prog 101 (ty 101):=tfM JaX Try.underlying101 (by obtain⟨j,h1,h2,h3,h4⟩:=Hm;exact⟨_,_,j,_,rfl,(Gp Try.underlying109 (by kernel_rfl) rfl λ j f k h1 h2=>match j,h1,h2 with|0,h1,h2=>(by cases h1;cases h2;exact⟨by decide,rfl,⟨_,Try.underlying3⟩⟩)|1,h1,h2=>(by cases h1;cases h2;exact⟨by decide,rfl,Try.underlying9⟩)|n+2,h1,_=>by simp at h1),h1,h4,rfl,(λ h=>by cases h),(λ _=>⟨_,rfl,rfl⟩)⟩)
theorem JjM:AD Try.prog 102 (ty 102):=tfM JaY Try.underlying102 (by obtain⟨j,h1,h2,h3,h4⟩:=Ja7;exact⟨_,_,j,_,rfl,(Gp Try.underlying111 (by kernel_rfl) rfl λ j f k h1 h2=>match j,h1,h2 with|0,h1,h2=>(by cases h1;cases h2;exact⟨by decide,rfl,⟨_,Try.underlying3⟩⟩)|1,h1,h2=>(by cases h1;cases h2;exact⟨by decide,rfl,⟨_,Try.underlying3⟩⟩)|n+2,h1,_=>by simp at h1),h1,h4,rfl,(λ _=>⟨_,rfl,rfl⟩),(λ h=>by cases h)⟩)
theorem JjN:AD Try.prog 103 (ty 103):=tfM JaZ Try.underlying103 (slK Ja1)
theorem JjO:AD Try.prog 104 (ty 104):=tfM Ja0 Try.underlying104 (slK Ja8)
theorem JjP:AD Try.prog 106 (ty 106):=tfM Jga Try.underlying106 (stF (A3 (BW Je6 Try.underlying63) (A3 (BW JaZ Try.underlying103) (A3 (BW JaX Try.underlying101) (A3 (BW Ja0 Try.underlying104) (A3 (BW JaY Try.underlying102) FA))))))
theorem JjQ:AD Try.prog 109 (ty 109):=tfM Ja1 Try.underlying109 (stF (A3 (BW Hm Try.underlying3) (A3 (BW RD Try.underlying9) FA))) (λ _=>Lj Try.underlying109 (by kernel_rfl) (by kernel_rfl) rfl λ j f k h1 h2=>match j,h1,h2 with|0,h1,h2=>(by cases h1;cases h2;exact⟨by decide,rfl,⟨_,Try.underlying3⟩⟩)|1,h1,h2=>(by cases h1;cases h2;exact⟨by decide,rfl,Try.underlying9⟩)|n+2,h1,_=>by simp at h1)
theorem JjR:AD Try.prog 111 (ty 111):=tfM WR Try.underlying111 (stF (A3 (BW Hm Try.underlying3) (A3 (BW Hm Try.underlying3) FA))) (λ _=>Lj Try.underlying111 (by kernel_rfl) (by kernel_rfl) rfl λ j f k h1 h2=>match j,h1,h2 with|0,h1,h2=>(by cases h1;cases h2;exact⟨by decide,rfl,⟨_,Try.underlying3⟩⟩)|1,h1,h2=>(by cases h1;cases h2;exact⟨by decide,rfl,⟨_,Try.underlying3⟩⟩)|n+2,h1,_=>by simp at h1)
theorem JjS:AD Try.prog 113 (ty 113):=tfM Qy Try.underlying113 (stF (A3 (BW Hm Try.underlying3) (A3 (BW RD Try.underlying9) FA))) (λ _=>Lj Try.underlying113 (by kernel_rfl) (by kernel_rfl) rfl λ j f k h1 h2=>match j,h1,h2 with|0,h1,h2=>(by cases h1;cases h2;exact⟨by decide,rfl,⟨_,Try.underlying3⟩⟩)|1,h1,h2=>(by cases h1;cases h2;exact⟨by decide,rfl,Try.underlying9⟩)|n+2,h1,_=>by simp at h1)
theorem JjT:AD Try.prog 115 (ty 115):=tfM Ja2 Try.underlying115 (stF (A3 (BW WR Try.underlying111) (A3 (BW Qy Try.underlying113) FA))) (λ _=>XR Try.underlying115 (by kernel_rfl) (by kernel_rfl) (.cons (a:=[.int .i64,.int .i64]) ⟨by decide,rfl⟩ (.nest (by obtain⟨j,h1,h2,_⟩:=WR;exact⟨_,j,Try.underlying111,(by kernel_rfl),h1,h2,rfl,λ j f k h1 h2=>match j,h1,h2 with|0,h1,h2=>(by cases h1;cases h2;exact⟨by decide,rfl,⟨_,Try.underlying3⟩⟩)|1,h1,h2=>(by cases h1;cases h2;exact⟨by decide,rfl,⟨_,Try.underlying3⟩⟩)|n+2,h1,_=>by simp at h1⟩)) (.cons (a:=[.int .i64,.string]) ⟨by decide,rfl⟩ (.nest (by obtain⟨j,h1,h2,_⟩:=Qy;exact⟨_,j,Try.underlying113,(by kernel_rfl),h1,h2,rfl,λ j f k h1 h2=>match j,h1,h2 with|0,h1,h2=>(by cases h1;cases h2;exact⟨by decide,rfl,⟨_,Try.underlying3⟩⟩)|1,h1,h2=>(by cases h1;cases h2;exact⟨by decide,rfl,Try.underlying9⟩)|n+2,h1,_=>by simp at h1⟩)) .nil)))
theorem JjU:AD Try.prog 117 (ty 117):=tfM WS Try.underlying117 trivial
theorem JjV:AD Try.prog 118 (ty 118):=tfM WT Try.underlying118 (slK Ja2)
theorem JjW:AD Try.prog 120 (ty 120):=tfM Jgb Try.underlying120 (stF (A3 (BW WT Try.underlying118) (A3 (BW WS Try.underlying117) (A3 (BW LJ Try.underlying5) FA))))
theorem JjX:AD Try.prog 121 (ty 121):=tfM Jgc Try.underlying121 (slK WS)
theorem JjY:AD Try.prog 122 (ty 122):=tfM Jgd Try.underlying122 (by obtain⟨j,h1,h2,h3,h4⟩:=WT;exact⟨_,_,j,_,rfl,(TH Try.underlying5),h1,h4,rfl,(λ h=>by cases h),(λ _=>⟨_,rfl,rfl⟩)⟩)
theorem JjZ:AD Try.prog 125 (ty 125):=tfM Ja3 Try.underlying125 (slK Je5)
theorem Jj0:AD Try.prog 126 (ty 126):=tfM Jge Try.underlying126 (arK Ja3)
theorem Jj1:AD Try.prog 132 (ty 132):=tfM Ja4 Try.underlying132 (stF (A3 (BW XS Try.underlying79) (A3 (BW Hm Try.underlying3) (A3 (BW Hm Try.underlying3) (A3 (BW RD Try.underlying9) FA))))) (λ _=>XR Try.underlying132 (by kernel_rfl) (by kernel_rfl) (.cons (a:=[.int .i64,.int .i64,.int .u8]) ⟨by decide,rfl⟩ (.nest (by obtain⟨j,h1,h2,_⟩:=XS;exact⟨_,j,Try.underlying79,(by kernel_rfl),h1,h2,rfl,λ j f k h1 h2=>match j,h1,h2 with|0,h1,h2=>(by cases h1;cases h2;exact⟨by decide,rfl,⟨_,Try.underlying3⟩⟩)|1,h1,h2=>(by cases h1;cases h2;exact⟨by decide,rfl,⟨_,Try.underlying3⟩⟩)|2,h1,h2=>(by cases h1;cases h2;exact⟨by decide,rfl,⟨_,Try.underlying5⟩⟩)|n+3,h1,_=>by simp at h1⟩)) (.cons (a:=[.int .i64]) ⟨by decide,rfl⟩ (.one ⟨_,Try.underlying3⟩) (.cons (a:=[.int .i64]) ⟨by decide,rfl⟩ (.one ⟨_,Try.underlying3⟩) (.cons (a:=[.string]) ⟨by decide,rfl⟩ (.one Try.underlying9) .nil)))))
theorem Jj2:AD Try.prog 138 (ty 138):=tfM Ja5 Try.underlying138 (stF (A3 (BW Hm Try.underlying3) (A3 (BW Hm Try.underlying3) (A3 (BW Hm Try.underlying3) FA)))) (λ _=>Lj Try.underlying138 (by kernel_rfl) (by kernel_rfl) rfl λ j f k h1 h2=>match j,h1,h2 with|0,h1,h2=>(by cases h1;cases h2;exact⟨by decide,rfl,⟨_,Try.underlying3⟩⟩)|1,h1,h2=>(by cases h1;cases h2;exact⟨by decide,rfl,⟨_,Try.underlying3⟩⟩)|2,h1,h2=>(by cases h1;cases h2;exact⟨by decide,rfl,⟨_,Try.underlying3⟩⟩)|n+3,h1,_=>by simp at h1)
theorem Jj3:AD Try.prog 139 (ty 139):=tfM Jgf Try.underlying139 (by obtain⟨j,h1,h2,h3,h4⟩:=JaU;exact⟨_,_,j,_,rfl,(Gp Try.underlying138 (by kernel_rfl) rfl λ j f k h1 h2=>match j,h1,h2 with|0,h1,h2=>(by cases h1;cases h2;exact⟨by decide,rfl,⟨_,Try.underlying3⟩⟩)|1,h1,h2=>(by cases h1;cases h2;exact⟨by decide,rfl,⟨_,Try.underlying3⟩⟩)|2,h1,h2=>(by cases h1;cases h2;exact⟨by decide,rfl,⟨_,Try.underlying3⟩⟩)|n+3,h1,_=>by simp at h1),h1,h4,rfl,(λ h=>by cases h),(λ _=>⟨_,rfl,rfl⟩)⟩)
theorem Jj4:AD Try.prog 140 (ty 140):=tfM Jgg Try.underlying140 (slK Ja5)
theorem Jj5:AD Try.prog 142 (ty 142):=tfM Jgh Try.underlying142 (slK Je7)
theorem Jj6:AD Try.prog 146 (ty 146):=tfM Ja6 Try.underlying146 (arK Qy)
theorem Jj7:AD Try.prog 148 (ty 148):=tfM Ja7 Try.underlying148 (stF (A3 (BW Hm Try.underlying3) (A3 (BW Ja6 Try.underlying146) FA)))
theorem Jj8:AD Try.prog 149 (ty 149):=tfM Jgi Try.underlying149 (slK Qy)
theorem Jj9:AD Try.prog 150 (ty 150):=tfM Ja8 Try.underlying150 (slK Ja9)
theorem Jka:AD Try.prog 153 (ty 153):=tfM Ja9 Try.underlying153 (stF (A3 (BW LJ Try.underlying5) (A3 (BW RD Try.underlying9) (A3 (BW Hm Try.underlying3) FA)))) (λ _=>Lj Try.underlying153 (by kernel_rfl) (by kernel_rfl) rfl λ j f k h1 h2=>match j,h1,h2 with|0,h1,h2=>(by cases h1;cases h2;exact⟨by decide,rfl,⟨_,Try.underlying5⟩⟩)|1,h1,h2=>(by cases h1;cases h2;exact⟨by decide,rfl,Try.underlying9⟩)|2,h1,h2=>(by cases h1;cases h2;exact⟨by decide,rfl,⟨_,Try.underlying3⟩⟩)|n+3,h1,_=>by simp at h1)
theorem tyOK:I0 Try.prog ty:=by
 intro t h;unfold ty at h;split at h
 ·exact tf3
 ·exact tf4
 ·exact tf5
 ·exact tf9
 ·exact JkP
 ·exact JkQ
 ·exact JkR
 ·exact JkS
 ·exact JkT
 ·exact JkU
 ·exact JkV
 ·exact JkW
 ·exact JkX
 ·exact JkY
 ·exact JkZ
 ·exact Jk0
 ·exact Jk1
 ·exact Jk2
 ·exact Jk3
 ·exact Jk4
 ·exact Jk5
 ·exact Jk6
 ·exact Jk7
 ·exact Jk8
 ·exact Jk9
 ·exact Jla
 ·exact Jlb
 ·exact Jlc
 ·exact Jld
 ·exact Jle
 ·exact Jlf
 ·exact Jlg
 ·exact Jlh
 ·exact Jli
 ·exact JjK
 ·exact JjL
 ·exact JjM
 ·exact JjN
 ·exact JjO
 ·exact JjP
 ·exact JjQ
 ·exact JjR
 ·exact JjS
 ·exact JjT
 ·exact JjU
 ·exact JjV
 ·exact JjW
 ·exact JjX
 ·exact JjY
 ·exact JjZ
 ·exact Jj0
 ·exact Jj1
 ·exact Jj2
 ·exact Jj3
 ·exact Jj4
 ·exact Jj5
 ·exact Jj6
 ·exact Jj7
 ·exact Jj8
 ·exact Jj9
 ·exact Jka
 ·cases h
theorem follows:Try.prog.follows .mixedOrders=true:=by kernel_rfl
def qfT:List (Nat×Nat):=[]
theorem Jlj:∀ f k,(f,k)∈qfT->∀ vs:Array Value,vs.size=k->QD Try.prog (MR f vs):=λ _ _ h=>by cases h
def cxk (n nk:Nat):Cx:=⟨ty,⟨n,[],nk,qfT⟩,AQ Try.prog,BV Try.prog,OF Try.prog,Mr Try.prog,HY Try.prog,false⟩
theorem Jfb (n nk:Nat):Gv Try.prog (cxk n nk):=⟨tyOK,λ _ _ _ h=>h,λ _ _ _ _ _ _ h=>h,λ _ _ _ _ _ h=>h,λ _ _ _ _ h=>h,λ _ _ _ _ _ h=>h,Jlj,λ h=>by cases h⟩
end Go.AI
end
section
namespace Go.AI
structure AE where
 Print:(List UInt8)
 Cells:(List Int)
 Left:Int
 Right:Int
 From:Int
 To:Int
 deriving DecidableEq,Inhabited
structure Ab where
 Modes:Int
 Accept:Int
 Rules:(List AE)
 deriving DecidableEq,Inhabited
structure Ae where
 Mode:Int
 Last:Int
 Need:Int
 deriving DecidableEq,Inhabited
structure Fv where
 Print:(List UInt8)
 Cells:(List Int)
 To:Int
 deriving DecidableEq,Inhabited
structure As where
 Arcs:(List (List Fv))
 Accepts:(List Bool)
 Alive:Bool
 deriving DecidableEq,Inhabited
structure Ai where
 Cell:Int
 Print:(List UInt8)
 To:Int
 deriving DecidableEq,Inhabited
structure BY where
 Side:Int
 Text:(List UInt8)
 deriving DecidableEq,Inhabited
structure Ao where
 A:Int
 B:Int
 deriving DecidableEq,Inhabited
structure Aj where
 Pair:Ao
 Lead:BY
 deriving DecidableEq,Inhabited
structure Bq where
 Nodes:(List Aj)
 From:(List ((List Aj)×Int))
 Cell:Int
 deriving DecidableEq,Inhabited
def TI (x:(List ((List Aj)×Int))):Option Bq:=(pgo x).map λ y=>{ Nodes:=y.1.1,From:=y.2,Cell:=y.1.2 }
structure Bk where
 Cells:(List Int)
 A:(List UInt8)
 B:(List UInt8)
 deriving DecidableEq,Inhabited
structure Ad where
 State:Int
 Rest:(List UInt8)
 deriving DecidableEq,Inhabited
structure EC (α:Type) where
 a0:α
 a1:α
 deriving DecidableEq,Inhabited
structure Ap where
 N:Int
 Leads:(EC BY)
 deriving DecidableEq,Inhabited
structure AW where
 Cell:Int
 Byte:Int
 State:Int
 deriving DecidableEq,Inhabited
structure C0 where
 P:(List Int)
 C:(List Int)
 L:Int
 R:Int
 W:(EC Int)
 deriving DecidableEq,Inhabited
structure JZ where
 Base:Int
 Drop:Int
 More:(List C0)
 deriving DecidableEq,Inhabited
structure Ah where
 S:Ae
 Rule:Int
 At:Int
 Text:(List UInt8)
 deriving DecidableEq,Inhabited
structure Aa where
 T:Ab
 Left:Int
 C:Bk
 Ok:Bool
 deriving DecidableEq,Inhabited
structure Jlq (α:Type) where
 a0:α
 a1:α
 a2:α
 deriving DecidableEq,Inhabited
def OQ (_:Nat) (c:(List (List UInt8))) (d:(List (List Int))) (a:Ab) (b:Int):Option ((Ab×Int)⊕Ab):=
 if decide (b<((c.length:Nat):Int))=true then
  (idx c b).bind λ e=>
  (idx d b).bind λ f=>
  (app 64 a.Rules [({ Print:=e,Cells:=f,Left:=63,Right:=63,From:=0,To:=0 }:AE)]).bind λ g=>
  some (.inl (({ Modes:=a.Modes,Accept:=a.Accept,Rules:=g }:Ab),(Be .i64 b 1)))
 else
  some (.inr a)
def FD (n:Nat) (a:(List (List UInt8))) (b:(List (List Int))):Option Ab:=
 (whl (λ (x:(Ab×Int))=>OQ n a b x.1 x.2) n (({ Modes:=1,Accept:=1,Rules:=([]:List AE) }:Ab),0)).bind λ c=>
 some c
def G3 (_:Nat) (a:Int):Option Bool:=
 some ((decide (32<=Cs .u8 a 127))&&(decide (Cs .u8 a 127<=126)))
def H3 (n:Nat) (b:(List UInt8)) (a:Int):Option (Int⊕(Unit⊕(Int×Int))):=
 if decide (a<((b.length:Nat):Int))=true then
  (Iu b a).bind λ c=>
  (G3 n c).bind λ d=>
  if(!d)=true then
   some (.inr (.inr (a,60)))
  else
   some (.inl (Be .i64 a 1))
 else
  some (.inr (.inl ()))
def Nc (n:Nat) (a:(List UInt8)):Option (Int×Int):=
 (whl (λ (x:Int)=>H3 n a x) n 0).bind λ b=>
 match b with
 | Sum.inl _=>
  some (((a.length:Nat):Int),0)
 | Sum.inr c=>
  some c
def Hu (_:Nat) (a:Int):Option Int:=
 if((decide (97<=Cs .u8 a 127))&&(decide (Cs .u8 a 127<=122)))=true then
  some 1
 else
  if((decide (65<=Cs .u8 a 127))&&(decide (Cs .u8 a 127<=90)))=true then
   some 2
  else
   if((decide (48<=Cs .u8 a 127))&&(decide (Cs .u8 a 127<=57)))=true then
    some 3
   else
    if((Cs .u8 a 127)==32)=true then
     some 4
    else
     some 5
def E3 (n:Nat) (b:(List UInt8)) (a:Int):Option (Int⊕(Unit⊕Bool)):=
 if decide (a<((b.length:Nat):Int))=true then
  (Iu b a).bind λ c=>
  (Hu n c).bind λ d=>
  if(d==4)=true then
   some (.inr (.inr true))
  else
   some (.inl (Be .i64 a 1))
 else
  some (.inr (.inl ()))
def Hn (n:Nat) (a:(List UInt8)):Option Bool:=
 (whl (λ (x:Int)=>E3 n a x) n 0).bind λ b=>
 match b with
 | Sum.inl _=>
  some false
 | Sum.inr c=>
  some c
def NV (_:Nat) (a:Int):Option Bool:=
 some (decide (a<64))
def Ho (n:Nat) (b:AE) (a:Int):Option (Int⊕(Unit⊕Bool)):=
 if decide (a<((b.Cells.length:Nat):Int))=true then
  (idx b.Cells a).bind λ c=>
  (NV n c).bind λ d=>
  if(((!d)||(c==63))||(c==0))=true then
   some (.inr (.inr false))
  else
   some (.inl (Be .i64 a 1))
 else
  some (.inr (.inl ()))
def Ln (n:Nat) (a:AE) (b:Int):Option Bool:=
 if(((decide (((a.Print.length:Nat):Int)>4))||(decide (((a.Cells.length:Nat):Int)<1)))||(decide (((a.Cells.length:Nat):Int)>4)))=true then
  some false
 else
  (Nc n a.Print).bind λ d=>
  if(d.2 != 0)=true then
   some false
  else
   if((((decide (a.Left<1))||(decide (a.Left>63)))||(decide (a.Right<1)))||(decide (a.Right>63)))=true then
    some false
   else
    if((((decide (a.From<0))||(decide (a.From>=b)))||(decide (a.To<0)))||(decide (a.To>=b)))=true then
     some false
    else
     (Hn n a.Print).bind λ e=>
     if e=true then
      (if((((a.Print.length:Nat):Int)==1)&&(((a.Cells.length:Nat):Int)==1))=true then idx a.Cells 0 else some default).bind λ f=>
      some (((((a.Print.length:Nat):Int)==1)&&(((a.Cells.length:Nat):Int)==1))&&(f==0))
     else
      (whl (λ (x:Int)=>Ho n a x) n 0).bind λ g=>
      match g with
      | Sum.inl _=>
       some true
      | Sum.inr c=>
       some c
def Hp (_:Nat) (b:(List Int)) (c:(List Int)) (a:Int):Option (Int⊕(Unit⊕Bool)):=
 if decide (a<((b.length:Nat):Int))=true then
  (idx b a).bind λ d=>
  (idx c a).bind λ e=>
  if(d != e)=true then
   some (.inr (.inr false))
  else
   some (.inl (Be .i64 a 1))
 else
  some (.inr (.inl ()))
def Lo (n:Nat) (a:(List Int)) (b:(List Int)):Option Bool:=
 if(((a.length:Nat):Int) != ((b.length:Nat):Int))=true then
  some false
 else
  (whl (λ (x:Int)=>Hp n a b x) n 0).bind λ c=>
  match c with
  | Sum.inl _=>
   some true
  | Sum.inr d=>
   some d
def Lp (n:Nat) (a:AE) (b:AE):Option Bool:=
 (if(((((a.From==b.From)&&(a.To==b.To))&&(a.Left==b.Left))&&(a.Right==b.Right))&&(a.Print==b.Print))=true then Lo n a.Cells b.Cells else some default).bind λ c=>
 some ((((((a.From==b.From)&&(a.To==b.To))&&(a.Left==b.Left))&&(a.Right==b.Right))&&(a.Print==b.Print))&&c)
def FE (n:Nat) (_:Ab) (b:Int) (d:AE) (c:(List AE)) (a:Int):Option (Int⊕(Unit⊕(Int×Int))):=
 if decide (a<((c.length:Nat):Int))=true then
  (idx c a).bind λ e=>
  (Lp n e d).bind λ f=>
  if f=true then
   some (.inr (.inr (b,20)))
  else
   some (.inl (Be .i64 a 1))
 else
  some (.inr (.inl ()))
def FF (n:Nat) (b:Ab) (a:Int):Option (Int⊕(Unit⊕(Int×Int))):=
 if decide (a<((b.Rules.length:Nat):Int))=true then
  (idx b.Rules a).bind λ e=>
  (Ln n e b.Modes).bind λ f=>
  if(!f)=true then
   some (.inr (.inr (a,20)))
  else
   (sub b.Rules 0 a).bind λ g=>
   (whl (λ (x:Int)=>FE n b a e g x) n 0).bind λ c=>
   match c with
   | Sum.inl _=>
    some (.inl (Be .i64 a 1))
   | Sum.inr d=>
    some (.inr (.inr d))
 else
  some (.inr (.inl ()))
def Lq (n:Nat) (a:Ab):Option (Int×Int):=
 if((decide (a.Modes<1))||(decide (a.Modes>8)))=true then
  some ((-1),1)
 else
  (if(!(a.Accept==0))=true then B7 (decide (0<=a.Modes))else some default).bind λ _=>
  if((a.Accept==0)||(decide (IntKind.i64.wrap a.Accept>=Qg .i64 1 a.Modes)))=true then
   some ((-1),1)
  else
   if((decide (((a.Rules.length:Nat):Int)<1))||(decide (((a.Rules.length:Nat):Int)>64)))=true then
    some ((-1),1)
   else
    (whl (λ (x:Int)=>FF n a x) n 0).bind λ b=>
    match b with
    | Sum.inl _=>
     some (0,0)
    | Sum.inr c=>
     some c
def Lr (n:Nat) (a:Ab):Option Bool:=
 (Lq n a).bind λ b=>
 some (b.2==0)
def NW (_:Nat) :Option Ae:=
 some ({ Mode:=0,Last:=0,Need:=63 }:Ae)
def Jf (_:Nat) (b:Int) (a:Int):Option Bool:=
 (if((decide (0<=a))&&(decide (a<8)))=true then B7 (decide (0<=a))else some default).bind λ _=>
 some (((decide (0<=a))&&(decide (a<8)))&&((Cs .u8 (Jdq .u8 b a) 1)==1))
def Ku (n:Nat) (d:Ab) (a:Ae) (c:Int):Option (Ae×Bool):=
 if((decide (c<0))||(decide (c>=((d.Rules.length:Nat):Int))))=true then
  some (({ Mode:=0,Last:=0,Need:=0 }:Ae),false)
 else
  (idx d.Rules c).bind λ b=>
  (if(!(b.From != a.Mode))=true then Jf n b.Left a.Last else some default).bind λ e=>
  if((b.From != a.Mode)||(!e))=true then
   some (({ Mode:=0,Last:=0,Need:=0 }:Ae),false)
  else
   if(b.Print==[])=true then
    if((Cs .u8 a.Need b.Right)==0)=true then
     some (({ Mode:=0,Last:=0,Need:=0 }:Ae),false)
    else
     some (({ Mode:=b.To,Last:=a.Last,Need:=Cs .u8 a.Need b.Right }:Ae),true)
   else
    (Iu b.Print 0).bind λ i=>
    (Hu n i).bind λ f=>
    (Jf n a.Need f).bind λ g=>
    if(!g)=true then
     some (({ Mode:=0,Last:=0,Need:=0 }:Ae),false)
    else
     (Iu b.Print (C4 .i64 ((b.Print.length:Nat):Int) 1)).bind λ j=>
     (Hu n j).bind λ h=>
     some (({ Mode:=b.To,Last:=h,Need:=b.Right }:Ae),true)
def Df (_:Nat) (d:Int) (a:(List Ae)) (c:(List (List Int))) (b:(List (Ae×Int))):Option (((List Ae)×(List (List Int))×(List (Ae×Int))×Int)⊕((List Ae)×(List (List Int))×(List (Ae×Int)))):=
 some (.inl (a,c,b,(Be .i64 d 1)))
def El (n:Nat) (e:Int) (f:Int) (b:(List Ae)) (a:(List (List Int))) (c:(List (Ae×Int))) (d:Int):Option (((List Ae)×(List (List Int))×(List (Ae×Int))×Int)⊕((List Ae)×(List (List Int))×(List (Ae×Int)))):=
 (idx a d).bind λ g=>
 (app 8 g [e]).bind λ h=>
 Df n f b (List.set a d.toNat h) c
def B4 (n:Nat) (g:Ab) (f:Int) (a:(List Ae)) (c:(List (List Int))) (b:(List (Ae×Int))) (d:Int):Option (((List Ae)×(List (List Int))×(List (Ae×Int))×Int)⊕((List Ae)×(List (List Int))×(List (Ae×Int)))):=
 if decide (d<((g.Rules.length:Nat):Int))=true then
  (idx a f).bind λ h=>
  (Ku n g h d).bind λ e=>
  if(!e.2)=true then
   Df n d a c b
  else
   if(!(Option.isSome (BR e.1 b)))=true then
    (app 24 a [e.1]).bind λ i=>
    (app 24 c [([]:(List Int))]).bind λ j=>
    El n f d i j (Eh e.1 ((a.length:Nat):Int) b) ((a.length:Nat):Int)
   else
    El n f d a c b (Option.getD (BR e.1 b) 0)
 else
  some (.inr (a,c,b))
def Dg (n:Nat) (f:Ab) (a:(List Ae)) (b:(List (List Int))) (c:(List (Ae×Int))) (d:Int):Option (((List Ae)×(List (List Int))×(List (Ae×Int))×Int)⊕((List Ae)×(List (List Int)))):=
 if decide (d<((a.length:Nat):Int))=true then
  (whl (λ (x:((List Ae)×(List (List Int))×(List (Ae×Int))×Int))=>B4 n f d x.1 x.2.1 x.2.2.1 x.2.2.2) n (a,b,c,0)).bind λ e=>
  some (.inl (e.1,e.2.1,e.2.2,(Be .i64 d 1)))
 else
  some (.inr (a,b))
def GC (n:Nat) (c:Ab):Option ((List Ae)×(List (List Int))):=
 (NW n).bind λ a=>
 (whl (λ (x:((List Ae)×(List (List Int))×(List (Ae×Int))×Int))=>Dg n c x.1 x.2.1 x.2.2.1 x.2.2.2) n ([a],([[]]:List (List Int)),(Eh a 0 []),0)).bind λ b=>
 some (b.1,b.2)
def Mw (n:Nat) (a:Ab):Option (List Ae):=
 (GC n a).bind λ b=>
 some b.1
def GD (n:Nat) (b:Ab) (a:Ae):Option Bool:=
 (if decide (a.Mode<b.Modes)=true then Jf n b.Accept a.Mode else some default).bind λ c=>
 (if((decide (a.Mode<b.Modes))&&c)=true then Jf n a.Need 0 else some default).bind λ d=>
 some (((decide (a.Mode<b.Modes))&&c)&&d)
def FG (_:Nat) (c:Int) (a:(List Bool)) (b:(List Int)):Option (((List Bool)×(List Int)×Int)⊕((List Bool)×(List Int))):=
 some (.inl (a,b,(Be .i64 c 1)))
def ED (n:Nat) (e:Ab) (d:((List Ae)×(List (List Int)))) (a:(List Bool)) (b:(List Int)) (c:Int):Option (((List Bool)×(List Int)×Int)⊕((List Bool)×(List Int))):=
 if decide (c<((d.1.length:Nat):Int))=true then
  (idx d.1 c).bind λ f=>
  (GD n e f).bind λ g=>
  if g=true then
   (idx a c).bind λ _=>
   (put a c true).bind λ h=>
   (app 8 b [c]).bind λ i=>
   FG n c h i
  else
   FG n c a b
 else
  some (.inr (a,b))
def FH (_:Nat) (c:Int) (a:(List Bool)) (b:(List Int)):Option (((List Bool)×(List Int)×Int)⊕((List Bool)×(List Int))):=
 some (.inl (a,b,(Be .i64 c 1)))
def EE (n:Nat) (_:((List Ae)×(List (List Int)))) (e:(List Int)) (a:(List Bool)) (b:(List Int)) (c:Int):Option (((List Bool)×(List Int)×Int)⊕((List Bool)×(List Int))):=
 if decide (c<((e.length:Nat):Int))=true then
  (idx e c).bind λ d=>
  (idx a d).bind λ f=>
  if(!f)=true then
   (idx a d).bind λ _=>
   (put a d true).bind λ g=>
   (app 8 b [d]).bind λ h=>
   FH n c g h
  else
   FH n c a b
 else
  some (.inr (a,b))
def Hq (n:Nat) (c:((List Ae)×(List (List Int)))) (b:(List Bool)) (a:(List Int)):Option (((List Bool)×(List Int))⊕(List Bool)):=
 if decide (((a.length:Nat):Int)>0)=true then
  (idx a (C4 .i64 ((a.length:Nat):Int) 1)).bind λ e=>
  (sub a 0 (C4 .i64 ((a.length:Nat):Int) 1)).bind λ g=>
  (idx c.2 e).bind λ f=>
  (whl (λ (x:((List Bool)×(List Int)×Int))=>EE n c f x.1 x.2.1 x.2.2) n (b,g,0)).bind λ d=>
  some (.inl (d.1,d.2))
 else
  some (.inr b)
def Ls (n:Nat) (b:Ab):Option (List Bool):=
 (GC n b).bind λ a=>
 (mkl 1 ((a.1.length:Nat):Int) (false:Bool)).bind λ e=>
 (whl (λ (x:((List Bool)×(List Int)×Int))=>ED n b a x.1 x.2.1 x.2.2) n (e,([]:List Int),0)).bind λ c=>
 (whl (λ (x:((List Bool)×(List Int)))=>Hq n a x.1 x.2) n (c.1,c.2)).bind λ d=>
 some d
def GE (_:Nat) (d:(List Ai)) (b:Ai) (a:Int):Option (Int⊕(Unit⊕Int)):=
 if decide (a<((d.length:Nat):Int))=true then
  (idx d a).bind λ c=>
  if((b.Cell==c.Cell)&&((b.Print==c.Print)&&((b.To==c.To)&&true)))=true then
   some (.inr (.inr a))
  else
   some (.inl (Be .i64 a 1))
 else
  some (.inr (.inl ()))
def Qz (n:Nat) (a:(List Ai)) (b:Ai):Option Int:=
 (whl (λ (x:Int)=>GE n a b x) n 0).bind λ c=>
 match c with
 | Sum.inl _=>
  some (-1)
 | Sum.inr d=>
  some d
def Lt (n:Nat) (a:(List Ai)) (b:Ai):Option Bool:=
 (Qz n a b).bind λ c=>
 some (decide (c>=0))
def D5 (_:Nat) (a:(List UInt8)) (b:(List UInt8)):Option (((List UInt8)×(List UInt8))⊕(((List UInt8)×(List UInt8))⊕BY)):=
 if((!(a==[]))&&(!(b==[])))=true then
  (Iu a 0).bind λ c=>
  (Iu b 0).bind λ d=>
  if(c != d)=true then
   some (.inr (.inr ({ Side:=3,Text:=[] }:BY)))
  else
   (sub a 1 ((a.length:Nat):Int)).bind λ e=>
   (sub b 1 ((b.length:Nat):Int)).bind λ f=>
   some (.inl (e,f))
 else
  some (.inr (.inl (a,b)))
def Cv (n:Nat) (b:(List UInt8)) (c:(List UInt8)):Option BY:=
 (whl (λ (x:((List UInt8)×(List UInt8)))=>D5 n x.1 x.2) n (b,c)).bind λ d=>
 match d with
 | Sum.inl a=>
  if(!(a.1==[]))=true then
   some ({ Side:=1,Text:=a.1 }:BY)
  else
   if(!(a.2==[]))=true then
    some ({ Side:=2,Text:=a.2 }:BY)
   else
    some ({ Side:=0,Text:=[] }:BY)
 | Sum.inr e=>
  some e
def FI (n:Nat) (a:BY) (b:(List UInt8)) (c:(List UInt8)):Option BY:=
 if(a.Side==1)=true then
  (cat a.Text b).bind λ d=>
  Cv n d c
 else
  if(a.Side==2)=true then
   (cat a.Text c).bind λ e=>
   Cv n b e
  else
   if(a.Side==3)=true then
    some a
   else
    Cv n b c
def Cz (_:Nat) (a:Aj):Option Aj:=
 some a
def EF (n:Nat) (a:Aj):Option Aj:=
 if((decide (a.Pair.A<a.Pair.B))||((a.Pair.A==a.Pair.B)&&(a.Lead.Side != 2)))=true then
  some a
 else
  if(a.Lead.Side==1)=true then
   Cz n ({ Pair:=({ A:=a.Pair.B,B:=a.Pair.A }:Ao),Lead:=({ Side:=2,Text:=a.Lead.Text }:BY) }:Aj)
  else
   if(a.Lead.Side==2)=true then
    Cz n ({ Pair:=({ A:=a.Pair.B,B:=a.Pair.A }:Ao),Lead:=({ Side:=1,Text:=a.Lead.Text }:BY) }:Aj)
   else
    Cz n ({ Pair:=({ A:=a.Pair.B,B:=a.Pair.A }:Ao),Lead:=a.Lead }:Aj)
def ET (_:Nat) (a:(List Int)) (b:Int) (c:Int):Option (((List Int)×Int×Int)⊕(List Int)):=
 if decide (b<c)=true then
  (idx a c).bind λ e=>
  (idx a b).bind λ f=>
  (idx a b).bind λ _=>
  (put a b e).bind λ d=>
  (idx d c).bind λ _=>
  (put d c f).bind λ g=>
  some (.inl (g,(Be .i64 b 1),(C4 .i64 c 1)))
 else
  some (.inr a)
def Jg (n:Nat) (a:(List Int)):Option (List Int):=
 (whl (λ (x:((List Int)×Int×Int))=>ET n x.1 x.2.1 x.2.2) n (a,0,(C4 .i64 ((a.length:Nat):Int) 1))).bind λ b=>
 some b
def Dt (_:Nat) (a:(List Int)) (b:(List ((List Aj)×Int))):Option (((List Int)×(List ((List Aj)×Int)))⊕(List Int)):=
 (TI b).bind λ g1=>
 if(!List.isEmpty g1.From)=true then
  (app 1 a [g1.Cell]).bind λ c=>
  some (.inl (c,g1.From))
 else
  some (.inr a)
def E4 (n:Nat) (a:Bq):Option (List Int):=
 (whl (λ (x:((List Int)×(List ((List Aj)×Int))))=>Dt n x.1 x.2) n (([]:List Int),((a.Nodes,a.Cell)::a.From))).bind λ b=>
 (Jg n b).bind λ c=>
 (B7 (decide (List.length b=List.length c))).bind λ _=>
 some c
def EU (_:Nat) (c:(List Int)) (b:(List Int)) (a:Int):Option (Int⊕(Unit⊕Bool)):=
 if decide (a<((b.length:Nat):Int))=true then
  (idx b a).bind λ d=>
  (idx c a).bind λ e=>
  if(e != d)=true then
   some (.inr (.inr false))
  else
   some (.inl (Be .i64 a 1))
 else
  some (.inr (.inl ()))
def HG (n:Nat) (a:(List Int)) (b:(List Int)):Option Bool:=
 if decide (((a.length:Nat):Int)<((b.length:Nat):Int))=true then
  some false
 else
  (whl (λ (x:Int)=>EU n a b x) n 0).bind λ c=>
  match c with
  | Sum.inl _=>
   some true
  | Sum.inr d=>
   some d
def C6 (_:Nat) (a:(List (List UInt8))) (b:(List UInt8)):Option (List (List UInt8)):=
 if(((a.length:Nat):Int)==0)=true then
  some [b]
 else
  (idx a 0).bind λ c=>
  if(Op.bytesLess b c)=true then
   (idx a 0).bind λ d=>
   some [b,d]
  else
   (idx a 0).bind λ e=>
   if(b==e)=true then
    some a
   else
    (if(!(((a.length:Nat):Int)==1))=true then idx a 1 else some default).bind λ f=>
    if((((a.length:Nat):Int)==1)||(Op.bytesLess b f))=true then
     (idx a 0).bind λ g=>
     some [g,b]
    else
     some a
def CO (_:Nat) (c:As) (_:(List Int)) (a:(List (List (List (List UInt8))))) (b:Int):Option (((List (List (List (List UInt8))))×Int)⊕(List (List (List (List UInt8))))):=
 if decide (b<5)=true then
  (idx a b).bind λ _=>
  (mkl 24 ((c.Arcs.length:Nat):Int) ([]:(List (List UInt8)))).bind λ d=>
  (B7 (decide ((0:Int)<=b/\b<((5:Nat):Int)))).bind λ _=>
  some (.inl ((List.set a b.toNat d),(Be .i64 b 1)))
 else
  some (.inr a)
def Du (_:Nat) (b:Int) (a:(List (List UInt8))):Option (((List (List UInt8))×Int)⊕(List (List UInt8))):=
 some (.inl (a,(Be .i64 b 1)))
def Cb (n:Nat) (_:As) (_:(List Int)) (_:(List (List (List (List UInt8))))) (_:Int) (_:(List (List (List UInt8)))) (_:(List (List (List UInt8)))) (_:Int) (_:(List Fv)) (_:Int) (d:Fv) (c:(List (List UInt8))) (a:(List (List UInt8))) (b:Int):Option (((List (List UInt8))×Int)⊕(List (List UInt8))):=
 if decide (b<((c.length:Nat):Int))=true then
  (idx c b).bind λ e=>
  (cat d.Print e).bind λ g=>
  (C6 n a g).bind λ f=>
  some (.inl (f,(Be .i64 b 1)))
 else
  some (.inr a)
def Cc (n:Nat) (j:As) (g:(List Int)) (a:(List (List (List (List UInt8))))) (c:Int) (k:(List (List (List UInt8)))) (f:(List (List (List UInt8)))) (i:Int) (h:(List Fv)) (d:(List (List UInt8))) (b:Int):Option (((List (List UInt8))×Int)⊕(List (List UInt8))):=
 if decide (b<((h.length:Nat):Int))=true then
  (idx h b).bind λ e=>
  (sub g c ((g.length:Nat):Int)).bind λ l=>
  (HG n l e.Cells).bind λ m=>
  if(!m)=true then
   Du n b d
  else
   (B7 (decide (Int.toNat (Bl c 5)≠Int.toNat (Bl (Be .i64 c ((e.Cells.length:Nat):Int)) 5)))).bind λ _=>
   (idx a (Bl (Be .i64 c ((e.Cells.length:Nat):Int)) 5)).bind λ o=>
   (B7 (decide ((0:Int)<=Bl (Be .i64 c ((e.Cells.length:Nat):Int)) 5/\Bl (Be .i64 c ((e.Cells.length:Nat):Int)) 5<((5:Nat):Int)))).bind λ _=>
   (idx o e.To).bind λ p=>
   (whl (λ (x:((List (List UInt8))×Int))=>Cb n j g a c k f i h b e p x.1 x.2) n (d,0)).bind λ q=>
   Du n b q
 else
  some (.inr d)
def CP (n:Nat) (e:As) (f:(List Int)) (c:(List (List (List (List UInt8))))) (g:Int) (h:(List (List (List UInt8)))) (a:(List (List (List UInt8)))) (b:Int) (d:(List (List UInt8))):Option (((List (List (List UInt8)))×Int)⊕(List (List (List (List UInt8))))):=
 (idx e.Arcs b).bind λ i=>
 (whl (λ (x:((List (List UInt8))×Int))=>Cc n e f c g h a b i x.1 x.2) n (d,0)).bind λ j=>
 (idx a b).bind λ _=>
 (put a b j).bind λ k=>
 some (.inl (k,(Be .i64 b 1)))
def Cd (n:Nat) (f:As) (e:(List Int)) (a:(List (List (List (List UInt8))))) (d:Int) (g:(List (List (List UInt8)))) (b:(List (List (List UInt8)))) (c:Int):Option (((List (List (List UInt8)))×Int)⊕(List (List (List (List UInt8))))):=
 if decide (c<((g.length:Nat):Int))=true then
  (if(d==((e.length:Nat):Int))=true then idx f.Accepts c else some default).bind λ h=>
  if((d==((e.length:Nat):Int))&&h)=true then
   CP n f e a d g b c ([[]])
  else
   CP n f e a d g b c ([]:List (List UInt8))
 else
  some (.inr (List.set a (Int.toNat (Bl d 5)) b))
def Dv (n:Nat) (d:As) (e:(List Int)) (a:(List (List (List (List UInt8))))) (b:Int):Option (((List (List (List (List UInt8))))×Int)⊕(List (List (List (List UInt8))))):=
 if decide (b>=0)=true then
  (idx a (Bl b 5)).bind λ c=>
  (B7 (decide ((0:Int)<=Bl b 5/\Bl b 5<((5:Nat):Int)))).bind λ _=>
  (whl (λ (x:((List (List (List UInt8)))×Int))=>Cd n d e a b c x.1 x.2) n (c,0)).bind λ (f:(List (List (List (List UInt8)))))=>
  some (.inl (f,(C4 .i64 b 1)))
 else
  some (.inr a)
def E5 (n:Nat) (b:As) (a:(List Int)):Option (List (List UInt8)):=
 (whl (λ (x:((List (List (List (List UInt8))))×Int))=>CO n b a x.1 x.2) n (([[],[],[],[],[]]:List (List (List (List UInt8)))),0)).bind λ (c:(List (List (List (List UInt8)))))=>
 (whl (λ (x:((List (List (List (List UInt8))))×Int))=>Dv n b a x.1 x.2) n (c,((a.length:Nat):Int))).bind λ (d:(List (List (List (List UInt8)))))=>
 (idx d 0).bind λ e=>
 (B7 (decide ((0:Int)<=0/\0<((5:Nat):Int)))).bind λ _=>
 (idx e 0).bind λ f=>
 some f
def DM (_:Nat) (_:Ab) (c:(List Ae)) (_:(List Bool)) (a:(List (Ae×Int))) (b:Int):Option (((List (Ae×Int))×Int)⊕(List (Ae×Int))):=
 if decide (b<((c.length:Nat):Int))=true then
  (idx c b).bind λ d=>
  some (.inl ((Eh d b a),(Be .i64 b 1)))
 else
  some (.inr a)
def E6 (_:Nat) (a:Int) (b:As):Option ((As×Int)⊕As):=
 some (.inl (b,(Be .i64 a 1)))
def CV (n:Nat) (e:Ab) (_:(List Ae)) (h:(List Bool)) (f:(List (Ae×Int))) (d:Int) (i:Ae) (b:As) (a:Int):Option ((As×Int)⊕As):=
 if decide (a<((e.Rules.length:Nat):Int))=true then
  (idx e.Rules a).bind λ g=>
  (Ku n e i a).bind λ c=>
  (if c.2=true then idx h (Option.getD (BR c.1 f) 0)else some default).bind λ j=>
  if(c.2&&j)=true then
   (idx b.Arcs d).bind λ k=>
   (app 48 k [({ Print:=g.Print,Cells:=g.Cells,To:=(Option.getD (BR c.1 f) 0) }:Fv)]).bind λ l=>
   E6 n a ({ Arcs:=List.set b.Arcs d.toNat l,Accepts:=b.Accepts,Alive:=b.Alive }:As)
  else
   E6 n a b
 else
  some (.inr b)
def DN (n:Nat) (d:Ab) (c:(List Ae)) (f:(List Bool)) (g:(List (Ae×Int))) (b:As) (a:Int):Option ((As×Int)⊕As):=
 if decide (a<((c.length:Nat):Int))=true then
  (idx c a).bind λ e=>
  (GD n d e).bind λ h=>
  (idx b.Accepts a).bind λ _=>
  (put b.Accepts a h).bind λ i=>
  (whl (λ (x:(As×Int))=>CV n d c f g a e x.1 x.2) n (({ Arcs:=b.Arcs,Accepts:=i,Alive:=b.Alive }:As),0)).bind λ j=>
  some (.inl (j,(Be .i64 a 1)))
 else
  some (.inr b)
def FJ (n:Nat) (a:Ab):Option As:=
 (Mw n a).bind λ b=>
 (Ls n a).bind λ c=>
 (whl (λ (x:((List (Ae×Int))×Int))=>DM n a b c x.1 x.2) n ([],0)).bind λ d=>
 (mkl 24 ((b.length:Nat):Int) ([]:(List Fv))).bind λ e=>
 (mkl 1 ((b.length:Nat):Int) (false:Bool)).bind λ f=>
 (idx c 0).bind λ g=>
 (whl (λ (x:(As×Int))=>DN n a b c d x.1 x.2) n (({ Arcs:=e,Accepts:=f,Alive:=g }:As),0)).bind λ h=>
 some h
def LX (_:Nat) (_:As):Option Unit:=
 some ()
def D6 (_:Nat) (a:(List (Ad×Int))) (b:(List Ad)) (c:(List (Option (List Ai)))) (d:Int):Option ((List (Ad×Int))×(List Ad)×(List (Option (List Ai)))×Int):=
 some (a,b,c,d)
def Cn (n:Nat) (a:Ad) (_:As) (b:(List Ad)) (c:(List (Ad×Int))) (d:(List (Option (List Ai)))) (_:(List (Ao×Ap))):Option ((List (Ad×Int))×(List Ad)×(List (Option (List Ai)))×Int):=
 if(!(Option.isSome (BR a c)))=true then
  (app 24 b [a]).bind λ e=>
  (app 24 d [none]).bind λ f=>
  D6 n (Eh a ((b.length:Nat):Int) c) e f ((b.length:Nat):Int)
 else
  D6 n c b d (Option.getD (BR a c) 0)
def Co (_:Nat) (d:Aj) (_:As) (_:(List Ad)) (_:(List (Ad×Int))) (_:(List (Option (List Ai)))) (e:(List (Ao×Ap))) (b:Ap) (a:Int):Option (Int⊕(Unit⊕((List (Ao×Ap))×Bool))):=
 if decide (a<((Int.toNat b.N:Nat):Int))=true then
  (idx (List.take b.N.toNat ([b.Leads.a0,b.Leads.a1]:List BY)) a).bind λ c=>
  if(((c.Side==d.Lead.Side)&&((c.Text==d.Lead.Text)&&true))||(c.Side==3))=true then
   some (.inr (.inr (e,false)))
  else
   some (.inl (Be .i64 a 1))
 else
  some (.inr (.inl ()))
def C1 (n:Nat) (b:Aj) (d:As) (f:(List Ad)) (g:(List (Ad×Int))) (h:(List (Option (List Ai)))) (c:(List (Ao×Ap))):Option ((List (Ao×Ap))×Bool):=
 (some (Option.getD (BR b.Pair c) (⟨0,⟨⟨0,[]⟩,⟨0,[]⟩⟩⟩:Ap))).bind λ a=>
 (inB (2+1) a.N).bind λ _=>
 (whl (λ (x:Int)=>Co n b d f g h c a x) n 0).bind λ (i:(Unit⊕((List (Ao×Ap))×Bool)))=>
 match i with
 | Sum.inl _=>
  if(a.N==2)=true then
   some (c,false)
  else
   (idx ([a.Leads.a0,a.Leads.a1]:List BY) a.N).bind λ _=>
   (put ([a.Leads.a0,a.Leads.a1]:List BY) a.N b.Lead).bind λ e=>
   some ((Eh b.Pair ({ N:=Be .i64 a.N 1,Leads:=({ a0:=(List.getD e 0 (⟨0,[]⟩:BY)),a1:=(List.getD e 1 (⟨0,[]⟩:BY)) }:(EC BY)) }:Ap) c),true)
 | Sum.inr j=>
  some j
def Bx (_:Nat) (b:Int) (d:(List (Ad×Int))) (a:(List Ai)) (e:(List Ad)) (c:(List (Option (List Ai)))):Option ((List (Ad×Int))×(List Ad)×(List (Option (List Ai)))×(List Ai)):=
 (idx c b).bind λ _=>
 (put c b (some a)).bind λ f=>
 some (d,e,f,a)
def Dw (_:Nat) (b:Int) (c:(List (Ad×Int))) (a:(List Ai)) (d:(List Ad)) (e:(List (Option (List Ai)))):Option (((List (Ad×Int))×(List Ai)×(List Ad)×(List (Option (List Ai)))×Int)⊕((List (Ad×Int))×(List Ai)×(List Ad)×(List (Option (List Ai))))):=
 some (.inl (c,a,d,e,(Be .i64 b 1)))
def Ce (_:Nat) (_:Int) (_:As) (_:(List (Ao×Ap))) (_:(List Fv)) (_:(List (Ad×Int))) (_:(List Ai)) (_:(List Ad)) (_:(List (Option (List Ai)))) (_:Int) (c:Fv) (a:(List Int)) (b:Int):Option (((List Int)×Int)⊕(List Int)):=
 if decide (b<((c.Cells.length:Nat):Int))=true then
  (idx c.Cells b).bind λ d=>
  (app 1 a [d]).bind λ e=>
  some (.inl (e,(Be .i64 b 1)))
 else
  some (.inr a)
def Bt (n:Nat) (m:Int) (d:As) (k:(List (Ao×Ap))) (f:(List Fv)) (g:(List (Ad×Int))) (a:(List Ai)) (h:(List Ad)) (i:(List (Option (List Ai)))) (b:Int):Option (((List (Ad×Int))×(List Ai)×(List Ad)×(List (Option (List Ai)))×Int)⊕((List (Ad×Int))×(List Ai)×(List Ad)×(List (Option (List Ai))))):=
 if decide (b<((f.length:Nat):Int))=true then
  (idx f b).bind λ e=>
  (whl (λ (x:((List Int)×Int))=>Ce n m d k f g a h i b e x.1 x.2) n (([]:List Int),0)).bind λ j=>
  (idx j 0).bind λ l=>
  (sub j 1 ((j.length:Nat):Int)).bind λ o=>
  (Vg o).bind λ r=>
  (Cn n ({ State:=e.To,Rest:=r }:Ad) d h g i k).bind λ (c:((List (Ad×Int))×(List Ad)×(List (Option (List Ai)))×Int))=>
  (Lt n a ({ Cell:=l,Print:=e.Print,To:=c.2.2.2 }:Ai)).bind λ p=>
  if(!p)=true then
   (app 32 a [({ Cell:=l,Print:=e.Print,To:=c.2.2.2 }:Ai)]).bind λ q=>
   Dw n b c.1 q c.2.1 c.2.2.1
  else
   Dw n b c.1 a c.2.1 c.2.2.1
 else
  some (.inr (g,a,h,i))
noncomputable def DO (n:Nat) (b:Int) (a:As) (e:(List Ad)) (h:(List (Ad×Int))) (d:(List (Option (List Ai)))) (i:(List (Ao×Ap))):Option ((List (Ad×Int))×(List Ad)×(List (Option (List Ai)))×(List Ai)):=
 (idx d b).bind λ j=>
 dem (nlO j) λ (o:Bool)=>
 if(!o)=true then
  (idx d b).bind λ k=>
  some (h,e,d,(Option.getD k []))
 else
  (idx e b).bind λ c=>
  if(!(c.Rest==[]))=true then
   (Iu c.Rest 0).bind λ p=>
   (sub c.Rest 1 ((c.Rest.length:Nat):Int)).bind λ q=>
   (Cn n ({ State:=c.State,Rest:=q }:Ad) a e h d i).bind λ (f:((List (Ad×Int))×(List Ad)×(List (Option (List Ai)))×Int))=>
   (app 32 ([]:List Ai) ([({ Cell:=p,Print:=[],To:=f.2.2.2 }:Ai)])).bind λ l=>
   Bx n b f.1 l f.2.1 f.2.2.1
  else
   (idx a.Arcs c.State).bind λ m=>
   (whl (λ (x:((List (Ad×Int))×(List Ai)×(List Ad)×(List (Option (List Ai)))×Int))=>Bt n b a i m x.1 x.2.1 x.2.2.1 x.2.2.2.1 x.2.2.2.2) n (h,([]:List Ai),e,d,0)).bind λ (g:((List (Ad×Int))×(List Ai)×(List Ad)×(List (Option (List Ai)))))=>
   Bx n b g.1 g.2.1 g.2.2.1 g.2.2.2
def Cp (_:Nat) (b:Int) (a:(List (Int×(List Aj)))):Option (((List (Int×(List Aj)))×Int)⊕(List (Int×(List Aj)))):=
 some (.inl (a,(Be .i64 b 1)))
def BS (n:Nat) (f:Aj) (_:As) (_:(List (Ao×Ap))) (_:((List (Ad×Int))×(List Ad)×(List (Option (List Ai)))×(List Ai))) (_:Int) (c:Ai) (e:((List (Ad×Int))×(List Ad)×(List (Option (List Ai)))×(List Ai))) (a:(List (Int×(List Aj)))) (b:Int):Option (((List (Int×(List Aj)))×Int)⊕(List (Int×(List Aj)))):=
 if decide (b<((e.2.2.2.length:Nat):Int))=true then
  (idx e.2.2.2 b).bind λ d=>
  if(c.Cell != d.Cell)=true then
   Cp n b a
  else
   (FI n f.Lead c.Print d.Print).bind λ g=>
   (EF n ({ Pair:=({ A:=c.To,B:=d.To }:Ao),Lead:=g }:Aj)).bind λ h=>
   (app 40 (Cl c.Cell a) [h]).bind λ i=>
   Cp n b (Eh c.Cell i a)
 else
  some (.inr a)
noncomputable def Cq (n:Nat) (i:Aj) (c:As) (j:(List (Ao×Ap))) (h:((List (Ad×Int))×(List Ad)×(List (Option (List Ai)))×(List Ai))) (a:(List (Int×(List Aj)))) (e:(List (Ad×Int))) (f:(List Ad)) (g:(List (Option (List Ai)))) (b:Int):Option (((List (Int×(List Aj)))×(List (Ad×Int))×(List Ad)×(List (Option (List Ai)))×Int)⊕((List (Int×(List Aj)))×(List (Ad×Int))×(List Ad)×(List (Option (List Ai))))):=
 if decide (b<((h.2.2.2.length:Nat):Int))=true then
  (idx h.2.2.2 b).bind λ k=>
  (DO n i.Pair.B c f e g j).bind λ (d:((List (Ad×Int))×(List Ad)×(List (Option (List Ai)))×(List Ai)))=>
  (whl (λ (x:((List (Int×(List Aj)))×Int))=>BS n i c j h b k d x.1 x.2) n (a,0)).bind λ l=>
  some (.inl (l,d.1,d.2.1,d.2.2.1,(Be .i64 b 1)))
 else
  some (.inr (a,e,f,g))
noncomputable def D7 (n:Nat) (d:Aj) (a:As) (f:(List (Int×(List Aj)))) (g:(List Ad)) (h:(List (Ad×Int))) (i:(List (Option (List Ai)))) (e:(List (Ao×Ap))):Option ((List (Int×(List Aj)))×(List (Ad×Int))×(List Ad)×(List (Option (List Ai)))):=
 (DO n d.Pair.A a g h i e).bind λ (b:((List (Ad×Int))×(List Ad)×(List (Option (List Ai)))×(List Ai)))=>
 (whl (λ (x:((List (Int×(List Aj)))×(List (Ad×Int))×(List Ad)×(List (Option (List Ai)))×Int))=>Cq n d a e b x.1 x.2.1 x.2.2.1 x.2.2.2.1 x.2.2.2.2) n (f,b.1,b.2.1,b.2.2.1,0)).bind λ (c:((List (Int×(List Aj)))×(List (Ad×Int))×(List Ad)×(List (Option (List Ai)))))=>
 some (c.1,c.2.1,c.2.2.1,c.2.2.2)
def Dx (_:Nat) (a:Aj) (b:As) (e:(List Ad)) (_:(List (Ad×Int))) (_:(List (Option (List Ai)))) (_:(List (Ao×Ap))):Option Bool:=
 (idx e a.Pair.A).bind λ c=>
 (idx e a.Pair.B).bind λ d=>
 (if(((a.Lead.Side != 0)&&(c.Rest==[]))&&(d.Rest==[]))=true then idx b.Accepts c.State else some default).bind λ f=>
 (if((((a.Lead.Side != 0)&&(c.Rest==[]))&&(d.Rest==[]))&&f)=true then idx b.Accepts d.State else some default).bind λ g=>
 some (((((a.Lead.Side != 0)&&(c.Rest==[]))&&(d.Rest==[]))&&f)&&g)
noncomputable def BA (n:Nat) (g:As) (_:(List (List ((List Aj)×Int)))) (h:(List (Ao×Ap))) (_:(List (List ((List Aj)×Int)))) (_:Int) (g2:Bq) (d:(List (Ad×Int))) (a:(List (Int×(List Aj)))) (e:(List Ad)) (f:(List (Option (List Ai)))) (b:Int):Option (((List (Ad×Int))×(List (Int×(List Aj)))×(List Ad)×(List (Option (List Ai)))×Int)⊕((List (Ad×Int))×(List (Int×(List Aj)))×(List Ad)×(List (Option (List Ai))))):=
 if decide (b<((g2.Nodes.length:Nat):Int))=true then
  (idx g2.Nodes b).bind λ i=>
  (D7 n i g a e d f h).bind λ (c:((List (Int×(List Aj)))×(List (Ad×Int))×(List Ad)×(List (Option (List Ai)))))=>
  some (.inl (c.2.1,c.1,c.2.2.1,c.2.2.2,(Be .i64 b 1)))
 else
  some (.inr (d,a,e,f))
def Dy (_:Nat) (b:Int) (c:(List (Ao×Ap))) (a:(List (List ((List Aj)×Int)))):Option (((List (Ao×Ap))×(List (List ((List Aj)×Int)))×Int)⊕(((List (Ao×Ap))×(List (List ((List Aj)×Int))))⊕((List (Ad×Int))×(List (Ao×Ap))×(List Int)×(List Ad)×(List (Option (List Ai)))×Bool))):=
 some (.inl (c,a,(Be .u8 b 1)))
def CD (_:Nat) (b:Int) (a:Bq) (c:(List (Ao×Ap))):Option ((Bq×(List (Ao×Ap))×Int)⊕((Bq×(List (Ao×Ap)))⊕((List (Ad×Int))×(List (Ao×Ap))×(List Int)×(List Ad)×(List (Option (List Ai)))×Bool))):=
 some (.inl (a,c,(Be .i64 b 1)))
def BB (n:Nat) (d:As) (_:(List (List ((List Aj)×Int)))) (_:Int) (_:Bq) (b:((List (Ad×Int))×(List (Int×(List Aj)))×(List Ad)×(List (Option (List Ai))))) (_:(List (List ((List Aj)×Int)))) (f:Int) (a:Bq) (g:(List (Ao×Ap))) (c:Int):Option ((Bq×(List (Ao×Ap))×Int)⊕((Bq×(List (Ao×Ap)))⊕((List (Ad×Int))×(List (Ao×Ap))×(List Int)×(List Ad)×(List (Option (List Ai)))×Bool))):=
 if decide (c<((List.length (Cl f b.2.1):Nat):Int))=true then
  (idx (Cl f b.2.1) c).bind λ h=>
  (C1 n h d b.2.2.1 b.1 b.2.2.2 g).bind λ e=>
  if(!e.2)=true then
   CD n c a e.1
  else
   (Dx n h d b.2.2.1 b.1 b.2.2.2 e.1).bind λ i=>
   if i=true then
    (E4 n a).bind λ j=>
    some (.inr (.inr (b.1,e.1,j,b.2.2.1,b.2.2.2,true)))
   else
    (app 40 a.Nodes [h]).bind λ k=>
    CD n c ({ Nodes:=k,From:=a.From,Cell:=a.Cell }:Bq) e.1
 else
  some (.inr (.inl (a,g)))
def BC (n:Nat) (f:As) (d:(List (List ((List Aj)×Int)))) (g:Int) (g2:Bq) (h:((List (Ad×Int))×(List (Int×(List Aj)))×(List Ad)×(List (Option (List Ai))))) (e:(List (Ao×Ap))) (a:(List (List ((List Aj)×Int)))) (b:Int):Option (((List (Ao×Ap))×(List (List ((List Aj)×Int)))×Int)⊕(((List (Ao×Ap))×(List (List ((List Aj)×Int))))⊕((List (Ad×Int))×(List (Ao×Ap))×(List Int)×(List Ad)×(List (Option (List Ai)))×Bool))):=
 if decide (b<63)=true then
  (whl (λ (x:(Bq×(List (Ao×Ap))×Int))=>BB n f d g g2 h a b x.1 x.2.1 x.2.2) n (({ Nodes:=([]:List Aj),From:=((g2.Nodes,g2.Cell)::g2.From),Cell:=b }:Bq),e,0)).bind λ (i:((Bq×(List (Ao×Ap)))⊕((List (Ad×Int))×(List (Ao×Ap))×(List Int)×(List Ad)×(List (Option (List Ai)))×Bool)))=>
  match i with
  | Sum.inl c=>
   if decide (((c.1.Nodes.length:Nat):Int)>0)=true then
    (app 8 a [((c.1.Nodes,c.1.Cell)::c.1.From)]).bind λ (j:(List (List ((List Aj)×Int))))=>
    Dy n b c.2 j
   else
    Dy n b c.2 a
  | Sum.inr k=>
   some (.inr (.inr k))
 else
  some (.inr (.inl (e,a)))
noncomputable def BD (n:Nat) (e:As) (a:(List (List ((List Aj)×Int)))) (h:(List (Ad×Int))) (f:(List (Ao×Ap))) (d:(List (Int×(List Aj)))) (b:(List (List ((List Aj)×Int)))) (i:(List Ad)) (j:(List (Option (List Ai)))) (c:Int):Option (((List (Ad×Int))×(List (Ao×Ap))×(List (Int×(List Aj)))×(List (List ((List Aj)×Int)))×(List Ad)×(List (Option (List Ai)))×Int)⊕(((List (Ad×Int))×(List (Ao×Ap))×(List (Int×(List Aj)))×(List (List ((List Aj)×Int)))×(List Ad)×(List (Option (List Ai))))⊕((List (Ad×Int))×(List (Ao×Ap))×(List Int)×(List Ad)×(List (Option (List Ai)))×Bool))):=
 if decide (c<((a.length:Nat):Int))=true then
  (idx a c).bind λ l=>
  (TI l).bind λ g2=>
  (whl (λ (x:((List (Ad×Int))×(List (Int×(List Aj)))×(List Ad)×(List (Option (List Ai)))×Int))=>BA n e a f b c g2 x.1 x.2.1 x.2.2.1 x.2.2.2.1 x.2.2.2.2) n (h,([]:(List (Int×(List Aj)))),i,j,0)).bind λ (g:((List (Ad×Int))×(List (Int×(List Aj)))×(List Ad)×(List (Option (List Ai)))))=>
  (whl (λ (x:((List (Ao×Ap))×(List (List ((List Aj)×Int)))×Int))=>BC n e a c g2 g x.1 x.2.1 x.2.2) n (f,b,0)).bind λ (m:(((List (Ao×Ap))×(List (List ((List Aj)×Int))))⊕((List (Ad×Int))×(List (Ao×Ap))×(List Int)×(List Ad)×(List (Option (List Ai)))×Bool)))=>
  match m with
  | Sum.inl k=>
   some (.inl (g.1,k.1,g.2.1,k.2,g.2.2.1,g.2.2.2,(Be .i64 c 1)))
  | Sum.inr o=>
   some (.inr (.inr o))
 else
  some (.inr (.inl (h,f,d,b,i,j)))
noncomputable def B5 (n:Nat) (h:As) (d:(List (Ad×Int))) (e:(List (Ao×Ap))) (a:(List (List ((List Aj)×Int)))) (b:(List (Int×(List Aj)))) (f:(List Ad)) (g:(List (Option (List Ai)))):Option (((List (Ad×Int))×(List (Ao×Ap))×(List (List ((List Aj)×Int)))×(List (Int×(List Aj)))×(List Ad)×(List (Option (List Ai))))⊕(((List (Ad×Int))×(List (Ao×Ap))×(List Ad)×(List (Option (List Ai))))⊕((List (Ad×Int))×(List (Ao×Ap))×(List Int)×(List Ad)×(List (Option (List Ai)))×Bool))):=
 if decide (((a.length:Nat):Int)>0)=true then
  (whl (λ (x:((List (Ad×Int))×(List (Ao×Ap))×(List (Int×(List Aj)))×(List (List ((List Aj)×Int)))×(List Ad)×(List (Option (List Ai)))×Int))=>BD n h a x.1 x.2.1 x.2.2.1 x.2.2.2.1 x.2.2.2.2.1 x.2.2.2.2.2.1 x.2.2.2.2.2.2) n (d,e,b,([]:List (List ((List Aj)×Int))),f,g,0)).bind λ (i:(((List (Ad×Int))×(List (Ao×Ap))×(List (Int×(List Aj)))×(List (List ((List Aj)×Int)))×(List Ad)×(List (Option (List Ai))))⊕((List (Ad×Int))×(List (Ao×Ap))×(List Int)×(List Ad)×(List (Option (List Ai)))×Bool)))=>
  match i with
  | Sum.inl c=>
   some (.inl (c.1,c.2.1,c.2.2.2.1,c.2.2.1,c.2.2.2.2.1,c.2.2.2.2.2))
  | Sum.inr j=>
   some (.inr (.inr j))
 else
  some (.inr (.inl (d,e,f,g)))
noncomputable def Db (n:Nat) (a:As) (f:(List Ad)) (g:(List (Ad×Int))) (h:(List (Option (List Ai)))) (d:(List (Ao×Ap))):Option ((List (Ad×Int))×(List (Ao×Ap))×(List Int)×(List Ad)×(List (Option (List Ai)))×Bool):=
 if(!a.Alive)=true then
  some (g,d,([]:List Int),f,h,false)
 else
  (Cn n ({ State:=0,Rest:=[] }:Ad) a f g h d).bind λ (c:((List (Ad×Int))×(List Ad)×(List (Option (List Ai)))×Int))=>
  (Cn n ({ State:=0,Rest:=[] }:Ad) a c.2.1 c.1 c.2.2.1 d).bind λ (b:((List (Ad×Int))×(List Ad)×(List (Option (List Ai)))×Int))=>
  (C1 n ({ Pair:=({ A:=c.2.2.2,B:=b.2.2.2 }:Ao),Lead:=({ Side:=0,Text:=[] }:BY) }:Aj) a b.2.1 b.1 b.2.2.1 d).bind λ i=>
  (whl (λ (x:((List (Ad×Int))×(List (Ao×Ap))×(List (List ((List Aj)×Int)))×(List (Int×(List Aj)))×(List Ad)×(List (Option (List Ai)))))=>B5 n a x.1 x.2.1 x.2.2.1 x.2.2.2.1 x.2.2.2.2.1 x.2.2.2.2.2) n (b.1,i.1,([((([({ Pair:=({ A:=c.2.2.2,B:=b.2.2.2 }:Ao),Lead:=({ Side:=0,Text:=[] }:BY) }:Aj)],0)::[]):(List ((List Aj)×Int)))]),([]:(List (Int×(List Aj)))),b.2.1,b.2.2.1)).bind λ (j:(((List (Ad×Int))×(List (Ao×Ap))×(List Ad)×(List (Option (List Ai))))⊕((List (Ad×Int))×(List (Ao×Ap))×(List Int)×(List Ad)×(List (Option (List Ai)))×Bool)))=>
  match j with
  | Sum.inl e=>
   some (e.1,e.2.1,([]:List Int),e.2.2.1,e.2.2.2,false)
  | Sum.inr k=>
   some k
noncomputable def Br (n:Nat) (d:Ab):Option (Bk×Int):=
 (Lr n d).bind λ e=>
 if(!e)=true then
  some (({ Cells:=[],A:=[],B:=[] }:Bk),20)
 else
  (FJ n d).bind λ a=>
  (LX n a).bind λ _=>
  (Db n a ([]:List Ad) [] ([]:List (Option (List Ai))) []).bind λ (b:((List (Ad×Int))×(List (Ao×Ap))×(List Int)×(List Ad)×(List (Option (List Ai)))×Bool))=>
  if(!b.2.2.2.2.2)=true then
   some (({ Cells:=[],A:=[],B:=[] }:Bk),0)
  else
   (E5 n a b.2.2.1).bind λ c=>
   if decide (((c.length:Nat):Int)<2)=true then
    some (({ Cells:=[],A:=[],B:=[] }:Bk),0)
   else
    (idx c 0).bind λ f=>
    (idx c 1).bind λ g=>
    some (({ Cells:=b.2.2.1,A:=f,B:=g }:Bk),50)
def EG (_:Nat) (b:(List Int)) (c:(List Int)) (a:Int):Option (Int⊕(Unit⊕Bool)):=
 if decide (a<((b.length:Nat):Int))=true then
  (idx b a).bind λ d=>
  (idx c a).bind λ e=>
  if(d != e)=true then
   some (.inr (.inr false))
  else
   some (.inl (Be .i64 a 1))
 else
  some (.inr (.inl ()))
def EV (n:Nat) (a:(List Int)) (b:(List Int)):Option Bool:=
 if(((a.length:Nat):Int) != ((b.length:Nat):Int))=true then
  some false
 else
  (whl (λ (x:Int)=>EG n a b x) n 0).bind λ c=>
  match c with
  | Sum.inl _=>
   some true
  | Sum.inr d=>
   some d
def GG (n:Nat) (a:Bk) (b:Bk):Option Bool:=
 (if((a.A==b.A)&&(a.B==b.B))=true then EV n a.Cells b.Cells else some default).bind λ c=>
 some (((a.A==b.A)&&(a.B==b.B))&&c)
def LY (_:Nat) (b:(List UInt8)) (a:(List UInt8)):Option Bool:=
 (if decide (((b.length:Nat):Int)>=((a.length:Nat):Int))=true then sub b 0 ((a.length:Nat):Int)else some default).bind λ c=>
 some ((decide (((b.length:Nat):Int)>=((a.length:Nat):Int)))&&(c==a))
def LZ (n:Nat) (a:(List UInt8)) (b:(List UInt8)):Option Bool:=
 (LY n a b).bind λ c=>
 some c
def Dc (_:Nat) (c:Int) (a:(List (AW×Bool))) (b:(List AW)):Option (((List (AW×Bool))×(List AW)×Int)⊕((List (AW×Bool))×(List AW))):=
 some (.inl (a,b,(Be .i64 c 1)))
def Hb (n:Nat) (_:As) (g:(List Int)) (h:(List UInt8)) (d:AW) (i:(List Fv)) (a:(List (AW×Bool))) (b:(List AW)) (e:Int):Option (((List (AW×Bool))×(List AW)×Int)⊕((List (AW×Bool))×(List AW))):=
 if decide (e<((i.length:Nat):Int))=true then
  (idx i e).bind λ c=>
  (sub g d.Cell ((g.length:Nat):Int)).bind λ j=>
  (HG n j c.Cells).bind λ f=>
  (if(!(!f))=true then sub h d.Byte ((h.length:Nat):Int)else some default).bind λ m=>
  (if(!(!f))=true then LZ n m c.Print else some default).bind λ k=>
  if((!f)||(!k))=true then
   Dc n e a b
  else
   if(!(Option.getD (BR ({ Cell:=Be .i64 d.Cell ((c.Cells.length:Nat):Int),Byte:=Be .i64 d.Byte ((c.Print.length:Nat):Int),State:=c.To }:AW) a) false))=true then
    (app 24 b [({ Cell:=Be .i64 d.Cell ((c.Cells.length:Nat):Int),Byte:=Be .i64 d.Byte ((c.Print.length:Nat):Int),State:=c.To }:AW)]).bind λ l=>
    Dc n e (Eh ({ Cell:=Be .i64 d.Cell ((c.Cells.length:Nat):Int),Byte:=Be .i64 d.Byte ((c.Print.length:Nat):Int),State:=c.To }:AW) true a) l
   else
    Dc n e a b
 else
  some (.inr (a,b))
def Hc (n:Nat) (d:As) (e:(List Int)) (f:(List UInt8)) (c:(List (AW×Bool))) (a:(List AW)):Option (((List (AW×Bool))×(List AW))⊕(Unit⊕Bool)):=
 if decide (((a.length:Nat):Int)>0)=true then
  (idx a (C4 .i64 ((a.length:Nat):Int) 1)).bind λ b=>
  (sub a 0 (C4 .i64 ((a.length:Nat):Int) 1)).bind λ h=>
  (if((b.Cell==((e.length:Nat):Int))&&(b.Byte==((f.length:Nat):Int)))=true then idx d.Accepts b.State else some default).bind λ i=>
  if(((b.Cell==((e.length:Nat):Int))&&(b.Byte==((f.length:Nat):Int)))&&i)=true then
   some (.inr (.inr true))
  else
   (idx d.Arcs b.State).bind λ j=>
   (whl (λ (x:((List (AW×Bool))×(List AW)×Int))=>Hb n d e f b j x.1 x.2.1 x.2.2) n (c,h,0)).bind λ g=>
   some (.inl (g.1,g.2))
 else
  some (.inr (.inl ()))
def Gb (n:Nat) (a:As) (b:(List Int)) (c:(List UInt8)):Option Bool:=
 (whl (λ (x:((List (AW×Bool))×(List AW)))=>Hc n a b c x.1 x.2) n ((Eh ({ Cell:=0,Byte:=0,State:=0 }:AW) true []),[({ Cell:=0,Byte:=0,State:=0 }:AW)])).bind λ d=>
 match d with
 | Sum.inl _=>
  some false
 | Sum.inr e=>
  some e
def Gc (n:Nat) (b:Ab) (a:Bk):Option Bool:=
 (Lr n b).bind λ e=>
 if((!e)||(a.A==a.B))=true then
  some false
 else
  (FJ n b).bind λ c=>
  (Gb n c a.Cells a.A).bind λ d=>
  (if d=true then Gb n c a.Cells a.B else some default).bind λ f=>
  some (d&&f)
def Bf (_:Nat) (b:(List UInt8)) (c:(List Int)) (a:(EC Int)):Option AE:=
 some ({ Print:=b,Cells:=c,Left:=63,Right:=63,From:=a.a0,To:=a.a1 }:AE)
def OR (n:Nat) :Option (List AE):=
 (Bf n [97] [1] ({ a0:=0,a1:=0 }:(EC Int))).bind λ a=>
 (Bf n [98] [3] ({ a0:=0,a1:=0 }:(EC Int))).bind λ b=>
 (Bf n [99] [9] ({ a0:=0,a1:=0 }:(EC Int))).bind λ c=>
 (Bf n [32] [0] ({ a0:=0,a1:=0 }:(EC Int))).bind λ d=>
 some [a,b,c,d]
def Gr (n:Nat) (c:Int) (b:Int) (d:(EC Int)):Option AE:=
 (Bf n [] [c] d).bind λ a=>
 (B7 (decide (0<=b))).bind λ _=>
 some ({ Print:=a.Print,Cells:=a.Cells,Left:=a.Left,Right:=Qg .u8 1 b,From:=a.From,To:=a.To }:AE)
def Fj (_:Nat) (a:(List AE)):Option Ab:=
 some ({ Modes:=1,Accept:=1,Rules:=a }:Ab)
def GH (n:Nat) (b:Int):Option Ab:=
 (OR n).bind λ a=>
 if((Bl b 8)==1)=true then
  (Gr n 60 3 ({ a0:=0,a1:=1 }:(EC Int))).bind λ e=>
  (Bf n [49] [1] ({ a0:=1,a1:=1 }:(EC Int))).bind λ f=>
  (Bf n [50] [3] ({ a0:=1,a1:=1 }:(EC Int))).bind λ g=>
  (Bf n [32] [0] ({ a0:=1,a1:=0 }:(EC Int))).bind λ h=>
  (app 64 a [e,f,g,h]).bind λ i=>
  some ({ Modes:=2,Accept:=3,Rules:=i }:Ab)
 else
  if((Bl b 8)==2)=true then
   (Gr n 32 2 ({ a0:=0,a1:=1 }:(EC Int))).bind λ j=>
   (Bf n [65] [1] ({ a0:=1,a1:=0 }:(EC Int))).bind λ k=>
   (Bf n [66] [3] ({ a0:=1,a1:=0 }:(EC Int))).bind λ l=>
   (app 64 a [j,k,l]).bind λ m=>
   some ({ Modes:=2,Accept:=1,Rules:=m }:Ab)
  else
   if((Bl b 8)==3)=true then
    (Bf n [97,98] [7] ({ a0:=0,a1:=0 }:(EC Int))).bind λ o=>
    (Bf n [97,98,99] [15] ({ a0:=0,a1:=0 }:(EC Int))).bind λ p=>
    (Bf n [99,97] [4,4] ({ a0:=0,a1:=0 }:(EC Int))).bind λ q=>
    (app 64 a [o,p,q]).bind λ r=>
    Fj n r
   else
    if((Bl b 8)==4)=true then
     (Bf n [45] [1,3] ({ a0:=0,a1:=0 }:(EC Int))).bind λ s=>
     (app 64 a [s]).bind λ t=>
     Fj n t
    else
     if((Bl b 8)==5)=true then
      (Bf n [98] [44] ({ a0:=0,a1:=0 }:(EC Int))).bind λ c=>
      (Bf n [99,97,98] [44] ({ a0:=0,a1:=0 }:(EC Int))).bind λ d=>
      (Bf n [45] [36] ({ a0:=0,a1:=0 }:(EC Int))).bind λ u=>
      (app 64 a [({ Print:=c.Print,Cells:=c.Cells,Left:=17,Right:=c.Right,From:=c.From,To:=c.To }:AE),({ Print:=d.Print,Cells:=d.Cells,Left:=2,Right:=d.Right,From:=d.From,To:=d.To }:AE),u]).bind λ v=>
      Fj n v
     else
      if((Bl b 8)==6)=true then
       (Gr n 40 1 ({ a0:=0,a1:=1 }:(EC Int))).bind λ w=>
       (Bf n [225] [1] ({ a0:=1,a1:=0 }:(EC Int))).bind λ x=>
       (Bf n [226] [3] ({ a0:=1,a1:=0 }:(EC Int))).bind λ y=>
       (app 64 a [w,x,y]).bind λ z=>
       some ({ Modes:=2,Accept:=1,Rules:=z }:Ab)
      else
       if((Bl b 8)==7)=true then
        (Bf n [45] [1,5] ({ a0:=0,a1:=0 }:(EC Int))).bind λ A=>
        (Bf n [49] [5,5] ({ a0:=0,a1:=0 }:(EC Int))).bind λ B=>
        (Bf n [50] [5,9] ({ a0:=0,a1:=0 }:(EC Int))).bind λ C=>
        (app 64 a [A,B,C]).bind λ E=>
        Fj n E
       else
        Fj n a
noncomputable def Dz (n:Nat) (a:Ab):Option Bool:=
 (Br n a).bind λ b=>
 some (b.2==0)
noncomputable def Jh (n:Nat) :Option Bool:=
 (FD n ([[97],[98]]) ([[1],[3]])).bind λ s=>
 (Br n s).bind λ b=>
 (FD n ([[97],[98],[99]]) ([[1],[3],[1,3]])).bind λ t=>
 (Br n t).bind λ a=>
 (FD n ([[98],[97]]) ([[1],[1]])).bind λ u=>
 (Br n u).bind λ c=>
 (FD n ([[97],[98],[97,98]]) ([[1],[3],[1,3]])).bind λ v=>
 (Br n v).bind λ e=>
 (FD n ([[97],[98],[99],[100]]) ([[1,3],[1],[3,3],[3]])).bind λ w=>
 (Br n w).bind λ d=>
 (Br n ({ Modes:=0,Accept:=0,Rules:=[] }:Ab)).bind λ g=>
 (if((b.2==0)&&(a.2==50))=true then GG n a.1 ({ Cells:=[1,3],A:=[97,98],B:=[99] }:Bk)else some default).bind λ f=>
 (if((((b.2==0)&&(a.2==50))&&f)&&(c.2==50))=true then GG n c.1 ({ Cells:=[1],A:=[97],B:=[98] }:Bk)else some default).bind λ h=>
 (if((e.2==0)&&(d.2==50))=true then GG n d.1 ({ Cells:=[1,3],A:=[97],B:=[98,100] }:Bk)else some default).bind λ i=>
 (FD n ([[97],[98]]) ([[1],[1]])).bind λ o=>
 (if((((((b.2==0)&&(a.2==50))&&f)&&(c.2==50))&&h)&&((((e.2==0)&&(d.2==50))&&i)&&(g.2==20)))=true then Gc n o ({ Cells:=[1,1],A:=[98,97],B:=[97,98] }:Bk)else some default).bind λ k=>
 (if(((((((b.2==0)&&(a.2==50))&&f)&&(c.2==50))&&h)&&((((e.2==0)&&(d.2==50))&&i)&&(g.2==20)))&&k)=true then Gc n o ({ Cells:=[1],A:=[97],B:=[97] }:Bk)else some default).bind λ l=>
 (if((((((((b.2==0)&&(a.2==50))&&f)&&(c.2==50))&&h)&&((((e.2==0)&&(d.2==50))&&i)&&(g.2==20)))&&k)&&(!l))=true then Gc n o ({ Cells:=[1],A:=[97],B:=[99] }:Bk)else some default).bind λ j=>
 (if(((((((((b.2==0)&&(a.2==50))&&f)&&(c.2==50))&&h)&&((((e.2==0)&&(d.2==50))&&i)&&(g.2==20)))&&k)&&(!l))&&(!j))=true then GH n 2 else some default).bind λ p=>
 (if(((((((((b.2==0)&&(a.2==50))&&f)&&(c.2==50))&&h)&&((((e.2==0)&&(d.2==50))&&i)&&(g.2==20)))&&k)&&(!l))&&(!j))=true then Dz n p else some default).bind λ m=>
 (if((((((((((b.2==0)&&(a.2==50))&&f)&&(c.2==50))&&h)&&((((e.2==0)&&(d.2==50))&&i)&&(g.2==20)))&&k)&&(!l))&&(!j))&&m)=true then GH n 4 else some default).bind λ q=>
 (if((((((((((b.2==0)&&(a.2==50))&&f)&&(c.2==50))&&h)&&((((e.2==0)&&(d.2==50))&&i)&&(g.2==20)))&&k)&&(!l))&&(!j))&&m)=true then Dz n q else some default).bind λ r=>
 some (((((((((((b.2==0)&&(a.2==50))&&f)&&(c.2==50))&&h)&&((((e.2==0)&&(d.2==50))&&i)&&(g.2==20)))&&k)&&(!l))&&(!j))&&m)&&(!r))
def Fk (_:Nat) (c:C0) (a:AE) (b:Int):Option ((AE×Int)⊕AE):=
 if((decide (b<((c.P.length:Nat):Int)))&&(decide (b<3)))=true then
  (idx c.P b).bind λ d=>
  (sub [97,98,99,65,66,49,50,45,46] (IntKind.i64.wrap (Bl d 9)) (Be .i64 (IntKind.i64.wrap (Bl d 9)) 1)).bind λ e=>
  (cat a.Print e).bind λ f=>
  some (.inl (({ Print:=f,Cells:=a.Cells,Left:=a.Left,Right:=a.Right,From:=a.From,To:=a.To }:AE),(Be .i64 b 1)))
 else
  some (.inr a)
def Dl (_:Nat) (c:C0) (a:AE) (b:Int):Option ((AE×Int)⊕AE):=
 if((decide (b<((c.C.length:Nat):Int)))&&(decide (b<2)))=true then
  (idx c.C b).bind λ d=>
  (idx [1,3,9,5,7,32,44,60] (Bl d 8)).bind λ e=>
  (app 1 a.Cells [e]).bind λ f=>
  some (.inl (({ Print:=a.Print,Cells:=f,Left:=a.Left,Right:=a.Right,From:=a.From,To:=a.To }:AE),(Be .i64 b 1)))
 else
  some (.inr a)
def IB (n:Nat) (a:C0) (c:Int):Option AE:=
 (idx [63,63,2,8,17,62,4,1] (Bl a.L 8)).bind λ d=>
 (idx [63,63,2,8,17,62,4,1] (Bl a.R 8)).bind λ e=>
 (B7 (!(c==0))).bind λ _=>
 (B7 (!(c==0))).bind λ _=>
 (whl (λ (x:(AE×Int))=>Fk n a x.1 x.2) n (({ Print:=[],Cells:=([]:List Int),Left:=d,Right:=e,From:=Bl (IntKind.i64.wrap a.W.a0) c,To:=Bl (IntKind.i64.wrap a.W.a1) c }:AE),0)).bind λ b=>
 (idx [1,3,9,5,7,32,44,60] (Bl (Jdp .u8 a.L 8) 8)).bind λ f=>
 (whl (λ (x:(AE×Int))=>Dl n a x.1 x.2) n (({ Print:=b.Print,Cells:=[f],Left:=b.Left,Right:=b.Right,From:=b.From,To:=b.To }:AE),0)).bind λ g=>
 some g
def Id (_:Nat) (a:Int):Option Bool:=
 some ((decide (Cs .u8 a 127>=32))&&(decide (Cs .u8 a 127<=126)))
def H4 (n:Nat) (b:(List UInt8)) (a:Int):Option (Int⊕(Unit⊕(Int×Int))):=
 if decide (a<((b.length:Nat):Int))=true then
  (Iu b a).bind λ d=>
  (Id n d).bind λ c=>
  if(!c)=true then
   some (.inr (.inr (a,60)))
  else
   some (.inl (Be .i64 a 1))
 else
  some (.inr (.inl ()))
def Nd (n:Nat) (a:(List UInt8)):Option (Int×Int):=
 (whl (λ (x:Int)=>H4 n a x) n 0).bind λ b=>
 match b with
 | Sum.inl _=>
  some (((a.length:Nat):Int),0)
 | Sum.inr c=>
  some c
def Ji (n:Nat) (b:(List UInt8)):Option Bool:=
 (Nd n b).bind λ a=>
 some (a.2==0)
def NX (_:Nat) (a:Int):Option Bool:=
 some ((Cs .u8 a 127)==32)
def EH (n:Nat) (c:AE) (a:Bool) (b:Int):Option ((Bool×Int)⊕Bool):=
 if decide (b<((c.Print.length:Nat):Int))=true then
  (if(!a)=true then Iu c.Print b else some default).bind λ e=>
  (if(!a)=true then NX n e else some default).bind λ d=>
  some (.inl ((a||d),(Be .i64 b 1)))
 else
  some (.inr a)
def DA (_:Nat) (c:AE) (_:Bool) (a:Bool) (b:Int):Option ((Bool×Int)⊕(Bool⊕Bool)):=
 if decide (b<((c.Cells.length:Nat):Int))=true then
  (idx c.Cells b).bind λ d=>
  if decide (d>=63)=true then
   some (.inr (.inr false))
  else
   (if(!a)=true then idx c.Cells b else some default).bind λ e=>
   some (.inl ((a||(e==0)),(Be .i64 b 1)))
 else
  some (.inr (.inl a))
def Lu (n:Nat) (a:AE) (b:Int):Option Bool:=
 (Ji n a.Print).bind λ c=>
 if((((!c)||(decide (((a.Print.length:Nat):Int)>4)))||(decide (((a.Cells.length:Nat):Int)<1)))||(decide (((a.Cells.length:Nat):Int)>4)))=true then
  some false
 else
  if((((((((decide (a.Left<1))||(decide (a.Left>63)))||(decide (a.Right<1)))||(decide (a.Right>63)))||(decide (a.From<0)))||(decide (a.From>=b)))||(decide (a.To<0)))||(decide (a.To>=b)))=true then
   some false
  else
   (whl (λ (x:(Bool×Int))=>EH n a x.1 x.2) n (false,0)).bind λ d=>
   (whl (λ (x:(Bool×Int))=>DA n a d x.1 x.2) n (false,0)).bind λ f=>
   match f with
   | Sum.inl e=>
    if(!d)=true then
     some (!e)
    else
     some (((((a.Print.length:Nat):Int)==1)&&(((a.Cells.length:Nat):Int)==1))&&e)
   | Sum.inr g=>
    some g
def Hr (n:Nat) (a:AE) (b:AE):Option Bool:=
 (if(a.Print==b.Print)=true then EV n a.Cells b.Cells else some default).bind λ c=>
 some ((((((a.Print==b.Print)&&c)&&(a.Left==b.Left))&&(a.Right==b.Right))&&(a.From==b.From))&&(a.To==b.To))
def FK (n:Nat) (c:Ab) (a:Int) (b:Int):Option (Int⊕(Unit⊕(Int×Int))):=
 if decide (b<a)=true then
  (idx c.Rules b).bind λ e=>
  (idx c.Rules a).bind λ f=>
  (Hr n e f).bind λ d=>
  if d=true then
   some (.inr (.inr (a,20)))
  else
   some (.inl (Be .i64 b 1))
 else
  some (.inr (.inl ()))
def FL (n:Nat) (b:Ab) (a:Int):Option (Int⊕(Unit⊕(Int×Int))):=
 if decide (a<((b.Rules.length:Nat):Int))=true then
  (idx b.Rules a).bind λ d=>
  (Lu n d b.Modes).bind λ c=>
  if(!c)=true then
   some (.inr (.inr (a,20)))
  else
   (whl (λ (x:Int)=>FK n b a x) n 0).bind λ e=>
   match e with
   | Sum.inl _=>
    some (.inl (Be .i64 a 1))
   | Sum.inr f=>
    some (.inr (.inr f))
 else
  some (.inr (.inl ()))
def Lv (n:Nat) (a:Ab):Option (Int×Int):=
 (if(!(((decide (a.Modes<1))||(decide (a.Modes>8)))||(a.Accept==0)))=true then B7 (decide (0<=a.Modes))else some default).bind λ _=>
 if((((((decide (a.Modes<1))||(decide (a.Modes>8)))||(a.Accept==0))||(decide (IntKind.i64.wrap a.Accept>=Qg .i64 1 a.Modes)))||(decide (((a.Rules.length:Nat):Int)<1)))||(decide (((a.Rules.length:Nat):Int)>64)))=true then
  some ((-1),1)
 else
  (whl (λ (x:Int)=>FL n a x) n 0).bind λ b=>
  match b with
  | Sum.inl _=>
   some (0,0)
  | Sum.inr c=>
   some c
def NY (n:Nat) (b:Ab):Option Bool:=
 (Lv n b).bind λ a=>
 some (a.2==0)
def Em (_:Nat) (a:Int) (b:Ab):Option ((Ab×Int)⊕Ab):=
 some (.inl (b,(Be .i64 a 1)))
def Dm (n:Nat) (d:JZ) (c:Ab) (b:Ab) (a:Int):Option ((Ab×Int)⊕Ab):=
 if decide (a<((c.Rules.length:Nat):Int))=true then
  (B7 (decide (0<=a))).bind λ _=>
  if((Cs .u8 (Jdq .u8 d.Drop a) 1)==0)=true then
   (idx c.Rules a).bind λ e=>
   (app 64 b.Rules [e]).bind λ f=>
   Em n a ({ Modes:=b.Modes,Accept:=b.Accept,Rules:=f }:Ab)
  else
   Em n a b
 else
  some (.inr b)
def Eo (_:Nat) (a:Int) (b:Ab):Option ((Ab×Int)⊕Ab):=
 some (.inl (b,(Be .i64 a 1)))
def Dn (n:Nat) (d:JZ) (_:Ab) (a:Ab) (b:Int):Option ((Ab×Int)⊕Ab):=
 if((decide (b<((d.More.length:Nat):Int)))&&(decide (b<2)))=true then
  (idx d.More b).bind λ g=>
  (IB n g a.Modes).bind λ e=>
  (app 64 a.Rules [e]).bind λ c=>
  (NY n ({ Modes:=a.Modes,Accept:=a.Accept,Rules:=c }:Ab)).bind λ f=>
  if(!f)=true then
   (sub c 0 (C4 .i64 ((c.length:Nat):Int) 1)).bind λ h=>
   Eo n b ({ Modes:=a.Modes,Accept:=a.Accept,Rules:=h }:Ab)
  else
   Eo n b ({ Modes:=a.Modes,Accept:=a.Accept,Rules:=c }:Ab)
 else
  some (.inr a)
def Fl (_:Nat) (a:Ab):Option Ab:=
 some a
def GI (n:Nat) (c:JZ):Option Ab:=
 (GH n c.Base).bind λ a=>
 (whl (λ (x:(Ab×Int))=>Dm n c a x.1 x.2) n (({ Modes:=a.Modes,Accept:=a.Accept,Rules:=([]:List AE) }:Ab),0)).bind λ d=>
 (whl (λ (x:(Ab×Int))=>Dn n c a x.1 x.2) n (d,0)).bind λ b=>
 if(((b.Rules.length:Nat):Int)==0)=true then
  Fl n ({ Modes:=b.Modes,Accept:=b.Accept,Rules:=a.Rules }:Ab)
 else
  Fl n b
def SE (_:Nat) :Option Ae:=
 some ({ Mode:=0,Last:=0,Need:=63 }:Ae)
def SF (n:Nat) :Option (List Ah):=
 (SE n).bind λ a=>
 some ([({ S:=a,Rule:=(-1),At:=0,Text:=[] }:Ah)])
def Hs (_:Nat) (b:Int) (a:Int):Option Bool:=
 (if((decide (a>=0))&&(decide (a<8)))=true then B7 (decide (0<=a))else some default).bind λ _=>
 some (((decide (a>=0))&&(decide (a<8)))&&((Cs .u8 (Jdq .u8 b a) 1)==1))
def Fm (n:Nat) (b:Ab) (a:Ae):Option Bool:=
 (if((decide (a.Mode>=0))&&(decide (a.Mode<b.Modes)))=true then Hs n b.Accept a.Mode else some default).bind λ c=>
 (if(((decide (a.Mode>=0))&&(decide (a.Mode<b.Modes)))&&c)=true then Hs n a.Need 0 else some default).bind λ d=>
 some ((((decide (a.Mode>=0))&&(decide (a.Mode<b.Modes)))&&c)&&d)
def C7 (_:Nat) (d:(List (List UInt8))) (b:Int) (c:(List (List UInt8))) (a:Bool):Option (((List (List UInt8))×Bool×Int)⊕((List (List UInt8))×Bool)):=
 (idx d b).bind λ e=>
 (app 16 c [e]).bind λ f=>
 some (.inl (f,a,(Be .i64 b 1)))
def C8 (n:Nat) (c:(List (List UInt8))) (b:Int) (a:(List (List UInt8))):Option (((List (List UInt8))×Bool×Int)⊕((List (List UInt8))×Bool)):=
 C7 n c b a true
def C9 (n:Nat) (d:(List (List UInt8))) (e:(List UInt8)) (c:(List (List UInt8))) (a:Bool) (b:Int):Option (((List (List UInt8))×Bool×Int)⊕((List (List UInt8))×Bool)):=
 if decide (b<((d.length:Nat):Int))=true then
  (if(!a)=true then idx d b else some default).bind λ g=>
  if((!a)&&(!(Op.bytesLess g e)))=true then
   (idx d b).bind λ f=>
   if(!(Op.bytesLess f e||f==e))=true then
    (app 16 c [e]).bind λ h=>
    C8 n d b h
   else
    C8 n d b c
  else
   C7 n d b c a
 else
  some (.inr (c,a))
def DU (_:Nat) (a:(List (List UInt8))):Option (List (List UInt8)):=
 some a
def Ge (n:Nat) (c:(List (List UInt8))) (b:(List UInt8)):Option (List (List UInt8)):=
 (whl (λ (x:((List (List UInt8))×Bool×Int))=>C9 n c b x.1 x.2.1 x.2.2) n (([]:List (List UInt8)),false,0)).bind λ a=>
 if(!a.2)=true then
  (app 16 a.1 [b]).bind λ d=>
  DU n d
 else
  DU n a.1
def EI (_:Nat) (b:Int) (a:(List (List UInt8))):Option (((List (List UInt8))×Int)⊕(List (List UInt8))):=
 some (.inl (a,(Be .i64 b 1)))
def DB (n:Nat) (g:Ab) (c:(List Ah)) (b:(List (List UInt8))) (a:Int):Option (((List (List UInt8))×Int)⊕(List (List UInt8))):=
 if decide (a<((c.length:Nat):Int))=true then
  (idx c a).bind λ d=>
  (if decide (d.Rule<0)=true then idx c a else some default).bind λ h=>
  (if decide (d.Rule<0)=true then Fm n g h.S else some default).bind λ e=>
  if((decide (d.Rule<0))&&e)=true then
   (idx c a).bind λ i=>
   (Ge n b i.Text).bind λ f=>
   EI n a f
  else
   EI n a b
 else
  some (.inr b)
def Gf (n:Nat) (a:Ab) (b:(List Ah)):Option (List (List UInt8)):=
 (whl (λ (x:((List (List UInt8))×Int))=>DB n a b x.1 x.2) n (([]:List (List UInt8)),0)).bind λ c=>
 some c
def Ep (_:Nat) (c:Ab) (d:Int) (a:Int) (b:Int):Option (Int⊕(Unit⊕Bool)):=
 (idx c.Rules a).bind λ e=>
 if decide (b<((e.Cells.length:Nat):Int))=true then
  (idx c.Rules a).bind λ f=>
  (idx f.Cells b).bind λ g=>
  if(g==d)=true then
   some (.inr (.inr true))
  else
   some (.inl (Be .i64 b 1))
 else
  some (.inr (.inl ()))
def Er (n:Nat) (b:Ab) (c:Int) (a:Int):Option (Int⊕(Unit⊕Bool)):=
 if decide (a<((b.Rules.length:Nat):Int))=true then
  (whl (λ (x:Int)=>Ep n b c a x) n 0).bind λ d=>
  match d with
  | Sum.inl _=>
   some (.inl (Be .i64 a 1))
  | Sum.inr e=>
   some (.inr (.inr e))
 else
  some (.inr (.inl ()))
def HH (n:Nat) (a:Ab) (b:Int):Option Bool:=
 (whl (λ (x:Int)=>Er n a b x) n 0).bind λ c=>
 match c with
 | Sum.inl _=>
  some false
 | Sum.inr d=>
  some d
def Fn (_:Nat) (a:Ah):Option Ah:=
 some a
def HI (n:Nat) (b:Ab) (a:Ah):Option Ah:=
 (idx b.Rules a.Rule).bind λ c=>
 if(a.At==((c.Cells.length:Nat):Int))=true then
  Fn n ({ S:=a.S,Rule:=(-1),At:=0,Text:=a.Text }:Ah)
 else
  Fn n a
def Gg (_:Nat) (a:Int):Option Int:=
 if((decide (Cs .u8 a 127>=97))&&(decide (Cs .u8 a 127<=122)))=true then
  some 1
 else
  if((decide (Cs .u8 a 127>=65))&&(decide (Cs .u8 a 127<=90)))=true then
   some 2
  else
   if((decide (Cs .u8 a 127>=48))&&(decide (Cs .u8 a 127<=57)))=true then
    some 3
   else
    if((Cs .u8 a 127)==32)=true then
     some 4
    else
     some 5
def IC (n:Nat) (d:Ab) (b:Ae) (c:Int):Option (Ae×Bool):=
 if((decide (c<0))||(decide (c>=((d.Rules.length:Nat):Int))))=true then
  some (({ Mode:=0,Last:=0,Need:=0 }:Ae),false)
 else
  (idx d.Rules c).bind λ a=>
  (if(!(a.From != b.Mode))=true then Hs n a.Left b.Last else some default).bind λ e=>
  if((a.From != b.Mode)||(!e))=true then
   some (({ Mode:=0,Last:=0,Need:=0 }:Ae),false)
  else
   if((((a.Print.length:Nat):Int)==0)&&((Cs .u8 b.Need a.Right)==0))=true then
    some (({ Mode:=0,Last:=0,Need:=0 }:Ae),false)
   else
    if(((a.Print.length:Nat):Int)==0)=true then
     some (({ Mode:=a.To,Last:=b.Last,Need:=Cs .u8 b.Need a.Right }:Ae),true)
    else
     (Iu a.Print 0).bind λ i=>
     (Gg n i).bind λ f=>
     (Hs n b.Need f).bind λ g=>
     if(!g)=true then
      some (({ Mode:=0,Last:=0,Need:=0 }:Ae),false)
     else
      (Iu a.Print (C4 .i64 ((a.Print.length:Nat):Int) 1)).bind λ j=>
      (Gg n j).bind λ h=>
      some (({ Mode:=a.To,Last:=h,Need:=a.Right }:Ae),true)
def Fp (_:Nat) (b:Int) (a:(List Ah)):Option (((List Ah)×Int)⊕(List Ah)):=
 some (.inl (a,(Be .i64 b 1)))
def Es (_:Nat) (g:(List Ah)) (d:(List Ah)) (f:Int) (a:Bool) (e:Int):Option ((Bool×Int)⊕Bool):=
 if decide (e<((d.length:Nat):Int))=true then
  (if(!a)=true then idx d e else some default).bind λ b=>
  (if(!a)=true then idx g f else some default).bind λ c=>
  some (.inl ((a||((b.S.Mode==c.S.Mode)&&((b.S.Last==c.S.Last)&&((b.S.Need==c.S.Need)&&((b.Rule==c.Rule)&&((b.At==c.At)&&((b.Text==c.Text)&&true))))))),(Be .i64 e 1)))
 else
  some (.inr a)
def Et (n:Nat) (c:(List Ah)) (a:(List Ah)) (b:Int):Option (((List Ah)×Int)⊕(List Ah)):=
 if decide (b<((c.length:Nat):Int))=true then
  (whl (λ (x:(Bool×Int))=>Es n c a b x.1 x.2) n (false,0)).bind λ e=>
  if(!e)=true then
   (idx c b).bind λ d=>
   (app 56 a [d]).bind λ f=>
   Fp n b f
  else
   Fp n b a
 else
  some (.inr a)
def ID (n:Nat) (a:(List Ah)):Option (List Ah):=
 (whl (λ (x:((List Ah)×Int))=>Et n a x.1 x.2) n (([]:List Ah),0)).bind λ b=>
 some b
def Eu (_:Nat) (b:Int) (a:(List Ah)):Option (((List Ah)×Int)⊕(List Ah)):=
 some (.inl (a,(Be .i64 b 1)))
def Fq (_:Nat) (b:Int) (a:(List Ah)):Option (((List Ah)×Int)⊕(List Ah)):=
 some (.inl (a,(Be .i64 b 1)))
def Do (n:Nat) (d:Ab) (_:(List Ah)) (j:Int) (_:Int) (e:Ah) (a:(List Ah)) (b:Int):Option (((List Ah)×Int)⊕(List Ah)):=
 if decide (b<((d.Rules.length:Nat):Int))=true then
  (IC n d e.S b).bind λ c=>
  (if c.2=true then idx d.Rules b else some default).bind λ f=>
  (if c.2=true then idx f.Cells 0 else some default).bind λ g=>
  if(c.2&&(g==j))=true then
   (idx d.Rules b).bind λ h=>
   (cat e.Text h.Print).bind λ k=>
   (HI n d ({ S:=c.1,Rule:=b,At:=1,Text:=k }:Ah)).bind λ i=>
   (app 56 a [i]).bind λ l=>
   Fq n b l
  else
   Fq n b a
 else
  some (.inr a)
def Ew (n:Nat) (d:Ab) (e:(List Ah)) (f:Int) (b:(List Ah)) (c:Int):Option (((List Ah)×Int)⊕(List Ah)):=
 if decide (c<((e.length:Nat):Int))=true then
  (idx e c).bind λ a=>
  if decide (a.Rule>=0)=true then
   (idx d.Rules a.Rule).bind λ g=>
   (idx g.Cells a.At).bind λ h=>
   if(h==f)=true then
    (HI n d ({ S:=a.S,Rule:=a.Rule,At:=Be .i64 a.At 1,Text:=a.Text }:Ah)).bind λ i=>
    (app 56 b [i]).bind λ j=>
    Eu n c j
   else
    Eu n c b
  else
   (whl (λ (x:((List Ah)×Int))=>Do n d e f c a x.1 x.2) n (b,0)).bind λ k=>
   Eu n c k
 else
  some (.inr b)
def HJ (n:Nat) (b:Ab) (c:(List Ah)) (d:Int):Option (List Ah):=
 (whl (λ (x:((List Ah)×Int))=>Ew n b c d x.1 x.2) n (([]:List Ah),0)).bind λ e=>
 (ID n e).bind λ a=>
 some a
def BN (_:Nat) (b:Int) (a:Aa):Option ((Aa×Int)⊕Aa):=
 some (.inl (a,(Be .u8 b 1)))
def BO (n:Nat) (c:(Int->Aa->(List Int)->(List Ah)->Option Aa)) (g:Int) (h:(List Int)) (i:(List Ah)) (a:Aa) (b:Int):Option ((Aa×Int)⊕Aa):=
 if decide (b<63)=true then
  (HH n a.T b).bind λ e=>
  if(!e)=true then
   BN n b a
  else
   (HJ n a.T i b).bind λ d=>
   if decide (((d.length:Nat):Int)>0)=true then
    (app 1 ([]:List Int) h).bind λ j=>
    (app 1 j [b]).bind λ k=>
    (c (C4 .i64 g 1) a k d).bind λ f=>
    BN n b f
   else
    BN n b a
 else
  some (.inr a)
def Bb (n:Nat) (c:(Int->Aa->(List Int)->(List Ah)->Option Aa)) (e:Int) (a:Aa) (f:(List Int)) (b:(List Ah)):Option Aa:=
 if((decide (C4 .i64 a.Left ((b.length:Nat):Int)<0))||a.Ok)=true then
  some ({ T:=a.T,Left:=C4 .i64 a.Left ((b.length:Nat):Int),C:=a.C,Ok:=a.Ok }:Aa)
 else
  if(e==0)=true then
   (Gf n a.T b).bind λ d=>
   if decide (((d.length:Nat):Int)>=2)=true then
    (idx d 0).bind λ g=>
    (idx d 1).bind λ h=>
    some ({ T:=a.T,Left:=C4 .i64 a.Left ((b.length:Nat):Int),C:=({ Cells:=f,A:=g,B:=h }:Bk),Ok:=true }:Aa)
   else
    some ({ T:=a.T,Left:=C4 .i64 a.Left ((b.length:Nat):Int),C:=a.C,Ok:=a.Ok }:Aa)
  else
   (whl (λ (x:(Aa×Int))=>BO n c e f b x.1 x.2) n (({ T:=a.T,Left:=C4 .i64 a.Left ((b.length:Nat):Int),C:=a.C,Ok:=a.Ok }:Aa),0)).bind λ i=>
   some i
def DP (n:Nat) (a:Int) (b:Aa) (c:(List Int)) (d:(List Ah)):Option Aa:=
 Qh (λ _ _ _ _=>none) (Bb n) n a b c d
def Dd (_:Nat) (b:Int) (a:Aa):Option ((Aa×Int)⊕Aa):=
 some (.inl (a,(Be .u8 b 1)))
def He (n:Nat) (f:Int) (g:(List Ah)) (a:Aa) (b:Int):Option ((Aa×Int)⊕Aa):=
 if decide (b<63)=true then
  (HH n a.T b).bind λ d=>
  if(!d)=true then
   Dd n b a
  else
   (HJ n a.T g b).bind λ c=>
   if decide (((c.length:Nat):Int)>0)=true then
    (app 1 ([]:List Int) ([]:List Int)).bind λ h=>
    (app 1 h [b]).bind λ i=>
    (DP n (C4 .i64 f 1) a i c).bind λ e=>
    Dd n b e
   else
    Dd n b a
 else
  some (.inr a)
def CQ (n:Nat) (_:(Int->Int->Int->(List AE)->Int->(List UInt8)->(List UInt8)->Bool->(List Ah)->Option Aa)) (j:Int) (a:Int) (b:Int) (c:(List AE)) (d:Int) (f:(List UInt8)) (g:(List UInt8)) (e:Bool) (h:(List Ah)):Option Aa:=
 if((decide (C4 .i64 d ((h.length:Nat):Int)<0))||e)=true then
  some ({ T:=({ Modes:=a,Accept:=b,Rules:=c }:Ab),Left:=C4 .i64 d ((h.length:Nat):Int),C:=({ Cells:=([]:List Int),A:=f,B:=g }:Bk),Ok:=e }:Aa)
 else
  if(j==0)=true then
   (Gf n ({ Modes:=a,Accept:=b,Rules:=c }:Ab) h).bind λ i=>
   if decide (((i.length:Nat):Int)>=2)=true then
    (idx i 0).bind λ k=>
    (idx i 1).bind λ l=>
    some ({ T:=({ Modes:=a,Accept:=b,Rules:=c }:Ab),Left:=C4 .i64 d ((h.length:Nat):Int),C:=({ Cells:=([]:List Int),A:=k,B:=l }:Bk),Ok:=true }:Aa)
   else
    some ({ T:=({ Modes:=a,Accept:=b,Rules:=c }:Ab),Left:=C4 .i64 d ((h.length:Nat):Int),C:=({ Cells:=([]:List Int),A:=f,B:=g }:Bk),Ok:=e }:Aa)
  else
   (whl (λ (x:(Aa×Int))=>He n j h x.1 x.2) n (({ T:=({ Modes:=a,Accept:=b,Rules:=c }:Ab),Left:=C4 .i64 d ((h.length:Nat):Int),C:=({ Cells:=([]:List Int),A:=f,B:=g }:Bk),Ok:=e }:Aa),0)).bind λ m=>
   some m
def Gh (n:Nat) (h:Int) (a:Int) (b:Int) (c:(List AE)) (d:Int) (e:(List UInt8)) (f:(List UInt8)) (g:Bool) (i:(List Ah)):Option Aa:=
 Qh (λ _ _ _ _ _ _ _ _ _=>none) (CQ n) n h a b c d e f g i
def FM (n:Nat) (c:Ab) (e:Int) (f:Int) (a:Int):Option (Int⊕(Unit⊕(Bk×Int))):=
 if decide (a<=e)=true then
  (SF n).bind λ d=>
  (Gh n a c.Modes c.Accept c.Rules f [] [] false d).bind λ b=>
  if decide (b.Left<0)=true then
   some (.inr (.inr (({ Cells:=[],A:=[],B:=[] }:Bk),(C4 .i64 a 1))))
  else
   if b.Ok=true then
    some (.inr (.inr (b.C,a)))
   else
    some (.inl (Be .i64 a 1))
 else
  some (.inr (.inl ()))
def Lw (n:Nat) (d:Ab) (a:Int) (e:Int):Option (Bk×Int):=
 (whl (λ (x:Int)=>FM n d a e x) n 0).bind λ b=>
 match b with
 | Sum.inl _=>
  some (({ Cells:=[],A:=[],B:=[] }:Bk),a)
 | Sum.inr c=>
  some c
noncomputable def B8 (n:Nat) (j:JZ):Option Bool:=
 (Jh n).bind λ d=>
 (GI n j).bind λ b=>
 (Br n b).bind λ a=>
 (Lw n b 5 4000).bind λ c=>
 if(!(c.1.A==c.1.B))=true then
  (if(a.2==50)=true then GG n a.1 c.1 else some default).bind λ e=>
  (if((a.2==50)&&e)=true then Dz n b else some default).bind λ g=>
  some ((((a.2==50)&&e)&&(!g))&&d)
 else
  if(a.2==0)=true then
   (GG n a.1 ({ Cells:=[],A:=[],B:=[] }:Bk)).bind λ f=>
   (if f=true then Dz n b else some default).bind λ h=>
   some ((f&&h)&&d)
  else
   (if((a.2==50)&&(decide (((a.1.Cells.length:Nat):Int)>c.2)))=true then Dz n b else some default).bind λ i=>
   some ((((a.2==50)&&(decide (((a.1.Cells.length:Nat):Int)>c.2)))&&(!i))&&d)
end Go.AI
end
