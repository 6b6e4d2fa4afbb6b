/- Part 4 of 6 of the proof: lemmas about the model and the program's functions, with no condition beyond those that each states. -/
import Derived.Test.YtnpikfdkjmebjaaLC
import Derived.KernelRfl
import Derived.RecoverIn
import Derived.TacticsInMore
import Derived.Test.YtnpikfdkjmebjaaProg
section
namespace Go.AI
variable {Γ:Cx} {C:Code} {p:List Nat} {Q:Ex->St->Prop} {s s':St} {K:St->Prop} {i:Nat} {nk:Nat}
variable {α β ζ:Type}
theorem BM {x:Option α} {d:α} (h:x.isSome=true):x=some (x.getD d):=by
 cases x with
 | none=>cases h
 | some x=>rfl
structure WP (Γ:Cx) (C:Code) (p:List Nat) (Q:Ex->St->Prop) (s:St):Prop where
 out:wpA Γ (nav p C) Q s
structure RF (Γ:Cx) (C:Code) (p:List Nat) (i:Nat) (Q:Ex->St->Prop) (s:St):Prop where
 out:A3 Γ C p i (Q .normal) s
structure PQ (Q:Ex->St->Prop) (e:Ex) (s:St):Prop where
 out:Q e s
structure RA (ty:Nat->Ty) (rs:List ResultVar) (r:AV) (s:St):Prop where
 out:SI ty rs r s
theorem RF.of {Γ:Cx} {C:Code} {p:List Nat} {i:Nat} {Q:Ex->St->Prop} {s s':St} {j:Nat} (h:A3 Γ C p j (Q .normal) s'->A3 Γ C p i (Q .normal) s) (hk:RF Γ C p j Q s'):RF Γ C p i Q s:=⟨h hk.out⟩
theorem HI (k:Nat):∀ (p:List Nat) (C:Code),nav (p++[k]) C=XJ (nav p C) k:=by
 intro p;induction p with
 | nil=>intro C;rfl
 | cons a p ih=>intro C;exact ih (XJ C a)
def U7:Code->Bool
 | .seq _ _=>true
 | _=>false
def X7:Code->Bool
 | .cond _ _ _=>true
 | _=>false
def JbZ (id:Nat):Code->Bool
 | .block i _=>Nat.beq i id
 | _=>false
def OE:Code->Bool
 | .loop _=>true
 | _=>false
theorem Jbc (h:U7 (nav p C)=true):nav p C=.seq (nav (p++[0]) C) (nav (p++[1]) C):=by
 rw[HI,HI];cases hc:nav p C<;>rw[hc]at h<;>first|rfl|cases h
theorem X8 (h:X7 (nav p C)=true):nav p C=.cond (QT (nav p C)) (nav (p++[0]) C) (nav (p++[1]) C):=by
 rw[HI,HI];cases hc:nav p C<;>rw[hc]at h<;>first|rfl|cases h
theorem Jbd {id:Nat} (h:JbZ id (nav p C)=true):nav p C=.block id (nav (p++[0]) C):=by
 rw[HI];cases hc:nav p C with
 | block j c=>rw[hc]at h;have:=JiB h;subst this;rfl
 | _=>rw[hc]at h;cases h
theorem X9 (h:OE (nav p C)=true):nav p C=.loop (nav (p++[0]) C):=by
 rw[HI];cases hc:nav p C<;>rw[hc]at h<;>first|rfl|cases h
theorem sq (hw:WP Γ C (p++[0]) (Pn Γ.nt.nk (wpA Γ (nav (p++[1]) C) Q) Q) s) (h:U7 (nav p C)=true:=by kernel_rfl):WP Γ C p Q s:=⟨JcG (Jbc h) hw.out⟩
theorem rg (hs:As Γ.nt.nk s s') (hk:RF Γ C p 0 (QU C p s' Q) s') (h:HF (nav p C)=true:=by kernel_rfl):WP Γ C p Q s:=⟨P4 h hs hk.out⟩
theorem rz (hk:RF Γ C p 0 (QU C p s Q) s) (h:HF (nav p C)=true:=by kernel_rfl):WP Γ C p Q s:=⟨P4 h JaV hk.out⟩
theorem sr (hk:RF Γ C (p++[0]) 0 (QU C (p++[0]) s (Pn Γ.nt.nk (wpA Γ (nav (p++[1]) C) Q) Q)) s) (h:(U7 (nav p C)&&HF (nav (p++[0]) C))=true:=by kernel_rfl):WP Γ C p Q s:=by
 simp only[Jiv]at h;exact sq (rz hk h.2) h.1
theorem ae {s0:St} (hk:PQ Q .normal s) (h:Nat.ble (A5 (nav p C)).length i=true:=by kernel_rfl) (hd:Lq (IZ (nav p C)) (B6 (nav p C)) s0.env s.env=true:=by kernel_rfl):RF Γ C p i (QU C p s0 Q) s:=⟨Mn i h ⟨hd,hk.out⟩⟩
theorem en {s0:St} {p':List Nat} (hk:WP Γ C p' Q s) (h:Nat.ble (A5 (nav p C)).length i=true:=by kernel_rfl) (hd:Lq (IZ (nav p C)) (B6 (nav p C)) s0.env s.env=true:=by kernel_rfl):RF Γ C p i (QU C p s0 (Pn Γ.nt.nk (wpA Γ (nav p' C) Q) Q)) s:=⟨Mn i h ⟨hd,⟨s,.refl s,hk.out⟩⟩⟩
theorem bk (id:Nat) (hw:WP Γ C (p++[0]) (H5 id Q) s) (h:JbZ id (nav p C)=true:=by kernel_rfl):WP Γ C p Q s:=⟨XL id (Jbd h) hw.out⟩
theorem ex (k:Nat) (hq:PQ Q (.exit k) s) (h:nav p C=.exit k:=by kernel_rfl):WP Γ C p Q s:=⟨JaM k h hq.out⟩
theorem re (hq:PQ Q .ret s) (h:nav p C=.ret:=by kernel_rfl):WP Γ C p Q s:=⟨JcH h hq.out⟩
theorem sk (hq:PQ Q .normal s) (h:nav p C=.skip:=by kernel_rfl):WP Γ C p Q s:=⟨JaN h hq.out⟩
theorem cn {c:Bool} {x y:Option ζ} {r:ζ} (H:(if c=true then x else y)=some r) (h1:x=some r->WP Γ C (p++[0]) Q s) (h2:y=some r->WP Γ C (p++[1]) Q s) (h:X7 (nav p C)=true:=by kernel_rfl) (hc:Aj s.env (QT (nav p C))=.d (.bool c):=by kernel_rfl):WP Γ C p Q s:=by
 refine⟨JaL c (X8 h) hc (λ e=>?_) (λ e=>?_)⟩
 ·rw[if_pos e]at H;exact(h1 H).out
 ·rw[if_neg (by rw[e];simp)]at H;exact(h2 H).out
theorem sj {σ ζ:Type} (sJ:σ->St) (F:σ->Option ζ) (z:ζ) (hb:∀ x,F x=some z->WP Γ C (p++[1]) Q (sJ x)) (ha:(∀ x,F x=some z->WP Γ C (p++[1]) Q (sJ x))->WP Γ C (p++[0]) (Pn Γ.nt.nk (wpA Γ (nav (p++[1]) C) Q) Q) s) (h:U7 (nav p C)=true:=by kernel_rfl):WP Γ C p Q s:=sq (ha hb) h
theorem lp {σ ρ:Type} {body:σ->Option (σ⊕ρ)} {n:Nat} {x:σ} {r:ρ} (st:σ->St) (E:ρ->Ex->St->Prop) (hr:whl body n x=some r) (hs:As Γ.nt.nk s (st x))
  (hb:∀ x z,body x=some z->WP Γ C (p++[0]) (AX Γ.nt.nk st E z) (st x)) (hE:∀ e s,E r e s->PQ Q e s) (h:OE (nav p C)=true:=by kernel_rfl):WP Γ C p Q s:=⟨JaO st E (X9 h) hr hs (λ x z hx=>(hb x z hx).out) (λ e s he=>(hE e s he).out)⟩
theorem fo {P:Program} {fn:Func} {f:FuncId} {args:List AV} {r:AV} (hfol:P.follows .mixedOrders=true) (hΓ:FG P Γ) (hf:P.funcs[f]?=some fn) (h:WP Γ (A1 fn) [] (SJ Γ.ty fn.results.toList r) s)
  (hb:fn.body=some (A1 fn):=by kernel_rfl) (hnm:(fn.name == "runtime.NumGoroutine")=false:=by kernel_rfl) (hnt:Γ.nt.n=fn.ntmps:=by kernel_rfl) (hlen:Nat.ble args.length fn.ntmps=true:=by kernel_rfl) (hs:(⟨(List.range args.length).zip args,[]⟩:St)=s:=by kernel_rfl) (hrd:Γ.rd=false:=by kernel_rfl):A0 P f args r:=
 JfP hfol hΓ hrd hf hb hnm hnt hlen hs h.out
theorem Mp {c a b:AV} {t x y z:Bool} {r q q':Prop} (hc:RO c=some (t,r)) (ha:unP t a=some (x,q)) (hb:unP (!t) b=some (y,q')) (hr:r) (hq:q) (hq':q') (hz:(bif t then x else y)=z:=by kernel_rfl):Ei (F9 c a b) (.d (.bool z)) [] [] none:=hz▸X4 hc ha hb hr hq hq'
theorem bx {G:Prop} {x:Option α} {f:α->Option β} {r:β} (h:x.bind f=some r) (k:∀ a,x=some a->f a=some r->G):G:=by obtain⟨a,h1,h2⟩:=bind_some h;exact k a h1 h2
theorem bs {x:Option α} {f:α->Option β} {r:β} (h:x.bind f=some r):∃ a,x=some a/\f a=some r:=bind_some h
theorem qs (hs:As Γ.nt.nk s s') (h:WP Γ C p Q s'):PQ (Pn Γ.nt.nk (wpA Γ (nav p C) Q) Q) .normal s:=⟨s',hs,h.out⟩
theorem qz (h:WP Γ C p Q s):PQ (Pn Γ.nt.nk (wpA Γ (nav p C) Q) Q) .normal s:=⟨s,.refl s,h.out⟩
theorem qx {B:St->Prop} {k:Nat} (h:PQ Q (.exit k) s):PQ (Pn nk B Q) (.exit k) s:=⟨h.out⟩
theorem qr {B:St->Prop} (h:PQ Q .ret s):PQ (Pn nk B Q) .ret s:=⟨h.out⟩
theorem qN {id:Nat} (h:PQ Q .normal s):PQ (H5 id Q) .normal s:=⟨h.out⟩
theorem qH {id:Nat} (h:PQ Q .normal s):PQ (H5 id Q) (.exit id) s:=⟨XM h.out⟩
theorem qR {id:Nat} (h:PQ Q .ret s):PQ (H5 id Q) .ret s:=⟨h.out⟩
theorem og {σ ρ:Type} {st:σ->St} {E:ρ->Ex->St->Prop} {y:σ} (h:As nk s (st y)):PQ (AX nk st E (.inl y)) .normal s:=⟨XN h⟩
theorem oe {σ ρ:Type} {st:σ->St} {E:ρ->Ex->St->Prop} {r:ρ} {k:Nat} (h:E r (.exit k) s):PQ (AX nk st E (.inr r)) (.exit k) s:=⟨T5 h⟩
theorem or {σ ρ:Type} {st:σ->St} {E:ρ->Ex->St->Prop} {r:ρ} (h:E r .ret s):PQ (AX nk st E (.inr r)) .ret s:=⟨Wa h⟩
theorem pr {ty:Nat->Ty} {rs:List ResultVar} {r:AV} (h:RA ty rs r s):PQ (SJ ty rs r) .ret s:=⟨h.out⟩
def nxP (Γ:Cx) (C:Code) (p:List Nat) (i n:Nat) (s:St):St:=(Wb Γ (A5 (nav p C)) (((A5 (nav p C)).drop i).take n) s).getD s
theorem ck (n:Nat) (hk:RF Γ C p (i+n) Q (nxP Γ C p i n s)) (h:(Wb Γ (A5 (nav p C)) (((A5 (nav p C)).drop i).take n) s).isSome=true:=by kernel_rfl):RF Γ C p i Q s:=⟨JfK n _ (BM h) rfl hk.out⟩
def Dq (_:St) (x:Option Eff) (v:AV) (obs:List Ob) (rm:List Nat) (upd:Option (Nat×Ob)):Prop:=Ei x v obs rm upd
theorem sp {v:AV} {obs:List Ob} {rm:List Nat} {upd:Option (Nat×Ob)} {x:Option Eff} (ho:Dq s x v obs rm upd) (hk:RF Γ C p (i+1) Q ((M3 Γ (nav p C) i v obs rm upd s).getD s)) (hx:Mo Γ (nav p C) i s=x:=by kernel_rfl) (hn:(M3 Γ (nav p C) i v obs rm upd s).isSome=true:=by kernel_rfl):RF Γ C p i Q s:=⟨Jhe _ hx ho (BM hn) rfl hk.out⟩
def opV (Γ:Cx) (c:Code) (i:Nat) (s:St):AV:=match Mo Γ c i s with
 | some e=>e.v
 | none=>.top
theorem so {ob:Prop} (ho:ob) (hk:RF Γ C p (i+1) Q ((M3 Γ (nav p C) i (opV Γ (nav p C) i s) [] [] none s).getD s)) (hx:Mo Γ (nav p C) i s=A4 (opV Γ (nav p C) i s) ob:=by kernel_rfl) (hn:(M3 Γ (nav p C) i (opV Γ (nav p C) i s) [] [] none s).isSome=true:=by kernel_rfl):RF Γ C p i Q s:=sp (JbX ho) hk hx hn
theorem sG {g:Bool} {v:AV} {obs:List Ob} {x:Option Eff} {gs:List Bool} (ho:g=true->Dq s x v obs [] none) (hi:EG g gs) (hk:RF Γ C p (i+1) Q ((Jn Γ (nav p C) i g v obs s).getD s)) (hg:gAt (nav p C) i s=some g:=by kernel_rfl) (hx:Mo Γ (nav p C) i s=x:=by kernel_rfl) (hgs:EX (nav p C) i s=gs:=by kernel_rfl) (hn:(Jn Γ (nav p C) i g v obs s).isSome=true:=by kernel_rfl):RF Γ C p i Q s:=⟨JbU _ hg hx ho hgs hi (BM hn) rfl hk.out⟩
theorem soG {g:Bool} {ob:Prop} {gs:List Bool} (ho:g=true->ob) (hi:EG g gs) (hk:RF Γ C p (i+1) Q ((Jn Γ (nav p C) i g (opV Γ (nav p C) i s) [] s).getD s)) (hg:gAt (nav p C) i s=some g:=by kernel_rfl) (hx:Mo Γ (nav p C) i s=A4 (opV Γ (nav p C) i s) ob:=by kernel_rfl) (hgs:EX (nav p C) i s=gs:=by kernel_rfl) (hn:(Jn Γ (nav p C) i g (opV Γ (nav p C) i s) [] s).isSome=true:=by kernel_rfl):RF Γ C p i Q s:=sG (λ e=>JbX (ho e)) hi hk hg hx hgs hn
def plV (Γ:Cx) (c:Code) (i:Nat) (s:St):AV×List Ob:=(X1 Γ c i s).getD (.top,[])
theorem gp (g:Bool) {gs:List Bool} (hi:EG g gs) (hk:RF Γ C p (i+1) Q ((Jn Γ (nav p C) i g (plV Γ (nav p C) i s).1 (plV Γ (nav p C) i s).2 s).getD s)) (hg:gAt (nav p C) i s=some g:=by kernel_rfl) (hp:(X1 Γ (nav p C) i s).isSome=true:=by kernel_rfl) (hgs:EX (nav p C) i s=gs:=by kernel_rfl) (hn:(Jn Γ (nav p C) i g (plV Γ (nav p C) i s).1 (plV Γ (nav p C) i s).2 s).isSome=true:=by kernel_rfl):RF Γ C p i Q s:=
 ⟨JbU _ hg rfl (λ _=>JfS (BM (d:=(.top,[])) hp)) hgs hi (BM hn) rfl hk.out⟩
def gl (Γ:Cx) (c:Code) (g:Bool):Nat->Nat->St->Option (List Bool×St)
 | 0,_,s=>some ([],s)
 | n+1,i,s=>match gAt c i s,(X1 Γ c i s).isSome,Jn Γ c i g (plV Γ c i s).1 (plV Γ c i s).2 s with
  | some g',true,some s1=>match gl Γ c g n (i+1) s1 with
   | some (l,s2)=>some (g'::(EX c i s++l),s2)
   | none=>none
  | _,_,_=>none
theorem P8 {g:Bool}:∀ {l:List Bool},(∀ b∈l,b=g)->EG g l:=by
 intro l;induction l with
 | nil=>intro _;trivial
 | cons b l ih=>intro h;exact⟨λ e=>by rw[h b (by simp)];exact e,ih λ x hx=>h x (by simp[hx])⟩
theorem JfX {g:Bool}:∀ (n i:Nat) (s:St) (l:List Bool) (s2:St),gl Γ (nav p C) g n i s=some (l,s2)->(∀ b∈l,b=g)->RF Γ C p (i+n) Q s2->RF Γ C p i Q s:=by
 intro n;induction n with
 | zero=>intro i s l s2 h _ hk;cases h;exact hk
 | succ n ih=>
  intro i s l s2 h hl hk;simp only[gl]at h;split at h
  ·rename_i g' s1 h1 h2 h3;split at h
   ·rename_i l' s2' h4;cases h;have e:g'=g:=hl g' (by simp);subst e;have hlast:=ih (i+1) s1 l' s2 h4 (λ b hb=>hl b (by simp[hb])) (by rw[Jip,Nat.add_comm 1 n];exact hk);refine gp g' (P8 λ b hb=>hl b (by simp[hb])) ?_ h1 h2 rfl (by rw[h3];rfl);rw[h3];exact hlast
   ·cases h
  ·cases h
theorem gc (n:Nat) (g:Bool) (hk:RF Γ C p (i+n) Q ((gl Γ (nav p C) g n i s).getD ([],s)).2) (h1:(gl Γ (nav p C) g n i s).isSome=true:=by kernel_rfl) (h2:((gl Γ (nav p C) g n i s).getD ([],s)).1=List.replicate ((gl Γ (nav p C) g n i s).getD ([],s)).1.length g:=by kernel_rfl):RF Γ C p i Q s:=by
 refine JfX n i s _ _ (BM (d:=([],s)) h1) (λ b hb=>?_) hk;have hb':b∈((gl Γ (nav p C) g n i s).getD ([],s)).1:=hb;rw[h2]at hb';exact List.eq_of_mem_replicate hb'
def bo:AV->Bool
 | .d (.bool b)=>b
 | .gv _ (.d (.bool b))=>b
 | _=>false
def pkO (c:Code) (i:Nat) (s:St):AV×AV×AV:=
 match (A5 c)[i]? with
 | some o=>match o.op with
  | .pick x y z=>(Aj s.env x,Aj s.env y,Aj s.env z)
  | _=>(.top,.top,.top)
 | none=>(.top,.top,.top)
def pkT (c:Code) (i:Nat) (s:St):Bool:=bo (pkO c i s).1
def pkX (c:Code) (i:Nat) (s:St):Bool:=bo (pkO c i s).2.1
def pkY (c:Code) (i:Nat) (s:St):Bool:=bo (pkO c i s).2.2
def pkV (c:Code) (i:Nat) (s:St):AV:=.d (.bool (bif pkT c i s then pkX c i s else pkY c i s))
theorem pA (hk:RF Γ C p (i+1) Q ((P5 Γ (nav p C) i (pkV (nav p C) i s) s).getD s)) (h:K6 (nav p C) i s=F9 (.d (.bool (pkT (nav p C) i s))) (.gv (pkT (nav p C) i s) (.d (.bool (pkX (nav p C) i s)))) (.d (.bool (pkY (nav p C) i s))):=by kernel_rfl) (hn:(P5 Γ (nav p C) i (pkV (nav p C) i s) s).isSome=true:=by kernel_rfl):RF Γ C p i Q s:=⟨JbV _ h X3 (BM hn) rfl hk.out⟩
theorem pO (hk:RF Γ C p (i+1) Q ((P5 Γ (nav p C) i (pkV (nav p C) i s) s).getD s)) (h:K6 (nav p C) i s=F9 (.d (.bool (pkT (nav p C) i s))) (.d (.bool (pkX (nav p C) i s))) (.gv (!(pkT (nav p C) i s)) (.d (.bool (pkY (nav p C) i s)))):=by kernel_rfl) (hn:(P5 Γ (nav p C) i (pkV (nav p C) i s) s).isSome=true:=by kernel_rfl):RF Γ C p i Q s:=⟨JbV _ h Ja2 (BM hn) rfl hk.out⟩
theorem pG {g:Bool} {v:AV} {x:Option Eff} (ho:g=true->Ei x v [] [] none) (hk:RF Γ C p (i+1) Q ((QV Γ (nav p C) i g v s).getD s)) (hg:gAt (nav p C) i s=some g:=by kernel_rfl) (hx:K6 (nav p C) i s=x:=by kernel_rfl) (hn:(QV Γ (nav p C) i g v s).isSome=true:=by kernel_rfl):RF Γ C p i Q s:=⟨JcI _ hg hx ho (BM hn) rfl hk.out⟩
theorem sF (hk:RF Γ C p (i+1) Q ((U0 Γ (nav p C) i ((LJ Γ (nav p C) i s).getD []) s).getD s)) (hx:(LJ Γ (nav p C) i s).isSome=true:=by kernel_rfl) (hn:(U0 Γ (nav p C) i ((LJ Γ (nav p C) i s).getD []) s).isSome=true:=by kernel_rfl):RF Γ C p i Q s:=⟨JfR _ _ (BM hx) (BM hn) rfl hk.out⟩
theorem sK (obj:Bool) (hk:RF Γ C p (i+1) Q ((U4 Γ (nav p C) i obj ((K7 Γ (nav p C) i s).getD (0,[])).1 ((K7 Γ (nav p C) i s).getD (0,[])).2 s).getD s)) (hx:(K7 Γ (nav p C) i s).isSome=true:=by kernel_rfl) (hn:(U4 Γ (nav p C) i obj ((K7 Γ (nav p C) i s).getD (0,[])).1 ((K7 Γ (nav p C) i s).getD (0,[])).2 s).isSome=true:=by kernel_rfl):RF Γ C p i Q s:=⟨JfU _ obj _ (BM (d:=(0,[])) hx) (BM hn) rfl hk.out⟩
theorem ca (m:Bool) {f:FuncId} {ys:List AV} {r:AV} (hr:Γ.calls f ys r) (hk:RF Γ C p (i+1) Q ((M4 Γ (nav p C) i m (HG r) r s).getD s)) (hc:Ii (nav p C) i s=some (f,ys,[],[]):=by kernel_rfl) (hn:(M4 Γ (nav p C) i m (HG r) r s).isSome=true:=by kernel_rfl):RF Γ C p i Q s:=⟨XV _ m hc leZ rfl hr (.inl rfl) rfl (BM hn) rfl hk.out⟩
theorem cb (m:Bool) {f:FuncId} {xs ys:List AV} {ks:List Nat} {obl:List (Nat×Nat)} {r:AV} {ls:List Nat} (hob:FL obl) (hxs:xs=ys) (hr:Γ.calls f ys r) (hf:ks=[]\/IE r) (hls:HG r=ls) (hk:RF Γ C p (i+1) Q ((M4 Γ (nav p C) i m ls r s).getD s)) (hc:Ii (nav p C) i s=some (f,xs,ks,obl):=by kernel_rfl) (hn:(M4 Γ (nav p C) i m ls r s).isSome=true:=by kernel_rfl):RF Γ C p i Q s:=⟨XV _ m hc hob hxs hr hf hls (BM hn) rfl hk.out⟩
theorem cG (m:Bool) {g:Bool} {gs:List Bool} {f:FuncId} {xs ys:List AV} {ks:List Nat} {obl:List (Nat×Nat)} {r:AV} {ls:List Nat} (hob:FL obl) (hxs:xs=ys) (hr:g=true->Γ.calls f ys r) (hf:ks=[]\/IE r) (hi:EG g gs) (hls:HG r=ls) (hk:RF Γ C p (i+1) Q ((Oy Γ (nav p C) i g m ls r s).getD s)) (hg:gAt (nav p C) i s=some g:=by kernel_rfl) (hc:Ii (nav p C) i s=some (f,xs,ks,obl):=by kernel_rfl) (hgs:EX (nav p C) i s=gs:=by kernel_rfl) (hn:(Oy Γ (nav p C) i g m ls r s).isSome=true:=by kernel_rfl):RF Γ C p i Q s:=⟨JfM _ m hg hc hob hxs hr hf hgs hi hls (BM hn) rfl hk.out⟩
theorem AM (e:α->List D) {xs:List α} {n:Int} {x:α} (h:idx xs n=some x):Dq s (A4 (.dptr ((xs.map e)[n.toNat]?.getD []) 0) (0<=n/\n<(xs.map e).length/\((xs.map e)[n.toNat]?.getD []).length=(e x).length)) (.dptr (e x) 0) [] [] none:=
 JaX (esz:=(e x).length) (eb:=0) (ez:=[]) h (Nat.beq_refl _)
theorem Bo (k esz:Nat) {xs:List α} {n:Int} {x:α} (h:idx xs n=some x):Dq s (A4 (.eptr k esz (0+n.toNat) 0) (0<=n/\n<(xs.length:Nat)/\esz=esz)) (.eptr k esz (0+n.toNat) 0) [] [] none:=JaY (esz:=esz) (eb:=0) (ez:=[]) h
theorem Jbe (k esz:Nat) {xs:List α} {m:Nat} {n:Int} {x:α} (e:m=xs.length) (h:idx xs n=some x):Dq s (A4 (.eptr k esz (0+n.toNat) 0) (0<=n/\n<(m:Nat)/\esz=esz)) (.eptr k esz (0+n.toNat) 0) [] [] none:=by
 subst e;exact Bo k esz h
def ldV (l:List D) (off:Nat) (t:Ty):AV:=(Cg (l.map .d) off t).getD .top
theorem Ej (e:α->List D) (k off:Nat) (t:Ty) {xs:List α} {n:Int} {x:α} (h:idx xs n=some x) (hk:obA s.objs k=some (.arr (e x).length (xs.map e)):=by kernel_rfl) (hv:(Cg ((e x).map .d) off t).isSome=true:=by kernel_rfl) (hl:Nat.ble (off+t.size) (e x).length=true:=by kernel_rfl) :
  Dq s (Ct t s.objs (.eptr k (e x).length (0+n.toNat) off)) (ldV (e x) off t) [] [] none:=JcO hk h (BM hv) hl
def stV (c:Code) (i:Nat) (s:St):AV:=
 match (A5 c)[i]? with
 | some o=>match o.op with
  | .store _ _ v=>unG (Aj s.env v)
  | _=>.top
 | none=>.top
def stR (c:Code) (i:Nat) (s:St):List D:=((xDs s.objs (Ao (stV c i s))).getD ([],[],[])).1
theorem stA (e:α->List D) (k off:Nat) (t:Ty) {xs zs:List α} {n:Int} {x y:α} (h:idx xs n=some x) (hz:put xs n y=some zs) (hk:RF Γ C p (i+1) Q ((M3 Γ (nav p C) i .top [] [] (some (k,.arr (e x).length (zs.map e))) s).getD s))
  (h1:obA s.objs k=some (.arr (e x).length (xs.map e)):=by kernel_rfl) (h2:xDs s.objs (Ao (stV (nav p C) i s))=some (stR (nav p C) i s,[],[]):=by kernel_rfl) (h3:(Bn (stV (nav p C) i s)&&(Ao (stV (nav p C) i s)).all Cs)=true:=by kernel_rfl) (h4:Fy (e x) off (stR (nav p C) i s)=e y:=by kernel_rfl) (h5:(Nat.beq (stR (nav p C) i s).length t.size&&Nat.ble (off+t.size) (e x).length)=true:=by kernel_rfl)
  (hx:Mo Γ (nav p C) i s=Ef t s.objs (.eptr k (e x).length (0+n.toNat) off) (stV (nav p C) i s):=by kernel_rfl) (hn:(M3 Γ (nav p C) i .top [] [] (some (k,.arr (e x).length (zs.map e))) s).isSome=true:=by kernel_rfl):RF Γ C p i Q s:=
 sp (JcP h1 h hz h2 leZ (by rw[h3];rfl) h4 h5) hk hx hn
theorem BC (e:α->List D) (k esz:Nat) {xs ys zs:List α} {eb:Nat} (h:app eb xs ys=some zs) (hk:obA s.objs k=some (.arr esz (xs.map e)):=by kernel_rfl) (hl:∀ y,(e y).length=esz:=by intro _;rfl):Dq s (Ci esz eb s.objs (.osl k esz 0 xs.length) (((ys.map e).drop 0).take ys.length) (0+ys.length<=(ys.map e).length)) (.osl s.objs.length esz 0 zs.length) [.arr esz (zs.map e)] [k] none:=JcR hk C1 hl (by simp) h
theorem Ub {x y z:List UInt8} (h:cat x y=some z):Dq s (RN .add x y) (.d (.str z)) [] [] none:=JcS h
theorem Gn {t:List UInt8} {n b:Int} (h:IY t n=some b):Dq s (A4 (.d (.int .u8 (t[n.toNat]?.getD 0).toNat)) (0<=n/\n<t.length)) (.d (.int .u8 b)) [] [] none:=JaZ h
theorem LM {t z:List UInt8} {l h:Int} (hz:sub t l h=some z):Dq s (A4 (.d (.str ((t.take h.toNat).drop l.toNat))) (0<=l/\l<=h/\h<=t.length)) (.d (.str z)) [] [] none:=Ja0 hz
theorem Uc (e:α->List D) (esz:Nat) {xs zs:List α} {l h:Int} (hz:sub xs l h=some zs) (hl:∀ y,(e y).length=esz:=by intro _;rfl):Dq s (A4 (.d (.sl (((xs.map e).take h.toNat).drop l.toNat))) (0<=l/\l<=h/\h<=(xs.map e).length/\∀ y∈xs.map e,y.length=esz)) (.d (.sl (zs.map e))) [] [] none:=JcT hz hl
theorem Ya (k esz:Nat) {xs zs:List α} {l h:Int} (hz:sub xs l h=some zs):Dq s (A4 (.osl k esz (0+l.toNat) (h.toNat-l.toNat)) (0<=l/\l<=h/\h<=(xs.length:Int)/\esz=esz)) (.osl k esz (0+l.toNat) (h.toNat-l.toNat)) [] [] none:=JcV hz
theorem Jb0 (e:α->List D) (esz:Nat) {zs:List α} {n:Int} {z:α} {eb:Nat} (h:mkl eb n z=some zs):Dq s (some ⟨.osl s.objs.length esz 0 n.toNat,[.arr esz (List.replicate n.toNat (e z))],[],none,0<=n/\n<=n/\n.toNat*eb<=70368744177664⟩) (.osl s.objs.length esz 0 zs.length) [.arr esz (zs.map e)] [] none:=JfT h rfl
theorem Jbf {b:List Int} {z:List UInt8} (h:Oq b=some z):Dq s (Ll (.slice 1 1 [.int .u8 0]) .string (.d (.sl (b.map λ n=>[.int .u8 n])))) (.d (.str z)) [] [] none:=Ja1 h
theorem AT (e:α->List D) (xs:List α):Dq s (val (.d (.int .i64 (xs.map e).length))) (.d (.int .i64 xs.length)) [] [] none:=JcU (esz:=0) (eb:=0) (ez:=[])
theorem cl (ls:List Nat) {f:FuncId} {ys:List AV} {r:AV} (hr:Γ.calls f ys r) (hk:RF Γ C p (i+1) Q ((M4 Γ (nav p C) i true ls r s).getD s)) (hls:HG r=ls:=by simp only[HG,SN,SM,P6,Jiq,List.nil_append,List.append_nil,List.cons_append]) (hc:Ii (nav p C) i s=some (f,ys,[],[]):=by kernel_rfl) (hn:(M4 Γ (nav p C) i true ls r s).isSome=true:=by kernel_rfl):RF Γ C p i Q s:=⟨XV _ true hc leZ rfl hr (.inl rfl) hls (BM hn) rfl hk.out⟩
theorem Q3 {encN:α->List AV} {xss:List α} {x:α} {row:List AV} {n:Int} {k sz off:Nat} {t:Ty} {v:AV} (h:idx xss n=some x) (hk:obA s.objs k=some (.narr sz ((xss.map encN).set n.toNat row)):=by kernel_rfl) (hv:Cg row off t=some v:=by kernel_rfl) (hs:(Ao v).all Cs=true:=by kernel_rfl) (hl:Nat.ble (off+t.size) row.length=true:=by kernel_rfl) :
  Dq s (Ct t s.objs (.eptr k sz (0+n.toNat) off)) v [] [] none:=JcY hk h hv hs hl
theorem Ud {encN:α->List AV} {xss:List α} {x:α} {row row':List AV} {n:Int} {k sz off:Nat} {t:Ty} {v:AV} (h:idx xss n=some x) (hk:obA s.objs k=some (.narr sz ((xss.map encN).set n.toNat row)):=by kernel_rfl) (hc:(Bn v&&(Ao v).all Cs)=true:=by kernel_rfl) (hy:splice row off (Ao v)=row':=by kernel_rfl) (hl:(Nat.beq (Ao v).length t.size&&Nat.ble (off+t.size) sz)=true:=by kernel_rfl) :
  Dq s (Ef t s.objs (.eptr k sz (0+n.toNat) off) v) .top [] [] (some (k,.narr sz ((xss.map encN).set n.toNat row'))):=JcZ hk h hc hy hl
theorem Jbg {encN:α->List AV} {xss yss:List α} {y:α} {esz eb k:Nat} {e:List D} (h:app eb xss [y]=some yss) (hk:obA s.objs k=some (.narr esz (xss.map encN)):=by kernel_rfl) (hl:Nat.beq e.length esz=true:=by kernel_rfl) :
  Dq s (Ci esz eb s.objs (.osl k esz 0 xss.length) [e] True) (.osl s.objs.length esz 0 yss.length) [.narr esz (xss.map encN++[e.map toN])] [k] none:=Ja6 hk hl trivial h
theorem Jr {κ:Type} [DecidableEq κ] {encK:κ->List D} {enc:α->List D} {ks:List TK} {k:Nat} {m:List (κ×α)} {key:κ} {l:List AV} {z:α} {vz:List D} {e1:α->D} (heq:∀ a b,Au ks ((encK a).map .d) ((encK b).map .d)=some (decide (a=b))) (ok:Bool) (he:∀ x,enc x=[e1 x]:=by intro _;rfl) (hz:vz=[e1 z]:=by kernel_rfl) (hk:obA s.objs k=some (.map true false (AA encK enc m)):=by kernel_rfl) (hx:xDs s.objs l=some (encK key,[],[]):=by kernel_rfl) :
  Dq s (Fd (.map ks true false vz) s.objs (.mp k) (.agg l) ok) (bif ok then .tup [.d (e1 ((BJ key m).getD z)),.d (.bool (BJ key m).isSome)]else .d (e1 ((BJ key m).getD z))) [] [] none:=X5 heq he hz hk hx ok
theorem Kc {κ:Type} [DecidableEq κ] {encK:κ->List D} {enc:α->List D} {ks:List TK} {k:Nat} {m:List (κ×α)} {key:κ} {l:List AV} {v:AV} {y:α} {vz:List D} {e1:α->D} (heq:∀ a b,Au ks ((encK a).map .d) ((encK b).map .d)=some (decide (a=b))) (he:∀ x,enc x=[e1 x]:=by intro _;rfl) (hz:Nat.beq vz.length 1=true:=by kernel_rfl) (hk:obA s.objs k=some (.map true false (AA encK enc m)):=by kernel_rfl) (hx:xDs s.objs l=some (encK key,[],[]):=by kernel_rfl) (hv:v=.d (e1 y):=by kernel_rfl) (hvx:xDs s.objs [v]=some (enc y,[],[]):=by kernel_rfl) :
  Dq s (F8 (.map ks true false vz) s.objs (.mp k) (.agg l) v) .top [] [] (some (k,.map true false (AA encK enc (DV key y m)))):=Ja3 heq he hz hk hx hv hvx
def U9:AV->Bool
 | .d _=>true
 | .agg l=>l.all KX
 | _=>false
theorem OF (l m:List (Option (Nat×Nat×Nat))):ksE (l++m)=ksE l++ksE m:=by
 induction l with
 | nil=>rfl
 | cons a l ih=>cases a<;>simp[ksE,ih]
theorem Yb {a:AV} (h:KX a=true):ksE (Ji a a)=[]:=by
 cases a with
 | d x=>cases x<;>rfl
 | _=>cases h
theorem Jbh {objs:List (Option Ob)} {a:AV} (h:KX a=true):Kt objs a a:=by
 cases a with
 | d x=>exact T8
 | _=>cases h
theorem JfY {objs:List (Option Ob)}:∀ {l:List AV},l.all KX=true->VW objs l l/\ksE (N9 l l)=[]:=by
 intro l;induction l with
 | nil=>intro _;exact⟨trivial,rfl⟩
 | cons a l ih=>
  intro h;simp only[List.all_cons,Jiv]at h;obtain⟨h1,h2⟩:=ih h.2;exact⟨⟨Jbh h.1,h1⟩,by simp only[N9,OF,Yb h.1,h2,List.append_nil]⟩
theorem Yc {objs:List (Option Ob)} {a:AV} (h:U9 a=true):Oa objs a a/\ksE (Ku a a)=[]:=by
 cases a with
 | d x=>exact⟨T8,Yb (a:=.d x) rfl⟩
 | agg l=>exact JfY h
 | _=>cases h
theorem Jb1 {objs:List (Option Ob)}:∀ {l:List AV},l.all U9=true->TM objs l l/\ksE (Kv l l)=[]:=by
 intro l;induction l with
 | nil=>intro _;exact⟨trivial,rfl⟩
 | cons a l ih=>
  intro h;simp only[List.all_cons,Jiv]at h;obtain⟨h1,h2⟩:=ih h.2;obtain⟨h3,h4⟩:=Yc (objs:=objs) h.1;exact⟨⟨h3,h1⟩,by simp only[Kv,OF,h4,h2,List.append_nil]⟩
theorem rd {ty:Nat->Ty} {rs:List ResultVar} {r:AV} (hd:U9 r=true:=by kernel_rfl) (h:Oz ty s rs=some [r]:=by kernel_rfl):RA ty rs r s:=⟨JfN [] h (Yc hd).1 (Yc (objs:=[]) hd).2 (by simp)⟩
theorem rdT {ty:Nat->Ty} {rs:List ResultVar} {l:List AV} (hd:l.all U9=true:=by kernel_rfl) (h:Oz ty s rs=some l:=by kernel_rfl) (hl:Nat.beq l.length 1=false:=by kernel_rfl):RA ty rs (.tup l) s:=⟨JfO h hl (Jb1 hd).1 [] (Jb1 (objs:=[]) hd).2 (by simp)⟩
structure OV (s:St) (a r:AV):Prop where
 out:Kt s.objs a r
structure OC (s:St) (a r:List AV):Prop where
 out:VW s.objs a r
structure OA (s:St) (a r:AV):Prop where
 out:Oa s.objs a r
structure OT (s:St) (a r:List AV):Prop where
 out:TM s.objs a r
theorem c0:OC s [] []:=⟨trivial⟩
theorem c1 {a r:AV} {l m:List AV} (h:OV s a r) (h':OC s l m):OC s (a::l) (r::m):=⟨⟨h.out,h'.out⟩⟩
theorem a1 {l m:List AV} (h:OC s l m):OA s (.agg l) (.agg m):=⟨h.out⟩
theorem ad {x:D} {r:AV} (h:OV s (.d x) r):OA s (.d x) r:=⟨h.out⟩
theorem ao {k sz lo n:Nat} {r:AV} (h:OV s (.osl k sz lo n) r):OA s (.osl k sz lo n) r:=⟨h.out⟩
theorem t0:OT s [] []:=⟨trivial⟩
theorem t1 {a r:AV} {l m:List AV} (h:OA s a r) (h':OT s l m):OT s (a::l) (r::m):=⟨⟨h.out,h'.out⟩⟩
theorem vd {x:D}:OV s (.d x) (.d x):=⟨T8⟩
theorem vn:OV s (.d .nil) (.d (.sl [])):=⟨Wc⟩
theorem vz {sz:Nat}:OV s (.d .nil) (.own sz []):=⟨Wd⟩
theorem vo {enc:α->List D} {xs:List α} {k sz:Nat} (h:obA s.objs k=some (.arr sz (xs.map enc)):=by kernel_rfl):OV s (.osl k sz 0 xs.length) (.own sz (xs.map enc)):=⟨XY h⟩
theorem rO {ty:Nat->Ty} {rs:List ResultVar} {v r:AV} (ks:List Nat) (ho:OA s v r) (h:Oz ty s rs=some [v]:=by kernel_rfl) (hks:ksE (Ku v r)=ks:=by kernel_rfl) (hnd:ks.Nodup:=by decide):RA ty rs r s:=⟨JfN ks h ho.out hks hnd⟩
theorem rT {ty:Nat->Ty} {rs:List ResultVar} {vs l:List AV} (ks:List Nat) (ho:OT s vs l) (h:Oz ty s rs=some vs:=by kernel_rfl) (hl:Nat.beq vs.length 1=false:=by kernel_rfl) (hks:ksE (Kv vs l)=ks:=by kernel_rfl) (hnd:ks.Nodup:=by decide):RA ty rs (.tup l) s:=⟨JfO h hl ho.out ks hks hnd⟩
structure RL (nk:Nat) (ty:Nat->Ty) (rs:List ResultVar) (r:AV) (O1:List (Option Ob)) (s:St):Prop where
 out:∃ s',As nk s s'/\JaK ty rs r O1 s'
def Jhf (vs:List AV):AV:=match vs with
 | [v]=>v
 | vs=>.tup vs
theorem rl {ty:Nat->Ty} {rs:List ResultVar} {r:AV} {O1:List (Option Ob)} (sh:As nk s s') (h:(Oz ty s' rs).map Jhf=some r:=by kernel_rfl) (hO:s'.objs=O1:=by kernel_rfl):RL nk ty rs r O1 s:=by
 refine⟨s',sh,hO,?_⟩;cases hb:Oz ty s' rs with
 | none=>rw[hb]at h;cases h
 | some vs=>
  rw[hb]at h;obtain⟨p,e1,q1⟩:=QX hb;rw[e1];simp only[Option.map_some,JiE]at h
  match vs,h with
  | [],h=>exact⟨q1,h.symm⟩
  | [v],h=>exact⟨q1,h⟩
  | v::v'::l,h=>exact⟨q1,h.symm⟩
theorem pL {ty:Nat->Ty} {rs:List ResultVar} {r:AV} {O1:List (Option Ob)} (h:RL nk ty rs r O1 s):PQ (P3 nk ty rs r O1) .ret s:=⟨h.out⟩
theorem pL' {ty:Nat->Ty} {rs:List ResultVar} {r:AV} {O1:List (Option Ob)} (h:RL nk ty rs r O1 s):PQ (P3 nk ty rs r O1) .normal s:=⟨h.out⟩
theorem fl {P:Program} {fn:Func} {f:FuncId} {args:List AV} {O0 O1:List (Option Ob)} {nb:Nat} {r:AV} (hfol:P.follows .mixedOrders=true) (hΓ:FG P Γ) (hf:P.funcs[f]?=some fn) (h:WP Γ (A1 fn) [] (P3 nb Γ.ty fn.results.toList r O1) s)
  (hb:fn.body=some (A1 fn):=by kernel_rfl) (hnm:(fn.name == "runtime.NumGoroutine")=false:=by kernel_rfl) (hnt:Γ.nt=⟨fn.ntmps,[],nb,Γ.nt.qf⟩:=by kernel_rfl) (hlen:Nat.ble args.length fn.ntmps=true:=by kernel_rfl) (hs:(⟨(List.range args.length).zip args,O0⟩:St)=s:=by kernel_rfl) (hrd:Γ.rd=false:=by kernel_rfl):CG P f args O0 nb r O1:=
 JaU hfol hΓ hrd hf hb hnm hnt hlen hs h.out
theorem lt (ord:List Nat) {f:FuncId} {ys:List AV} {O0 O1:List (Option Ob)} {nb:Nat} {r:AV} (hr:Γ.lent f ys O0 nb r O1) (hk:RF Γ C p (i+1) Q ((P7 Γ (nav p C) i ord nb r O1 s).getD s)) (hc:Jo (nav p C) i s=some (f,((Jo (nav p C) i s).getD (0,[],[])).2.1,ord):=by kernel_rfl)
  (hxs:((Jo (nav p C) i s).getD (0,[],[])).2.1.map (H3 ord)=ys:=by kernel_rfl) (hO:EQ s.objs ord=O0:=by kernel_rfl) (hn:(P7 Γ (nav p C) i ord nb r O1 s).isSome=true:=by kernel_rfl):RF Γ C p i Q s:=⟨lentS hc hxs hO hr (BM hn) hk.out⟩
theorem leM {enc:α->List D} {xs:List α}:0+xs.length<=(xs.map enc).length:=by simp
theorem ltP (ord:List Nat) {f:FuncId} {ys:List AV} {O0 O1 raw0:List (Option Ob)} {nb:Nat} {r:AV} (hr:Γ.lent f ys O0 nb r O1) (hp0:Pl (H2 ord) raw0 O0) (hk:RF Γ C p (i+1) Q ((P7 Γ (nav p C) i ord nb r O1 s).getD s)) (hc:Jo (nav p C) i s=some (f,((Jo (nav p C) i s).getD (0,[],[])).2.1,ord):=by kernel_rfl)
  (hxs:((Jo (nav p C) i s).getD (0,[],[])).2.1.map (H3 ord)=ys:=by kernel_rfl) (hO:EQ s.objs ord=raw0:=by kernel_rfl) (hn:(P7 Γ (nav p C) i ord nb r O1 s).isSome=true:=by kernel_rfl):RF Γ C p i Q s:=lt ord hr hk hc hxs (hO.trans hp0.eq) hn
theorem tb {f:AV->AV} {raw:List (Option Ob)} (O:List (Option Ob)) (hp:Pl f raw O) (hk:RF Γ C p i Q ⟨s.env,O⟩) (h:s.objs=raw:=by kernel_rfl):RF Γ C p i Q s:=by
 rw[hp.eq]at h;rw[← h]at hk;exact hk
theorem Yd (esz:Nat) {α:Type} {zs:List α} {n:Int} {z:α} {eb:Nat} {ez:List D} (h:mkl eb n z=some zs):Dq s (some ⟨.osl s.objs.length esz 0 n.toNat,[.arr esz (List.replicate n.toNat ez)],[],none,0<=n/\n<=n/\n.toNat*eb<=70368744177664⟩) (.osl s.objs.length esz 0 n.toNat) [.arr esz (List.replicate n.toNat ez)] [] none:=by
 have:0<=n/\n.toNat*eb<=70368744177664:=by
  unfold mkl at h;split at h
  ·assumption
  ·cases h
 exact .of rfl ⟨this.1,Int.le_refl _,this.2⟩
theorem Q4 {α:Type} {zs:List α} {n:Int} {z:α} {eb:Nat} (h:mkl eb n z=some zs):List.replicate n.toNat z=zs:=by
 unfold mkl at h;split at h
 ·exact Option.some.inj h
 ·cases h
theorem NB {α:Type} {zs:List α} {n:Int} {z:α} {eb:Nat} (h:mkl eb n z=some zs):n.toNat=zs.length:=by
 rw[← Q4 h];simp
theorem P9 {a b:Nat} {u:Unit} (h:CT (decide (a=b))=some u):a=b:=of_decide_eq_true (QZ h)
theorem NC (k sz off m:Nat) {j:Nat} {n:Int} {u:Unit} (h:CT (decide (0<=n/\n<(m:Nat)))=some u):Dq s (A4 (bif Nat.beq sz sz then .eptr k sz (j+n.toNat) off else .eptr k sz j (off+n.toNat*sz)) (0<=n/\n<(m:Nat))) (.eptr k sz (j+n.toNat) off) [] [] none:=by
 have hb:Nat.beq sz sz=true:=Nat.beq_refl sz;rw[hb];exact .of rfl ((of_decide_eq_true (QZ h)))
end Go.AI
end
section
namespace Go.AI
variable {P:Program} {F F':Nat->Option Obj} {ρ ρ':Nat->Option Loc} {N:Nat->Prop} {H0 F0:Nat->Option Obj} {O objs:List (Option Ob)} {w:World} {w0:W0} {Γ:Nat->Ty} {nt:Slt} {o:Oper} {st:St}
theorem A8.one {x:D} {v:Value} (h:A8 F x v):v.oneCell'=true:=(J6 (F:=F) (ρ:=noR) (.d x v h) rfl).1
end Go.AI
end
section
namespace Go.AI
variable {P:Program} {Γ:Cx} {C:Code} {p:List Nat} {Q:Ex->St->Prop} {s s':St} {K:St->Prop} {i:Nat}
variable {α β ζ:Type}
structure XOK (P:Program) (Γ:Cx):Prop where
 ty:H6 P Γ.ty
 ext:Γ.ext=MU P
def Ye (Γ:Cx) (c:Code) (o:Oper):Bool:=!IZ c&&o.guard.isNone&&Bu Γ.nt o.dst&&ndB o.op
theorem OG (hX:XOK P Γ) {o:Oper} (ho:(A5 (nav p C))[i]?=some o) (h0:Ye Γ (nav p C) o=true) (hx:Sk P Γ.nt o true s s') (hk:RF Γ C p (i+1) Q s'):RF Γ C p i Q s:=by
 refine⟨?_⟩;have hk:=hk.out;unfold A3 at hk⊢;simp only[Ye,Jiv,Bool.not_eq_true']at h0;obtain⟨⟨⟨h1,h2⟩,h3⟩,h4⟩:=h0;rw[Cu ho];show AS _ _ _ _ _ _;have hgN:o.guard=none:=by simpa using h2
 unfold AS;rw[hgN];simp only[Bl,h3,Jii,cond_false];exact⟨λ _=>.inr (.inr ⟨h1,.inl ⟨s',by rw[hX.ext];exact hx.ok h4,hk⟩⟩),λ h=>by cases h⟩
def JfZ (c:Code) (i:Nat):Option (Operand×Nat):=
 match (A5 c)[i]? with
 | some o=>match o.op with
  | .call ⟨.builtin .clear,args,ts⟩=>match args.toList,ts.toList with
   | [d],[t]=>some (d,t)
   | _,_=>none
  | _=>none
 | none=>none
end Go.AI
end
section
namespace Go.AI
variable {α:Type}
def inB (n:Nat) (i:Int):Option Unit:=CT (decide (0<=i)&&decide (i<n))
end Go.AI
end
section
namespace Go.AI
variable {P:Program} {nt:Slt} {o:Oper} {st:St}
variable {Γ:Cx} {C:Code} {p:List Nat} {Q:Ex->St->Prop} {s s':St} {i:Nat} {α:Type}
theorem Jc4 {n:Nat} {i:Int} {y:Unit} (h:inB n i=some y):0<=i/\i<n:=by
 unfold inB CT at h;split at h
 ·rename_i hc;simpa using hc
 ·cases h
end Go.AI
end
section
namespace Go.AI
variable {P:Program} {F F':Nat->Option Obj} {ρ ρ':Nat->Option Loc} {N:Nat->Prop} {H0 F0:Nat->Option Obj} {O objs:List (Option Ob)} {w:World} {w0:W0}
def Jf0 (objs:List (Option Ob)) (j:Nat):Option (List (Option Ob)):=
 match obA objs 0 with
 | some (.lp d ts vs _)=>some (objs.set 0 (some (.lp d ts vs j)))
 | _=>none
def exJ (js:List Code):Ex->Nat->Prop
 | .normal,0=>True
 | .ret,i+2=>js[i]?=some .ret
 | .exit k,i+2=>js[i]?=some (.exit k)
 | _,_=>False
def Jhg (nb:Nat) (js:List Code) (j:Nat) (objs1:List (Option Ob)) (e:Ex) (s:St):Prop:=exJ js e j/\∃ s',As nb s s'/\lpJ s'.objs 0=some (js,1)/\Jf0 s'.objs j=some objs1
end Go.AI
end
section
namespace Go.AI
variable {P:Program} {Γ:Cx} {C:Code} {p:List Nat} {Q:Ex->St->Prop} {s s':St} {K:St->Prop} {i nk:Nat}
variable {α β ζ:Type}
structure JQ (Q:Ex->St->Prop) (js:List Code) (j:Nat) (s:St):Prop where
 out:RR Q js j s
theorem jz {js:List Code} (h:PQ Q .normal s):JQ Q js 0 s:=⟨h.out⟩
theorem jn {js:List Code} {j:Nat} {x y:Option ζ} {r:ζ} (H:(if Nat.beq j 0=true then x else y)=some r) (h1:x=some r->PQ Q .normal s) (h2:y=some r->JQ Q js j s):JQ Q js j s:=by
 split at H
 ·rename_i h;have:=JiB h;subst this;exact jz (h1 H)
 ·exact h2 H
theorem jx {js:List Code} {j:Nat} (k e:Nat) {x y:Option ζ} {r:ζ} (H:(if Nat.beq j (k+2)=true then x else y)=some r) (h1:x=some r->PQ Q (.exit e) s) (h2:y=some r->JQ Q js j s) (h:js[k]?=some (.exit e):=by kernel_rfl):JQ Q js j s:=by
 split at H
 ·rename_i hj;have:=JiB hj;subst this;refine⟨?_⟩;simp only[RR,h];exact(h1 H).out
 ·exact h2 H
def Jc5 (Γ:Cx) (c:Code) (o:Oper):Bool:=!IZ c&&Bu Γ.nt o.dst&&ndB o.op
def gY (c:Code) (i:Nat) (s:St):Option Bool:=match (A5 c)[i]? with
 | some o=>Bl (A5 c) s.env o.guard
 | none=>none
theorem Wf (hX:XOK P Γ) {o:Oper} {g:Bool} (ho:(A5 (nav p C))[i]?=some o) (h0:Jc5 Γ (nav p C) o=true) (hg:gY (nav p C) i s=some g) (hgt:g=true) (hx:MU P Γ.nt o g s s') (hk:RF Γ C p (i+1) Q s'):RF Γ C p i Q s:=by
 refine⟨?_⟩;have hk:=hk.out;unfold A3 at hk⊢;simp only[Jc5,Jiv,Bool.not_eq_true']at h0;obtain⟨⟨h1,h3⟩,h4⟩:=h0;rw[Cu ho];show AS _ _ _ _ _ _;unfold AS;have hga:Bl (A5 (nav p C)) s.env o.guard=some g:=by
  unfold gY at hg;rw[ho]at hg;exact hg
 rw[hga];simp only[h3,Jii,cond_false];exact⟨λ _=>.inr (.inr ⟨h1,.inl ⟨s',by rw[hX.ext];exact hx,hk⟩⟩),λ h=>by rw[hgt]at h;cases h⟩
theorem Yf {nt:Slt} {o:Oper} {st:St} {v:AV} {O1:List (Option Ob)} {g:Bool} (h:MU P nt o true st ⟨putA o.dst false true v st.env,O1⟩):MU P nt o g st ⟨putA o.dst o.guard.isSome g v st.env,O1⟩:=by
 intro N H0 F0 w0 a w hg hI hdst rd n K Qw hqr hK;subst hg;refine h N H0 F0 w0 a w rfl hI hdst rd n K Qw hqr λ a' w' hI'=>hK a' w' ?_;obtain⟨F,ρ,hS,hSl,hrest⟩:=hI';refine⟨F,ρ,hS,?_,hrest⟩;cases hgs:o.guard.isSome with
 | false=>exact hSl
 | true=>
  cases hd:o.dst with
  | none=>rw[hd]at hSl;exact hSl
  | some d=>
   rw[hd]at hSl;intro t;have:=hSl t;simp only[putA,cond_true,cond_false,A7]at this⊢;split
   ·rename_i e;rw[if_pos e]at this;exact .gvT _ _ this
   ·rename_i e;rw[if_neg e]at this;exact this
def FM (m:Nat):Code->Code
 | .region id ops _=>.region id (ops.toList.take m).toArray false
 | c=>c
def Ue (Γ:Cx) (c:Code) (m:Nat) (Q:Ex->St->Prop):Ex->St->Prop:=λ _ s=>phX Γ (B6 c) (Q .normal) ((B6 c).size-(m+1)) (m+1) s
def Jbi (Γ:Cx) (c:Code) (b x m:Nat) (s0:St) (Q:Ex->St->Prop):Ex->St->Prop:=λ e s=>Jct Γ.ty (B6 c) b x m s0.env s.env s0.objs (bif Nat.blt (yM (B6 c) b m) m then s.objs.dropLast else s.objs)/\∃ F,(B6 c)[m]?=some F/\AS Γ false (B6 c).toList F (Ue Γ c m Q e) s
theorem rx (x m:Nat) (hs:As Γ.nt.nk s s') (hk:RF (cxX Γ (B6 (nav p C)) x) (FM m (nav p C)) [] 0 (Jbi Γ (nav p C) 0 x m s' Q) s') (h:(HF (nav p C)&&IZ (nav p C))=true:=by kernel_rfl) (hb:KZ (B6 (nav p C)) 0 x m=true:=by kernel_rfl):WP Γ C p Q s:=by
 refine⟨?_⟩;have hk:=hk.out;generalize nav p C=c at *;cases c with
 | region id ops d=>
  simp only[HF,IZ,Bool.true_and]at h;subst h;exact⟨s',hs,.inr (.inl ⟨rfl,.inl ⟨ops.size-(m+1)+1,.inr ⟨x,m,Nat.zero_le _,hb,hk⟩⟩⟩)⟩
 | _=>cases h
theorem Uf {ops:List Oper} {m:Nat} {env:List (Nat×AV)} {g:Option (Nat×Bool)} {v:Bool} (h:Bl (ops.take m) env g=some v):Bl ops env g=some v:=by
 unfold Bl at h⊢;split at h
 ·exact h
 ·rename_i j want;rcases Jil j m with hj|hj
  ·rw[JiO hj]at h;exact h
  ·rw[JiP (by rw[List.length_take];omega)]at h;cases h
theorem OH {ops:List Oper} {m:Nat} {o:Oper} {Q:St->Prop} (h:AS Γ false (ops.take m) o Q s):AS Γ false ops o Q s:=by
 unfold AS at h⊢;split at h
 ·exact h.elim
 ·rename_i g hg;rw[Uf hg];exact h
theorem mx {c:Code} {b x m:Nat} {s0:St} (hk:RF Γ (FM (m+1) c) [] m (Ue Γ c m Q) s) (hi:Nat.ble (A5 (FM m c)).length i=true:=by kernel_rfl) (h:HF c=true:=by kernel_rfl) (hm:Nat.blt m (B6 c).size=true:=by kernel_rfl)
  (h1:ldL Γ.ty (B6 c) b x m s0.env s.env s0.objs=ldL Γ.ty (B6 c) b x m s0.env s.env (bif Nat.blt (yM (B6 c) b m) m then s.objs.dropLast else s.objs):=by kernel_rfl) (h2:(ldL Γ.ty (B6 c) b x m s0.env s.env s0.objs).all Option.isSome=true:=by kernel_rfl):RF (cxX Γ (B6 c) x) (FM m c) [] i (Jbi Γ c b x m s0 Q) s:=by
 refine⟨Mn i hi ⟨⟨h1,h2⟩,?_⟩⟩;have hk:=hk.out;have hm:=JiJ hm;cases c with
 | region id ops d=>
  simp only[B6]at hm⊢;have hg:=Jiz (show m<ops.size by omega);refine⟨ops[m],hg,?_⟩;have hk:GY Γ false (ops.toList.take (m+1)) ((ops.toList.take (m+1)).drop m) (Ue Γ (.region id ops d) m Q .normal) s:=hk;rw[show(ops.toList.take (m+1)).drop m=[ops[m]] by
   rw[List.drop_take,List.drop_eq_getElem_cons (by simp;omega)];simp]at hk
  exact OH hk
 | _=>cases h
theorem rlz (x m:Nat) (hs:As Γ.nt.nk s s') (hk:RF (cxX Γ (B6 (nav p C)) x) (FM m (nav p C)) [] 1 (Jbi Γ (nav p C) 1 x m (lzS (B6 (nav p C)) s') Q) (lzS (B6 (nav p C)) s')) (h:(HF (nav p C)&&IZ (nav p C))=true:=by kernel_rfl) (hb:(UK (B6 (nav p C))&&lzD Γ (B6 (nav p C))&&KZ (B6 (nav p C)) 1 x m)=true:=by kernel_rfl):WP Γ C p Q s:=by
 refine⟨?_⟩;have hk:=hk.out;rw[Jiv]at hb;obtain⟨hl,hb⟩:=hb;generalize nav p C=c at *;cases c with
 | region id ops d=>
  simp only[HF,IZ,Bool.true_and]at h;subst h;exact⟨s',hs,.inr (.inl ⟨rfl,.inr (.inr ⟨ops.size-(m+1)+1,hl,.inr ⟨x,m,(Ml hb).1.2.2,hb,hk⟩⟩)⟩)⟩
 | _=>cases h
theorem nz {c:Code} {m:Nat} (hk:PQ Q .normal s) (hi:Nat.ble (A5 (FM (m+1) c)).length i=true:=by kernel_rfl) (hm:Nat.beq (B6 c).size (m+1)=true:=by kernel_rfl):RF Γ (FM (m+1) c) [] i (Ue Γ c m Q) s:=by
 refine⟨Mn i hi ?_⟩;unfold Ue;have hm:=JiB hm;rw[hm,Nat.sub_self];exact⟨hm.symm,hk.out⟩
theorem nx {c:Code} {m:Nat} (x m2:Nat) (hk:RF (cxX Γ (B6 c) x) (FM m2 c) [] (m+1) (Jbi Γ c (m+1) x m2 s Q) s) (hi:Nat.ble (A5 (FM (m+1) c)).length i=true:=by kernel_rfl) (h:HF c=true:=by kernel_rfl) (hb:KZ (B6 c) (m+1) x m2=true:=by kernel_rfl):RF Γ (FM (m+1) c) [] i (Ue Γ c m Q) s:=by
 refine⟨Mn i hi ?_⟩;have hk:=hk.out;cases c with
 | region id ops d=>
  have hbb:=(Ml hb).1;simp only[B6]at hbb;unfold Ue;simp only[B6];refine JcF (f:=ops.size-(m2+1)+1) (by omega) (.inr ⟨x,m2,hbb.2.2,hb,?_⟩);exact hk
 | _=>cases h
def FB (ev:Operand->AV):Op->Option FuncId×List AV
 | .call ⟨.value (.func f),args,_⟩=>(some f,args.toList.map ev)
 | .call ⟨.value x,args,_⟩=>match ev x with
  | .clo f l=>(some f,args.toList.map ev++l)
  | _=>(none,[])
 | _=>(none,[])
theorem Pp {ev ev':Operand->AV} {op:Op} (h:∀ y∈op.operands.toList,ev y=ev' y):FB ev op=FB ev' op:=by
 cases op with
 | call c=>
  obtain⟨callee,args,ts⟩:=c;cases callee with
  | value x=>
   have ha:args.toList.map ev=args.toList.map ev':=Jit λ y hy=>h y (by simp[Op.operands,Call.operands];exact .inr (by simpa using hy));have hx:=h x (by simp[Op.operands,Call.operands]);cases x<;>simp only[FB,ha,hx]
  | _=>rfl
 | _=>rfl
theorem Wg {nt:Slt} {o:Oper} {st:St} {f:FuncId} {xs:List AV} {nb:Nat} {r:AV} {O1:List (Option Ob)} (hgob:EN true (o.op.operands.toList.map (Aj st.env))) (hc:FB (λ y=>unG (Aj st.env y)) o.op=(some f,xs))
  (hcall:CG P f (xs.map (H3 (AD st.objs xs))) (EQ st.objs (AD st.objs xs)) nb r O1) (hnb:nb<=(AD st.objs xs).length) (hnb1:nb<=O1.length) (hord:∀ k∈AD st.objs xs,k<st.objs.length) :
  Sk P nt o true st ⟨putA o.dst false true (Ln (DE (AD st.objs xs) st.objs.length nb) r) st.env,C6 st.objs (AD st.objs xs) nb O1⟩:=by
 intro N H0 F0 w0 a w _ hI hdst K Qw hK;obtain⟨F,ρ,hS,hSl,hn,hdf⟩:=hI;have hk:∀ v w' F' ρ'',FLe F F'->RLe ρ ρ''->Sim N H0 F0 F' ρ'' (C6 st.objs (AD st.objs xs) nb O1) w'.heap->Ai F' ρ'' (Ln (DE (AD st.objs xs) st.objs.length nb) r) v->Mu w w'->K (a.put o.dst v) w':=
  λ v w' F' ρ'' hF hρ hS' hv hmu=>hK _ _ ⟨F',ρ'',hS',(hSl.mono hF hρ).putA hn hdst hv,hn.put hdst,by rw[put_defers];exact⟨hdf.1.mono hF,hdf.2.1.trans hmu,hdf.2.2.mono hρ⟩⟩
 have hev:∀ y∈o.op.operands.toList,Ai F ρ (unG (Aj st.env y)) (a.eval y):=λ y hy=>BF rfl _ hgob _ (List.mem_map_of_mem hy) _ (AZ hSl y);unfold FB at hc;split at hc
 ·rename_i f' args ts hop;cases hc;exact Sj (ev:=λ y=>unG (Aj st.env y)) hop hS (λ y hy=>hev y (by rw[hop];simp[Op.operands,Call.operands];exact .inr (by simpa using hy))) hcall hnb hnb1 hord hk
 ·rename_i x args ts _ hop;split at hc
  ·rename_i f' l hx;have hx:unG (Aj st.env x)=.clo f' l:=hx;cases hc;have hxr:=hev x (by rw[hop];simp[Op.operands,Call.operands]);rw[hx]at hxr;generalize hxv:a.eval x=xv at hxr;cases hxr with
   | clo _ _ vs hl hr=>
    have hcr0:=Lz (args:=args) (a:=a) (ev:=λ y=>unG (Aj st.env y)) (λ y hy=>hev y (by rw[hop];simp[Op.operands,Call.operands];exact .inr (by simpa using hy)));refine NX (vs:=args.map a.eval++vs) (λ fn c hf hb hnm=>?_) hS ⟨by simp[hl],λ i y v hy hv=>?_⟩ hcall hnb hnb1 hord hk
    ·simp only[execOp,hop,resolve,hxv,Deferred.ofValue,Jic,Jid,Jia,invoke,callFunc,run_program,hf,hnm,hb,JiG,if_false,Option.isNone_some,Array.empty_append]
    ·rw[Array.toList_append]at hv;have hl0:=hcr0.1;by_cases hi:i<(args.toList.map (λ y=>unG (Aj st.env y))).length
     ·rw[JiC hi]at hy;rw[JiC (by omega)]at hv;exact hcr0.2 i y v hy hv
     ·rw[JiM (by omega)]at hy;rw[JiM (by omega)]at hv;rw[← hl0]at hv;exact hr _ y v hy (by simpa using hv)
  ·cases hc
 ·cases hc
def Pq (c:Code) (i:Nat) (s:St):Option ((Option FuncId×List AV)×List Nat):=
 match (A5 c)[i]? with
 | some o=>some (FB (λ y=>unG (Aj s.env y)) o.op,AD s.objs (FB (λ y=>unG (Aj s.env y)) o.op).2)
 | none=>none
def nxS (Γ:Cx) (ops:Array Oper) (x:Nat) (c:Code) (i:Nat) (g:Bool) (ord:List Nat) (nb:Nat) (r:AV) (O1:List (Option Ob)) (s:St):Option St:=
 match (A5 c)[i]? with
 | some o=>bif !IZ c&&Nat.beq i x&&Nat.blt x ops.size.pred&&Bu Γ.nt o.dst&&Nat.ble nb ord.length&&Nat.ble nb O1.length&&ord.all (λ k=>Nat.blt k s.objs.length)then
   some ⟨putA o.dst o.guard.isSome g (Ln (DE ord s.objs.length nb) r) s.env,C6 s.objs ord nb O1⟩else none
 | none=>none
theorem xs {c:Code} {x m:Nat} (hX:XOK P Γ) {g:Bool} (hgt:g=true) {gs:List Bool} (hi:EG g gs) (ord:List Nat) {f:FuncId} {ys:List AV} {O0 O1 raw0:List (Option Ob)} {nb:Nat} {r:AV} (hr:CG P f ys O0 nb r O1) (hp0:raw0=O0)
  (hk:RF (cxX Γ (B6 c) x) (FM m c) [] (i+1) Q ((nxS Γ (B6 c) x (FM m c) i g ord nb r O1 s).getD s)) (hreg:HF c=true:=by kernel_rfl) (hg:gY (FM m c) i s=some g:=by kernel_rfl) (hgs:EX (FM m c) i s=gs:=by kernel_rfl)
  (hc:Pq (FM m c) i s=some ((some f,((Pq (FM m c) i s).getD ((none,[]),[])).1.2),ord):=by kernel_rfl) (hxs:((Pq (FM m c) i s).getD ((none,[]),[])).1.2.map (H3 ord)=ys:=by kernel_rfl) (hO:EQ s.objs ord=raw0:=by kernel_rfl)
  (hn:(nxS Γ (B6 c) x (FM m c) i g ord nb r O1 s).isSome=true:=by kernel_rfl):RF (cxX Γ (B6 c) x) (FM m c) [] i Q s:=by
 generalize ((Pq (FM m c) i s).getD ((none,[]),[])).1.2=zs at hc hxs;have hn:=BM (d:=s) hn;generalize (nxS Γ (B6 c) x (FM m c) i g ord nb r O1 s).getD s=s' at hn hk;subst hp0;unfold Pq at hc;unfold nxS at hn;split at hn
 ·rename_i o ho;rw[ho]at hc;simp only[JiE,Prod.mk.injEq]at hc;obtain⟨hc,hord⟩:=hc;rw[hc]at hord;simp only at hord;obtain⟨h0,hn⟩:=AK hn;simp only[Jiv]at h0;obtain⟨⟨⟨⟨⟨⟨h1,h2⟩,h3⟩,h4⟩,h5⟩,h6⟩,h7⟩:=h0;cases hn;subst hord;subst hxs;subst hO;have hix:=JiB h2;subst hix;have hox:(B6 c)[i]?=some o:=by
   cases c with
   | region id ops d=>
    simp only[FM,A5,List.getElem?_take]at ho;split at ho
    ·show ops[i]?=some o;simpa using ho
    ·cases ho
   | _=>cases hreg
  have hgob:EN true (o.op.operands.toList.map (Aj s.env)):=by
   subst hgs;unfold EX at hi;rw[ho]at hi;rw[← hgt];exact Jm hi
  refine⟨?_⟩;have hk:=hk.out;unfold A3 at hk⊢;simp only[nav]at hk⊢;rw[Cu ho];show AS _ _ _ _ _ _;unfold AS;have hga:Bl (A5 (FM m c)) s.env o.guard=some g:=by
   unfold gY at hg;rw[ho]at hg;exact hg
  rw[hga];have h4:Bu (cxX Γ (B6 c) i).nt o.dst=true:=h4;simp only[h4,Jii,cond_false];refine⟨λ _=>.inr (.inr ⟨by simpa using h1,.inl ⟨_,⟨hox,_,_,rfl,λ env he=>?_⟩,hk⟩⟩),λ h=>by rw[hgt]at h;cases h⟩;rw[hX.ext];have hgob':EN true (o.op.operands.toList.map (Aj env)):=by
   rw[Jit he];exact hgob
  have hc':FB (λ y=>unG (Aj env y)) o.op=(some f,zs):=by
   rw[Pp (ev':=λ y=>unG (Aj s.env y)) λ y hy=>by rw[he y hy]];exact hc
  have hnd:ndB o.op=true:=by
   cases hop:o.op with
   | defer d=>rw[hop]at hc;cases hc
   | _=>rfl
  exact Yf (st:=⟨env,s.objs⟩) ((Wg (st:=⟨env,s.objs⟩) hgob' hc' hr (JiJ h5) (JiJ h6) λ k hk=>by
   exact JiJ (Jif.1 h7 k hk)).ok hnd)
 ·cases hn
theorem rq {js:List Code} {j:Nat} {O1:List (Option Ob)} {e:Ex} (sh:As nk s s') (h:exJ js e j:=by first|exact trivial|exact rfl) (h1:lpJ s'.objs 0=some (js,1):=by kernel_rfl) (h2:Jf0 s'.objs j=some O1:=by kernel_rfl):PQ (Jhg nk js j O1) e s:=⟨⟨h,s',sh,h1,h2⟩⟩
end Go.AI
end
section
namespace Go.AI
variable {P:Program} {F F':Nat->Option Obj} {ρ ρ':Nat->Option Loc} {N:Nat->Prop} {H0 F0:Nat->Option Obj} {O objs:List (Option Ob)} {w:World} {w0:W0} {nt:Slt} {o:Oper} {st:St}
def Jhh (o:Oper) (k:Nat) (ka va:Bool) (left:List (List D×List D)) (st:St) (st':St):Prop:=
 (left=[]/\st'=⟨putA o.dst false true (.tup [.d (.bool false)]) st.env,st.objs⟩) \/
 ∃ l1 e l2,left=l1++e::l2/\st'=⟨putA o.dst false true (.tup [.d (.bool true),.top,.top]) st.env,st.objs.set k (some (.iter ka va (some e) (l1++l2)))⟩
theorem SP {es:Array MapEntry} {seen:Array Nat} {e:MapEntry} (hn:(es.toList.map (·.born)).Nodup) (he:e∈(leftOf es seen).toList):∃ l1 l2,(leftOf es seen).toList=l1++e::l2/\(leftOf es (seen.push e.born)).toList=l1++l2:=by
 have h1:(leftOf es (seen.push e.born)).toList=(leftOf es seen).toList.filter λ x=>!(x.born==e.born):=by
  unfold leftOf;simp only[Array.toList_filter,List.filter_filter];refine List.filter_congr λ x _=>?_;rw[contains_push];cases seen.contains x.born<;>cases (x.born==e.born)<;>rfl
 rw[h1];have hsub:((leftOf es seen).toList.map (·.born)).Nodup:=by
  have:(leftOf es seen).toList.Sublist es.toList:=by unfold leftOf;rw[Array.toList_filter];exact List.filter_sublist
  exact List.Nodup.sublist (this.map _) hn
 generalize (leftOf es seen).toList=l at he hsub;clear h1 hn;induction l with
 | nil=>cases he
 | cons x l ih=>
  rw[Jir,List.nodup_cons]at hsub;rcases List.mem_cons.1 he with rfl|he
  ·refine⟨[],l,rfl,?_⟩;simp only[List.filter_cons,beq_self_eq_true,Jii,JiG,if_false,List.nil_append];refine List.filter_eq_self.2 λ y hy=>?_;have:y.born≠e.born:=λ h=>hsub.1 (by rw[← h];exact List.mem_map_of_mem hy);simp[this]
  ·obtain⟨l1,l2,q1,q2⟩:=ih he hsub.2;have hne:x.born≠e.born:=λ h=>hsub.1 (by rw[h];exact List.mem_map_of_mem he);exact⟨x::l1,l2,by rw[q1];rfl,by rw[List.filter_cons];simp[hne,q2]⟩
theorem Yg {x:Operand} {k:Nat} {ka va:Bool} {cur:Option (List D×List D)} {left:List (List D×List D)} (hop:o.op=.next x false) (hx:Aj st.env x=.ptr k 0) (ho:obA st.objs k=some (.iter ka va cur left)) :
  K3 P nt o st (Jhh o k ka va left st):=by
 intro N H0 F0 w0 a w hI hdst r n K Qw _ hK;obtain⟨F,ρ,hS,hSl,hn,hdf⟩:=hI;have hxr:=AZ hSl x;rw[hx]at hxr;generalize hxv:a.eval x=xv at hxr;cases hxr with
 | ptr _ _ L hL=>
  obtain⟨⟨b0,bm,es,clock,since,seen,c0,h1,h2,h3,h4,h4',h5,h6,h7,h8⟩,gN,gF⟩:=hS.obj k L _ hL ho;have hbm:w.heap[bm]?=some (.map es clock):=hS.frz bm _ h1;have hpt:(⟨L.b,L.base+0,none⟩:Addr)=⟨L.b,0,none⟩:=by rw[b0]
  refine CS (by rw[hop];intro c e;cases e) ?_;unfold Oper.wp;rcases run_next_at (P:=P) w o.type L.b bm since c0 seen es clock h2 hbm h3 h4 with⟨he,hr⟩|⟨e,he,w1,hw1,hr⟩
  ·have hx:(execOp a.eval o).run P w=.ok (.value (.tuple #[.bool false])) w:=by
    simp only[execOp,hop,hxv,hpt,hr,Jic,Jia,Jid]
   rw[hx,Oper.upon_value];have hl:left=[]:=List.length_eq_zero_iff.1 (by rw[← h6];exact he);refine hK _ _ _ (.inl ⟨hl,rfl⟩) ⟨F,ρ,hS,hSl.putA hn hdst ?_,hn.put hdst,by rw[put_defers];exact hdf⟩;exact .tup _ _ rfl λ j a u ha hu=>by
    match j with
    | 0=>simp at ha hu;subst ha;subst hu;exact .mkBool _
    | j+1=>simp at ha
  ·have hx:(execOp a.eval o).run P w=.ok (.value (.tuple #[.bool true,e.key,e.val])) (ChangeMaps.setBlock w1 L.b (.mapIter (some bm) since (seen.push e.born) clock)):=by
    simp only[execOp,hop,hxv,hpt,hr,Jic,Jia,Jid]
   rw[hx,Oper.upon_value];obtain⟨m1,m2,e1,e2⟩:=SP h5 he;have hlen:left.length=m1.length+(m2.length+1):=by rw[← h6,← Array.length_toList,e1];simp
   obtain⟨l1,p,l2,hsp,hl1,hl2⟩:∃ l1 p l2,left=l1++p::l2/\l1.length=m1.length/\l2.length=m2.length:=by
    refine⟨left.take m1.length,left[m1.length],left.drop (m1.length+1),?_,by simp;omega,by simp;omega⟩;rw[← List.drop_eq_getElem_cons (by omega),List.take_append_drop]
   have hheap:(ChangeMaps.setBlock w1 L.b (.mapIter (some bm) since (seen.push e.born) clock)).heap=w.heap.setIfInBounds L.b (.mapIter (some bm) since (seen.push e.born) clock):=by
    rcases hw1 with rfl|rfl<;>rfl
   have hmu:Mu w (ChangeMaps.setBlock w1 L.b (.mapIter (some bm) since (seen.push e.born) clock)):=by
    rcases hw1 with rfl|rfl
    ·exact⟨rfl,rfl,by rw[hheap];simp,rfl,Jik _⟩
    ·exact⟨rfl,rfl,by rw[hheap];simp,rfl,Nat.le_succ _⟩
   have hei:=mem_left he;have hmid:∀ (i:Nat) (q:List D×List D),(l1++p::l2)[i]?=some q->∀ u:MapEntry,(m1++e::m2)[i]?=some u->KV F ka q.1 u.key/\KV F va q.2 u.val:=λ i q hq u hu=>by
    rw[← hsp]at hq;rw[← e1]at hu;exact h7 i q u hq (by simpa using hu)
   have hpe:KV F ka p.1 e.key/\KV F va p.2 e.val:=by
    refine hmid l1.length p (by simp) e (by rw[hl1];simp)
   have hrep:∀ h':Array Obj,h'[L.b]?=some (.mapIter (some bm) since (seen.push e.born) clock)->Bk F ρ h' L (.iter ka va (some p) (l1++l2)):=λ h' hh=>by
    refine⟨b0,bm,es,clock,since,seen.push e.born,clock,h1,hh,h3,h4',h4',h5,?_,λ i q u hq hu=>?_,λ q hq=>?_⟩
    ·rw[← Array.length_toList,e2];simp;omega
    ·have hu:(m1++m2)[i]?=some u:=by rw[← e2];simpa using hu
     by_cases hi:i<l1.length
     ·rw[JiC hi]at hq;rw[JiC (by omega)]at hu;exact hmid i q (by rw[JiC hi];exact hq) u (by rw[JiC (by omega)];exact hu)
     ·rw[JiM (by omega)]at hq;rw[JiM (by omega)]at hu;refine hmid (i+1) q ?_ u ?_
      ·rw[JiM (by omega),show i+1-l1.length=(i-l1.length)+1 by omega,List.getElem?_cons_succ];exact hq
      ·rw[JiM (by omega),show i+1-m1.length=(i-m1.length)+1 by omega,List.getElem?_cons_succ];exact hu
    ·cases hq;exact⟨e,seen,hei.1,rfl,rfl,hpe.1,hpe.2⟩
   have hlt:=hS.loc k L hL;have hS1:=hS.rewrite (k':=k) (L':=L) (x:=.mapIter (some bm) since (seen.push e.born) clock) (O':=st.objs.set k (some (.iter ka va (some p) (l1++l2)))) hL ho (by rw[BH hL];exact RLe.refl _) rfl (λ j ob' hj hob'=>by
    rw[BL,if_neg (λ hh=>hj hh.1)]at hob';exact⟨hob',hj⟩) (by simp) (by simpa using A2 ho) (λ ob' hob'=>by
    rw[BL,if_pos ⟨rfl,A2 ho⟩]at hob';cases hob';rw[BH hL];exact hrep _ (by rw[B8,if_pos ⟨rfl,hlt⟩])) (λ ob' hob'=>by
    rw[BL,if_pos ⟨rfl,A2 ho⟩]at hob';cases hob';rfl)
   rw[BH hL]at hS1;refine hK _ _ _ (.inr ⟨l1,p,l2,hsp,rfl⟩) ⟨F,ρ,by rw[hheap];exact hS1,hSl.putA hn hdst ?_,hn.put hdst,by rw[put_defers];exact⟨hdf.1,hdf.2.1.trans hmu,hdf.2.2⟩⟩;exact .tup _ _ rfl λ j a u ha hu=>by
    match j with
    | 0=>simp at ha hu;subst ha;subst hu;exact .mkBool _
    | 1=>simp at ha;subst ha;exact .top _
    | 2=>simp at ha;subst ha;exact .top _
    | j+3=>simp at ha
def Jc6 (o:Oper) (xs:List AV) (nb:Nat) (R:AV->List (Option Ob)->Prop) (st:St) (st':St):Prop:=
 ∃ r O1,R r O1/\st'=⟨putA o.dst false true (Ln (DE (AD st.objs xs) st.objs.length nb) r) st.env,C6 st.objs (AD st.objs xs) nb O1⟩
theorem Wh {f:FuncId} {xs:List AV} {nb:Nat} {R:AV->List (Option Ob)->Prop} (hgob:EN true (o.op.operands.toList.map (Aj st.env))) (hc:FB (λ y=>unG (Aj st.env y)) o.op=(some f,xs))
  (hcall:G7 P f (xs.map (H3 (AD st.objs xs))) (EQ st.objs (AD st.objs xs)) nb R) (hnb:nb<=(AD st.objs xs).length) (hnb1:∀ r O1,R r O1->nb<=O1.length) (hord:∀ k∈AD st.objs xs,k<st.objs.length) :
  K3 P nt o st (Jc6 o xs nb R st):=by
 intro N H0 F0 w0 a w hI hdst rr n K Qw _ hK;obtain⟨F,ρ,hS,hSl,hn,hdf⟩:=hI;have hk:∀ r O1,R r O1->∀ v w' F' ρ'',FLe F F'->RLe ρ ρ''->Sim N H0 F0 F' ρ'' (C6 st.objs (AD st.objs xs) nb O1) w'.heap->Ai F' ρ'' (Ln (DE (AD st.objs xs) st.objs.length nb) r) v->Mu w w'->K (a.put o.dst v) w':=
  λ r O1 hR v w' F' ρ'' hF hρ hS' hv hmu=>hK _ _ _ ⟨r,O1,hR,rfl⟩ ⟨F',ρ'',hS',(hSl.mono hF hρ).putA hn hdst hv,hn.put hdst,by rw[put_defers];exact⟨hdf.1.mono hF,hdf.2.1.trans hmu,hdf.2.2.mono hρ⟩⟩
 have hev:∀ y∈o.op.operands.toList,Ai F ρ (unG (Aj st.env y)) (a.eval y):=λ y hy=>BF rfl _ hgob _ (List.mem_map_of_mem hy) _ (AZ hSl y);have hnd:∀ c,o.op≠.defer c:=λ c e=>by rw[e]at hc;cases hc
 unfold FB at hc;split at hc
 ·rename_i f' args ts hop;cases hc;refine CS hnd (MT (vs:=args.map a.eval) (λ fn c hf hb hnm=>?_) hS (Lz (ev:=λ y=>unG (Aj st.env y)) λ y hy=>hev y (by rw[hop];simp[Op.operands,Call.operands];exact .inr (by simpa using hy))) hcall hnb hnb1 hord hk);simp only[execOp,hop,resolve,Act.eval,Deferred.ofValue,Jic,Jid,Jia,invoke,callFunc,run_program,hf,hnm,hb,JiG,if_false,Option.isNone_some,Array.empty_append,Array.append_empty]
 ·rename_i x args ts _ hop;split at hc
  ·rename_i f' l hx;have hx:unG (Aj st.env x)=.clo f' l:=hx;cases hc;have hxr:=hev x (by rw[hop];simp[Op.operands,Call.operands]);rw[hx]at hxr;generalize hxv:a.eval x=xv at hxr;cases hxr with
   | clo _ _ vs hl hr=>
    have hcr0:=Lz (args:=args) (a:=a) (ev:=λ y=>unG (Aj st.env y)) (λ y hy=>hev y (by rw[hop];simp[Op.operands,Call.operands];exact .inr (by simpa using hy)));refine CS hnd (MT (vs:=args.map a.eval++vs) (λ fn c hf hb hnm=>?_) hS ⟨by simp[hl],λ i y v hy hv=>?_⟩ hcall hnb hnb1 hord hk)
    ·simp only[execOp,hop,resolve,hxv,Deferred.ofValue,Jic,Jid,Jia,invoke,callFunc,run_program,hf,hnm,hb,JiG,if_false,Option.isNone_some,Array.empty_append]
    ·rw[Array.toList_append]at hv;have hl0:=hcr0.1;by_cases hi:i<(args.toList.map (λ y=>unG (Aj st.env y))).length
     ·rw[JiC hi]at hy;rw[JiC (by omega)]at hv;exact hcr0.2 i y v hy hv
     ·rw[JiM (by omega)]at hy;rw[JiM (by omega)]at hv;rw[← hl0]at hv;exact hr _ y v hy (by simpa using hv)
  ·cases hc
 ·cases hc
end Go.AI
end
section
namespace Go.AI
variable {P:Program}
theorem Wi {nt:Slt} {o:Oper} {st:St} {x:Operand} {tys:Array TypeId} {f:FuncId} {caps:List AV} (hop:o.op=.defer ⟨.value x,#[],tys⟩) (hgob:EN true (o.op.operands.toList.map (Aj st.env))) (hx:unG (Aj st.env x)=.clo f caps) (hd:o.dst=none) (hQ:(f,caps.length)∈nt.qf):MU P nt o true st st:=by
 intro N H0 F0 w0 a w _ hI hdst rd n K Qw hqr hK;have hrd:rd=none:=hqr (List.ne_nil_of_mem hQ);subst hrd;obtain⟨F,ρ,hS,hSl,hn,hdf,hmu,hrk⟩:=hI;have hxr:Ai F ρ (unG (Aj st.env x)) (a.eval x):=BF rfl _ hgob _ (List.mem_map_of_mem (by rw[hop];simp[Op.operands,Call.operands])) _ (AZ hSl x);rw[hx]at hxr;generalize hxv:a.eval x=xv at hxr;cases hxr with
 | clo _ _ vs hl hr=>
  have hex:(execOp a.eval o).run P w=.ok (.defer (Lr f vs)) w:=by
   simp only[execOp,hop,resolve,hxv,Deferred.ofValue,Jic,Jid,Jia,Lr];simp
  obtain⟨l,q1,q2,q3⟩:=hdf;refine⟨λ _ _=>trivial,?_⟩;show Oper.uponIn _ _ _ _ _ _ _ ((execOp a.eval o).run P w);rw[hex,Oper.uponIn_defer,hd];exact hK _ _ ⟨F,ρ,hS,hSl,hn,⟨l,.quiet (by rw[← hl];exact hQ) q1,q2,q3⟩,hmu,hrk⟩
end Go.AI
end
section
namespace Go.AI
variable {P:Program} {Γ:Cx} {C:Code} {p:List Nat} {Q:Ex->St->Prop} {s s':St} {i:Nat}
def dfB (nt:Slt) (c:Code) (i:Nat) (s:St):Bool:=match (A5 c)[i]? with
 | some o=>!IZ c&&o.guard.isNone&&o.dst.isNone&&(match o.op with
  | .defer ⟨.value x,args,_⟩=>args.isEmpty&&(match Aj s.env x with
   | .clo f caps=>nt.qf.any λ q=>Nat.beq q.1 f&&Nat.beq q.2 caps.length
   | _=>false)
  | _=>false)
 | none=>false
theorem xd (hX:XOK P Γ) (hk:RF Γ C p (i+1) Q s) (h:dfB Γ.nt (nav p C) i s=true:=by kernel_rfl):RF Γ C p i Q s:=by
 unfold dfB at h;split at h
 ·rename_i o ho;simp only[Jiv,Bool.not_eq_true']at h;obtain⟨⟨⟨h1,h2⟩,h3⟩,h4⟩:=h;split at h4
  ·rename_i x args tys hop;simp only[Jiv]at h4;obtain⟨ha,h4⟩:=h4;have hae:args=#[]:=by simpa using ha
   subst hae;split at h4
   ·rename_i f caps hx;obtain⟨q,hq,hq2⟩:=List.any_eq_true.mp h4;simp only[Jiv]at hq2;have e1:=JiB hq2.1;have e2:=JiB hq2.2;have hQ:(f,caps.length)∈Γ.nt.qf:=by rw[← e1,← e2];exact hq
    have hgN:o.guard=none:=by simpa using h2
    have hdN:o.dst=none:=by simpa using h3
    refine⟨?_⟩;have hk:=hk.out;unfold A3 at hk⊢;rw[Cu ho];show AS _ _ _ _ _ _;unfold AS;rw[hgN];simp only[Bl,hdN,Bu,Jii,cond_false];refine⟨λ _=>.inr (.inr ⟨h1,.inl ⟨s,?_,hk⟩⟩),λ h=>by cases h⟩;rw[hX.ext];refine Wi hop ?_ (by rw[hx];rfl) hdN hQ;rw[hop];simp[Op.operands,Call.operands,hx,EN]
   ·cases h4
  ·cases h4
 ·cases h
end Go.AI
end
section
namespace Go.AI
variable {s:St} {nk:Nat} {α β:Type} {enc:β->List D}
theorem Q5 (e:β->List D) (esz:Nat) {xs zs:List β} {l:Int} (hz:sub xs l ((xs.length:Nat):Int)=some zs) (hl:∀ y,(e y).length=esz:=by intro _;rfl):Dq s (A4 (.d (.sl (((xs.map e).take (((xs.map e).length:Nat):Int).toNat).drop l.toNat))) (0<=l/\l<=(((xs.map e).length:Nat):Int)/\(((xs.map e).length:Nat):Int)<=(xs.map e).length/\∀ y∈xs.map e,y.length=esz)) (.d (.sl (zs.map e))) [] [] none:=by
 have h0:(((xs.map e).length:Nat):Int)=((xs.length:Nat):Int):=by rw[Jiq]
 rw[h0];have:=Uc (s:=s) e esz hz hl;rw[h0]at this;exact this
theorem Yh {P:Program} {Γ:Nat->Ty} {nt:Slt} {o:Oper} {st:St} (hΓ:H6 P Γ) {s t:TypeId} {x:Operand} {eb:Nat} {es:List (List D)} {ob:Prop} (hop:o.op=.convert s t x) (hs:(Γ s).ok=true) (ht:(Γ t).ok=true) (hks:(Γ s).kind=.slice 1 eb [.int .u8 0]) (hkt:(Γ t).kind=.string)
  (hgob:EN true (o.op.operands.toList.map (Aj st.env))) (hel:Fh st.objs (unG (Aj st.env x))=some (es,ob)) (hob:ob) (hby:∀ e∈es,Md e):Sk P nt o true st ⟨putA o.dst false true (.d (.str (es.map KW))) st.env,st.objs⟩:=by
 intro N H0 F0 w0 a w _ hI hdst K Qw hK;obtain⟨F,ρ,hS,hSl,hn,hdf⟩:=hI;obtain⟨d,hd,_,hk⟩:=(hΓ s hs).desc;obtain⟨d',hd',_,hk'⟩:=(hΓ t ht).desc;rw[hks]at hk;rw[hkt]at hk';obtain⟨elem,i,z,rfl,_,_,_,_,_,_,_,hu⟩:=hk;cases hk';have hxr:Ai F ρ (unG (Aj st.env x)) (a.eval x):=BF rfl _ hgob _ (List.mem_map_of_mem (by rw[hop];simp[Op.operands])) _ (AZ hSl x);obtain⟨v,hr,hv⟩:=JbT (P:=P) (objs:=st.objs) hS (λ _ _ h=>h) hd (hu rfl) hd' hel hob hby hxr;have hr:(execOp a.eval o).run P w=.ok (.value v) w:=by
  simp only[execOp,hop,Jic,hr,Jia,Jid]
 unfold Oper.wp;rw[hr,Oper.upon_value];exact hK _ _ ⟨F,ρ,hS,hSl.putA hn hdst hv,hn.put hdst,by rw[put_defers];exact hdf⟩
def nxV (Γ:Cx) (c:Code) (i:Nat) (g:Bool) (z:List UInt8) (s:St):Option St:=
 match (A5 c)[i]? with
 | some o=>bif Jc5 Γ c o then some ⟨putA o.dst o.guard.isSome g (.d (.str z)) s.env,s.objs⟩else none
 | none=>none
def cvA (Γ:Cx) (c:Code) (i:Nat) (s:St):Option (AV×Nat):=
 match (A5 c)[i]? with
 | some o=>match o.op with
  | .convert a b x=>match (Γ.ty a).kind,(Γ.ty b).kind with
   | .slice 1 eb [.int .u8 0],.string=>bif (Γ.ty a).ok&&(Γ.ty b).ok then some (unG (Aj s.env x),eb)else none
   | _,_=>none
  | _=>none
 | none=>none
theorem xv {Γ:Cx} {P:Program} {C:Code} {p:List Nat} {Q:Ex->St->Prop} {i:Nat} (hX:XOK P Γ) {g:Bool} (hgt:g=true) {gs:List Bool} (hi:EG g gs) (k:Nat) {bs:List Int} {z:List UInt8} (hz:Oq bs=some z) (hk:RF Γ C p (i+1) Q ((nxV Γ (nav p C) i g z s).getD s)) (hg:gY (nav p C) i s=some g:=by kernel_rfl) (hgs:EX (nav p C) i s=gs:=by kernel_rfl)
  (hc:(cvA Γ (nav p C) i s).map Prod.fst=some (.osl k 1 0 bs.length):=by kernel_rfl) (ho:LL s k=some (1,bs.map λ n=>[D.int .u8 n]):=by kernel_rfl) (hn:(nxV Γ (nav p C) i g z s).isSome=true:=by kernel_rfl):RF Γ C p i Q s:=by
 have hn:=BM (d:=s) hn;generalize (nxV Γ (nav p C) i g z s).getD s=s' at hn hk;obtain⟨⟨u,eb⟩,hc,hu⟩:=Jix.1 hc;cases hu;unfold cvA at hc;unfold nxV at hn;split at hn
 ·rename_i o hoo;rw[hoo]at hc;simp only at hc;obtain⟨h0,hn⟩:=AK hn;cases hn;split at hc
  ·rename_i a b x hop;split at hc
   ·rename_i eb' hka hkb;obtain⟨h1,hc⟩:=AK hc;simp only[Jiv]at h1;simp only[JiE,Prod.mk.injEq]at hc;obtain⟨hcx,rfl⟩:=hc;have hgob:EN true (o.op.operands.toList.map (Aj s.env)):=by
     subst hgs;unfold EX at hi;rw[hoo]at hi;rw[← hgt];exact Jm hi
    unfold Oq at hz;split at hz
    ·rename_i hall;cases hz;simp only[Jif,Jiv,decide_eq_true_eq]at hall;have hby:∀ e∈bs.map λ n=>[D.int .u8 n],Md e:=λ e he=>by
      simp only[Jin]at he;obtain⟨n,hn,rfl⟩:=he;obtain⟨q1,q2⟩:=hall n hn;refine⟨UInt8.ofNat n.toNat,?_⟩;have:(UInt8.ofNat n.toNat).toNat=n.toNat:=by simp;omega
      rw[this];congr 2;omega
     have hmap:(bs.map λ n=>[D.int .u8 n]).map KW=bs.map λ n=>UInt8.ofNat n.toNat:=by
      rw[List.map_map];rfl
     have hel:Fh s.objs (unG (Aj s.env x))=some (bs.map λ n=>[D.int .u8 n],0+bs.length<=(bs.map λ n=>[D.int .u8 n]).length):=by
      rw[hcx];simp only[Fh,Jq ho,Nat.beq_refl,cond_true];rw[C1]
     have:=Yh (P:=P) (Γ:=Γ.ty) (nt:=Γ.nt) (o:=o) (st:=s) hX.ty hop h1.1 h1.2 hka hkb hgob hel (by simp) hby
     rw[hmap]at this;exact Wf hX hoo h0 hg hgt (Yf (this.ok (by rw[hop];rfl))) hk
    ·cases hz
   ·cases hc
  ·cases hc
 ·cases hn
end Go.AI
end
section
namespace Go.AI
variable {Γ:Cx} {C:Code} {p:List Nat} {Q:Ex->St->Prop} {s s':St} {K:St->Prop} {i:Nat} {nk:Nat}
variable {α β ζ:Type}
def xX {σ:Type} (nk k:Nat) (st:σ->St):σ->Ex->St->Prop:=λ y e s=>e=Ex.exit k/\As nk s (st y)
def xR {σ:Type} (ty:Nat->Ty) (fn:Func) (r:σ->AV):σ->Ex->St->Prop:=λ y e s=>e=Ex.ret/\RA ty fn.results.toList (r y) s
def xL {σ:Type} (nk:Nat) (ty:Nat->Ty) (fn:Func) (r:σ->AV) (O:σ->List (Option Ob)):σ->Ex->St->Prop:=λ y e s=>e=Ex.ret/\RL nk ty fn.results.toList (r y) (O y) s
def xS {σ τ:Type} (a:σ->Ex->St->Prop) (b:τ->Ex->St->Prop):σ⊕τ->Ex->St->Prop
 | .inl y=>a y
 | .inr y=>b y
variable {σ ρ τ:Type} {st:σ->St} {E:ρ->Ex->St->Prop}
theorem xo {r:ρ} {k nk':Nat} {st':τ->St} {y:τ} (hE:E r=xX nk' k st' y) (h:As nk' s (st' y)):PQ (AX nk st E (.inr r)) (.exit k) s:=oe (by rw[hE];exact⟨rfl,h⟩)
theorem ro {r:ρ} {ty:Nat->Ty} {fn:Func} {f:τ->AV} {y:τ} (hE:E r=xR ty fn f y) (h:RA ty fn.results.toList (f y) s):PQ (AX nk st E (.inr r)) .ret s:=or (by rw[hE];exact⟨rfl,h⟩)
theorem lo {r:ρ} {nk':Nat} {ty:Nat->Ty} {fn:Func} {f:τ->AV} {O:τ->List (Option Ob)} {y:τ} (hE:E r=xL nk' ty fn f O y) (h:RL nk' ty fn.results.toList (f y) (O y) s):PQ (AX nk st E (.inr r)) .ret s:=or (by rw[hE];exact⟨rfl,h⟩)
theorem lX {body:σ->Option (σ⊕ρ)} {n:Nat} {x:σ} {r:ρ} {k nk':Nat} {st':τ->St} {y:τ} (hb:∀ x z,body x=some z->WP Γ C (p++[0]) (AX nk' st E z) (st x)) (hr:whl body n x=some r) (hs:As nk' s (st x)) (hE:E r=xX nk' k st' y)
  (hk:∀ s,As nk' s (st' y)->PQ Q (.exit k) s) (hn:Γ.nt.nk=nk':=by rfl) (h:OE (nav p C)=true:=by kernel_rfl):WP Γ C p Q s:=by
 subst hn;exact lp st E hr hs hb (λ e s he=>by rw[hE]at he;obtain⟨rfl,he⟩:=he;exact hk s he) h
theorem lR {body:σ->Option (σ⊕ρ)} {n:Nat} {x:σ} {r:ρ} {nk':Nat} {ty:Nat->Ty} {fn:Func} {f:τ->AV} {y:τ} (hb:∀ x z,body x=some z->WP Γ C (p++[0]) (AX nk' st E z) (st x)) (hr:whl body n x=some r) (hs:As nk' s (st x)) (hE:E r=xR ty fn f y)
  (hk:∀ s,RA ty fn.results.toList (f y) s->PQ Q .ret s) (hn:Γ.nt.nk=nk':=by rfl) (h:OE (nav p C)=true:=by kernel_rfl):WP Γ C p Q s:=by
 subst hn;exact lp st E hr hs hb (λ e s he=>by rw[hE]at he;obtain⟨rfl,he⟩:=he;exact hk s he) h
theorem lL {body:σ->Option (σ⊕ρ)} {n:Nat} {x:σ} {r:ρ} {nk' nk2:Nat} {ty:Nat->Ty} {fn:Func} {f:τ->AV} {O:τ->List (Option Ob)} {y:τ} (hb:∀ x z,body x=some z->WP Γ C (p++[0]) (AX nk' st E z) (st x)) (hr:whl body n x=some r) (hs:As nk' s (st x)) (hE:E r=xL nk2 ty fn f O y)
  (hk:∀ s,RL nk2 ty fn.results.toList (f y) (O y) s->PQ Q .ret s) (hn:Γ.nt.nk=nk':=by rfl) (h:OE (nav p C)=true:=by kernel_rfl):WP Γ C p Q s:=by
 subst hn;exact lp st E hr hs hb (λ e s he=>by rw[hE]at he;obtain⟨rfl,he⟩:=he;exact hk s he) h
def g0 (c:Code) (i:Nat) (s:St):Bool:=(gAt c i s).getD false
theorem sE {g:Bool} {v:AV} {obs:List Ob} {x:Option Eff} (ho:g=true->Dq s x v obs [] none) (hk:RF Γ C p (i+1) Q ((Jn Γ (nav p C) i g v obs s).getD s)) (hg:gAt (nav p C) i s=some g:=by kernel_rfl) (hx:Mo Γ (nav p C) i s=x:=by kernel_rfl) (hgs:EX (nav p C) i s=List.replicate (EX (nav p C) i s).length g:=by kernel_rfl) (hn:(Jn Γ (nav p C) i g v obs s).isSome=true:=by kernel_rfl):RF Γ C p i Q s:=
 sG (gs:=EX (nav p C) i s) ho (P8 λ b hb=>by rw[hgs]at hb;exact List.eq_of_mem_replicate hb) hk hg hx rfl hn
theorem oi {a z:ζ} (h:some a=some z):a=z:=Option.some.inj h
theorem lsS (xs:List α) (n:Nat) (y:α):xs.length=(xs.set n y).length:=List.length_set.symm
theorem tr {s1 s2 s3:St} (h:As nk s1 s2) (h':As nk s2 s3):As nk s1 s3:=As.trans h h'
theorem sg (ts:List Nat) (h:gcA nk ts s=s':=by kernel_rfl):As nk s s':=JbW ts h
theorem gP (ts ord:List Nat) {raw:List (Option Ob)} (hp:Pl (H2 ord) raw s'.objs) (h:gcA nk ts s=⟨s'.env,raw⟩:=by kernel_rfl):As nk s s':=Jc0 ts ord hp h
theorem sn (t k sz:Nat) {n m:Nat} (e:n=m) (h:lkA s.env t=.osl k sz 0 n:=by kernel_rfl):As nk s ⟨(t,.osl k sz 0 m)::s.env,s.objs⟩:=JcN t k sz 0 n m h e
theorem snc (b i k sz:Nat) {n m:Nat} (e:n=m) (h:(KK s b,(CA s b)[i]?)=(true,some (.osl k sz 0 n)):=by kernel_rfl):As nk s ⟨s.env,s.objs.set b (some (.box ((CA s b).set i (.osl k sz 0 m))))⟩:=Jba b i k sz n m h e
theorem so1 {encN:α->List AV} (k sz:Nat) {xss:List α} {x:α} {n:Int} (hx:idx xss n=some x) (h:DW s k=some (sz,xss.map encN):=by kernel_rfl):As nk s ⟨s.env,s.objs.set k (some (.narr sz ((xss.map encN).set n.toNat (encN x))))⟩:=JfW k h hx
theorem fz {enc:α->List D} {xs:List α} (t k sz:Nat) (h:M5 s (lkA s.env t)=some (k,sz,0,xs.length,xs.map enc):=by kernel_rfl):As nk s ⟨(t,.d (.sl (xs.map enc)))::s.env,s.objs.set k none⟩:=JcM t _ h C1 (by simp)
theorem fzc {enc:α->List D} {xs:List α} (kb i k sz:Nat) (h:(KK s kb,((CA s kb)[i]?).bind (M5 s))=(true,some (k,sz,0,xs.length,xs.map enc)):=by kernel_rfl):As nk s ⟨s.env,(s.objs.set k none).set kb (some (.box ((CA s kb).set i (.d (.sl (xs.map enc))))))⟩:=JaW kb i _ h C1 (by simp)
theorem snr {encN:α->List AV} {xs:List α} {n:Int} (row:List AV) (sz k j m isz:Nat) {n1 n2:Nat} (e:n1=n2) (h:DW s k=some (sz,(xs.map encN).set n.toNat row):=by kernel_rfl) (hj:row[j]?=some (.osl m isz 0 n1):=by kernel_rfl):As nk s ⟨s.env,s.objs.set k (some (.narr sz ((xs.map encN).set n.toNat (row.set j (.osl m isz 0 n2)))))⟩:=Jbb k j m isz n1 n2 _ h hj e rfl
theorem sni {encN:α->List AV} {xs:List α} {n:Int} {enc:β->List D} (row:List AV) (zs:List β) (sz k j m isz:Nat) (h:(DW s k,LL s m)=(some (sz,(xs.map encN).set n.toNat row),some (isz,zs.map enc)):=by kernel_rfl) (hj:row[j]?=some (.osl m isz 0 zs.length):=by kernel_rfl) :
  As nk s ⟨s.env,(s.objs.set m none).set k (some (.narr sz ((xs.map encN).set n.toNat (row.set j (.own isz (zs.map enc))))))⟩:=U6 k j m isz _ h hj rfl
theorem sno {encN:α->List AV} {xss:List α} {x:α} {n:Int} {enc:β->List D} (hx:idx xss n=some x) (row:List AV) (ys:List β) (sz k j isz:Nat) (h:DW s k=some (sz,(xss.map encN).set n.toNat row):=by kernel_rfl) (hj:row[j]?=some (.own isz (ys.map enc)):=by kernel_rfl) :
  As nk s ⟨s.env,s.objs.set k (some (.narr sz ((xss.map encN).set n.toNat (row.set j (.osl s.objs.length isz 0 ys.length)))))++[some (.arr isz (ys.map enc))]⟩:=U5 k j isz _ (ltN hx) h hj rfl
theorem scl {encN:α->List AV} {xss:List α} (n:Int) (row:List AV) (sz k:Nat) (y:α) (h:DW s k=some (sz,(xss.map encN).set n.toNat row):=by kernel_rfl) (hy:row=encN y:=by kernel_rfl):As nk s ⟨s.env,s.objs.set k (some (.narr sz ((xss.set n.toNat y).map encN)))⟩:=Jc1 k y h hy
theorem po1 {f:AV->AV} {o:Option Ob} {l m:List (Option Ob)} (h:Pl f l m):Pl f (o::l) (o::m):=Pl.o o h
theorem pn1 {f:AV->AV} (encN:α->List AV) (xss:List α) {sz:Nat} {l m:List (Option Ob)} (h:Pl f l m) (hc:∀ x,(encN x).map f=encN x:=by first|(intro _;rfl)|(rintro⟨_|_,_⟩<;>rfl)):Pl f (some (.narr sz ((xss.map encN).map λ e=>e.map f))::l) (some (.narr sz (xss.map encN))::m):=Pl.n sz (nrM hc) h
attribute [irreducible] xL
end Go.AI
end
section
namespace Go.AI
variable {α ε σ ρ ζ ξ:Type}
open Classical in
noncomputable def dem (S:α->Prop) (k:α->Option ζ):Option ζ:=if h:∃ z,(∃ a,S a)/\∀ a,S a->k a=some z then some h.choose else none
theorem Yi {S:α->Prop} {k:α->Option ζ} {z:ζ} (h:dem S k=some z):∀ a,S a->k a=some z:=by
 unfold dem at h;split at h
 ·rename_i hx;cases h;exact hx.choose_spec.2
 ·cases h
theorem Yj {S:α->Prop} {k:α->Option ζ} {z:ζ} (h0:∃ a,S a) (h:∀ a,S a->k a=some z):dem S k=some z:=by
 have hx:∃ z,(∃ a,S a)/\∀ a,S a->k a=some z:=⟨z,h0,h⟩;unfold dem;rw[dif_pos hx];obtain⟨a,ha⟩:=h0;have h1:=hx.choose_spec.2 a ha;rw[h a ha]at h1;exact h1.symm
def nlS (xs:List α) (b:Bool):Prop:=xs≠[]->b=false
def nlO:Option (List α)->Bool->Prop
 | none,b=>b=true
 | some xs,b=>nlS xs b
end Go.AI
end
section
namespace Go.AI
variable {P:Program} {Γ:Cx} {C:Code} {p:List Nat} {Q:Ex->St->Prop} {s s':St} {K:St->Prop} {i nk:Nat}
variable {α β ζ ε σ ρ τ:Type}
def ndQ (Γ:Cx) (c:Code) (i:Nat) (Q:Ex->St->Prop):Ex->St->Prop:=λ _ s=>∃ o,(A5 c)[i]?=some o/\JfD Γ o (λ s'=>GY Γ false (A5 c) ((A5 c).drop (i+1)) (Q .normal) s') s
structure ND (Γ:Cx) (c:Code) (i:Nat) (Q:Ex->St->Prop) (s:St):Prop where
 out:ndQ Γ c i Q .normal s
theorem Wj {m:Nat} {ops:List Oper}:∀ (l:List Oper) (Q:St->Prop) (s:St),GY Γ false (ops.take m) l Q s->GY Γ false ops l Q s:=by
 intro l;induction l with
 | nil=>intro Q s h;exact h
 | cons o l ih=>intro Q s h;exact GH (ih Q) (OH h)
theorem rn (m:Nat) (hs:As Γ.nt.nk s s') (hk:RF Γ (FM m (nav p C)) [] 0 (ndQ Γ (nav p C) m (QU C p s' Q)) s') (h:(HF (nav p C)&&!IZ (nav p C))=true:=by kernel_rfl):WP Γ C p Q s:=by
 refine⟨?_⟩;have hk:=hk.out;unfold A3 at hk;simp only[nav,List.drop_zero]at hk;unfold QU at hk;generalize nav p C=c at *;cases c with
 | region id ops d=>
  simp only[HF,IZ,Bool.true_and,Bool.not_eq_true']at h;subst h;refine⟨s',hs,.inr (.inr ⟨rfl,?_⟩)⟩;have hk:GY Γ false (ops.toList.take m) (ops.toList.take m) _ s':=hk;have hk:=Wj _ _ _ hk;by_cases hm:m<ops.toList.length
  ·refine⟨m,ops.toList[m],Jiu hm,EJ (λ s1 h1=>?_) _ _ hk⟩;obtain⟨o,ho,h1⟩:=h1;rw[show A5 (.region id ops false)=ops.toList from rfl,Jiu hm]at ho;cases ho;obtain⟨q1,q2,S,q3,q4⟩:=h1;exact⟨q1,q2,S,q3,λ st' hst=>EJ (λ s2 h2=>h2.2) _ _ (q4 st' hst)⟩
  ·exfalso;obtain⟨S,_,_,hQS⟩:=Fn _ _ _ hk;obtain⟨o,ho,_⟩:=hQS;rw[show A5 (.region id ops false)=ops.toList from rfl,JiP (by omega)]at ho;cases ho
 | _=>cases h
theorem nd0 {c:Code} {m:Nat} (hk:ND Γ c m Q s) (hi:Nat.ble (A5 (FM m c)).length i=true:=by kernel_rfl):RF Γ (FM m c) [] i (ndQ Γ c m Q) s:=⟨Mn i hi hk.out⟩
structure YOK (P:Program) (Γ:Cx):Prop where
 exn:Γ.exn=K3 P
def Wk (Γ:Cx) (c:Code) (o:Oper):Bool:=!IZ c&&o.guard.isNone&&Bu Γ.nt o.dst
theorem OI (hY:YOK P Γ) {o:Oper} {S:St->Prop} (ho:(A5 (nav p C))[i]?=some o) (h0:Wk Γ (nav p C) o=true) (hx:K3 P Γ.nt o s S) (hk:∀ s',S s'->RF Γ C p (i+1) Q s'):ND Γ (nav p C) i Q s:=by
 simp only[Wk,Jiv,Bool.not_eq_true']at h0;obtain⟨⟨h1,h2⟩,h3⟩:=h0;refine⟨o,ho,by simpa using h2,h3,S,by rw[hY.exn];exact hx,λ s' hs=>?_⟩;have:=(hk s' hs).out;unfold A3 at this;rw[h1]at this;exact this
def Jf1 (objs:List (Option Ob)) (k:Nat):Option (Bool×Bool×List (List D×List D)):=match obA objs k with
 | some (.iter ka va _ l)=>some (ka,va,l)
 | _=>none
def itB (Γ:Cx) (c:Code) (i k:Nat) (s:St):Bool:=match (A5 c)[i]? with
 | some o=>Wk Γ c o&&(match o.op with
  | .next x b=>!b&&(match Aj s.env x with
   | .ptr k' off=>Nat.beq k' k&&Nat.beq off 0
   | _=>false)
  | _=>false)
 | none=>false
def itD (c:Code) (i:Nat):Option Tmp:=match (A5 c)[i]? with
 | some o=>o.dst
 | none=>none
theorem nxt (hY:YOK P Γ) (k:Nat) {κ:Type} {encK:κ->List D} {enc:α->List D} {ka va:Bool} {m:List (κ×α)} (h0:m=[]->RF Γ C p (i+1) Q ⟨putA (itD (nav p C) i) false true (.tup [.d (.bool false)]) s.env,s.objs⟩)
  (h1:∀ e m1 m2,m=m1++e::m2->RF Γ C p (i+1) Q ⟨putA (itD (nav p C) i) false true (.tup [.d (.bool true),.top,.top]) s.env,s.objs.set k (some (.iter ka va (some (encK e.1,enc e.2)) (AA encK enc (m1++m2))))⟩)
  (hb:itB Γ (nav p C) i k s=true:=by kernel_rfl) (hm:Jf1 s.objs k=some (ka,va,AA encK enc m):=by kernel_rfl):ND Γ (nav p C) i Q s:=by
 unfold itB at hb;unfold itD at h0 h1;unfold Jf1 at hm;split at hb
 ·rename_i o ho;rw[ho]at h0 h1;simp only[Jiv]at hb;obtain⟨hb1,hb2⟩:=hb;split at hb2
  ·rename_i x b hop;simp only[Jiv,Bool.not_eq_true']at hb2;obtain⟨rfl,hb2⟩:=hb2;split at hb2
   ·rename_i k' off hx;simp only[Jiv]at hb2;have e1:=JiB hb2.1;have e2:=JiB hb2.2;subst e1;subst e2;split at hm
    ·rename_i ka' va' cur l hob;cases hm;refine OI hY ho hb1 (Yg hop hx hob) λ s' hs=>?_;rcases hs with⟨hl,rfl⟩|⟨l1,e,l2,hl,rfl⟩
     ·refine h0 ?_;cases m with
      | nil=>rfl
      | cons _ _=>cases hl
     ·obtain⟨m1,r,hm1,rfl,hr⟩:=List.map_eq_append_iff.1 (show AA encK enc m=l1++e::l2 from hl);obtain⟨e',m2,rfl,rfl,rfl⟩:=List.map_eq_cons_iff.1 hr;have:=h1 e' m1 m2 hm1;unfold AA at this;rw[List.map_append]at this;exact this
    ·cases hm
   ·cases hb2
  ·cases hb2
 ·cases hb
def Jhi (Z:ζ->Prop) (r1:ζ->AV) (O1:ζ->List (Option Ob)):AV->List (Option Ob)->Prop:=λ r O=>∃ y,Z y/\r=r1 y/\O=O1 y
def nxN (Γ:Cx) (c:Code) (i:Nat) (ord:List Nat) (nb:Nat) (r:AV) (O1:List (Option Ob)) (s:St):Option St:=
 match (A5 c)[i]? with
 | some o=>bif Wk Γ c o&&Nat.ble nb ord.length&&Nat.ble nb O1.length&&ord.all (λ k=>Nat.blt k s.objs.length)then
   some ⟨putA o.dst false true (Ln (DE ord s.objs.length nb) r) s.env,C6 s.objs ord nb O1⟩else none
 | none=>none
theorem nc (hY:YOK P Γ) (ord:List Nat) {f:FuncId} {ys:List AV} {O0 raw0:List (Option Ob)} {nb:Nat} {Z:ζ->Prop} {r1:ζ->AV} {O1:ζ->List (Option Ob)} (hr:G7 P f ys O0 nb (Jhi Z r1 O1)) (hp0:raw0=O0)
  (hk:∀ y,Z y->RF Γ C p (i+1) Q ((nxN Γ (nav p C) i ord nb (r1 y) (O1 y) s).getD s)) (hg:EX (nav p C) i s=[]:=by kernel_rfl)
  (hc:Pq (nav p C) i s=some ((some f,((Pq (nav p C) i s).getD ((none,[]),[])).1.2),ord):=by kernel_rfl) (hxs:((Pq (nav p C) i s).getD ((none,[]),[])).1.2.map (H3 ord)=ys:=by kernel_rfl) (hO:EQ s.objs ord=raw0:=by kernel_rfl)
  (hn:∀ y,(nxN Γ (nav p C) i ord nb (r1 y) (O1 y) s).isSome=true:=by intro y;kernel_rfl) (hb:Nat.ble nb ord.length=true:=by kernel_rfl) (hb2:ord.all (λ k=>Nat.blt k s.objs.length)=true:=by kernel_rfl) (h0:((A5 (nav p C))[i]?.map (Wk Γ (nav p C)))=some true:=by kernel_rfl):ND Γ (nav p C) i Q s:=by
 generalize ((Pq (nav p C) i s).getD ((none,[]),[])).1.2=zs at hc hxs;subst hp0;unfold Pq at hc;split at hc
 ·rename_i o ho;rw[ho]at h0;simp only[Option.map_some,JiE]at h0;simp only[JiE,Prod.mk.injEq]at hc;obtain⟨hc,hord⟩:=hc;rw[hc]at hord;simp only at hord;subst hord;subst hxs;subst hO;have hgob:EN true (o.op.operands.toList.map (Aj s.env)):=by
   refine Jm (g:=true) ?_;unfold EX at hg;rw[ho]at hg;simp only at hg;rw[hg];exact EW
  have hall:∀ y,Nat.ble nb (O1 y).length=true:=λ y=>by
   have:=hn y;unfold nxN at this;rw[ho]at this;simp only at this;cases hb3:Nat.ble nb (O1 y).length with
   | true=>rfl
   | false=>rw[hb3]at this;simp at this
  refine OI hY ho h0 (Wh hgob hc hr (JiJ hb) (λ r O hR=>?_) λ k hk=>?_) λ s' hs=>?_
  ·obtain⟨y,_,_,rfl⟩:=hR;exact JiJ (hall y)
  ·exact JiJ (Jif.1 hb2 k hk)
  ·obtain⟨r,O,⟨y,hy,rfl,rfl⟩,rfl⟩:=hs;have h:=hk y hy;have e:nxN Γ (nav p C) i (AD s.objs zs) nb (r1 y) (O1 y) s=some ⟨putA o.dst false true (Ln (DE (AD s.objs zs) s.objs.length nb) (r1 y)) s.env,C6 s.objs (AD s.objs zs) nb (O1 y)⟩:=by
    unfold nxN;rw[ho];simp only[h0,hb,hall y,hb2,Bool.and_self,cond_true]
   rw[e]at h;exact h
 ·cases hc
end Go.AI
end
section
namespace Go.AI
variable {P:Program} {nk:Nat} {s:St}
def Jc7 (k:Nat):AV->Bool
 | .ptr k' 0=>Nat.beq k' k
 | _=>false
theorem Jbj {k:Nat} {a:AV} (h:Jc7 k a=true):a=.ptr k 0:=by
 unfold Jc7 at h;split at h
 ·rw[JiB h]
 ·cases h
def Jbk:List AV->Bool
 | []=>true
 | .d _::r=>Jbk r
 | _=>false
def SQ:List AV->List D
 | .d x::r=>x::SQ r
 | _=>[]
theorem Q6:∀ {l:List AV},Jbk l=true->l=(SQ l).map .d
 | [],_=>rfl
 | .d x::r,h=>by
  have:=Q6 (l:=r) h;simp only[SQ,Jir,← this]
theorem Jc8 (ts:List Nat) (a:AV) (env:List (Nat×AV)) (t:Nat):lkA ((ts.map λ t=>(t,a))++env) t=if t∈ts then a else lkA env t:=by
 induction ts with
 | nil=>simp
 | cons x ts ih=>
  rw[Jir,List.cons_append,A7];by_cases e:x=t
  ·subst e;simp
  ·rw[if_neg e,ih];by_cases h:t∈ts
   ·rw[if_pos h,if_pos (List.mem_cons_of_mem _ h)]
   ·rw[if_neg h,if_neg (λ hh=>(List.mem_cons.1 hh).elim (λ h'=>e h'.symm) h)]
theorem NE (ts:List Nat) (k:Nat) (h:(KK s k&&Jbk (CA s k)&&ts.all λ t=>Jc7 k (lkA s.env t))=true):As nk s ⟨(ts.map λ t=>(t,AV.dptr (SQ (CA s k)) 0))++s.env,s.objs.set k none⟩:=by
 simp only[Jiv]at h;obtain⟨⟨h1,h2⟩,h3⟩:=h;have ho:=HH h1;have hd:=Q6 h2;refine As.sem λ _ _ _ _ _ _ _ _ hI=>?_;obtain⟨F,ρ,hS,hSl,hn,hdf⟩:=hI;have hle:=ET (ρ:=ρ) hS [k];have key:∀ v,Ai F ρ (.ptr k 0) v->Ai (GZ F ρ _ [k]) ρ (.dptr (SQ (CA s k)) 0) v:=λ v hv=>by
  cases hv with
  | ptr _ _ L hL=>
   obtain⟨p1,p2,cs,t,fr,p3,p4,p5,p6⟩:=(hS.obj k L _ hL ho).1;have hc:∀ (j:Nat) (x:D),(SQ (CA s k))[j]?=some x->∃ v,cs[j]?=some v/\A8 F x v:=λ j x hx=>by
    have hb:(CA s k)[j]?=some (.d x):=by rw[hd,Jiy,hx];rfl
    have hj:=Ae hb;have hv:cs[j]?=some cs[j]:=Jiz (by omega);have:=p6 j _ _ hb hv;cases this with
    | d _ _ h=>exact⟨_,hv,h⟩
   rw[p1];refine .dptr _ 0 L.b 0 cs t fr (λ j=>cs.getD j undef) ?_ (λ j x hx=>?_) λ j x hx=>?_
   ·rw[J7 (List.mem_singleton_self k) hL];exact p3
   ·obtain⟨v,hv,_⟩:=hc j x hx;rw[JiI,hv];simp[hv]
   ·obtain⟨v,hv,hr⟩:=hc j x hx;have:cs.getD j undef=v:=by simp[hv]
    rw[this];exact hr.mono hle
 refine⟨GZ F ρ _ [k],ρ,?_,?_,hn,hdf.1.mono hle,hdf.2⟩
 ·show Sim _ _ _ _ _ (s.objs.set k none) _;rw[← UW];exact hS.freeze [k] λ k' hk'=>by simp at hk';subst hk';exact⟨_,ho⟩
 ·have hm:=hSl.mono hle (RLe.refl _);intro t;rw[Jc8];split
  ·rename_i ht;have:=hSl t;rw[Jbj (Jif.1 h3 t ht)]at this;exact key _ this
  ·exact hm t
theorem Jf2 (t:Nat) {e:List D} {l:List (List D)} (h:lkA s.env t=.d (.po (e::l))):As nk s ⟨(t,.dptr e 0)::s.env,s.objs⟩:=by
 refine As.sem λ _ _ _ _ _ _ _ _ hI=>?_;obtain⟨F,ρ,hS,hSl,hn,hdf⟩:=hI;refine⟨F,ρ,hS,λ t'=>?_,hn,hdf⟩;rw[A7];split
 ·rename_i e';subst e';have:=hSl t;rw[h]at this;generalize Array.getD _ t undef=v at this⊢;cases this with
  | d _ _ h=>
   cases h with
   | po _ _ b o cs ty fr g h1 h2 h3=>exact .dptr _ 0 b o cs ty fr g h1 h2 h3
 ·exact hSl t'
theorem Qa (t:Nat) {e:List D} (h:lkA s.env t=.dptr e 0):As nk s ⟨(t,.d (.po [e]))::s.env,s.objs⟩:=by
 refine As.sem λ _ _ _ _ _ _ _ _ hI=>?_;obtain⟨F,ρ,hS,hSl,hn,hdf⟩:=hI;refine⟨F,ρ,hS,λ t'=>?_,hn,hdf⟩;rw[A7];split
 ·rename_i e';subst e';have:=hSl t;rw[h]at this;generalize Array.getD _ t undef=v at this⊢;cases this with
  | dptr _ _ b o cs ty fr g h1 h2 h3=>exact .d _ _ (.po _ _ b o cs ty fr g h1 h2 h3)
 ·exact hSl t'
end Go.AI
end
section
namespace Go.AI
variable {P:Program} {F F':Nat->Option Obj} {ρ ρ':Nat->Option Loc} {N:Nat->Prop} {H0 F0:Nat->Option Obj} {O objs:List (Option Ob)} {w:World} {w0:W0} {nk:Nat} {s:St}
theorem Va {en:List (List D×AV)}:∀ e∈(en.map λ p=>[p.2]:List (List AV)),e.length=1:=λ e he=>by
 obtain⟨p,_,rfl⟩:=Jin.1 he;rfl
theorem SR {en:List (List D×AV)} {i:Nat} {a b:AV} {key:List D}:((en.set i (key,b)).map λ p=>[p.2])=(en.map λ p=>[p.2]).set i ([a].set 0 b):=by rw[List.map_set];rfl
theorem SS {h:Array Obj} {L:Loc} {ka:Bool} {dv:AV} {en:List (List D×AV)} {i:Nat} {key:List D} {a:AV} (H:Bk F ρ h L (.nmp ka dv en)) (hi:en[i]?=some (key,a)):∃ o v,h[L.b]?=some o/\ED o (L.base+i*1+0)=some v/\(IG a=false->Ai F ρ a v) /\
  ∀ ρ' dv' b,RLe ρ ρ'->Ai F ρ' dv' (.slice none 0 0)->(IG b=false->Ai F ρ' b v)->Bk F ρ' h L (.nmp ka dv' (en.set i (key,b))):=by
 obtain⟨h0,hd,es,clock,h1,hb,h2,h3⟩:=H;have hlt:i<es.size:=by rw[h2];exact Ae hi
 have hq:es[i]?=some es[i]:=Jiz hlt;refine⟨_,es[i].val,h1,by simp only[ED,h0];rw[show 0+i*1+0=i by omega,hq];rfl,(h3 i _ _ hi hq).2,λ ρ' dv' b hρ hdv hb'=>⟨h0,hdv,es,clock,h1,hb,by simpa using h2,λ j p q hp hq'=>?_⟩⟩;by_cases e:j=i
 ·subst e;rw[JiF (Ae hi)]at hp;cases hp;rw[hq]at hq';cases hq';exact⟨(h3 j _ _ hi hq).1,hb'⟩
 ·rw[JiK (Ne.symm e)]at hp;obtain⟨g1,g2⟩:=h3 j p q hp hq';exact⟨g1,λ ho=>(g2 ho).mono (FLe.refl _) hρ⟩
theorem Jc9 {h:Array Obj} (hS:Sim N H0 F0 F ρ O h) {k i isz:Nat} {ka:Bool} {dv:AV} {en:List (List D×AV)} {key:List D} {xs:List (List D)} (ho:obA O k=some (.nmp ka dv en)) (hi:en[i]?=some (key,.own isz xs)) :
  ∃ ρ',RLe ρ ρ'/\Sim N H0 F0 F ρ' (O.set k (some (.nmp ka (.osl O.length isz 0 0) (en.set i (key,.osl O.length isz 0 xs.length))))++[some (.arr isz xs)]) h:=
 Sz hS ho (i:=i) (j:=0) (e:=[.own isz xs]) (isz:=isz) rfl (by simp only[Ob.rows];rw[SR (a:=.own isz xs)]) (by rw[Jiy,hi];rfl) rfl Va λ L H=>by
  obtain⟨o,v,h1,h2,_,h3⟩:=SS H hi;exact⟨o,v,h1,h2,λ ρ' hρ hv=>h3 ρ' _ _ hρ (.osl0 _ _ _ _) λ _=>hv⟩
theorem Jbl {h:Array Obj} (hS:Sim N H0 F0 F ρ O h) {k isz:Nat} {ka:Bool} {dv:AV} {en:List (List D×AV)} (ho:obA O k=some (.nmp ka dv en)) :
  Sim N H0 F0 F ρ (O.set k (some (.nmp ka (.osl O.length isz 0 0) en))++[some (.arr isz [])]) h:=by
 have hget:∀ q L ob,ρ q=some L->obA (O.set k (some (.nmp ka (.osl O.length isz 0 0) en))++[some (.arr isz [])]) q=some ob->(q=k/\ob=.nmp ka (.osl O.length isz 0 0) en)\/(q≠k/\obA O q=some ob):=λ q L ob hq hob=>by
  have:=hS.dom q L hq;rw[AE,JiL,if_pos this]at hob;by_cases e:q=k
  ·subst e;rw[AJ ho]at hob;cases hob;exact .inl ⟨rfl,rfl⟩
  ·rw[AB e]at hob;exact .inr ⟨e,hob⟩
 obtain⟨σ,hσ⟩:=hS.inn;refine hS.retable (by simp) (λ q L ob hq hob=>?_) ⟨σ,hσ.new,λ k' c M q L ob hM hq hob=>?_,hσ.sep,λ q L ob0 sz es hq hob hr0=>?_⟩
 ·rcases hget q L ob hq hob with⟨rfl,rfl⟩|⟨_,h1⟩
  ·obtain⟨⟨h0,hd,r⟩,_⟩:=hS.obj q L _ hq ho;exact⟨_,ho,.inr ⟨h0,.osl0 _ _ _ _,r⟩⟩
  ·exact⟨ob,h1,.inl rfl⟩
 ·rcases hget q L ob hq hob with⟨rfl,rfl⟩|⟨_,h1⟩
  ·exact hσ.obj k' c M q L _ hM hq ho
  ·exact hσ.obj k' c M q L ob hM hq h1
 ·rcases hget q L ob0 hq hob with⟨rfl,rfl⟩|⟨_,h1⟩
  ·exact hσ.rep q L _ sz es hq ho hr0
  ·exact hσ.rep q L ob0 sz es hq h1 hr0
theorem Jda {h:Array Obj} (hS:Sim N H0 F0 F ρ O h) {k i m isz:Nat} {ka:Bool} {dv:AV} {en:List (List D×AV)} {key:List D} {xs:List (List D)} (ho:obA O k=some (.nmp ka dv en)) (hi:en[i]?=some (key,.osl m isz 0 xs.length)) (hm:obA O m=some (.arr isz xs)) :
  Sim N H0 F0 F ρ ((O.set m none).set k (some (.nmp ka (.d (.sl [])) (en.set i (key,.own isz xs))))) h:=
 SA hS ho (i:=i) (j:=0) (e:=[.osl m isz 0 xs.length]) rfl (by simp only[Ob.rows];rw[SR (a:=.osl m isz 0 xs.length)]) (by rw[Jiy,hi];rfl) rfl hm Va λ L H=>by
  obtain⟨o,v,h1,h2,h4,h3⟩:=SS H hi;exact⟨o,v,h1,h2,h4 rfl,h3 ρ _ _ (RLe.refl _) (.d _ _ (.sl0 _ _)) λ hn=>by cases hn⟩
open Classical in
theorem Jdb {h:Array Obj} (hS:Sim N H0 F0 F ρ O h) {k:Nat} {ka:Bool} {dv:AV} {en:List (List D×AV)} (ho:obA O k=some (.nmp ka dv en)) (hn:∀ p∈en,isN p.2=true) :
  ∃ F',FLe F F'/\Sim N H0 F0 F' ρ (O.set k (some (.nmp ka (.d (.sl [])) (en.map λ p=>(p.1,.d (ofN p.2)))))) h:=by
 have hobA:∀ q ob,obA (O.set k (some (.nmp ka (.d (.sl [])) (en.map λ p=>(p.1,.d (ofN p.2)))))) q=some ob->(q=k/\ob=.nmp ka (.d (.sl [])) (en.map λ p=>(p.1,.d (ofN p.2))))\/(q≠k/\obA O q=some ob):=λ q ob hq=>by
  by_cases e1:q=k
  ·subst e1;rw[AJ ho]at hq;cases hq;exact .inl ⟨rfl,rfl⟩
  ·rw[AB e1]at hq;exact .inr ⟨e1,hq⟩
 obtain⟨σ,hσ⟩:=hS.inn;cases hk:ρ k with
 | none=>
  refine⟨F,FLe.refl _,hS.table (by simp) λ q L ob hq hob=>?_⟩;rcases hobA q ob hob with⟨rfl,_⟩|⟨_,h1⟩
  ·rw[hk]at hq;cases hq
  ·exact h1
 | some L=>
  obtain⟨g1,g2,g3⟩:=hS.obj k L _ hk ho;let F':Nat->Option Obj:=λ b=>if ∃ c M,σ k c=some M/\M.b=b then h[b]? else F b
  have hF':∀ b,F' b=if ∃ c M,σ k c=some M/\M.b=b then h[b]? else F b:=λ _=>rfl
  have hle:FLe F F':=λ b o hb=>by
   rw[hF'];split
   ·exact hS.frz b o hb
   ·exact hb
  have hfM:∀ c M,σ k c=some M->F' M.b=h[M.b]? := λ c M hM=>by rw[hF',if_pos ⟨c,M,hM,rfl⟩]
  have hno:∀ b,(∀ c M,σ k c=some M->M.b≠b)->F' b=F b:=λ b h2=>by
   rw[hF',if_neg];rintro⟨c,M,h3,h4⟩;exact h2 c M h3 h4
  refine⟨F',hle,{ size:=hS.size,old:=hS.old,f0:=hS.f0.trans hle,fnew:=λ b o hb hN=>?_,frz:=λ b o hb=>?_,loc:=hS.loc,dom:=λ q L' hq=>by simpa using hS.dom q L' hq,obj:=λ q L' ob hq hob=>?_,sep:=λ q q' L1 L2 ob ob' hq hq' h1 h2 hne=>?_,inn:=?_ }⟩
  ·rw[hF']at hb;split at hb
   ·rename_i hx;obtain⟨c,M,hM,rfl⟩:=hx;exact absurd (hσ.new k c M hM).1 hN
   ·exact hS.fnew b o hb hN
  ·rw[hF']at hb;split at hb
   ·exact hb
   ·exact hS.frz b o hb
  ·rcases hobA q ob hob with⟨rfl,rfl⟩|⟨h1,h2⟩
   ·rw[hk]at hq;cases hq;refine⟨?_,g2,by rw[hno _ λ c M hM=>(hσ.obj q c M q L _ hM hk ho).symm];exact g3⟩;obtain⟨h0,hd,es,clock,q1,qb,q2,q3⟩:=g1;refine⟨h0,.d _ _ (.sl0 _ _),es,clock,q1,qb,by simpa using q2,λ i p q' hp hq'=>?_⟩;simp only[Jiy,Jix]at hp;obtain⟨p0,hp0,rfl⟩:=hp;obtain⟨r1,r2⟩:=q3 i p0 q' hp0 hq';refine⟨r1.mono hle,λ _=>?_⟩;have hisN:=hn p0 (Jiw hp0);obtain⟨kc,a⟩:=p0;cases a with
    | d y=>exact(r2 rfl).mono hle (RLe.refl _)
    | own isz xs=>
     refine .d _ _ ?_;show A8 F' (.sl xs) q'.val;have hown:=hσ.rep q L _ 1 _ hk ho rfl i [.own isz xs] 0 isz xs (by rw[Jiy,hp0];rfl) rfl _ q'.val q1 (by simp only[ED,h0];rw[show 0+i*1+0=i by omega,hq'];rfl);rcases hown with⟨rfl,a,ha⟩|⟨M,cap,hM,hv,hcap,_,_,⟨q1,q2,cs1,t1,fr1,q3,q4,q5,q6⟩⟩
     ·rw[ha];exact .sl0 _ _
     ·rw[hv];refine .sl xs M.b M.base cap isz cs1 t1 fr1 (λ i j=>(cs1[M.base+i*isz+j]?).getD undef) (by rw[hfM _ M hM];exact q3) q1 hcap (λ i e hi j x hx=>?_) (λ i e hi j x hx=>?_)
      ·obtain⟨u,hu,_⟩:=q6 i e hi j x hx;simp only[hu,Jig]
      ·obtain⟨u,hu,hd⟩:=q6 i e hi j x hx;simp only[hu,Jig];exact hd.mono hle
    | _=>cases hisN
   ·obtain⟨q1,q2,q3⟩:=hS.obj q L' ob hq h2;refine⟨q1.mono hle (RLe.refl _) rfl,q2,?_⟩;rw[hno L'.b λ c M hM=>(hσ.obj k c M q L' ob hM hq h2).symm];exact q3
  ·have key:∀ q ob,obA (O.set k (some (.nmp ka (.d (.sl [])) (en.map λ p=>(p.1,.d (ofN p.2)))))) q=some ob->∃ o,obA O q=some o:=λ q ob h=>by
    rcases hobA q ob h with⟨rfl,_⟩|⟨_,h⟩
    ·exact⟨_,ho⟩
    ·exact⟨_,h⟩
   obtain⟨o1,e1⟩:=key q ob h1;obtain⟨o2,e2⟩:=key q' ob' h2;exact hS.sep q q' L1 L2 o1 o2 hq hq' e1 e2 hne
  ·refine⟨λ k' c=>if k'=k then none else σ k' c,λ k' c M hM=>?_,λ k' c M q L' ob hM hq hob=>?_,λ k' c M k'' c' M' hM hM' hne=>?_,λ q L' ob0 sz' es' hq hob hr0 i e j isz xs hi hj o1 v hb hv=>?_⟩
   ·split at hM
    ·cases hM
    ·rename_i hkk;obtain⟨n1,n2,n3⟩:=hσ.new k' c M hM;refine⟨n1,n2,?_⟩;rw[hno M.b λ c' M' hM'=>hσ.sep k c' M' k' c M hM' hM (.inl (Ne.symm hkk))];exact n3
   ·split at hM
    ·cases hM
    ·rcases hobA q ob hob with⟨rfl,_⟩|⟨_,h1⟩
     ·exact hσ.obj k' c M q L' _ hM hq ho
     ·exact hσ.obj k' c M q L' ob hM hq h1
   ·split at hM
    ·cases hM
    ·split at hM'
     ·cases hM'
     ·exact hσ.sep k' c M k'' c' M' hM hM' hne
   ·rcases hobA q ob0 hob with⟨rfl,rfl⟩|⟨h1,h2⟩
    ·cases hr0;simp only[List.map_map,Jiy,Jix,Function.comp]at hi;obtain⟨p,_,rfl⟩:=hi;cases j<;>simp at hj
    ·simp only[if_neg h1];exact(hσ.rep q L' ob0 sz' es' hq h2 hr0 i e j isz xs hi hj o1 v hb hv).mono hle λ _ _=>rfl
theorem Jdc {h:Array Obj} (hS:Sim N H0 F0 F ρ O h) {k:Nat} {ka va:Bool} (ho:obA O k=some (.map ka va [])):Sim N H0 F0 F ρ (O.set k (some (.nmp ka (.d (.sl [])) []))) h:=by
 have hobA:∀ q ob,obA (O.set k (some (.nmp ka (.d (.sl [])) []))) q=some ob->(q=k/\ob=.nmp ka (.d (.sl [])) [])\/(q≠k/\obA O q=some ob):=λ q ob hq=>by
  by_cases e1:q=k
  ·subst e1;rw[AJ ho]at hq;cases hq;exact .inl ⟨rfl,rfl⟩
  ·rw[AB e1]at hq;exact .inr ⟨e1,hq⟩
 obtain⟨σ,hσ⟩:=hS.inn;refine hS.retable (by simp) (λ q L ob hq hob=>?_) ⟨σ,hσ.new,λ k' c M q L ob hM hq hob=>?_,hσ.sep,λ q L ob0 sz es hq hob hr0 i e j isz xs hi=>?_⟩
 ·rcases hobA q ob hob with⟨rfl,rfl⟩|⟨_,h1⟩
  ·obtain⟨⟨hb,es,clock,q1,q2,q3,q4⟩,_⟩:=hS.obj q L _ hq ho;exact⟨_,ho,.inr ⟨hb,.d _ _ (.sl0 _ _),es,clock,q1,q2,q3,λ i p q hp=>by simp at hp⟩⟩
  ·exact⟨ob,h1,.inl rfl⟩
 ·rcases hobA q ob hob with⟨rfl,rfl⟩|⟨_,h1⟩
  ·exact hσ.obj k' c M q L _ hM hq ho
  ·exact hσ.obj k' c M q L ob hM hq h1
 ·rcases hobA q ob0 hob with⟨rfl,rfl⟩|⟨_,h1⟩
  ·cases hr0;simp at hi
  ·exact hσ.rep q L ob0 sz es hq h1 hr0 i e j isz xs hi
section
variable {κ β:Type} [DecidableEq κ] {encK:κ->List D} {enc:β->List D} {isz:Nat}
def DY (encK:κ->List D) (isz:Nat) (enc:β->List D) (m:List (κ×List β)):List (List D×AV):=m.map λ p=>(encK p.1,.own isz (p.2.map enc))
def Ea (encK:κ->List D) (enc:β->List D) (m:List (κ×List β)):List (List D×AV):=m.map λ p=>(encK p.1,.d (.sl (p.2.map enc)))
theorem nmM {κ β:Type} {encK:κ->List D} {isz:Nat} {enc:β->List D} {m:List (κ×List β)} {f:AV->AV} (hc:∀ sz es,f (.own sz es)=.own sz es):(DY encK isz enc m).map (λ p=>(p.1,f p.2))=DY encK isz enc m:=by
 unfold DY;rw[List.map_map];exact Jit λ p _=>by simp only[Function.comp,hc]
theorem Ij {κ β:Type} {encK:κ->List D} {enc:β->List D} {m:List (κ×List β)} {f:AV->AV} (hc:∀ x,f (.d x)=.d x):(Ea encK enc m).map (λ p=>(p.1,f p.2))=Ea encK enc m:=by
 unfold Ea;rw[List.map_map];exact Jit λ p _=>by simp only[Function.comp,hc]
def G1 (encK:κ->List D) (isz:Nat) (enc:β->List D) (key:κ) (a:AV):List (κ×List β)->List (List D×AV)
 | []=>[]
 | p::r=>if key=p.1 then(encK key,a)::DY encK isz enc r else(encK p.1,.own isz (p.2.map enc))::G1 encK isz enc key a r
def Kx (encK:κ->List D) (isz:Nat) (enc:β->List D) (key:κ) (a:AV):List (κ×List β)->List (List D×AV)
 | []=>[(encK key,a)]
 | p::r=>if key=p.1 then(encK key,a)::DY encK isz enc r else(encK p.1,.own isz (p.2.map enc))::Kx encK isz enc key a r
theorem Wl {key:κ} {a:AV} {m:List (κ×List β)} (h:BJ key m=none):G1 encK isz enc key a m=DY encK isz enc m:=by
 induction m with
 | nil=>rfl
 | cons p r ih=>
  simp only[BJ]at h;by_cases e:key=p.1
  ·rw[if_pos e]at h;cases h
  ·rw[if_neg e]at h;simp only[G1,if_neg e,ih h,DY,Jir]
theorem Wm {key:κ} {xs:List β} {m:List (κ×List β)} (h:BJ key m=some xs):∃ i,(DY encK isz enc m)[i]?=some (encK key,.own isz (xs.map enc))/\∀ a,(DY encK isz enc m).set i (encK key,a)=G1 encK isz enc key a m:=by
 induction m with
 | nil=>cases h
 | cons p r ih=>
  simp only[BJ]at h;by_cases e:key=p.1
  ·rw[if_pos e]at h;cases h;exact⟨0,by rw[e];rfl,λ a=>by simp only[G1,if_pos e,DY,Jir,List.set_cons_zero]⟩
  ·rw[if_neg e]at h;obtain⟨i,h1,h2⟩:=ih h;exact⟨i+1,by simpa [DY]using h1,λ a=>by simp only[G1,if_neg e,← h2 a,DY,Jir,List.set_cons_succ]⟩
theorem Jbm (key:κ) (a:AV) (m:List (κ×List β)):∃ i,(Kx encK isz enc key a m)[i]?=some (encK key,a)/\∀ b,(Kx encK isz enc key a m).set i (encK key,b)=Kx encK isz enc key b m:=by
 induction m with
 | nil=>exact⟨0,rfl,λ b=>rfl⟩
 | cons p r ih=>
  by_cases e:key=p.1
  ·exact⟨0,by simp only[Kx,if_pos e];rfl,λ b=>by simp only[Kx,if_pos e,List.set_cons_zero]⟩
  ·obtain⟨i,h1,h2⟩:=ih;exact⟨i+1,by simpa only [Kx,if_neg e,List.getElem?_cons_succ]using h1,λ b=>by simp only[Kx,if_neg e,← h2 b,List.set_cons_succ]⟩
theorem Yk (key:κ) (ys:List β) (m:List (κ×List β)):Kx encK isz enc key (.own isz (ys.map enc)) m=DY encK isz enc (DV key ys m):=by
 induction m with
 | nil=>rfl
 | cons p r ih=>
  by_cases e:key=p.1
  ·simp only[Kx,DV,if_pos e,DY,Jir]
  ·simp only[Kx,DV,if_neg e,ih,DY,Jir]
variable {ks:List TK} (heq:∀ a b,Au ks ((encK a).map .d) ((encK b).map .d)=some (decide (a=b)))
include heq
theorem ST (a b:κ):eqK ks (encK a) (encK b)=decide (a=b):=by simp only[eqK,heq,Jig]
theorem Jhj (key:κ) (n:Nat) (m:List (κ×List β)):(GA ks (encK key) (G1 encK isz enc key (.osl n isz 0 (Ca key m).length) m)).getD (.osl n isz 0 0)=.osl n isz 0 (Ca key m).length:=by
 have hget:∀ a,GA ks (encK key) (G1 encK isz enc key a m)=(BJ key m).map λ _=>a:=λ a=>by
  induction m with
  | nil=>rfl
  | cons p r ih=>
   by_cases e:key=p.1
   ·simp only[G1,BJ,if_pos e,GA,ST heq,decide_true,cond_true,Option.map_some]
   ·simp only[G1,BJ,if_neg e,GA,ST heq,decide_eq_false e,cond_false,ih]
 rw[hget];unfold Ca;cases BJ key m<;>rfl
theorem Jf3 (key:κ) (m:List (κ×List β)):(GA ks (encK key) (Ea encK enc m)).getD (.d (.sl []))=.d (.sl ((Ca key m).map enc)):=by
 have hget:GA ks (encK key) (Ea encK enc m)=(BJ key m).map λ xs=>.d (.sl (xs.map enc)):=by
  induction m with
  | nil=>rfl
  | cons p r ih=>
   simp only[Ea,Jir,GA,BJ,ST heq];by_cases e:key=p.1
   ·simp only[if_pos e,decide_eq_true e,cond_true,Option.map_some]
   ·simp only[if_neg e,decide_eq_false e,cond_false];exact ih
 rw[hget];unfold Ca;cases BJ key m<;>rfl
theorem Jhk (key:κ) (a v:AV) (m:List (κ×List β)):IX ks (encK key) v (G1 encK isz enc key a m)=Kx encK isz enc key v m:=by
 induction m with
 | nil=>rfl
 | cons p r ih=>
  by_cases e:key=p.1
  ·simp only[G1,Kx,if_pos e,IX,ST heq,decide_true,cond_true]
  ·simp only[G1,Kx,if_neg e,IX,ST heq,decide_eq_false e,cond_false,ih]
theorem Jb2 (key:κ) (a:AV) (m:List (κ×List β)):EC ks (encK key) (G1 encK isz enc key a m):=by
 refine⟨by rw[heq];rfl,?_⟩;have hO:∀ m:List (κ×List β),∀ p∈DY encK isz enc m,(Au ks ((encK key).map .d) (p.1.map .d)).isSome=true:=λ m p hp=>by
  simp only[DY,Jin]at hp;obtain⟨q,_,rfl⟩:=hp;rw[heq];rfl
 induction m with
 | nil=>intro p hp;simp[G1]at hp
 | cons q r ih=>
  intro p hp;by_cases e:key=q.1
  ·simp only[G1,if_pos e,List.mem_cons]at hp;rcases hp with rfl|hp
   ·simp only[heq];rfl
   ·exact hO r p hp
  ·simp only[G1,if_neg e,List.mem_cons]at hp;rcases hp with rfl|hp
   ·simp only[heq];rfl
   ·exact ih p hp
theorem Jdd (key:κ) (m:List (κ×List β)):EC ks (encK key) (Ea encK enc m):=by
 refine⟨by rw[heq];rfl,λ p hp=>?_⟩;simp only[Ea,Jin]at hp;obtain⟨q,_,rfl⟩:=hp;rw[heq];rfl
omit heq
theorem Yl {k n:Nat} {m:List (κ×List β)} {key:κ} {x:D} (heq:∀ a b,Au ks ((encK a).map .d) ((encK b).map .d)=some (decide (a=b))) (hx:xD s.objs (.d x)=some (x,[],[]):=by kernel_rfl) (hK:encK key=[x]:=by kernel_rfl) (hk:obA s.objs k=some (.nmp false (.osl n isz 0 0) (G1 encK isz enc key (.osl n isz 0 (Ca key m).length) m)):=by kernel_rfl) :
  Dq s (Fd (.map ks false false [.nil]) s.objs (.mp k) (.d x) false) (.osl n isz 0 (Ca key m).length) [] [] none:=by
 obtain⟨ob,e2,q⟩:=GI (objs:=s.objs) (l:=[.d x]) (x:=[x]) (ks:=[]) (o:=[]) (by simp only[xDs,hx];rfl) leZ;refine .of (ob:=ob/\EC ks (encK key) (G1 encK isz enc key (.osl n isz 0 (Ca key m).length) m)) ?_ ⟨q,Jb2 heq key _ m⟩;rw[← hK]at e2;have hg:=Jhj (isz:=isz) (enc:=enc) heq key n m;simp only[Fd,hk,kvA,cond_false,e2,hg,List.isEmpty_nil,beq_self_eq_true,Bool.and_self,Bool.not_false,Jas,Cs,A4,cond_true]
theorem Wn {k:Nat} {m:List (κ×List β)} {key:κ} {x:D} (heq:∀ a b,Au ks ((encK a).map .d) ((encK b).map .d)=some (decide (a=b))) (hx:xD s.objs (.d x)=some (x,[],[]):=by kernel_rfl) (hK:encK key=[x]:=by kernel_rfl) (hk:obA s.objs k=some (.nmp false (.d (.sl [])) (Ea encK enc m)):=by kernel_rfl) :
  Dq s (Fd (.map ks false false [.nil]) s.objs (.mp k) (.d x) false) (.d (.sl ((Ca key m).map enc))) [] [] none:=by
 obtain⟨ob,e2,q⟩:=GI (objs:=s.objs) (l:=[.d x]) (x:=[x]) (ks:=[]) (o:=[]) (by simp only[xDs,hx];rfl) leZ;refine .of (ob:=ob/\EC ks (encK key) (Ea encK enc m)) ?_ ⟨q,Jdd heq key m⟩;rw[← hK]at e2;have hg:=Jf3 (enc:=enc) heq key m;simp only[Fd,hk,kvA,cond_false,e2,hg,List.isEmpty_nil,beq_self_eq_true,Bool.and_self,Bool.not_false,Jas,Cs,A4,cond_true]
theorem Jbn {k n n' l':Nat} {m:List (κ×List β)} {key:κ} {x:D} {a:AV} (heq:∀ a b,Au ks ((encK a).map .d) ((encK b).map .d)=some (decide (a=b))) (hx:xD s.objs (.d x)=some (x,[],[]):=by kernel_rfl) (hK:encK key=[x]:=by kernel_rfl) (hk:obA s.objs k=some (.nmp false (.osl n isz 0 0) (G1 encK isz enc key a m)):=by kernel_rfl) :
  Dq s (F8 (.map ks false false [.nil]) s.objs (.mp k) (.d x) (.osl n' isz 0 l')) .top [] [] (some (k,.nmp false (.osl n isz 0 0) (Kx encK isz enc key (.osl n' isz 0 l') m))):=by
 obtain⟨ob,e2,q⟩:=GI (objs:=s.objs) (l:=[.d x]) (x:=[x]) (ks:=[]) (o:=[]) (by simp only[xDs,hx];rfl) leZ;refine .of (ob:=ob/\EC ks (encK key) (G1 encK isz enc key a m)) ?_ ⟨q,Jb2 heq key a m⟩;have hp:=Jhk (isz:=isz) (enc:=enc) heq key a (.osl n' isz 0 l') m;rw[← hK]at e2;simp only[F8,hk,kvA,cond_false,e2,hp,List.isEmpty_nil,beq_self_eq_true,Bool.and_self,Bool.not_false,Cs,cond_true]
theorem Jb3 (k:Nat) {ka va:Bool} (h:obA s.objs k=some (.map ka va []):=by kernel_rfl):As nk s ⟨s.env,s.objs.set k (some (.nmp ka (.d (.sl [])) []))⟩:=
 As.sem λ _ _ _ _ _ _ _ _ hI=>by
  obtain⟨F,ρ,hS,hSl,hn,hdf⟩:=hI;exact⟨F,ρ,Jdc hS h,hSl,hn,hdf⟩
theorem Jf4 (k n:Nat) (key:κ) (m:List (κ×List β)) {ka:Bool} {dv:AV} (h:obA s.objs k=some (.nmp ka dv (DY encK isz enc m)):=by kernel_rfl) (hn:s.objs.length=n:=by kernel_rfl) :
  As nk s ⟨s.env,s.objs.set k (some (.nmp ka (.osl n isz 0 0) (G1 encK isz enc key (.osl n isz 0 (Ca key m).length) m)))++[some (.arr isz ((Ca key m).map enc))]⟩:=by
 subst hn;refine As.sem λ _ _ _ _ _ _ _ _ hI=>?_;obtain⟨F,ρ,hS,hSl,hn,hdf⟩:=hI;unfold Ca;cases hg:BJ key m with
 | none=>
  have:=Jbl (isz:=isz) hS h;rw[Wl hg];exact⟨F,ρ,this,hSl,hn,hdf⟩
 | some xs=>
  obtain⟨i,h1,h2⟩:=Wm (encK:=encK) (isz:=isz) (enc:=enc) hg;obtain⟨ρ',g1,g2⟩:=Jc9 hS h h1;rw[h2,Jiq]at g2;exact⟨F,ρ',g2,hSl.mono (FLe.refl _) g1,hn,hdf.1,hdf.2.1,hdf.2.2.mono g1⟩
theorem Jf5 (k n:Nat) (key:κ) (ys:List β) (m:List (κ×List β)) {ka:Bool} {dv:AV} (h:obA s.objs k=some (.nmp ka dv (Kx encK isz enc key (.osl n isz 0 ys.length) m)):=by kernel_rfl) (hm:obA s.objs n=some (.arr isz (ys.map enc)):=by kernel_rfl) :
  As nk s ⟨s.env,(s.objs.set n none).set k (some (.nmp ka (.d (.sl [])) (DY encK isz enc (DV key ys m))))⟩:=by
 refine As.sem λ _ _ _ _ _ _ _ _ hI=>?_;obtain⟨F,ρ,hS,hSl,hn,hdf⟩:=hI;obtain⟨i,h1,h2⟩:=Jbm (encK:=encK) (isz:=isz) (enc:=enc) key (.osl n isz 0 ys.length) m;have:=Jda (xs:=ys.map enc) hS h (by rw[Jiq];exact h1) hm;rw[h2,Yk]at this;exact⟨F,ρ,this,hSl,hn,hdf⟩
theorem Vb {κ β:Type} {encK:κ->List D} {enc:β->List D} {isz:Nat} (k:Nat) (m:List (κ×List β)) {ka:Bool} {dv:AV} (h:obA s.objs k=some (.nmp ka dv (DY encK isz enc m)):=by kernel_rfl):As nk s ⟨s.env,s.objs.set k (some (.nmp ka (.d (.sl [])) (Ea encK enc m)))⟩:=by
 refine As.sem λ _ _ _ _ _ _ _ _ hI=>?_;obtain⟨F,ρ,hS,hSl,hn,hdf⟩:=hI;obtain⟨F',h1,h2⟩:=Jdb hS h λ p hp=>by
  simp only[DY,Jin]at hp;obtain⟨q,_,rfl⟩:=hp;rfl
 have e:((DY encK isz enc m).map λ p=>(p.1,AV.d (ofN p.2)))=Ea encK enc m:=by
  unfold DY Ea;rw[List.map_map];rfl
 rw[e]at h2;exact⟨F',ρ,h2,hSl.mono h1 (RLe.refl _),hn,hdf.1.mono h1,hdf.2⟩
end
end Go.AI
end
section
namespace Go.AI
variable {P:Program} {Γ:Cx} {C:Code} {p:List Nat} {Q:Ex->St->Prop} {s s':St} {i nk:Nat} {α κ:Type}
def xKV (objs:List (Option Ob)) (agg:Bool):AV->Option (List D×List Nat×List (Nat×Nat))
 | .agg l=>bif agg then xDs objs l else none
 | v=>bif agg then none else xDs objs [v]
theorem Ug {objs:List (Option Ob)} {agg:Bool} {v:AV} {x:List D} (h:xKV objs agg v=some (x,[],[])):∃ ob,kvA objs agg v=some ⟨x,[],ob⟩/\ob:=by
 cases agg with
 | true=>
  cases v with
  | agg l=>exact GI (l:=l) h leZ
  | _=>simp only[xKV,cond_true]at h;cases h
 | false=>
  cases v with
  | agg l=>simp only[xKV,cond_false]at h;cases h
  | _=>simp only[xKV,cond_false]at h;simp only[kvA,cond_false];exact GI h leZ
theorem Ym [DecidableEq κ] {encK:κ->List D} {enc:α->List D} {ks:List TK} {ka va:Bool} {k:Nat} {m:List (κ×α)} {key:κ} {a:AV} {z:α} {vz:List D} (heq:∀ a b,Au ks ((encK a).map .d) ((encK b).map .d)=some (decide (a=b))) (ok:Bool) (hz:vz=enc z:=by kernel_rfl) (hk:obA s.objs k=some (.map ka va (AA encK enc m)):=by kernel_rfl) (hx:xKV s.objs ka a=some (encK key,[],[]):=by kernel_rfl) :
  Dq s (Fd (.map ks ka va vz) s.objs (.mp k) a ok) (bif ok then .tup [kvV va (enc ((BJ key m).getD z)),.d (.bool (BJ key m).isSome)]else kvV va (enc ((BJ key m).getD z))) [] [] none:=by
 obtain⟨ob,e2,q⟩:=Ug hx;have hv:((GA ks (encK key) (AA encK enc m)).getD vz)=enc ((BJ key m).getD z):=by
  rw[U3 heq,hz];cases BJ key m<;>rfl
 have hs:(GA ks (encK key) (AA encK enc m)).isSome=(BJ key m).isSome:=by rw[U3 heq];cases BJ key m<;>rfl
 refine .of (ob:=ob/\EC ks (encK key) (AA encK enc m)) ?_ ⟨q,Q0 heq key m⟩;simp only[Fd,hk,cond_true,e2,List.isEmpty_nil,beq_self_eq_true,Bool.and_self,A4,hv,hs]
theorem Wo [DecidableEq κ] {encK:κ->List D} {enc:α->List D} {ks:List TK} {ka va:Bool} {k:Nat} {m:List (κ×α)} {key:κ} {a:AV} {z y:α} {vz:List D} (heq:∀ a b,Au ks ((encK a).map .d) ((encK b).map .d)=some (decide (a=b))) (h:some ((BJ key m).getD z)=some y) (hz:vz=enc z:=by kernel_rfl) (hk:obA s.objs k=some (.map ka va (AA encK enc m)):=by kernel_rfl) (hx:xKV s.objs ka a=some (encK key,[],[]):=by kernel_rfl) :
  Dq s (Fd (.map ks ka va vz) s.objs (.mp k) a false) (kvV va (enc y)) [] [] none:=by
 have:=Ym (va:=va) (z:=z) heq false hz hk hx;rw[Option.some.inj h]at this;exact this
theorem Jbo [DecidableEq κ] {encK:κ->List D} {enc:α->List D} {ks:List TK} {ka va:Bool} {k:Nat} {m:List (κ×α)} {key:κ} {a v:AV} {y:α} {vz:List D} (heq:∀ a b,Au ks ((encK a).map .d) ((encK b).map .d)=some (decide (a=b))) (hz:Nat.beq (enc y).length vz.length=true:=by kernel_rfl) (hk:obA s.objs k=some (.map ka va (AA encK enc m)):=by kernel_rfl) (hx:xKV s.objs ka a=some (encK key,[],[]):=by kernel_rfl) (hv:xKV s.objs va v=some (enc y,[],[]):=by kernel_rfl) :
  Dq s (F8 (.map ks ka va vz) s.objs (.mp k) a v) .top [] [] (some (k,.map ka va (AA encK enc (DV key y m)))):=by
 obtain⟨ob,e2,q⟩:=Ug hx;obtain⟨ob',e3,q'⟩:=Ug hv;refine .of (ob:=ob/\ob'/\EC ks (encK key) (AA encK enc m)/\k ∉ ([]:List Nat)/\(enc y).length=vz.length) ?_ ⟨q,q',Q0 heq key m,by simp,JiB hz⟩;simp only[F8,hk,e2,e3,JbY heq,List.isEmpty_nil,beq_self_eq_true,Bool.and_self,cond_true]
theorem Yn (k off m esz:Nat) {xs:List α} {n:Int} {x:α} (h:idx xs n=some x) (hm:xs.length=m:=by kernel_rfl):Dq s (A4 (.ptr k (off+n.toNat*esz)) (0<=n/\n<(m:Nat))) (.ptr k (off+n.toNat*esz)) [] [] none:=by
 obtain⟨h1,h2,_⟩:=Cp h;exact .of rfl ⟨h1,by rw[← hm];exact h2⟩
theorem Jbp {sz:Nat} {enc:α->List D} (he:∀ x,(enc x).length=sz):∀ (xs:List α) (i:Nat) (x:α),xs[i]?=some x->((xs.flatMap enc).drop (i*sz)).take sz=enc x:=by
 intro xs;induction xs with
 | nil=>intro i x h;simp at h
 | cons y ys ih=>
  intro i x h;cases i with
  | zero=>
   simp only[Jis,JiE]at h;subst h;rw[Nat.zero_mul,List.drop_zero,List.flatMap_cons,List.take_left' (he y)]
  | succ i=>
   simp only[List.getElem?_cons_succ]at h;rw[List.flatMap_cons,JiH,Nat.one_mul,Nat.add_comm,← List.drop_drop,List.drop_left' (he y)];exact ih i x h
theorem Jbq {enc:α->List D} (k off m esz:Nat) (t:Ty) {xs:List α} {n:Int} {x:α} (he:∀ x,(enc x).length=esz) (h:idx xs n=some x) (hk:obA s.objs k=some (.box (CA s k)):=by kernel_rfl) (hc:((CA s k).drop off).take (m*esz)=(xs.flatMap enc).map .d:=by kernel_rfl) (hm:xs.length=m:=by kernel_rfl) (ht:(t.agg&&Nat.beq t.size esz&&Nat.ble (off+m*esz) (CA s k).length)=true:=by kernel_rfl) :
  Dq s (Ct t s.objs (.ptr k (off+n.toNat*esz))) (.agg ((enc x).map .d)) [] [] none:=by
 generalize CA s k=cells at hk hc ht;obtain⟨h1,h3,h2⟩:=Cp h;simp only[Jiv]at ht;have hs:=JiB ht.1.2;have hle:=JiJ ht.2;have hi:=(List.getElem?_eq_some_iff.1 h2).1;have hin:(n.toNat+1)*esz<=m*esz:=Jie _ (by omega);rw[JiH,Nat.one_mul]at hin
 have hg:(cells.drop (off+n.toNat*esz)).take esz=(enc x).map .d:=by
  have e1:(((cells.drop off).take (m*esz)).drop (n.toNat*esz)).take esz=(cells.drop (off+n.toNat*esz)).take esz:=by
   rw[List.drop_take,List.take_take,List.drop_drop,Nat.min_eq_left (by omega)]
  rw[← e1,hc,← List.map_drop,← List.map_take,Jbp he xs _ x h2]
 have hob:off+n.toNat*esz+t.size<=cells.length:=by rw[hs];omega
 have:Ct t s.objs (.ptr k (off+n.toNat*esz))=A4 (.agg ((enc x).map .d)) (off+n.toNat*esz+t.size<=cells.length):=by
  simp only[Ct,hk,Cg,ht.1.1,cond_true,hs,hg]
 rw[this];exact .of rfl hob
def Jde (cells:List AV) (off m esz:Nat) (enc:α->List D) (d:α) (zs:List α):List AV:=cells.take off++((((List.range m).map λ j=>zs.getD j d).flatMap enc).map .d++cells.drop (off+m*esz))
theorem Yo (d:α) (zs:List α):((List.range zs.length).map λ j=>zs.getD j d)=zs:=by
 refine List.ext_getElem? λ i=>?_;rw[Jiy];by_cases h:i<zs.length
 ·rw[List.getElem?_range h,Option.map_some,Jiu h,List.getD_eq_getElem?_getD,Jiu h];rfl
 ·rw[JiP (by simpa using h),JiP (by omega)];rfl
theorem Wp (vs cells:List AV) (o:Nat) (h:o+vs.length<=cells.length):splice cells o vs=cells.take o++(vs++cells.drop (o+vs.length)):=by
 refine List.ext_getElem? λ i=>?_;rw[K0 vs o cells i h,List.getElem?_append,List.length_take,Nat.min_eq_left (by omega)];by_cases h1:i<o
 ·rw[if_neg (by omega),if_pos h1,JiO h1]
 ·rw[if_neg h1,List.getElem?_append];by_cases h2:i<o+vs.length
  ·rw[if_pos ⟨by omega,h2⟩,if_pos (by omega)]
  ·rw[if_neg (by omega),if_neg (by omega),Jio];congr 1;omega
theorem Yp {sz:Nat} {enc:α->List D} (he:∀ x,(enc x).length=sz) (y:α):∀ (xs:List α) (i:Nat),i<xs.length->(xs.set i y).flatMap enc=(xs.flatMap enc).take (i*sz)++(enc y++(xs.flatMap enc).drop (i*sz+sz)):=by
 intro xs;induction xs with
 | nil=>intro i h;simp at h
 | cons x xs ih=>
  intro i h;cases i with
  | zero=>rw[List.set_cons_zero,List.flatMap_cons,List.flatMap_cons,Nat.zero_mul,List.take_zero,List.nil_append,JiI,List.drop_left' (he x)]
  | succ i=>
   rw[List.set_cons_succ,List.flatMap_cons,List.flatMap_cons,ih i (by simpa using h),JiH,Nat.one_mul];have e1:∀ n,(enc x++xs.flatMap enc).take (n+sz)=enc x++(xs.flatMap enc).take n:=λ n=>by rw[← he x,Nat.add_comm,List.take_length_add_append]
   have e2:∀ n,(enc x++xs.flatMap enc).drop (n+sz)=(xs.flatMap enc).drop n:=λ n=>by rw[← he x,Nat.add_comm,List.drop_length_add_append]
   rw[e1,show i*sz+sz+sz=(i*sz+sz)+sz from rfl,e2,List.append_assoc]
theorem Jbr {enc:α->List D} (k off m esz:Nat) (t:Ty) (d:α) {xs zs:List α} {n:Int} {y:α} {v:AV} (he:∀ x,(enc x).length=esz) (h:put xs n y=some zs) (hk:obA s.objs k=some (.box (CA s k)):=by kernel_rfl) (hc:((CA s k).drop off).take (m*esz)=(xs.flatMap enc).map .d:=by kernel_rfl) (hm:xs.length=m:=by kernel_rfl) (hv:Ao v=(enc y).map .d:=by kernel_rfl) (hv2:(Bn v&&(Ao v).all Cs)=true:=by kernel_rfl) (ht:(Nat.beq t.size esz&&Nat.ble (off+m*esz) (CA s k).length)=true:=by kernel_rfl) :
  Dq s (Ef t s.objs (.ptr k (off+n.toNat*esz)) v) .top [] [] (some (k,.box (Jde (CA s k) off m esz enc d zs))):=by
 generalize CA s k=cells at hk hc ht;simp only[Jiv]at ht;have hs:=JiB ht.1;have hle:=JiJ ht.2;obtain⟨h1,h2,h3⟩:0<=n/\n<xs.length/\zs=xs.set n.toNat y:=by
  unfold put at h;split at h
  ·rename_i hc;cases h;exact⟨hc.1,hc.2,rfl⟩
  ·cases h
 have hi:n.toNat<xs.length:=by omega
 have hin:(n.toNat+1)*esz<=m*esz:=Jie _ (by omega);rw[JiH,Nat.one_mul]at hin
 have hvl:(Ao v).length=esz:=by rw[hv,Jiq,he]
 have hzl:zs.length=m:=by rw[h3,JiL,hm]
 have hX:(cells.drop off).take (m*esz)=(xs.flatMap enc).map .d:=hc;have key:splice cells (off+n.toNat*esz) (Ao v)=Jde cells off m esz enc d zs:=by
  rw[Wp _ _ _ (by rw[hvl];omega),hvl];unfold Jde;have hz:((List.range m).map λ j=>zs.getD j d)=zs:=by rw[← hzl];exact Yo d zs
  rw[hz,h3,Yp he y xs _ hi,List.map_append,List.map_append,List.map_take,List.map_drop,← hX,← hv];rw[List.take_take,Nat.min_eq_left (by omega),List.take_add,List.append_assoc,List.append_assoc];congr 2;rw[List.append_assoc];congr 1;rw[List.drop_take,List.drop_drop];have:cells.drop (off+m*esz)=(cells.drop (off+(n.toNat*esz+esz))).drop (m*esz-(n.toNat*esz+esz)):=by rw[List.drop_drop];congr 1;omega
  rw[this,List.take_append_drop];congr 1;omega
 refine .of (ob:=(Ao v).length=t.size/\off+n.toNat*esz+t.size<=cells.length) ?_ ⟨by rw[hvl,hs],by rw[hs];omega⟩;simp only[Ef,hk,hv2,cond_true,key]
theorem Jdf (k off esz n:Nat) {h:Int} {y:Unit} (hg:inB (n+1) h=some y):Dq s (A4 (.bsl k off esz h.toNat) (0<=h/\h<=(n:Nat))) (.bsl k off esz h.toNat) [] [] none:=by
 obtain⟨h1,h2⟩:=Jc4 hg;exact .of rfl ⟨h1,by omega⟩
theorem Jbs (k off esz:Nat) {n:Nat} {xs:List α} {i:Int} {x:α} (h:idx (xs.take n) i=some x):Dq s (A4 (.ptr k (off+i.toNat*esz)) (0<=i/\i<(n:Nat)/\esz=esz)) (.ptr k (off+i.toNat*esz)) [] [] none:=by
 obtain⟨h1,h2,_⟩:=Cp h;simp only[List.length_take]at h2;exact .of rfl ⟨h1,by omega,rfl⟩
theorem Yq {n:Nat} {xs:List α} {i:Int} {x:α} (h:idx (xs.take n) i=some x):idx xs i=some x:=by
 obtain⟨h1,h2,h3⟩:=Cp h;simp only[List.length_take]at h2;rw[JiO (by omega)]at h3;have h4:=List.getElem?_eq_some_iff.1 h3;unfold idx;rw[h3];simp;omega
def oD (e:α->List D):Option (List α)->D
 | none=>.nil
 | some xs=>.sl (xs.map e)
def eOp (e:α->List D) (x:Option (List α)):List D:=[oD e x]
theorem Jbt {F:Nat->Option Obj} {t elem:TypeId} (hd:P.underlying t=some (.slice elem)) {e:α->List D} {r:Option (List α)} {v:Value} (h:A8 F (oD e r) v):∃ b,nlO r b/\∀ w,(Op.equal t v (.slice none 0 0)).run P w=.ok b w:=by
 have e0:∀ (q:Nat) p m c (w:World),(Op.equalIn (q+1) t (.slice p m c) (.slice none 0 0)).run P w=.ok p.isNone w:=λ q p m c w=>by
  cases p<;>simp[Op.equalIn,run_underlying hd]
 have e1:∀ p m c (w:World),(Op.equal t (.slice p m c) (.slice none 0 0)).run P w=.ok p.isNone w:=λ p m c w=>e0 9999 p m c w;cases r with
 | none=>
  cases h;exact⟨true,rfl,λ w=>e1 none 0 0 w⟩
 | some xs=>
  have h':A8 F (.sl (xs.map e)) v:=h;generalize hl:xs.map e=l at h';cases h' with
  | sl0 ad cap=>exact⟨_,λ hne=>absurd (List.map_eq_nil_iff.1 hl) hne,λ w=>e1 ad 0 cap w⟩
  | sl _ b off cap=>exact⟨_,λ _=>rfl,λ w=>e1 (some ⟨b,off,none⟩) l.length cap w⟩
theorem Yr {o:Oper} {st:St} {nt:Slt} {T:Nat->Ty} (hΓ:H6 P T) {t yt:TypeId} {x y:Operand} {e:α->List D} {r:Option (List α)} {esz eb:Nat} {ez:List D} (hop:o.op=.binOp .neq t x y yt) (hok:(T t).ok=true) (hkind:(T t).kind=.slice esz eb ez) (hx:Aj st.env x=.d (oD e r)) (hy:Aj st.env y=.d .nil) :
  K3 P nt o st (λ s'=>∃ b,nlO r b/\s'=⟨putA o.dst false true (.d (.bool (!b))) st.env,st.objs⟩):=by
 intro N H0 F0 w0 a w hI hdst rd n K Qw _ hK;obtain⟨F,ρ,hS,hSl,hn,hdf⟩:=hI;obtain⟨d,hd,_,hkd⟩:=(hΓ t hok).desc;rw[hkind]at hkd;obtain⟨elem,i,z,rfl,_⟩:=hkd;have hxr:=AZ hSl x;rw[hx]at hxr;have hyr:=AZ hSl y;rw[hy]at hyr;have hyn:=hyr.nil;generalize hxv:a.eval x=xv at hxr;cases hxr with
 | d _ _ hxd=>
  obtain⟨b,hb,he⟩:=Jbt hd hxd;have hs:∃ p m c,xv=.slice p m c:=by
   cases r with
   | none=>cases hxd;exact⟨_,_,_,rfl⟩
   | some xs=>
    have h':A8 F (.sl (xs.map e)) xv:=hxd;generalize xs.map e=l at h';cases h'<;>exact⟨_,_,_,rfl⟩
  obtain⟨p,m,c,rfl⟩:=hs;have hrun:(execOp a.eval o).run P w=.ok (.value (.bool (!b))) w:=by
   simp only[execOp,hop,hxv,hyn,eqGuard,binOp,he,Jic,Jia,Jid];simp
  refine CS (by rw[hop];intro c e;cases e) ?_;unfold Oper.wp;rw[hrun,Oper.upon_value];exact hK _ _ _ ⟨b,hb,rfl⟩ ⟨F,ρ,hS,hSl.putA hn hdst (.mkBool _),hn.put hdst,by rw[put_defers];exact hdf⟩
def Jf6 (Γ:Cx) (c:Code) (i:Nat) (s:St):Bool:=match (A5 c)[i]? with
 | some o=>Wk Γ c o&&(match o.op with
  | .binOp .neq t _ y _=>(Γ.ty t).ok&&(match (Γ.ty t).kind,Aj s.env y with
   | .slice _ _ _,.d .nil=>true
   | _,_=>false)
  | _=>false)
 | none=>false
def nlW (c:Code) (i:Nat) (s:St):AV:=match (A5 c)[i]? with
 | some o=>(match o.op with
  | .binOp _ _ x _ _=>Aj s.env x
  | _=>.top)
 | none=>.top
theorem nlo (hY:YOK P Γ) (hX:XOK P Γ) {r:Option (List α)} {enc:α->List D} (hk:∀ b,nlO r b->RF Γ C p (i+1) Q ⟨putA (itD (nav p C) i) false true (.d (.bool (!b))) s.env,s.objs⟩) (hb:Jf6 Γ (nav p C) i s=true:=by kernel_rfl) (hv:nlW (nav p C) i s=.d (oD enc r):=by kernel_rfl):ND Γ (nav p C) i Q s:=by
 unfold Jf6 at hb;unfold itD at hk;unfold nlW at hv;split at hb
 ·rename_i o ho;rw[ho]at hk hv;simp only[Jiv]at hb;obtain⟨hb1,hb2⟩:=hb;split at hb2
  ·rename_i t x y yt hop;simp only[Jiv]at hb2;obtain⟨hb2,hb3⟩:=hb2;split at hb3
   ·rename_i hkd hy;simp only[hop]at hv;refine OI hY ho hb1 (Yr hX.ty hop hb2 hkd hv hy) λ s' hs=>?_;obtain⟨b,hb,rfl⟩:=hs;exact hk b hb
   ·cases hb3
  ·cases hb2
 ·cases hb
theorem Jf7 (t:Nat) {enc:α->List D} {r:Option (List α)} (h:lkA s.env t=.d (oD enc r):=by kernel_rfl):As nk s ⟨(t,.d (.sl ((r.getD []).map enc)))::s.env,s.objs⟩:=by
 cases r with
 | none=>exact .nilD t h
 | some xs=>
  have:AV.d (.sl (((some xs).getD []).map enc))=lkA s.env t:=by rw[h];rfl
  rw[this];exact .dup t
def cPG (e:α->List D):List (List α×Int)->List (List D)
 | []=>[]
 | p::r=>[[.sl (p.1.map e),.po (cPG e r),.int .u8 p.2]]
def dPG (e:α->List D) (x:List (List α×Int)):D:=.po (cPG e x)
def ePG (e:α->List D) (x:List (List α×Int)):List D:=[dPG e x]
theorem Jb4 (t:Nat) {e:α->List D} {x r:List (List α×Int)} {p:List α×Int} (hp:x=p::r) (h:lkA s.env t=.d (dPG e x):=by kernel_rfl):As nk s ⟨(t,.dptr [.sl (p.1.map e),dPG e r,.int .u8 p.2] 0)::s.env,s.objs⟩:=by
 subst hp;exact Jf2 t h
theorem Wq {o:Oper} {st:St} {nt:Slt} {t yt tt:TypeId} {b:BinOp} {x y:Operand} {e:α->List D} {r:List (List α×Int)} (hop:o.op=.binOp b t x y yt) (hb:b=.neq\/b=.eql) (hu:P.underlying t=some (.pointer tt)) (hx:Aj st.env x=.d (dPG e r)) (hy:Aj st.env y=.d .nilp) :
  Sk P nt o true st ⟨putA o.dst false true (.d (.bool (bif decide (b=.eql)then r.isEmpty else !r.isEmpty))) st.env,st.objs⟩:=by
 intro N H0 F0 w0 a w _ hI hdst K Qw hK;obtain⟨F,ρ,hS,hSl,hn,hdf⟩:=hI;have hxr:=AZ hSl x;rw[hx]at hxr;have hyr:=AZ hSl y;rw[hy]at hyr;generalize hxv:a.eval x=xv at hxr;generalize hyv:a.eval y=yv at hyr;have hyn:yv=.pointer none:=by
  cases hyr with
  | d _ _ h=>cases h;rfl
 subst hyn;have hp:∃ ad:Option Addr,xv=.pointer ad/\ad.isNone=r.isEmpty:=by
  cases r with
  | nil=>
   cases hxr with
   | d _ _ h=>
    have h:A8 F (.po []) xv:=h;cases h;exact⟨none,rfl,rfl⟩
  | cons p r=>
   cases hxr with
   | d _ _ h=>
    have h:A8 F (.po ([.sl (p.1.map e),.po (cPG e r),.int .u8 p.2]::[])) xv:=h;cases h;exact⟨_,rfl,rfl⟩
 obtain⟨ad,rfl,had⟩:=hp;have e0:∀ (q:Nat) (w:World),(Op.equalIn (q+1) t (.pointer ad) (.pointer none)).run P w=.ok ad.isNone w:=λ q w=>by
  cases ad<;>simp[Op.equalIn,run_underlying hu]
 have e1:∀ (w:World),(Op.equal t (.pointer ad) (.pointer none)).run P w=.ok ad.isNone w:=λ w=>e0 9999 w;have hrun:(execOp a.eval o).run P w=.ok (.value (.bool (bif decide (b=.eql)then r.isEmpty else !r.isEmpty))) w:=by
  rcases hb with rfl|rfl
  ·simp only[execOp,hop,hxv,hyv,eqGuard,binOp,e1,Jic,Jia,Jid,had];simp
  ·simp only[execOp,hop,hxv,hyv,eqGuard,binOp,e1,Jic,Jia,Jid,had];simp
 unfold Oper.wp;rw[hrun,Oper.upon_value];exact hK _ _ ⟨F,ρ,hS,hSl.putA hn hdst (.mkBool _),hn.put hdst,by rw[put_defers];exact hdf⟩
def Jbu:D->D
 | .nilp=>.po []
 | x=>x
theorem Ys {F:Nat->Option Obj} {x:D} {v:Value} (h:A8 F x v):A8 F (Jbu x) v:=by
 cases x with
 | nilp=>cases h;exact .po0
 | _=>exact h
theorem Yt {o:Oper} {st:St} {nt:Slt} {t:TypeId} {x:Operand} {ds:List D} (hop:o.op=.box t x) (hx:Aj st.env x=.agg (ds.map .d)) :
  Sk P nt o true st ⟨putA o.dst false true (.d (.po [ds.map Jbu])) st.env,st.objs⟩:=by
 intro N H0 F0 w0 a w _ hI hdst K Qw hK;obtain⟨F,ρ,hS,hSl,hn,hdf⟩:=hI;have hxr:=AZ hSl x;rw[hx]at hxr;generalize hxv:a.eval x=xv at hxr;cases hxr with
 | agg _ vs hl hr=>
  have hS':=hS.pushF (.cells vs t);have hle:FLe F (λ b=>if b=w.heap.size then some (.cells vs t)else F b):=λ b o hb=>by
   have:=Ar (hS.frz b o hb);simp only[if_neg (show ¬b=w.heap.size by omega)];exact hb
  have hrun:(execOp a.eval o).run P w=.ok (.value (.pointer (some ⟨w.heap.size,0,none⟩))) { w with heap:=w.heap.push (.cells vs t) }:=by
   simp only[execOp,hop,hxv];exact DQ (by simp[Instr.box,newVar,newRow,Value.cells])
  unfold Oper.wp;rw[hrun,Oper.upon_value];refine hK _ _ ⟨_,ρ,hS',(hSl.mono hle (RLe.refl _)).putA hn hdst (.d _ _ (.po (ds.map Jbu) [] w.heap.size 0 vs t (0,0) (λ j=>vs.getD j undef) (by simp) (λ j x hj=>?_) λ j x hj=>?_)),hn.put hdst,by rw[put_defers];exact⟨hdf.1.mono hle,hdf.2.1.trans (Mu.push rfl rfl rfl),hdf.2.2⟩⟩
  ·have hlt:j<vs.size:=by have:=Ae hj;rw[Jiq]at hl this;omega
   simp[Array.getD,hlt]
  ·have hlt:j<vs.size:=by have:=Ae hj;rw[Jiq]at hl this;omega
   rw[Jiy,Jix]at hj;obtain⟨x,hj,rfl⟩:=hj;have h1:=hr j (.d x) vs[j] (by rw[Jiy,hj];rfl) (Jiz hlt);cases h1 with
   | d _ _ h2=>
    have:vs.getD j undef=vs[j]:=by simp[Array.getD,hlt]
    rw[this];exact Ys (h2.mono hle)
theorem Uh {T:Nat->Ty} (hΓ:H6 P T) {o:Oper} {st:St} {nt:Slt} {d:Operand} {t:TypeId} {k:Nat} {ks:List TK} {ka va ka':Bool} {vz:List D} {dv:AV} {en:List (List D×AV)} (hop:o.op=.call ⟨.builtin .clear,#[d],#[t]⟩) (hok:(T t).ok=true) (hkind:(T t).kind=.map ks ka va vz)
  (hd:Aj st.env d=.mp k) (ho:obA st.objs k=some (.nmp ka' dv en)) :
  Sk P nt o true st ⟨putA o.dst false true (.tup []) st.env,st.objs.set k (some (.nmp ka' (.d (.sl [])) []))⟩:=by
 intro N H0 F0 w0 a w _ hI hdst K Qw hK;obtain⟨F,ρ,hS,hSl,hn,hdf⟩:=hI;obtain⟨desc,hde,_,hk⟩:=(hΓ t hok).desc;rw[hkind]at hk;obtain⟨kt,et,i,z,rfl,_⟩:=hk;have hdr:=AZ hSl d;rw[hd]at hdr;generalize hxd:a.eval d=xd at hdr;cases hdr with
 | mp _ L hL=>
  obtain⟨⟨g0,gd,es,clock,g1,gb,g2,g3⟩,_⟩:=hS.obj k L _ hL ho;obtain⟨σ,hσ⟩:=hS.inn;have hLb:=hS.loc k L hL;have hexec:(execOp a.eval o).run P w=.ok (.value (.tuple #[])) { w with heap:=w.heap.setIfInBounds L.b (.map #[] clock) }:=by
   have hget:(getObj L.b).run P w=.ok (.map es clock) w:=by simp[getObj,Sem.run,g1]
   have hset:∀ o,(setObj L.b o).run P w=.ok () { w with heap:=w.heap.setIfInBounds L.b o }:=λ o=>by simp[setObj,Sem.run,g1]
   simp only[execOp,hop,resolve,invoke,builtin,Jic,Jid,Jia,List.map_toArray,Jir,List.map_nil,hxd,Builtin.clear_,List.getElem?_toArray,Jis,run_underlying hde,hget,hset]
  have hat:∀ ob',obA (st.objs.set k (some (.nmp ka' (.d (.sl [])) []))) k=some ob'->ob'=.nmp ka' (.d (.sl [])) []:=λ ob' h=>by
   rw[AJ ho]at h;cases h;rfl
  have hO:∀ j ob',j≠k->obA (st.objs.set k (some (.nmp ka' (.d (.sl [])) []))) j=some ob'->obA st.objs j=some ob'/\j≠k:=λ j ob' hj h=>by
   rw[AB hj]at h;exact⟨h,hj⟩
  have:=hS.rewrite' (k':=k) (L':=L) (x:=.map #[] clock) (O':=st.objs.set k (some (.nmp ka' (.d (.sl [])) []))) hL ho (by rw[BH hL];exact RLe.refl _) rfl hO (by simp) (by simpa using A2 ho) (λ ob' h=>by
    rw[hat ob' h,BH hL];exact⟨g0,.d _ _ (.sl0 _ _),#[],clock,by rw[B8,if_pos ⟨rfl,hLb⟩],⟨λ x hx=>by simp at hx,by simp⟩,rfl,λ i p q hp=>by simp at hp⟩) ⟨σ,hσ.rewrite hS hL ho rfl hO λ ob0 sz es h hr i e j isz xs hi=>by
    rw[hat ob0 h]at hr;cases hr;simp at hi⟩
  rw[BH hL]at this;unfold Oper.wp;rw[hexec,Oper.upon_value];exact hK _ _ ⟨F,ρ,this,hSl.putA hn hdst (.tup [] #[] rfl λ i a v h=>by simp at h),hn.put hdst,by rw[put_defers];exact⟨hdf.1,hdf.2.1.trans JhY,hdf.2.2⟩⟩
def Jbv (Γ:Cx) (c:Code) (i k:Nat) (s:St):Option St:=
 match (A5 c)[i]?,JfZ c i with
 | some o,some (d,t)=>bif Ye Γ c o&&(Γ.ty t).ok then(match (Γ.ty t).kind,Aj s.env d,obA s.objs k with
  | .map _ _ _ _,.mp k',some (.nmp ka _ _)=>bif Nat.beq k' k then some ⟨putA o.dst false true (.tup []) s.env,s.objs.set k (some (.nmp ka (.d (.sl [])) []))⟩else none
  | _,_,_=>none)else none
 | _,_=>none
theorem xzm (hX:XOK P Γ) (k:Nat) (hk:RF Γ C p (i+1) Q ((Jbv Γ (nav p C) i k s).getD s)) (hn:(Jbv Γ (nav p C) i k s).isSome=true:=by kernel_rfl):RF Γ C p i Q s:=by
 have hn:=BM (d:=s) hn;generalize (Jbv Γ (nav p C) i k s).getD s=s' at hn hk;unfold Jbv at hn;split at hn
 ·rename_i o d t hoo hcl;obtain⟨h0,hn⟩:=AK hn;simp only[Jiv]at h0;obtain⟨h1,h2⟩:=h0;split at hn
  ·rename_i hkd hd ho;obtain⟨h3,hn⟩:=AK hn;have:=JiB h3;subst this;cases hn;unfold JfZ at hcl;rw[hoo]at hcl;simp only at hcl;split at hcl
   ·rename_i args ts hop;split at hcl
    ·rename_i d' t1 ha ht;cases hcl;have ha:args=#[d]:=by rw[← Array.toArray_toList (xs:=args),ha]
     have ht:ts=#[t]:=by rw[← Array.toArray_toList (xs:=ts),ht]
     subst ha;subst ht;exact OG hX hoo h1 (Uh hX.ty hop h2 hkd hd ho) hk
    ·cases hcl
   ·cases hcl
  ·cases hn
 ·cases hn
def Jbw (Γ:Cx) (c:Code) (i:Nat) (s:St):Option St:=
 match (A5 c)[i]? with
 | some o=>bif Ye Γ c o then(match o.op with
  | .box _ x=>(match Aj s.env x with
   | .agg l=>bif Jbk l then some ⟨putA o.dst false true (.d (.po [(SQ l).map Jbu])) s.env,s.objs⟩else none
   | _=>none)
  | _=>none)else none
 | none=>none
theorem xbd (hX:XOK P Γ) (hk:RF Γ C p (i+1) Q ((Jbw Γ (nav p C) i s).getD s)) (hn:(Jbw Γ (nav p C) i s).isSome=true:=by kernel_rfl):RF Γ C p i Q s:=by
 have hn:=BM (d:=s) hn;generalize (Jbw Γ (nav p C) i s).getD s=s' at hn hk;unfold Jbw at hn;split at hn
 ·rename_i o hoo;obtain⟨h1,hn⟩:=AK hn;split at hn
  ·rename_i t x hop;split at hn
   ·rename_i l hx;obtain⟨h2,hn⟩:=AK hn;cases hn;exact OG hX hoo h1 (Yt (ds:=SQ l) hop (by rw[← Q6 h2];exact hx)) hk
   ·cases hn
  ·cases hn
 ·cases hn
def Jbx (Γ:Cx) (c:Code) (i t:Nat) (b:Bool) (s:St):Option St:=
 match (A5 c)[i]? with
 | some o=>bif Ye Γ c o then(match o.op with
  | .binOp .neq t' _ y _=>(match Aj s.env y with
   | .d .nilp=>bif Nat.beq t' t then some ⟨putA o.dst false true (.d (.bool b)) s.env,s.objs⟩else none
   | _=>none)
  | _=>none)else none
 | none=>none
theorem xpn (hX:XOK P Γ) (e:α->List D) {r:List (List α×Int)} {t tt:TypeId} (hu:P.underlying t=some (.pointer tt)) (hk:RF Γ C p (i+1) Q ((Jbx Γ (nav p C) i t (!r.isEmpty) s).getD s)) (hx:nlW (nav p C) i s=.d (dPG e r):=by kernel_rfl) (hn:(Jbx Γ (nav p C) i t (!r.isEmpty) s).isSome=true:=by kernel_rfl):RF Γ C p i Q s:=by
 have hn:=BM (d:=s) hn;generalize (Jbx Γ (nav p C) i t (!r.isEmpty) s).getD s=s' at hn hk;unfold Jbx at hn;unfold nlW at hx;split at hn
 ·rename_i o hoo;rw[hoo]at hx;obtain⟨h1,hn⟩:=AK hn;split at hn
  ·rename_i t' x y yt hop;simp only[hop]at hx;split at hn
   ·rename_i hy;obtain⟨h2,hn⟩:=AK hn;cases hn;have:=JiB h2;subst this;exact OG hX hoo h1 (Wq hop (.inl rfl) hu hx hy) hk
   ·cases hn
  ·cases hn
 ·cases hn
end Go.AI
end
section
namespace Go.AI
variable {P:Program} {α β:Type} {nk:Nat} {s:St} {encN:α->List AV}
theorem Jdg (k:Nat) {x:α} {n:Int} {zs:List α} {e:α->List D} (hm:List.replicate n.toNat x=zs) (h:LL s k=some (1,List.replicate n.toNat [.nil])) (hx:e x=[.sl []]):As nk s ⟨s.env,s.objs.set k (some (.arr 1 (zs.map e)))⟩:=by
 have ho:=Jq h;subst hm;refine As.sem λ N H0 F0 w0 nt a w _ hI=>?_;obtain⟨F,ρ,hS,hSl,hn,hdf⟩:=hI;refine⟨F,ρ,hS.retable (by simp) (λ q L ob hq hob=>?_) ?_,hSl,hn,hdf⟩
 ·by_cases e1:q=k
  ·subst e1;rw[AJ ho]at hob;cases hob;refine⟨_,ho,.inr ?_⟩;obtain⟨p1,p2,cs,t,fr,p3,p4,p5,p6⟩:=(hS.obj q L _ hq ho).1;refine⟨λ e' he=>?_,by simpa using p2,cs,t,fr,p3,p4,p5,λ i e' hi j y hy=>?_⟩
   ·rw[List.map_replicate]at he;rw[(List.mem_replicate.1 he).2,hx];rfl
   ·rw[List.map_replicate,List.getElem?_replicate]at hi;split at hi
    ·rename_i hl;cases hi;rw[hx]at hy;cases j with
     | zero=>
      cases hy;obtain⟨v,hv,hd⟩:=p6 i [.nil] (by rw[List.getElem?_replicate,if_pos hl]) 0 .nil rfl;cases hd;exact⟨_,hv,.sl0 _ _⟩
     | succ j=>simp at hy
    ·cases hi
  ·rw[AB e1]at hob;exact⟨ob,hob,.inl rfl⟩
 ·obtain⟨σ,hσ⟩:=hS.inn;refine⟨σ,hσ.new,λ k' c M j L ob hM hj hob=>?_,hσ.sep,λ j L ob0 sz' es' hj hob hr0=>?_⟩
  ·by_cases e:j=k
   ·subst e;exact hσ.obj k' c M j L _ hM hj ho
   ·rw[AB e]at hob;exact hσ.obj k' c M j L ob hM hj hob
  ·by_cases e:j=k
   ·subst e;rw[AJ ho]at hob;cases hob;cases hr0
   ·rw[AB e]at hob;exact hσ.rep j L ob0 sz' es' hj hob hr0
theorem Vc {xss:List α} {x:α} {m n:Int} {row:List AV} (hx:idx xss n=some x) (hne:m.toNat≠n.toNat):((xss.map encN).set m.toNat row).set n.toNat (encN x)=(xss.map encN).set m.toNat row:=
 Ua (by rw[JiK hne,Jiy,(Cp hx).2.2];rfl)
theorem Jdh (k:Nat) {sz:Nat} {xss:List α} {x:α} {m n:Int} {row:List AV} (h:DW s k=some (sz,(xss.map encN).set m.toNat row)) (hx:idx xss n=some x) (hne:m.toNat≠n.toNat) :
  As nk s ⟨s.env,s.objs.set k (some (.narr sz (((xss.map encN).set m.toNat row).set n.toNat (encN x))))⟩:=by
 have ho:=Dx h;rw[Vc hx hne,GK ho];exact As.sem λ _ _ _ _ _ _ _ _ h=>h
theorem Jdi (k:Nat) {sz:Nat} {xss:List α} {x:α} {m n:Int} {row:List AV} (h:DW s k=some (sz,((xss.map encN).set m.toNat row).set n.toNat (encN x))) (hx:idx xss n=some x) (hne:m.toNat≠n.toNat) :
  As nk s ⟨s.env,s.objs.set k (some (.narr sz ((xss.map encN).set m.toNat row)))⟩:=by
 have ho:=Dx h;rw[Vc hx hne]at ho;rw[GK ho];exact As.sem λ _ _ _ _ _ _ _ _ h=>h
theorem Jf8 {xss:List α} {x:α} {m n:Int} {row:List AV} (hx:idx xss n=some x):n.toNat<((xss.map encN).set m.toNat row).length:=ltS (ltN hx)
theorem M6 {a b:Nat} (h:CT (decide (a≠b))=some ()):a≠b:=by
 unfold CT at h;split at h
 ·rename_i h1;exact of_decide_eq_true h1
 ·cases h
theorem Jdj {xss:List α} {x:α} {row row2:List AV} {m n:Int} {k sz off:Nat} {t:Ty} {v:AV} (h:idx xss n=some x) (hk:obA s.objs k=some (.narr sz (((xss.map encN).set m.toNat row).set n.toNat row2)):=by kernel_rfl) (hv:Cg row2 off t=some v:=by kernel_rfl) (hs:(Ao v).all Cs=true:=by kernel_rfl) (hl:Nat.ble (off+t.size) row2.length=true:=by kernel_rfl) :
  Dq s (Ct t s.objs (.eptr k sz (0+n.toNat) off)) v [] [] none:=by
 have hlt:n.toNat<((xss.map encN).set m.toNat row).length:=Jf8 h;have hi:(((xss.map encN).set m.toNat row).set n.toNat row2)[n.toNat]?=some row2:=JiF hlt;refine Ei.of (ob:=sz=sz/\0+n.toNat<(((xss.map encN).set m.toNat row).set n.toNat row2).length/\off+t.size<=row2.length/\(Ao v).all Cs=true) ?_ ⟨rfl,?_,JiJ hl,hs⟩
 ·simp only[Ct,hk,JiI,hi,Jig,hv,A4]
 ·simp only[JiL,JiI];rw[JiL]at hlt;exact hlt
theorem Yu (e:List D) (off m esz:Nat) {xs:List α} {n:Int} {x:α} (h:idx xs n=some x) (hm:xs.length=m:=by kernel_rfl):Dq s (A4 (.dptr e (off+n.toNat*esz)) (0<=n/\n<(m:Nat))) (.dptr e (off+n.toNat*esz)) [] [] none:=by
 obtain⟨h1,h2,_⟩:=Cp h;exact .of rfl ⟨h1,by rw[← hm];exact h2⟩
theorem Jby {e1:α->D} (e:List D) (off m:Nat) (t:Ty) {xs:List α} {n:Int} {x:α} (h:idx xs n=some x) (hc:(e.drop off).take m=xs.map e1:=by kernel_rfl) (ht:(!t.agg&&Nat.beq t.size 1)=true:=by kernel_rfl) :
  Dq s (Ct t s.objs (.dptr e (off+n.toNat*1))) (.d (e1 x)) [] [] none:=by
 obtain⟨h1,_,h2⟩:=Cp h;simp only[Jiv,Bool.not_eq_true']at ht;have hs:=JiB ht.2;have hg:e[off+n.toNat*1]?=some (e1 x):=by
  have hm:n.toNat<((e.drop off).take m).length:=by rw[hc,Jiq];exact(List.getElem?_eq_some_iff.1 h2).1
  have:((e.drop off).take m)[n.toNat]?=some (e1 x):=by rw[hc,Jiy,h2];rfl
  rw[JiO (by simp at hm;omega),Jio]at this;rw[Nat.mul_one];exact this
 have hl:=(List.getElem?_eq_some_iff.1 hg).1;have hg':(e.map AV.d)[off+n.toNat*1]?=some (.d (e1 x)):=by rw[Jiy,hg];rfl
 have:Ct t s.objs (.dptr e (off+n.toNat*1))=A4 (.d (e1 x)) (off+n.toNat*1+t.size<=e.length):=by
  simp only[Ct,Cg,ht.1,cond_false,hg']
 rw[this];exact .of rfl (by rw[hs];omega)
end Go.AI
end
section
namespace Go.AI
variable {P:Program} {F:Nat->Option Obj} {ρ:Nat->Option Loc} {w:World}
theorem OJ:∀ (a r:List TK) (l l':List AV) (b:Bool),Au (a++r) l l'=some b->∃ b1 b2,Au a (l.take a.length) (l'.take a.length)=some b1/\Au r (l.drop a.length) (l'.drop a.length)=some b2/\b=(b1&&b2):=by
 intro a;induction a with
 | nil=>intro r l l' b h;exact⟨true,b,by simp[Au],by simpa using h,by simp⟩
 | cons k a ih=>
  intro r l l' b h;rw[List.cons_append]at h;unfold Au at h;split at h
  ·rename_i heq;cases heq
  all_goals (first|(cases h;done)|skip)
  ·rename_i k0 ks0 k1 x xs0 k2 y ys0 e0;cases e0;split at h
   ·rename_i r' hr';obtain⟨b1,b2,h1,h2,h3⟩:=ih r _ _ _ hr';cases hk:(k1==k2)with
    | false=>rw[hk]at h;cases h
    | true=>
     rw[hk,cond_true]at h;cases h;exact⟨(x==y)&&b1,b2,by simp[Au,h1,hk],by simpa using h2,by rw[h3,Bool.and_assoc]⟩
   ·cases h
  ·rename_i ks0 x xs0 y ys0 e0;cases e0;split at h
   ·rename_i r' hr';obtain⟨b1,b2,h1,h2,h3⟩:=ih r _ _ _ hr';cases h;exact⟨(x==y)&&b1,b2,by simp[Au,h1],by simpa using h2,by rw[h3,Bool.and_assoc]⟩
   ·cases h
  ·rename_i ks0 x xs0 y ys0 e0;cases e0;split at h
   ·rename_i r' hr';obtain⟨b1,b2,h1,h2,h3⟩:=ih r _ _ _ hr';cases h;exact⟨(x==y)&&b1,b2,by simp[Au,h1],by simpa using h2,by rw[h3,Bool.and_assoc]⟩
   ·cases h
def Jb5 (P:Program) (t:TypeId) (a:List TK):Prop:=∃ fields i,P.underlying t=some (.struct fields)/\P.stoodInHeld t=false/\P.info? t=some i/\i.size=a.length/\fields.size=a.length/\∀ (j:Nat) f k,fields[j]? = some f->a[j]? = some k->f.name ≠ "_"/\f.offset=j/\V9 P f.type k
inductive Jbz (P:Program) (t:TypeId):List TK->Prop
 | one {k:TK} (h:V9 P t k):Jbz P t [k]
 | nest {a:List TK} (h:Jb5 P t a):Jbz P t a
inductive Yv (P:Program):List Field->Nat->List TK->Prop
 | nil {i:Nat}:Yv P [] i []
 | cons {f:Field} {fs:List Field} {i:Nat} {a r:List TK} (h0:f.name ≠ "_"/\f.offset=i) (h:Jbz P f.type a) (hr:Yv P fs (i+a.length) r):Yv P (f::fs) i (a++r)
def At (F:Nat->Option Obj) (ρ:Nat->Option Loc) (xs:Array Value) (o:Nat) (l:List AV):Prop:=∀ (j:Nat) a,l[j]?=some a->∃ v,xs[o+j]?=some v/\Ai F ρ a v
theorem At.take {xs:Array Value} {o:Nat} {l:List AV} (h:At F ρ xs o l) (n:Nat):At F ρ xs o (l.take n):=λ j a ha=>by
 rw[List.getElem?_take]at ha;split at ha
 ·exact h j a ha
 ·cases ha
theorem At.drop {xs:Array Value} {o:Nat} {l:List AV} (h:At F ρ xs o l) (n:Nat):At F ρ xs (o+n) (l.drop n):=λ j a ha=>by
 rw[Jio]at ha;rw[Jip];exact h _ a ha
theorem KL {t:TypeId} {a:List TK} (h:Jb5 P t a) (cs:Array Value) (o:Nat):(part t cs o).run P w=.ok (.agg (cs.extract o (o+a.length))) w:=by
 obtain⟨fields,i,h1,_,h3,h4,_⟩:=h;simp only[part,Jic,J5 w h1,Jia,G5,if_true,AO w h3,h4,Jid]
theorem Ws {t:TypeId} {a:List TK} (h:Jbz P t a) (d:Nat) {xs ys:Array Value} {o:Nat} {l l':List AV} {b:Bool} (he:Au a l l'=some b) (hx:At F ρ xs o l) (hy:At F ρ ys o l') :
  ∃ u v,(part t xs o).run P w=.ok u w/\(part t ys o).run P w=.ok v w/\(Op.equalIn (d+1+1) t u v).run P w=.ok b w:=by
 obtain⟨e1,e2⟩:=FJ _ _ _ _ he;cases h with
 | @one k hk=>
  match l,e1 with
  | [x],_=>
   match l',e2 with
   | [y],_=>
    obtain⟨u,hu,hux⟩:=hx 0 x rfl;obtain⟨v,hv,hvy⟩:=hy 0 y rfl;refine⟨u,v,Cz (Ig hk) (by simpa using hu),Cz (Ig hk) (by simpa using hv),?_⟩;unfold Au at he;split at he
    ·rename_i heq;cases heq
    ·rename_i k0 ks0 k1 p xs0 k2 q ys0 e0 e3 e4;cases e0;simp only[List.cons.injEq]at e3 e4;obtain⟨rfl,rfl⟩:=e3;obtain⟨rfl,rfl⟩:=e4;simp only[Au]at he;cases hkk:(k1==k2)with
     | false=>rw[hkk]at he;cases he
     | true=>
      rw[hkk,cond_true]at he;have:k1=k2:=by simpa using hkk
      subst this;cases he;rw[hux.int,hvy.int,Bool.and_true];obtain⟨k3,hk3⟩:=hk;exact run_equalIn_int w (d+1) t k1 k3 p q hk3
    ·rename_i e0 e3 e4;cases e0;simp only[List.cons.injEq]at e3 e4;obtain⟨rfl,rfl⟩:=e3;obtain⟨rfl,rfl⟩:=e4;simp only[Au,JiE]at he;subst he;rw[hux.bool,hvy.bool,Bool.and_true];exact run_equalIn_bool' w (d+1) t _ _ hk
    ·rename_i e0 e3 e4;cases e0;simp only[List.cons.injEq]at e3 e4;obtain⟨rfl,rfl⟩:=e3;obtain⟨rfl,rfl⟩:=e4;simp only[Au,JiE]at he;subst he;rw[hux.str,hvy.str,run_equalIn_string w (d+1) t _ _ hk,B7,B7,Bool.and_true]
    ·cases he
 | nest hn=>
  refine⟨_,_,KL hn xs o,KL hn ys o,?_⟩;obtain⟨fields,i,h1,h2,h3,h4,h5,h6⟩:=hn;have hfo:P.fieldsOf t=fields:=by simp[Program.fieldsOf,h1]
  rw[run_equalIn_struct w (d+1) t _ _ (by rw[hfo];exact h1) h2,hfo];have hex:∀ (zs:Array Value) (m:List AV),m.length=a.length->At F ρ zs o m->∀ (j:Nat) c,m[j]?=some c->∃ v,(zs.extract o (o+a.length))[0+j]?=some v/\Ai F ρ c v:=λ zs m hm hz j c hc=>by
   obtain⟨v,hv,hr⟩:=hz j c hc;have hj:=Ae hc;refine⟨v,?_,hr⟩;rw[JiI,Array.getElem?_extract,if_pos (by have:=Ar hv;omega)];exact hv
  refine Ih (F:=F) (ρ:=ρ) d _ _ fields.toList a 0 l l' b (by simpa using h5) (λ j f k q1 q2=>?_) he (hex xs l e1 hx) (hex ys l' e2 hy);obtain⟨a1,a2,a3⟩:=h6 j f k (by simpa using q1) q2;exact⟨a1,by omega,a3⟩
theorem Q7 (d:Nat) {xs ys:Array Value} {fs:List Field} {i:Nat} {ks:List TK} (hs:Yv P fs i ks):∀ {l l':List AV} {r:Bool},Au ks l l'=some r->At F ρ xs i l->At F ρ ys i l'->(Op.eqFields (d+1+1) xs ys fs).run P w=.ok r w:=by
 induction hs with
 | nil=>
  intro l l' r h _ _;cases l with
  | cons=>simp[Au]at h
  | nil=>cases l' with
   | cons=>simp[Au]at h
   | nil=>simp[Au]at h;subst h;rfl
 | @cons f fs i a rs h0 hl _ ih=>
  intro l l' r h hx hy;obtain⟨b1,b2,h1,h2,rfl⟩:=OJ _ _ _ _ _ h;obtain⟨u,v,q1,q2,q3⟩:=Ws (F:=F) (ρ:=ρ) (w:=w) hl d h1 (hx.take _) (hy.take _);obtain⟨hnm,hoff⟩:=h0;simp only[Op.eqFields];rw[if_pos hnm,hoff];simp only[Jic,q1,q2,Jia,q3];cases b1 with
  | false=>simp
  | true=>simp only[Jii,JiG,if_false,Bool.true_and];exact ih h2 (hx.drop _) (hy.drop _)
theorem Yw {l:List AV} {xs:Array Value} (h:Ai F ρ (.agg l) (.agg xs)):At F ρ xs 0 l:=by
 cases h with
 | agg _ _ hl hr=>
  intro j a ha;have hj:=Ae ha;refine⟨xs[j],?_,hr j a _ ha (Jiz (by omega))⟩;rw[JiI];exact Jiz (by omega)
theorem Vd {t:TypeId} {fields:Array Field} {ks:List TK} (hd:P.underlying t=some (.struct fields)) (hst:P.stoodInHeld t=false) (hg:P.eqGuardType P.depth t=false) (hs:Yv P fields.toList 0 ks):Ls P t ks:=by
 intro l l' r xs ys F ρ w x y h hx hy;have hfo:P.fieldsOf t=fields:=by simp[Program.fieldsOf,hd]
 have hrun:(Op.equalIn 10000 t (.agg xs) (.agg ys)).run P w=.ok r w:=by
  rw[run_equalIn_struct w 9999 t xs ys (by rw[hfo];exact hd) hst,hfo];exact Q7 9997 hs h (Yw hx) (Yw hy)
 constructor
 ·simp only[Jic,run_eqGuard_agg w .eql t x y xs ys hg,Jia];rw[run_eql_struct,hrun];rfl
 ·simp only[Jic,run_eqGuard_agg w .neq t x y xs ys hg,Jia];rw[run_neq_struct,hrun];rfl
theorem Q8 {t:TypeId} {k:IntKind} (hd:P.underlying t=some (.int k)):GE P t false [.int k]:=by
 have get:∀ (F:Nat->Option Obj) (a b:List D) (x y:Value) (r:Bool),KV F false a x->KV F false b y->Au [.int k] (a.map .d) (b.map .d)=some r->∃ k' m n,x=.int k' m/\y=.int k' n/\r=(m==n):=by
  intro F a b x y r hx hy h;obtain⟨p,rfl,hp⟩:=hx;obtain⟨q,rfl,hq⟩:=hy;cases hp<;>cases hq<;>simp only[Jir,List.map_nil,Au]at h<;>first|(cases h;done)|skip
  rename_i k1 m k2 n;cases hk:(k1==k2)with
  | false=>rw[hk]at h;cases h
  | true=>
   rw[hk]at h;simp only[cond_true,JiE,Bool.and_true]at h;have:=eq_of_beq hk;subst this;exact⟨_,_,_,rfl,rfl,h.symm⟩
 refine⟨λ F a x w b hx hs=>?_,⟨_,hd,λ F a b x y r hx hy h=>?_⟩,λ F a b x y r w hx hy h=>?_,λ F a b x y hx hy h=>?_⟩
 ·obtain⟨r,hr⟩:=Option.isSome_iff_exists.1 hs;obtain⟨k',m,n,rfl,_,_⟩:=get F a a x x r hx hx hr;show(Instr.checkKey b (9999+1) t (.int k' m)).run P w=_;rw[Instr.checkKey];simp only[Jic,run_underlying hd,Jia];rfl
 ·obtain⟨k',m,n,rfl,rfl,rfl⟩:=get F a b x y r hx hy h;simp[Instr.sameNow]
 ·obtain⟨k',m,n,rfl,rfl,rfl⟩:=get F a b x y r hx hy h;have e0:∀ q,(Op.equalIn (q+1) t (.int k' m) (.int k' n)).run P w=.ok (m==n) w:=λ q=>by simp[Op.equalIn,run_underlying hd]
  exact e0 9999
 ·obtain⟨k',m,n,rfl,rfl,h2⟩:=get F a b x y true hx hy h;have:m=n:=by simpa using h2.symm
  subst this;show Instr.sameBits (9999+1) (.int k' m) (.int k' m)=true;simp[Instr.sameBits]
end Go.AI
end
section
namespace Go.AI
open Go.Proofs
set_option maxRecDepth 100000
theorem Gp:Inf Try.prog 3 1 8 (.int .i64 0):=AC (by kernel_rfl)
theorem Yx:Inf Try.prog 4 1 1 (.bool false):=AC (by kernel_rfl)
theorem Ky:Inf Try.prog 5 1 1 (.int .u8 0):=AC (by kernel_rfl)
theorem Pr:Inf Try.prog 9 1 16 (.string ⟨#[]⟩):=AC (by kernel_rfl)
theorem Jb6:Inf Try.prog 22 1 24 (.slice none 0 0):=AC (by kernel_rfl)
theorem Jf9:Inf Try.prog 24 3 32 (.agg #[.int .u8 0,.int .u8 0,.slice none 0 0]):=AC (by kernel_rfl)
theorem Jb7:Inf Try.prog 26 1 24 (.slice none 0 0):=AC (by kernel_rfl)
theorem Jb8:Inf Try.prog 28 3 40 (.agg #[.int .i64 0,.int .u8 0,.slice none 0 0]):=AC (by kernel_rfl)
theorem SU:Inf Try.prog 30 1 24 (.slice none 0 0):=AC (by kernel_rfl)
theorem Jb9:Inf Try.prog 32 3 56 (.agg #[.slice none 0 0,.string ⟨#[]⟩,.string ⟨#[]⟩]):=AC (by kernel_rfl)
theorem Jga:Inf Try.prog 33 1 8 (.int .i64 0):=AC (by kernel_rfl)
theorem Jca:Inf Try.prog 42 6 64 (.agg #[.string ⟨#[]⟩,.slice none 0 0,.int .u8 0,.int .u8 0,.int .i64 0,.int .i64 0]):=AC (by kernel_rfl)
theorem Yy:Inf Try.prog 44 1 24 (.slice none 0 0):=AC (by kernel_rfl)
theorem Jcb:Inf Try.prog 45 2 2 (.agg #[.int .u8 0,.int .u8 0]):=AC (by kernel_rfl)
theorem Jcc:Inf Try.prog 47 6 56 (.agg #[.slice none 0 0,.slice none 0 0,.int .u8 0,.int .u8 0,.int .u8 0,.int .u8 0]):=AC (by kernel_rfl)
theorem Jgb:Inf Try.prog 50 1 24 (.slice none 0 0):=AC (by kernel_rfl)
theorem Jcd:Inf Try.prog 51 3 3 (.agg #[.int .u8 0,.int .u8 0,.int .u8 0]):=AC (by kernel_rfl)
theorem Jce:Inf Try.prog 52 1 1 (.int .u8 0):=AC (by kernel_rfl)
theorem Jcf:Inf Try.prog 59 1 24 (.slice none 0 0):=AC (by kernel_rfl)
theorem Jgc:Inf Try.prog 60 1 24 (.slice none 0 0):=AC (by kernel_rfl)
theorem Jcg:Inf Try.prog 63 1 8 (.pointer none):=AC (by kernel_rfl)
theorem Jgd:Inf Try.prog 66 1 8 (.pointer none):=AC (by kernel_rfl)
theorem Jge:Inf Try.prog 70 1 8 (.pointer none):=AC (by kernel_rfl)
theorem Jgf:Inf Try.prog 72 8 112 (.agg #[.int .i64 0,.int .u8 0,.slice none 0 0,.int .i64 0,.slice none 0 0,.string ⟨#[]⟩,.string ⟨#[]⟩,.bool false]):=AC (by kernel_rfl)
theorem Jgg:Inf Try.prog 74 1 24 (.slice none 0 0):=AC (by kernel_rfl)
theorem Ve:Inf Try.prog 79 3 24 (.agg #[.int .i64 0,.int .i64 0,.int .u8 0]):=AC (by kernel_rfl)
theorem Jch:Inf Try.prog 82 1 24 (.slice none 0 0):=AC (by kernel_rfl)
theorem Jgh:Inf Try.prog 87 2 16 (.agg #[.int .i64 0,.int .i64 0]):=AC (by kernel_rfl)
theorem Jgi:Inf Try.prog 90 1 24 (.slice none 0 0):=AC (by kernel_rfl)
theorem Jci:Inf Try.prog 92 1 24 (.slice none 0 0):=AC (by kernel_rfl)
theorem Jgj:Inf Try.prog 94 1 8 (.map none):=AC (by kernel_rfl)
theorem Jcj:Inf Try.prog 95 1 24 (.slice none 0 0):=AC (by kernel_rfl)
theorem Jgk:Inf Try.prog 97 3 56 (.agg #[.slice none 0 0,.slice none 0 0,.bool false]):=AC (by kernel_rfl)
theorem Jck:Inf Try.prog 98 1 24 (.slice none 0 0):=AC (by kernel_rfl)
theorem Yz:Inf Try.prog 100 3 48 (.agg #[.string ⟨#[]⟩,.slice none 0 0,.int .i64 0]):=AC (by kernel_rfl)
theorem YA:Inf Try.prog 101 1 8 (.map none):=AC (by kernel_rfl)
theorem YB:Inf Try.prog 102 1 8 (.map none):=AC (by kernel_rfl)
theorem YC:Inf Try.prog 103 1 24 (.slice none 0 0):=AC (by kernel_rfl)
theorem YD:Inf Try.prog 104 1 24 (.slice none 0 0):=AC (by kernel_rfl)
theorem Jdk:Inf Try.prog 106 5 72 (.agg #[.pointer none,.slice none 0 0,.map none,.slice none 0 0,.map none]):=AC (by kernel_rfl)
theorem YE:Inf Try.prog 109 2 24 (.agg #[.int .i64 0,.string ⟨#[]⟩]):=AC (by kernel_rfl)
theorem Ui:Inf Try.prog 111 2 16 (.agg #[.int .i64 0,.int .i64 0]):=AC (by kernel_rfl)
theorem OK:Inf Try.prog 113 2 24 (.agg #[.int .i64 0,.string ⟨#[]⟩]):=AC (by kernel_rfl)
theorem YF:Inf Try.prog 115 4 40 (.agg #[.int .i64 0,.int .i64 0,.int .i64 0,.string ⟨#[]⟩]):=AC (by kernel_rfl)
theorem Uj:Inf Try.prog 117 1 8 (.pointer none):=AC (by kernel_rfl)
theorem Uk:Inf Try.prog 118 1 24 (.slice none 0 0):=AC (by kernel_rfl)
theorem Jdl:Inf Try.prog 120 3 40 (.agg #[.slice none 0 0,.pointer none,.int .u8 0]):=AC (by kernel_rfl)
theorem Jdm:Inf Try.prog 121 1 24 (.slice none 0 0):=AC (by kernel_rfl)
theorem Jdn:Inf Try.prog 122 1 8 (.map none):=AC (by kernel_rfl)
theorem YG:Inf Try.prog 125 1 24 (.slice none 0 0):=AC (by kernel_rfl)
theorem Jdo:Inf Try.prog 126 5 120 (.agg #[.slice none 0 0,.slice none 0 0,.slice none 0 0,.slice none 0 0,.slice none 0 0]):=AC (by kernel_rfl)
theorem YH:Inf Try.prog 132 6 56 (.agg #[.int .i64 0,.int .i64 0,.int .u8 0,.int .i64 0,.int .i64 0,.string ⟨#[]⟩]):=AC (by kernel_rfl)
theorem YI:Inf Try.prog 138 3 24 (.agg #[.int .i64 0,.int .i64 0,.int .i64 0]):=AC (by kernel_rfl)
theorem Jdp:Inf Try.prog 139 1 8 (.map none):=AC (by kernel_rfl)
theorem Jdq:Inf Try.prog 140 1 24 (.slice none 0 0):=AC (by kernel_rfl)
theorem Jdr:Inf Try.prog 142 1 24 (.slice none 0 0):=AC (by kernel_rfl)
theorem YJ:Inf Try.prog 146 4 48 (.agg #[.int .i64 0,.string ⟨#[]⟩,.int .i64 0,.string ⟨#[]⟩]):=AC (by kernel_rfl)
theorem YK:Inf Try.prog 148 5 56 (.agg #[.int .i64 0,.int .i64 0,.string ⟨#[]⟩,.int .i64 0,.string ⟨#[]⟩]):=AC (by kernel_rfl)
theorem Jds:Inf Try.prog 149 1 24 (.slice none 0 0):=AC (by kernel_rfl)
theorem YL:Inf Try.prog 150 1 24 (.slice none 0 0):=AC (by kernel_rfl)
theorem YM:Inf Try.prog 153 3 32 (.agg #[.int .u8 0,.string ⟨#[]⟩,.int .i64 0]):=AC (by kernel_rfl)
def ty:Nat->Ty
 | 3=>⟨true,[],1,false,[.int .i64 0],.int .i64⟩
 | 4=>⟨true,[],1,false,[.bool false],.bool⟩
 | 5=>⟨true,[],1,false,[.int .u8 0],.int .u8⟩
 | 9=>⟨true,[],1,false,[.str []],.string⟩
 | 22=>⟨true,[],1,false,[.nil],.slice 6 56 [.nil,.nil,.int .u8 0,.int .u8 0,.int .u8 0,.int .u8 0]⟩
 | 24=>⟨true,[],3,true,[.int .u8 0,.int .u8 0,.nil],.struct [(0,1),(1,1),(2,1)]⟩
 | 26=>⟨true,[],1,false,[.nil],.slice 6 64 [.str [],.nil,.int .u8 0,.int .u8 0,.int .i64 0,.int .i64 0]⟩
 | 28=>⟨true,[],3,true,[.int .i64 0,.int .u8 0,.nil],.struct [(0,1),(1,1),(2,1)]⟩
 | 30=>⟨true,[],1,false,[.nil],.slice 1 1 [.int .u8 0]⟩
 | 32=>⟨true,[],3,true,[.nil,.str [],.str []],.struct [(0,1),(1,1),(2,1)]⟩
 | 33=>⟨true,[],1,false,[.int .i64 0],.int .i64⟩
 | 42=>⟨true,[],6,true,[.str [],.nil,.int .u8 0,.int .u8 0,.int .i64 0,.int .i64 0],.struct [(0,1),(1,1),(2,1),(3,1),(4,1),(5,1)]⟩
 | 44=>⟨true,[],1,false,[.nil],.slice 1 1 [.int .u8 0]⟩
 | 45=>⟨true,[.int .u8,.int .u8],2,true,[.int .u8 0,.int .u8 0],.array 2 1⟩
 | 47=>⟨true,[],6,true,[.nil,.nil,.int .u8 0,.int .u8 0,.int .u8 0,.int .u8 0],.struct [(0,1),(1,1),(2,1),(3,1),(4,2)]⟩
 | 50=>⟨true,[],1,false,[.nil],.slice 3 3 [.int .u8 0,.int .u8 0,.int .u8 0]⟩
 | 51=>⟨true,[.int .u8,.int .u8,.int .u8],3,true,[.int .u8 0,.int .u8 0,.int .u8 0],.array 3 1⟩
 | 52=>⟨true,[],1,false,[.int .u8 0],.int .u8⟩
 | 59=>⟨true,[],1,false,[.nil],.slice 1 16 [.str []]⟩
 | 60=>⟨true,[],1,false,[.nil],.slice 1 24 [.nil]⟩
 | 63=>⟨true,[],1,false,[.nilp],.other⟩
 | 66=>⟨true,[],1,false,[.nilp],.other⟩
 | 70=>⟨true,[],1,false,[.nilp],.other⟩
 | 72=>⟨true,[],8,true,[.int .i64 0,.int .u8 0,.nil,.int .i64 0,.nil,.str [],.str [],.bool false],.struct [(0,3),(3,1),(4,3),(7,1)]⟩
 | 74=>⟨true,[],1,false,[.nil],.slice 6 56 [.int .i64 0,.int .i64 0,.int .u8 0,.int .i64 0,.int .i64 0,.str []]⟩
 | 79=>⟨true,[.int .i64,.int .i64,.int .u8],3,true,[.int .i64 0,.int .i64 0,.int .u8 0],.struct [(0,1),(1,1),(2,1)]⟩
 | 82=>⟨true,[],1,false,[.nil],.slice 1 8 [.int .i64 0]⟩
 | 87=>⟨true,[.int .i64,.int .i64],2,true,[.int .i64 0,.int .i64 0],.array 2 1⟩
 | 90=>⟨true,[],1,false,[.nil],.slice 3 24 [.int .i64 0,.int .i64 0,.int .u8 0]⟩
 | 92=>⟨true,[],1,false,[.nil],.slice 1 1 [.bool false]⟩
 | 94=>⟨true,[],1,false,[.nilm],.map [.int .i64,.int .i64,.int .u8] true false [.int .i64 0]⟩
 | 95=>⟨true,[],1,false,[.nil],.slice 1 24 [.nil]⟩
 | 97=>⟨true,[],3,true,[.nil,.nil,.bool false],.struct [(0,1),(1,1),(2,1)]⟩
 | 98=>⟨true,[],1,false,[.nil],.slice 3 48 [.str [],.nil,.int .i64 0]⟩
 | 100=>⟨true,[],3,true,[.str [],.nil,.int .i64 0],.struct [(0,1),(1,1),(2,1)]⟩
 | 101=>⟨true,[],1,false,[.nilm],.map [.int .i64,.string] true false [.int .i64 0]⟩
 | 102=>⟨true,[],1,false,[.nilm],.map [.int .i64,.int .i64] true true [.int .i64 0,.int .i64 0,.str [],.int .i64 0,.str []]⟩
 | 103=>⟨true,[],1,false,[.nil],.slice 2 24 [.int .i64 0,.str []]⟩
 | 104=>⟨true,[],1,false,[.nil],.slice 1 24 [.nil]⟩
 | 106=>⟨true,[],5,true,[.nilp,.nil,.nilm,.nil,.nilm],.struct [(0,1),(1,1),(2,1),(3,1),(4,1)]⟩
 | 109=>⟨true,[.int .i64,.string],2,true,[.int .i64 0,.str []],.struct [(0,1),(1,1)]⟩
 | 111=>⟨true,[.int .i64,.int .i64],2,true,[.int .i64 0,.int .i64 0],.struct [(0,1),(1,1)]⟩
 | 113=>⟨true,[.int .i64,.string],2,true,[.int .i64 0,.str []],.struct [(0,1),(1,1)]⟩
 | 115=>⟨true,[.int .i64,.int .i64,.int .i64,.string],4,true,[.int .i64 0,.int .i64 0,.int .i64 0,.str []],.struct [(0,2),(2,2)]⟩
 | 117=>⟨true,[],1,false,[.nilp],.other⟩
 | 118=>⟨true,[],1,false,[.nil],.slice 4 40 [.int .i64 0,.int .i64 0,.int .i64 0,.str []]⟩
 | 120=>⟨true,[],3,true,[.nil,.nilp,.int .u8 0],.struct [(0,1),(1,1),(2,1)]⟩
 | 121=>⟨true,[],1,false,[.nil],.slice 1 8 [.nilp]⟩
 | 122=>⟨true,[],1,false,[.nilm],.map [.int .u8] false false [.nil]⟩
 | 125=>⟨true,[],1,false,[.nil],.slice 1 24 [.nil]⟩
 | 126=>⟨true,[],5,true,[.nil,.nil,.nil,.nil,.nil],.array 5 1⟩
 | 132=>⟨true,[.int .i64,.int .i64,.int .u8,.int .i64,.int .i64,.string],6,true,[.int .i64 0,.int .i64 0,.int .u8 0,.int .i64 0,.int .i64 0,.str []],.struct [(0,3),(3,1),(4,1),(5,1)]⟩
 | 138=>⟨true,[.int .i64,.int .i64,.int .i64],3,true,[.int .i64 0,.int .i64 0,.int .i64 0],.struct [(0,1),(1,1),(2,1)]⟩
 | 139=>⟨true,[],1,false,[.nilm],.map [.int .i64,.int .i64,.int .i64] true false [.bool false]⟩
 | 140=>⟨true,[],1,false,[.nil],.slice 3 24 [.int .i64 0,.int .i64 0,.int .i64 0]⟩
 | 142=>⟨true,[],1,false,[.nil],.slice 1 24 [.nil]⟩
 | 146=>⟨true,[],4,true,[.int .i64 0,.str [],.int .i64 0,.str []],.array 2 2⟩
 | 148=>⟨true,[],5,true,[.int .i64 0,.int .i64 0,.str [],.int .i64 0,.str []],.struct [(0,1),(1,4)]⟩
 | 149=>⟨true,[],1,false,[.nil],.slice 2 24 [.int .i64 0,.str []]⟩
 | 150=>⟨true,[],1,false,[.nil],.slice 3 32 [.int .u8 0,.str [],.int .i64 0]⟩
 | 153=>⟨true,[.int .u8,.string,.int .i64],3,true,[.int .u8 0,.str [],.int .i64 0],.struct [(0,1),(1,1),(2,1)]⟩
 | _=>⟨false,[],0,false,[],.other⟩
theorem tf3:Ax Try.prog 3 (ty 3):=tfM Gp Try.underlying3 rfl
theorem tf4:Ax Try.prog 4 (ty 4):=tfM Yx Try.underlying4 rfl
theorem tf5:Ax Try.prog 5 (ty 5):=tfM Ky Try.underlying5 rfl
theorem tf9:Ax Try.prog 9 (ty 9):=tfM Pr Try.underlying9 rfl
theorem Jhl:Ax Try.prog 22 (ty 22):=tfM Jb6 Try.underlying22 (slK Jcc)
theorem Jhm:Ax Try.prog 24 (ty 24):=tfM Jf9 Try.underlying24 (stF (AW (BP Ky Try.underlying5) (AW (BP Ky Try.underlying5) (AW (BP Jb6 Try.underlying22) EV))))
theorem Jhn:Ax Try.prog 26 (ty 26):=tfM Jb7 Try.underlying26 (slK Jca)
theorem Jho:Ax Try.prog 28 (ty 28):=tfM Jb8 Try.underlying28 (stF (AW (BP Gp Try.underlying3) (AW (BP Ky Try.underlying5) (AW (BP Jb7 Try.underlying26) EV))))
theorem Jhp:Ax Try.prog 30 (ty 30):=tfM SU Try.underlying30 (slK Jce (λ _=>Try.underlying52))
theorem Jhq:Ax Try.prog 32 (ty 32):=tfM Jb9 Try.underlying32 (stF (AW (BP SU Try.underlying30) (AW (BP Pr Try.underlying9) (AW (BP Pr Try.underlying9) EV))))
theorem Jhr:Ax Try.prog 33 (ty 33):=tfM Jga Try.underlying33 rfl
theorem Jhs:Ax Try.prog 42 (ty 42):=tfM Jca Try.underlying42 (stF (AW (BP Pr Try.underlying9) (AW (BP SU Try.underlying30) (AW (BP Ky Try.underlying5) (AW (BP Ky Try.underlying5) (AW (BP Gp Try.underlying3) (AW (BP Gp Try.underlying3) EV)))))))
theorem Jht:Ax Try.prog 44 (ty 44):=tfM Yy Try.underlying44 (slK Ky (λ _=>Try.underlying5))
theorem Jhu:Ax Try.prog 45 (ty 45):=tfM Jcb Try.underlying45 (arK Ky) (λ _=>T3 Try.underlying45 Try.underlying5 Ky (by kernel_rfl))
theorem Jhv:Ax Try.prog 47 (ty 47):=tfM Jcc Try.underlying47 (stF (AW (BP Yy Try.underlying44) (AW (BP Yy Try.underlying44) (AW (BP Ky Try.underlying5) (AW (BP Ky Try.underlying5) (AW (BP Jcb Try.underlying45) EV))))))
theorem Jhw:Ax Try.prog 50 (ty 50):=tfM Jgb Try.underlying50 (slK Jcd)
theorem Jhx:Ax Try.prog 51 (ty 51):=tfM Jcd Try.underlying51 (arK Ky) (λ _=>T3 Try.underlying51 Try.underlying5 Ky (by kernel_rfl))
theorem Jhy:Ax Try.prog 52 (ty 52):=tfM Jce Try.underlying52 rfl
theorem Jhz:Ax Try.prog 59 (ty 59):=tfM Jcf Try.underlying59 (slK Pr)
theorem JhA:Ax Try.prog 60 (ty 60):=tfM Jgc Try.underlying60 (slK SU)
theorem JhB:Ax Try.prog 63 (ty 63):=tfM Jcg Try.underlying63 trivial
theorem JhC:Ax Try.prog 66 (ty 66):=tfM Jgd Try.underlying66 trivial
theorem JhD:Ax Try.prog 70 (ty 70):=tfM Jge Try.underlying70 trivial
theorem JhE:Ax Try.prog 72 (ty 72):=tfM Jgf Try.underlying72 (stF (AW (BP Jb8 Try.underlying28) (AW (BP Gp Try.underlying3) (AW (BP Jb9 Try.underlying32) (AW (BP Yx Try.underlying4) EV)))))
theorem JhF:Ax Try.prog 74 (ty 74):=tfM Jgg Try.underlying74 (slK YH)
theorem JhG:Ax Try.prog 79 (ty 79):=tfM Ve Try.underlying79 (stF (AW (BP Gp Try.underlying3) (AW (BP Gp Try.underlying3) (AW (BP Ky Try.underlying5) EV)))) (λ _=>Ka Try.underlying79 (by kernel_rfl) (by kernel_rfl) rfl λ j f k h1 h2=>match j,h1,h2 with|0,h1,h2=>(by cases h1;cases h2;exact⟨by decide,rfl,⟨_,Try.underlying3⟩⟩)|1,h1,h2=>(by cases h1;cases h2;exact⟨by decide,rfl,⟨_,Try.underlying3⟩⟩)|2,h1,h2=>(by cases h1;cases h2;exact⟨by decide,rfl,⟨_,Try.underlying5⟩⟩)|n+3,h1,_=>by simp at h1)
theorem JhH:Ax Try.prog 82 (ty 82):=tfM Jch Try.underlying82 (slK Gp)
theorem JhI:Ax Try.prog 87 (ty 87):=tfM Jgh Try.underlying87 (arK Gp) (λ _=>T3 Try.underlying87 Try.underlying3 Gp (by kernel_rfl))
theorem JhJ:Ax Try.prog 90 (ty 90):=tfM Jgi Try.underlying90 (slK Ve)
theorem JhK:Ax Try.prog 92 (ty 92):=tfM Jci Try.underlying92 (slK Yx)
theorem JhL:Ax Try.prog 94 (ty 94):=tfM Jgj Try.underlying94 (by obtain⟨j,h1,h2,h3,h4⟩:=Gp;exact⟨_,_,j,_,rfl,(FA Try.underlying79 (by kernel_rfl) rfl λ j f k h1 h2=>match j,h1,h2 with|0,h1,h2=>(by cases h1;cases h2;exact⟨by decide,rfl,⟨_,Try.underlying3⟩⟩)|1,h1,h2=>(by cases h1;cases h2;exact⟨by decide,rfl,⟨_,Try.underlying3⟩⟩)|2,h1,h2=>(by cases h1;cases h2;exact⟨by decide,rfl,⟨_,Try.underlying5⟩⟩)|n+3,h1,_=>by simp at h1),h1,h4,rfl,(λ h=>by cases h),(λ _=>⟨_,rfl,rfl⟩)⟩)
theorem JhM:Ax Try.prog 95 (ty 95):=tfM Jcj Try.underlying95 (slK Jck)
theorem JhN:Ax Try.prog 97 (ty 97):=tfM Jgk Try.underlying97 (stF (AW (BP Jcj Try.underlying95) (AW (BP Jci Try.underlying92) (AW (BP Yx Try.underlying4) EV))))
theorem JhO:Ax Try.prog 98 (ty 98):=tfM Jck Try.underlying98 (slK Yz)
theorem Jgl:Ax Try.prog 100 (ty 100):=tfM Yz Try.underlying100 (stF (AW (BP Pr Try.underlying9) (AW (BP SU Try.underlying30) (AW (BP Gp Try.underlying3) EV))))
theorem Jgm:Ax Try.prog 101 (ty 101):=tfM YA Try.underlying101 (by obtain⟨j,h1,h2,h3,h4⟩:=Gp;exact⟨_,_,j,_,rfl,(FA Try.underlying109 (by kernel_rfl) rfl λ j f k h1 h2=>match j,h1,h2 with|0,h1,h2=>(by cases h1;cases h2;exact⟨by decide,rfl,⟨_,Try.underlying3⟩⟩)|1,h1,h2=>(by cases h1;cases h2;exact⟨by decide,rfl,Try.underlying9⟩)|n+2,h1,_=>by simp at h1),h1,h4,rfl,(λ h=>by cases h),(λ _=>⟨_,rfl,rfl⟩)⟩)
theorem Jgn:Ax Try.prog 102 (ty 102):=tfM YB Try.underlying102 (by obtain⟨j,h1,h2,h3,h4⟩:=YK;exact⟨_,_,j,_,rfl,(FA Try.underlying111 (by kernel_rfl) rfl λ j f k h1 h2=>match j,h1,h2 with|0,h1,h2=>(by cases h1;cases h2;exact⟨by decide,rfl,⟨_,Try.underlying3⟩⟩)|1,h1,h2=>(by cases h1;cases h2;exact⟨by decide,rfl,⟨_,Try.underlying3⟩⟩)|n+2,h1,_=>by simp at h1),h1,h4,rfl,(λ _=>⟨_,rfl,rfl⟩),(λ h=>by cases h)⟩)
theorem Jgo:Ax Try.prog 103 (ty 103):=tfM YC Try.underlying103 (slK YE)
theorem Jgp:Ax Try.prog 104 (ty 104):=tfM YD Try.underlying104 (slK YL)
theorem Jgq:Ax Try.prog 106 (ty 106):=tfM Jdk Try.underlying106 (stF (AW (BP Jcg Try.underlying63) (AW (BP YC Try.underlying103) (AW (BP YA Try.underlying101) (AW (BP YD Try.underlying104) (AW (BP YB Try.underlying102) EV))))))
theorem Jgr:Ax Try.prog 109 (ty 109):=tfM YE Try.underlying109 (stF (AW (BP Gp Try.underlying3) (AW (BP Pr Try.underlying9) EV))) (λ _=>Ka Try.underlying109 (by kernel_rfl) (by kernel_rfl) rfl λ j f k h1 h2=>match j,h1,h2 with|0,h1,h2=>(by cases h1;cases h2;exact⟨by decide,rfl,⟨_,Try.underlying3⟩⟩)|1,h1,h2=>(by cases h1;cases h2;exact⟨by decide,rfl,Try.underlying9⟩)|n+2,h1,_=>by simp at h1)
theorem Jgs:Ax Try.prog 111 (ty 111):=tfM Ui Try.underlying111 (stF (AW (BP Gp Try.underlying3) (AW (BP Gp Try.underlying3) EV))) (λ _=>Ka Try.underlying111 (by kernel_rfl) (by kernel_rfl) rfl λ j f k h1 h2=>match j,h1,h2 with|0,h1,h2=>(by cases h1;cases h2;exact⟨by decide,rfl,⟨_,Try.underlying3⟩⟩)|1,h1,h2=>(by cases h1;cases h2;exact⟨by decide,rfl,⟨_,Try.underlying3⟩⟩)|n+2,h1,_=>by simp at h1)
theorem Jgt:Ax Try.prog 113 (ty 113):=tfM OK Try.underlying113 (stF (AW (BP Gp Try.underlying3) (AW (BP Pr Try.underlying9) EV))) (λ _=>Ka Try.underlying113 (by kernel_rfl) (by kernel_rfl) rfl λ j f k h1 h2=>match j,h1,h2 with|0,h1,h2=>(by cases h1;cases h2;exact⟨by decide,rfl,⟨_,Try.underlying3⟩⟩)|1,h1,h2=>(by cases h1;cases h2;exact⟨by decide,rfl,Try.underlying9⟩)|n+2,h1,_=>by simp at h1)
theorem Jgu:Ax Try.prog 115 (ty 115):=tfM YF Try.underlying115 (stF (AW (BP Ui Try.underlying111) (AW (BP OK Try.underlying113) EV))) (λ _=>Vd Try.underlying115 (by kernel_rfl) (by kernel_rfl) (.cons (a:=[.int .i64,.int .i64]) ⟨by decide,rfl⟩ (.nest (by obtain⟨j,h1,h2,_⟩:=Ui;exact⟨_,j,Try.underlying111,(by kernel_rfl),h1,h2,rfl,λ j f k h1 h2=>match j,h1,h2 with|0,h1,h2=>(by cases h1;cases h2;exact⟨by decide,rfl,⟨_,Try.underlying3⟩⟩)|1,h1,h2=>(by cases h1;cases h2;exact⟨by decide,rfl,⟨_,Try.underlying3⟩⟩)|n+2,h1,_=>by simp at h1⟩)) (.cons (a:=[.int .i64,.string]) ⟨by decide,rfl⟩ (.nest (by obtain⟨j,h1,h2,_⟩:=OK;exact⟨_,j,Try.underlying113,(by kernel_rfl),h1,h2,rfl,λ j f k h1 h2=>match j,h1,h2 with|0,h1,h2=>(by cases h1;cases h2;exact⟨by decide,rfl,⟨_,Try.underlying3⟩⟩)|1,h1,h2=>(by cases h1;cases h2;exact⟨by decide,rfl,Try.underlying9⟩)|n+2,h1,_=>by simp at h1⟩)) .nil)))
theorem Jgv:Ax Try.prog 117 (ty 117):=tfM Uj Try.underlying117 trivial
theorem Jgw:Ax Try.prog 118 (ty 118):=tfM Uk Try.underlying118 (slK YF)
theorem Jgx:Ax Try.prog 120 (ty 120):=tfM Jdl Try.underlying120 (stF (AW (BP Uk Try.underlying118) (AW (BP Uj Try.underlying117) (AW (BP Ky Try.underlying5) EV))))
theorem Jgy:Ax Try.prog 121 (ty 121):=tfM Jdm Try.underlying121 (slK Uj)
theorem Jgz:Ax Try.prog 122 (ty 122):=tfM Jdn Try.underlying122 (by obtain⟨j,h1,h2,h3,h4⟩:=Uk;exact⟨_,_,j,_,rfl,(Q8 Try.underlying5),h1,h4,rfl,(λ h=>by cases h),(λ _=>⟨_,rfl,rfl⟩)⟩)
theorem JgA:Ax Try.prog 125 (ty 125):=tfM YG Try.underlying125 (slK Jcf)
theorem JgB:Ax Try.prog 126 (ty 126):=tfM Jdo Try.underlying126 (arK YG)
theorem JgC:Ax Try.prog 132 (ty 132):=tfM YH Try.underlying132 (stF (AW (BP Ve Try.underlying79) (AW (BP Gp Try.underlying3) (AW (BP Gp Try.underlying3) (AW (BP Pr Try.underlying9) EV))))) (λ _=>Vd Try.underlying132 (by kernel_rfl) (by kernel_rfl) (.cons (a:=[.int .i64,.int .i64,.int .u8]) ⟨by decide,rfl⟩ (.nest (by obtain⟨j,h1,h2,_⟩:=Ve;exact⟨_,j,Try.underlying79,(by kernel_rfl),h1,h2,rfl,λ j f k h1 h2=>match j,h1,h2 with|0,h1,h2=>(by cases h1;cases h2;exact⟨by decide,rfl,⟨_,Try.underlying3⟩⟩)|1,h1,h2=>(by cases h1;cases h2;exact⟨by decide,rfl,⟨_,Try.underlying3⟩⟩)|2,h1,h2=>(by cases h1;cases h2;exact⟨by decide,rfl,⟨_,Try.underlying5⟩⟩)|n+3,h1,_=>by simp at h1⟩)) (.cons (a:=[.int .i64]) ⟨by decide,rfl⟩ (.one ⟨_,Try.underlying3⟩) (.cons (a:=[.int .i64]) ⟨by decide,rfl⟩ (.one ⟨_,Try.underlying3⟩) (.cons (a:=[.string]) ⟨by decide,rfl⟩ (.one Try.underlying9) .nil)))))
theorem JgD:Ax Try.prog 138 (ty 138):=tfM YI Try.underlying138 (stF (AW (BP Gp Try.underlying3) (AW (BP Gp Try.underlying3) (AW (BP Gp Try.underlying3) EV)))) (λ _=>Ka Try.underlying138 (by kernel_rfl) (by kernel_rfl) rfl λ j f k h1 h2=>match j,h1,h2 with|0,h1,h2=>(by cases h1;cases h2;exact⟨by decide,rfl,⟨_,Try.underlying3⟩⟩)|1,h1,h2=>(by cases h1;cases h2;exact⟨by decide,rfl,⟨_,Try.underlying3⟩⟩)|2,h1,h2=>(by cases h1;cases h2;exact⟨by decide,rfl,⟨_,Try.underlying3⟩⟩)|n+3,h1,_=>by simp at h1)
theorem JgE:Ax Try.prog 139 (ty 139):=tfM Jdp Try.underlying139 (by obtain⟨j,h1,h2,h3,h4⟩:=Yx;exact⟨_,_,j,_,rfl,(FA Try.underlying138 (by kernel_rfl) rfl λ j f k h1 h2=>match j,h1,h2 with|0,h1,h2=>(by cases h1;cases h2;exact⟨by decide,rfl,⟨_,Try.underlying3⟩⟩)|1,h1,h2=>(by cases h1;cases h2;exact⟨by decide,rfl,⟨_,Try.underlying3⟩⟩)|2,h1,h2=>(by cases h1;cases h2;exact⟨by decide,rfl,⟨_,Try.underlying3⟩⟩)|n+3,h1,_=>by simp at h1),h1,h4,rfl,(λ h=>by cases h),(λ _=>⟨_,rfl,rfl⟩)⟩)
theorem JgF:Ax Try.prog 140 (ty 140):=tfM Jdq Try.underlying140 (slK YI)
theorem JgG:Ax Try.prog 142 (ty 142):=tfM Jdr Try.underlying142 (slK Jch)
theorem JgH:Ax Try.prog 146 (ty 146):=tfM YJ Try.underlying146 (arK OK)
theorem JgI:Ax Try.prog 148 (ty 148):=tfM YK Try.underlying148 (stF (AW (BP Gp Try.underlying3) (AW (BP YJ Try.underlying146) EV)))
theorem JgJ:Ax Try.prog 149 (ty 149):=tfM Jds Try.underlying149 (slK OK)
theorem JgK:Ax Try.prog 150 (ty 150):=tfM YL Try.underlying150 (slK YM)
theorem JgL:Ax Try.prog 153 (ty 153):=tfM YM Try.underlying153 (stF (AW (BP Ky Try.underlying5) (AW (BP Pr Try.underlying9) (AW (BP Gp Try.underlying3) EV)))) (λ _=>Ka Try.underlying153 (by kernel_rfl) (by kernel_rfl) rfl λ j f k h1 h2=>match j,h1,h2 with|0,h1,h2=>(by cases h1;cases h2;exact⟨by decide,rfl,⟨_,Try.underlying5⟩⟩)|1,h1,h2=>(by cases h1;cases h2;exact⟨by decide,rfl,Try.underlying9⟩)|2,h1,h2=>(by cases h1;cases h2;exact⟨by decide,rfl,⟨_,Try.underlying3⟩⟩)|n+3,h1,_=>by simp at h1)
theorem tyOK:H6 Try.prog ty:=by
 intro t h;unfold ty at h;split at h
 ·exact tf3
 ·exact tf4
 ·exact tf5
 ·exact tf9
 ·exact Jhl
 ·exact Jhm
 ·exact Jhn
 ·exact Jho
 ·exact Jhp
 ·exact Jhq
 ·exact Jhr
 ·exact Jhs
 ·exact Jht
 ·exact Jhu
 ·exact Jhv
 ·exact Jhw
 ·exact Jhx
 ·exact Jhy
 ·exact Jhz
 ·exact JhA
 ·exact JhB
 ·exact JhC
 ·exact JhD
 ·exact JhE
 ·exact JhF
 ·exact JhG
 ·exact JhH
 ·exact JhI
 ·exact JhJ
 ·exact JhK
 ·exact JhL
 ·exact JhM
 ·exact JhN
 ·exact JhO
 ·exact Jgl
 ·exact Jgm
 ·exact Jgn
 ·exact Jgo
 ·exact Jgp
 ·exact Jgq
 ·exact Jgr
 ·exact Jgs
 ·exact Jgt
 ·exact Jgu
 ·exact Jgv
 ·exact Jgw
 ·exact Jgx
 ·exact Jgy
 ·exact Jgz
 ·exact JgA
 ·exact JgB
 ·exact JgC
 ·exact JgD
 ·exact JgE
 ·exact JgF
 ·exact JgG
 ·exact JgH
 ·exact JgI
 ·exact JgJ
 ·exact JgK
 ·exact JgL
 ·cases h
theorem follows:Try.prog.follows .mixedOrders=true:=by kernel_rfl
def qfT:List (Nat×Nat):=[]
theorem JhP:∀ f k,(f,k)∈qfT->∀ vs:Array Value,vs.size=k->QD Try.prog (Lr f vs):=λ _ _ h=>by cases h
def cxk (n nk:Nat):Cx:=⟨ty,⟨n,[],nk,qfT⟩,A0 Try.prog,CG Try.prog,MU Try.prog,K3 Try.prog,G7 Try.prog,false⟩
theorem Jcl (n nk:Nat):FG Try.prog (cxk n nk):=⟨tyOK,λ _ _ _ h=>h,λ _ _ _ _ _ _ h=>h,λ _ _ _ _ _ h=>h,λ _ _ _ _ h=>h,λ _ _ _ _ _ h=>h,JhP,λ h=>by cases h⟩
end Go.AI
end
section
namespace Go.AI
structure AF where
 Print:(List UInt8)
 Cells:(List Int)
 Left:Int
 Right:Int
 From:Int
 To:Int
 deriving DecidableEq,Inhabited
structure Ab where
 Modes:Int
 Accept:Int
 Rules:(List AF)
 deriving DecidableEq,Inhabited
structure Ad where
 Mode:Int
 Last:Int
 Need:Int
 deriving DecidableEq,Inhabited
structure EO where
 Print:(List UInt8)
 Cells:(List Int)
 To:Int
 deriving DecidableEq,Inhabited
structure Ap where
 Arcs:(List (List EO))
 Accepts:(List Bool)
 Alive:Bool
 deriving DecidableEq,Inhabited
structure Af where
 Cell:Int
 Print:(List UInt8)
 To:Int
 deriving DecidableEq,Inhabited
structure BR where
 Side:Int
 Text:(List UInt8)
 deriving DecidableEq,Inhabited
structure Am where
 A:Int
 B:Int
 deriving DecidableEq,Inhabited
structure Ah where
 Pair:Am
 Lead:BR
 deriving DecidableEq,Inhabited
structure Bf where
 Nodes:(List Ah)
 From:(List ((List Ah)×Int))
 Cell:Int
 deriving DecidableEq,Inhabited
def Q9 (x:(List ((List Ah)×Int))):Option Bf:=(pgo x).map λ y=>{ Nodes:=y.1.1,From:=y.2,Cell:=y.1.2 }
structure Cb where
 Cells:(List Int)
 A:(List UInt8)
 B:(List UInt8)
 deriving DecidableEq,Inhabited
structure Aa where
 State:Int
 Rest:(List UInt8)
 deriving DecidableEq,Inhabited
structure Ek (α:Type) where
 a0:α
 a1:α
 deriving DecidableEq,Inhabited
structure An where
 N:Int
 Leads:(Ek BR)
 deriving DecidableEq,Inhabited
structure AL where
 Cell:Int
 Byte:Int
 State:Int
 deriving DecidableEq,Inhabited
structure YN where
 P:(List Int)
 C:(List Int)
 L:Int
 R:Int
 W:(Ek Int)
 deriving DecidableEq,Inhabited
structure JhV where
 Base:Int
 Drop:Int
 More:(List YN)
 deriving DecidableEq,Inhabited
structure GL where
 S:Ad
 Rule:Int
 At:Int
 Text:(List UInt8)
 deriving DecidableEq,Inhabited
structure CB where
 T:Ab
 Left:Int
 C:Cb
 Ok:Bool
 deriving DecidableEq,Inhabited
structure Ps (α:Type) where
 a0:α
 a1:α
 a2:α
 deriving DecidableEq,Inhabited
def M7 (_:Nat) (c:(List (List UInt8))) (d:(List (List Int))) (a:Ab) (b:Int):Option ((Ab×Int)⊕Ab):=
 if decide (b<((c.length:Nat):Int))=true then
  (idx c b).bind λ e=>
  (idx d b).bind λ f=>
  (app 64 a.Rules [({ Print:=e,Cells:=f,Left:=63,Right:=63,From:=0,To:=0 }:AF)]).bind λ g=>
  some (.inl (({ Modes:=a.Modes,Accept:=a.Accept,Rules:=g }:Ab),(Ba .i64 b 1)))
 else
  some (.inr a)
def EY (n:Nat) (a:(List (List UInt8))) (b:(List (List Int))):Option Ab:=
 (whl (λ (x:(Ab×Int))=>M7 n a b x.1 x.2) n (({ Modes:=1,Accept:=1,Rules:=([]:List AF) }:Ab),0)).bind λ c=>
 some c
def F6 (_:Nat) (a:Int):Option Bool:=
 some ((decide (32<=Dp .u8 a 127))&&(decide (Dp .u8 a 127<=126)))
def Hc (n:Nat) (b:(List UInt8)) (a:Int):Option (Int⊕(Unit⊕(Int×Int))):=
 if decide (a<((b.length:Nat):Int))=true then
  (IY b a).bind λ c=>
  (F6 n c).bind λ d=>
  if(!d)=true then
   some (.inr (.inr (a,60)))
  else
   some (.inl (Ba .i64 a 1))
 else
  some (.inr (.inl ()))
def LO (n:Nat) (a:(List UInt8)):Option (Int×Int):=
 (whl (λ (x:Int)=>Hc n a x) n 0).bind λ b=>
 match b with
 | Sum.inl _=>
  some (((a.length:Nat):Int),0)
 | Sum.inr c=>
  some c
def Gw (_:Nat) (a:Int):Option Int:=
 if((decide (97<=Dp .u8 a 127))&&(decide (Dp .u8 a 127<=122)))=true then
  some 1
 else
  if((decide (65<=Dp .u8 a 127))&&(decide (Dp .u8 a 127<=90)))=true then
   some 2
  else
   if((decide (48<=Dp .u8 a 127))&&(decide (Dp .u8 a 127<=57)))=true then
    some 3
   else
    if((Dp .u8 a 127)==32)=true then
     some 4
    else
     some 5
def Ey (n:Nat) (b:(List UInt8)) (a:Int):Option (Int⊕(Unit⊕Bool)):=
 if decide (a<((b.length:Nat):Int))=true then
  (IY b a).bind λ c=>
  (Gw n c).bind λ d=>
  if(d==4)=true then
   some (.inr (.inr true))
  else
   some (.inl (Ba .i64 a 1))
 else
  some (.inr (.inl ()))
def Gq (n:Nat) (a:(List UInt8)):Option Bool:=
 (whl (λ (x:Int)=>Ey n a x) n 0).bind λ b=>
 match b with
 | Sum.inl _=>
  some false
 | Sum.inr c=>
  some c
def Mq (_:Nat) (a:Int):Option Bool:=
 some (decide (a<64))
def Gr (n:Nat) (b:AF) (a:Int):Option (Int⊕(Unit⊕Bool)):=
 if decide (a<((b.Cells.length:Nat):Int))=true then
  (idx b.Cells a).bind λ c=>
  (Mq n c).bind λ d=>
  if(((!d)||(c==63))||(c==0))=true then
   some (.inr (.inr false))
  else
   some (.inl (Ba .i64 a 1))
 else
  some (.inr (.inl ()))
def Kd (n:Nat) (a:AF) (b:Int):Option Bool:=
 if(((decide (((a.Print.length:Nat):Int)>4))||(decide (((a.Cells.length:Nat):Int)<1)))||(decide (((a.Cells.length:Nat):Int)>4)))=true then
  some false
 else
  (LO n a.Print).bind λ d=>
  if(d.2 != 0)=true then
   some false
  else
   if((((decide (a.Left<1))||(decide (a.Left>63)))||(decide (a.Right<1)))||(decide (a.Right>63)))=true then
    some false
   else
    if((((decide (a.From<0))||(decide (a.From>=b)))||(decide (a.To<0)))||(decide (a.To>=b)))=true then
     some false
    else
     (Gq n a.Print).bind λ e=>
     if e=true then
      (if((((a.Print.length:Nat):Int)==1)&&(((a.Cells.length:Nat):Int)==1))=true then idx a.Cells 0 else some default).bind λ f=>
      some (((((a.Print.length:Nat):Int)==1)&&(((a.Cells.length:Nat):Int)==1))&&(f==0))
     else
      (whl (λ (x:Int)=>Gr n a x) n 0).bind λ g=>
      match g with
      | Sum.inl _=>
       some true
      | Sum.inr c=>
       some c
def Gs (_:Nat) (b:(List Int)) (c:(List Int)) (a:Int):Option (Int⊕(Unit⊕Bool)):=
 if decide (a<((b.length:Nat):Int))=true then
  (idx b a).bind λ d=>
  (idx c a).bind λ e=>
  if(d != e)=true then
   some (.inr (.inr false))
  else
   some (.inl (Ba .i64 a 1))
 else
  some (.inr (.inl ()))
def Ke (n:Nat) (a:(List Int)) (b:(List Int)):Option Bool:=
 if(((a.length:Nat):Int) != ((b.length:Nat):Int))=true then
  some false
 else
  (whl (λ (x:Int)=>Gs n a b x) n 0).bind λ c=>
  match c with
  | Sum.inl _=>
   some true
  | Sum.inr d=>
   some d
def Kf (n:Nat) (a:AF) (b:AF):Option Bool:=
 (if(((((a.From==b.From)&&(a.To==b.To))&&(a.Left==b.Left))&&(a.Right==b.Right))&&(a.Print==b.Print))=true then Ke n a.Cells b.Cells else some default).bind λ c=>
 some ((((((a.From==b.From)&&(a.To==b.To))&&(a.Left==b.Left))&&(a.Right==b.Right))&&(a.Print==b.Print))&&c)
def EZ (n:Nat) (_:Ab) (b:Int) (d:AF) (c:(List AF)) (a:Int):Option (Int⊕(Unit⊕(Int×Int))):=
 if decide (a<((c.length:Nat):Int))=true then
  (idx c a).bind λ e=>
  (Kf n e d).bind λ f=>
  if f=true then
   some (.inr (.inr (b,20)))
  else
   some (.inl (Ba .i64 a 1))
 else
  some (.inr (.inl ()))
def E0 (n:Nat) (b:Ab) (a:Int):Option (Int⊕(Unit⊕(Int×Int))):=
 if decide (a<((b.Rules.length:Nat):Int))=true then
  (idx b.Rules a).bind λ e=>
  (Kd n e b.Modes).bind λ f=>
  if(!f)=true then
   some (.inr (.inr (a,20)))
  else
   (sub b.Rules 0 a).bind λ g=>
   (whl (λ (x:Int)=>EZ n b a e g x) n 0).bind λ c=>
   match c with
   | Sum.inl _=>
    some (.inl (Ba .i64 a 1))
   | Sum.inr d=>
    some (.inr (.inr d))
 else
  some (.inr (.inl ()))
def Kg (n:Nat) (a:Ab):Option (Int×Int):=
 if((decide (a.Modes<1))||(decide (a.Modes>8)))=true then
  some ((-1),1)
 else
  (if(!(a.Accept==0))=true then CT (decide (0<=a.Modes))else some default).bind λ _=>
  if((a.Accept==0)||(decide (IntKind.i64.wrap a.Accept>=Oo .i64 1 a.Modes)))=true then
   some ((-1),1)
  else
   if((decide (((a.Rules.length:Nat):Int)<1))||(decide (((a.Rules.length:Nat):Int)>64)))=true then
    some ((-1),1)
   else
    (whl (λ (x:Int)=>E0 n a x) n 0).bind λ b=>
    match b with
    | Sum.inl _=>
     some (0,0)
    | Sum.inr c=>
     some c
def Kh (n:Nat) (a:Ab):Option Bool:=
 (Kg n a).bind λ b=>
 some (b.2==0)
def Mr (_:Nat) :Option Ad:=
 some ({ Mode:=0,Last:=0,Need:=63 }:Ad)
def Ik (_:Nat) (b:Int) (a:Int):Option Bool:=
 (if((decide (0<=a))&&(decide (a<8)))=true then CT (decide (0<=a))else some default).bind λ _=>
 some (((decide (0<=a))&&(decide (a<8)))&&((Dp .u8 (JfJ .u8 b a) 1)==1))
def Js (n:Nat) (d:Ab) (a:Ad) (c:Int):Option (Ad×Bool):=
 if((decide (c<0))||(decide (c>=((d.Rules.length:Nat):Int))))=true then
  some (({ Mode:=0,Last:=0,Need:=0 }:Ad),false)
 else
  (idx d.Rules c).bind λ b=>
  (if(!(b.From != a.Mode))=true then Ik n b.Left a.Last else some default).bind λ e=>
  if((b.From != a.Mode)||(!e))=true then
   some (({ Mode:=0,Last:=0,Need:=0 }:Ad),false)
  else
   if(b.Print==[])=true then
    if((Dp .u8 a.Need b.Right)==0)=true then
     some (({ Mode:=0,Last:=0,Need:=0 }:Ad),false)
    else
     some (({ Mode:=b.To,Last:=a.Last,Need:=Dp .u8 a.Need b.Right }:Ad),true)
   else
    (IY b.Print 0).bind λ i=>
    (Gw n i).bind λ f=>
    (Ik n a.Need f).bind λ g=>
    if(!g)=true then
     some (({ Mode:=0,Last:=0,Need:=0 }:Ad),false)
    else
     (IY b.Print (K5 .i64 ((b.Print.length:Nat):Int) 1)).bind λ j=>
     (Gw n j).bind λ h=>
     some (({ Mode:=b.To,Last:=h,Need:=b.Right }:Ad),true)
def C2 (_:Nat) (d:Int) (a:(List Ad)) (c:(List (List Int))) (b:(List (Ad×Int))):Option (((List Ad)×(List (List Int))×(List (Ad×Int))×Int)⊕((List Ad)×(List (List Int))×(List (Ad×Int)))):=
 some (.inl (a,c,b,(Ba .i64 d 1)))
def DZ (n:Nat) (e:Int) (f:Int) (b:(List Ad)) (a:(List (List Int))) (c:(List (Ad×Int))) (d:Int):Option (((List Ad)×(List (List Int))×(List (Ad×Int))×Int)⊕((List Ad)×(List (List Int))×(List (Ad×Int)))):=
 (idx a d).bind λ g=>
 (app 8 g [e]).bind λ h=>
 C2 n f b (List.set a d.toNat h) c
def BU (n:Nat) (g:Ab) (f:Int) (a:(List Ad)) (c:(List (List Int))) (b:(List (Ad×Int))) (d:Int):Option (((List Ad)×(List (List Int))×(List (Ad×Int))×Int)⊕((List Ad)×(List (List Int))×(List (Ad×Int)))):=
 if decide (d<((g.Rules.length:Nat):Int))=true then
  (idx a f).bind λ h=>
  (Js n g h d).bind λ e=>
  if(!e.2)=true then
   C2 n d a c b
  else
   if(!(Option.isSome (BJ e.1 b)))=true then
    (app 24 a [e.1]).bind λ i=>
    (app 24 c [([]:(List Int))]).bind λ j=>
    DZ n f d i j (DV e.1 ((a.length:Nat):Int) b) ((a.length:Nat):Int)
   else
    DZ n f d a c b (Option.getD (BJ e.1 b) 0)
 else
  some (.inr (a,c,b))
def C3 (n:Nat) (f:Ab) (a:(List Ad)) (b:(List (List Int))) (c:(List (Ad×Int))) (d:Int):Option (((List Ad)×(List (List Int))×(List (Ad×Int))×Int)⊕((List Ad)×(List (List Int)))):=
 if decide (d<((a.length:Nat):Int))=true then
  (whl (λ (x:((List Ad)×(List (List Int))×(List (Ad×Int))×Int))=>BU n f d x.1 x.2.1 x.2.2.1 x.2.2.2) n (a,b,c,0)).bind λ e=>
  some (.inl (e.1,e.2.1,e.2.2,(Ba .i64 d 1)))
 else
  some (.inr (a,b))
def FN (n:Nat) (c:Ab):Option ((List Ad)×(List (List Int))):=
 (Mr n).bind λ a=>
 (whl (λ (x:((List Ad)×(List (List Int))×(List (Ad×Int))×Int))=>C3 n c x.1 x.2.1 x.2.2.1 x.2.2.2) n ([a],([[]]:List (List Int)),(DV a 0 []),0)).bind λ b=>
 some (b.1,b.2)
def K8 (n:Nat) (a:Ab):Option (List Ad):=
 (FN n a).bind λ b=>
 some b.1
def FO (n:Nat) (b:Ab) (a:Ad):Option Bool:=
 (if decide (a.Mode<b.Modes)=true then Ik n b.Accept a.Mode else some default).bind λ c=>
 (if((decide (a.Mode<b.Modes))&&c)=true then Ik n a.Need 0 else some default).bind λ d=>
 some (((decide (a.Mode<b.Modes))&&c)&&d)
def E1 (_:Nat) (c:Int) (a:(List Bool)) (b:(List Int)):Option (((List Bool)×(List Int)×Int)⊕((List Bool)×(List Int))):=
 some (.inl (a,b,(Ba .i64 c 1)))
def D2 (n:Nat) (e:Ab) (d:((List Ad)×(List (List Int)))) (a:(List Bool)) (b:(List Int)) (c:Int):Option (((List Bool)×(List Int)×Int)⊕((List Bool)×(List Int))):=
 if decide (c<((d.1.length:Nat):Int))=true then
  (idx d.1 c).bind λ f=>
  (FO n e f).bind λ g=>
  if g=true then
   (idx a c).bind λ _=>
   (put a c true).bind λ h=>
   (app 8 b [c]).bind λ i=>
   E1 n c h i
  else
   E1 n c a b
 else
  some (.inr (a,b))
def E2 (_:Nat) (c:Int) (a:(List Bool)) (b:(List Int)):Option (((List Bool)×(List Int)×Int)⊕((List Bool)×(List Int))):=
 some (.inl (a,b,(Ba .i64 c 1)))
def D3 (n:Nat) (_:((List Ad)×(List (List Int)))) (e:(List Int)) (a:(List Bool)) (b:(List Int)) (c:Int):Option (((List Bool)×(List Int)×Int)⊕((List Bool)×(List Int))):=
 if decide (c<((e.length:Nat):Int))=true then
  (idx e c).bind λ d=>
  (idx a d).bind λ f=>
  if(!f)=true then
   (idx a d).bind λ _=>
   (put a d true).bind λ g=>
   (app 8 b [d]).bind λ h=>
   E2 n c g h
  else
   E2 n c a b
 else
  some (.inr (a,b))
def Gt (n:Nat) (c:((List Ad)×(List (List Int)))) (b:(List Bool)) (a:(List Int)):Option (((List Bool)×(List Int))⊕(List Bool)):=
 if decide (((a.length:Nat):Int)>0)=true then
  (idx a (K5 .i64 ((a.length:Nat):Int) 1)).bind λ e=>
  (sub a 0 (K5 .i64 ((a.length:Nat):Int) 1)).bind λ g=>
  (idx c.2 e).bind λ f=>
  (whl (λ (x:((List Bool)×(List Int)×Int))=>D3 n c f x.1 x.2.1 x.2.2) n (b,g,0)).bind λ d=>
  some (.inl (d.1,d.2))
 else
  some (.inr b)
def Ki (n:Nat) (b:Ab):Option (List Bool):=
 (FN n b).bind λ a=>
 (mkl 1 ((a.1.length:Nat):Int) (false:Bool)).bind λ e=>
 (whl (λ (x:((List Bool)×(List Int)×Int))=>D2 n b a x.1 x.2.1 x.2.2) n (e,([]:List Int),0)).bind λ c=>
 (whl (λ (x:((List Bool)×(List Int)))=>Gt n a x.1 x.2) n (c.1,c.2)).bind λ d=>
 some d
def FP (_:Nat) (d:(List Af)) (b:Af) (a:Int):Option (Int⊕(Unit⊕Int)):=
 if decide (a<((d.length:Nat):Int))=true then
  (idx d a).bind λ c=>
  if((b.Cell==c.Cell)&&((b.Print==c.Print)&&((b.To==c.To)&&true)))=true then
   some (.inr (.inr a))
  else
   some (.inl (Ba .i64 a 1))
 else
  some (.inr (.inl ()))
def OL (n:Nat) (a:(List Af)) (b:Af):Option Int:=
 (whl (λ (x:Int)=>FP n a b x) n 0).bind λ c=>
 match c with
 | Sum.inl _=>
  some (-1)
 | Sum.inr d=>
  some d
def Kj (n:Nat) (a:(List Af)) (b:Af):Option Bool:=
 (OL n a b).bind λ c=>
 some (decide (c>=0))
def DH (_:Nat) (a:(List UInt8)) (b:(List UInt8)):Option (((List UInt8)×(List UInt8))⊕(((List UInt8)×(List UInt8))⊕BR)):=
 if((!(a==[]))&&(!(b==[])))=true then
  (IY a 0).bind λ c=>
  (IY b 0).bind λ d=>
  if(c != d)=true then
   some (.inr (.inr ({ Side:=3,Text:=[] }:BR)))
  else
   (sub a 1 ((a.length:Nat):Int)).bind λ e=>
   (sub b 1 ((b.length:Nat):Int)).bind λ f=>
   some (.inl (e,f))
 else
  some (.inr (.inl (a,b)))
def Cj (n:Nat) (b:(List UInt8)) (c:(List UInt8)):Option BR:=
 (whl (λ (x:((List UInt8)×(List UInt8)))=>DH n x.1 x.2) n (b,c)).bind λ d=>
 match d with
 | Sum.inl a=>
  if(!(a.1==[]))=true then
   some ({ Side:=1,Text:=a.1 }:BR)
  else
   if(!(a.2==[]))=true then
    some ({ Side:=2,Text:=a.2 }:BR)
   else
    some ({ Side:=0,Text:=[] }:BR)
 | Sum.inr e=>
  some e
def E3 (n:Nat) (a:BR) (b:(List UInt8)) (c:(List UInt8)):Option BR:=
 if(a.Side==1)=true then
  (cat a.Text b).bind λ d=>
  Cj n d c
 else
  if(a.Side==2)=true then
   (cat a.Text c).bind λ e=>
   Cj n b e
  else
   if(a.Side==3)=true then
    some a
   else
    Cj n b c
def Cq (_:Nat) (a:Ah):Option Ah:=
 some a
def D4 (n:Nat) (a:Ah):Option Ah:=
 if((decide (a.Pair.A<a.Pair.B))||((a.Pair.A==a.Pair.B)&&(a.Lead.Side != 2)))=true then
  some a
 else
  if(a.Lead.Side==1)=true then
   Cq n ({ Pair:=({ A:=a.Pair.B,B:=a.Pair.A }:Am),Lead:=({ Side:=2,Text:=a.Lead.Text }:BR) }:Ah)
  else
   if(a.Lead.Side==2)=true then
    Cq n ({ Pair:=({ A:=a.Pair.B,B:=a.Pair.A }:Am),Lead:=({ Side:=1,Text:=a.Lead.Text }:BR) }:Ah)
   else
    Cq n ({ Pair:=({ A:=a.Pair.B,B:=a.Pair.A }:Am),Lead:=a.Lead }:Ah)
def Em (_:Nat) (a:(List Int)) (b:Int) (c:Int):Option (((List Int)×Int×Int)⊕(List Int)):=
 if decide (b<c)=true then
  (idx a c).bind λ e=>
  (idx a b).bind λ f=>
  (idx a b).bind λ _=>
  (put a b e).bind λ d=>
  (idx d c).bind λ _=>
  (put d c f).bind λ g=>
  some (.inl (g,(Ba .i64 b 1),(K5 .i64 c 1)))
 else
  some (.inr a)
def Il (n:Nat) (a:(List Int)):Option (List Int):=
 (whl (λ (x:((List Int)×Int×Int))=>Em n x.1 x.2.1 x.2.2) n (a,0,(K5 .i64 ((a.length:Nat):Int) 1))).bind λ b=>
 some b
def Db (_:Nat) (a:(List Int)) (b:(List ((List Ah)×Int))):Option (((List Int)×(List ((List Ah)×Int)))⊕(List Int)):=
 (Q9 b).bind λ g1=>
 if(!List.isEmpty g1.From)=true then
  (app 1 a [g1.Cell]).bind λ c=>
  some (.inl (c,g1.From))
 else
  some (.inr a)
def Ez (n:Nat) (a:Bf):Option (List Int):=
 (whl (λ (x:((List Int)×(List ((List Ah)×Int))))=>Db n x.1 x.2) n (([]:List Int),((a.Nodes,a.Cell)::a.From))).bind λ b=>
 (Il n b).bind λ c=>
 (CT (decide (List.length b=List.length c))).bind λ _=>
 some c
def Eo (_:Nat) (c:(List Int)) (b:(List Int)) (a:Int):Option (Int⊕(Unit⊕Bool)):=
 if decide (a<((b.length:Nat):Int))=true then
  (idx b a).bind λ d=>
  (idx c a).bind λ e=>
  if(e != d)=true then
   some (.inr (.inr false))
  else
   some (.inl (Ba .i64 a 1))
 else
  some (.inr (.inl ()))
def GM (n:Nat) (a:(List Int)) (b:(List Int)):Option Bool:=
 if decide (((a.length:Nat):Int)<((b.length:Nat):Int))=true then
  some false
 else
  (whl (λ (x:Int)=>Eo n a b x) n 0).bind λ c=>
  match c with
  | Sum.inl _=>
   some true
  | Sum.inr d=>
   some d
def CV (_:Nat) (a:(List (List UInt8))) (b:(List UInt8)):Option (List (List UInt8)):=
 if(((a.length:Nat):Int)==0)=true then
  some [b]
 else
  (idx a 0).bind λ c=>
  if(Op.bytesLess b c)=true then
   (idx a 0).bind λ d=>
   some [b,d]
  else
   (idx a 0).bind λ e=>
   if(b==e)=true then
    some a
   else
    (if(!(((a.length:Nat):Int)==1))=true then idx a 1 else some default).bind λ f=>
    if((((a.length:Nat):Int)==1)||(Op.bytesLess b f))=true then
     (idx a 0).bind λ g=>
     some [g,b]
    else
     some a
def CC (_:Nat) (c:Ap) (_:(List Int)) (a:(List (List (List (List UInt8))))) (b:Int):Option (((List (List (List (List UInt8))))×Int)⊕(List (List (List (List UInt8))))):=
 if decide (b<5)=true then
  (idx a b).bind λ _=>
  (mkl 24 ((c.Arcs.length:Nat):Int) ([]:(List (List UInt8)))).bind λ d=>
  (CT (decide ((0:Int)<=b/\b<((5:Nat):Int)))).bind λ _=>
  some (.inl ((List.set a b.toNat d),(Ba .i64 b 1)))
 else
  some (.inr a)
def Dc (_:Nat) (b:Int) (a:(List (List UInt8))):Option (((List (List UInt8))×Int)⊕(List (List UInt8))):=
 some (.inl (a,(Ba .i64 b 1)))
def BZ (n:Nat) (_:Ap) (_:(List Int)) (_:(List (List (List (List UInt8))))) (_:Int) (_:(List (List (List UInt8)))) (_:(List (List (List UInt8)))) (_:Int) (_:(List EO)) (_:Int) (d:EO) (c:(List (List UInt8))) (a:(List (List UInt8))) (b:Int):Option (((List (List UInt8))×Int)⊕(List (List UInt8))):=
 if decide (b<((c.length:Nat):Int))=true then
  (idx c b).bind λ e=>
  (cat d.Print e).bind λ g=>
  (CV n a g).bind λ f=>
  some (.inl (f,(Ba .i64 b 1)))
 else
  some (.inr a)
def B0 (n:Nat) (j:Ap) (g:(List Int)) (a:(List (List (List (List UInt8))))) (c:Int) (k:(List (List (List UInt8)))) (f:(List (List (List UInt8)))) (i:Int) (h:(List EO)) (d:(List (List UInt8))) (b:Int):Option (((List (List UInt8))×Int)⊕(List (List UInt8))):=
 if decide (b<((h.length:Nat):Int))=true then
  (idx h b).bind λ e=>
  (sub g c ((g.length:Nat):Int)).bind λ l=>
  (GM n l e.Cells).bind λ m=>
  if(!m)=true then
   Dc n b d
  else
   (CT (decide (Int.toNat (Bh c 5)≠Int.toNat (Bh (Ba .i64 c ((e.Cells.length:Nat):Int)) 5)))).bind λ _=>
   (idx a (Bh (Ba .i64 c ((e.Cells.length:Nat):Int)) 5)).bind λ o=>
   (CT (decide ((0:Int)<=Bh (Ba .i64 c ((e.Cells.length:Nat):Int)) 5/\Bh (Ba .i64 c ((e.Cells.length:Nat):Int)) 5<((5:Nat):Int)))).bind λ _=>
   (idx o e.To).bind λ p=>
   (whl (λ (x:((List (List UInt8))×Int))=>BZ n j g a c k f i h b e p x.1 x.2) n (d,0)).bind λ q=>
   Dc n b q
 else
  some (.inr d)
def CD (n:Nat) (e:Ap) (f:(List Int)) (c:(List (List (List (List UInt8))))) (g:Int) (h:(List (List (List UInt8)))) (a:(List (List (List UInt8)))) (b:Int) (d:(List (List UInt8))):Option (((List (List (List UInt8)))×Int)⊕(List (List (List (List UInt8))))):=
 (idx e.Arcs b).bind λ i=>
 (whl (λ (x:((List (List UInt8))×Int))=>B0 n e f c g h a b i x.1 x.2) n (d,0)).bind λ j=>
 (idx a b).bind λ _=>
 (put a b j).bind λ k=>
 some (.inl (k,(Ba .i64 b 1)))
def B1 (n:Nat) (f:Ap) (e:(List Int)) (a:(List (List (List (List UInt8))))) (d:Int) (g:(List (List (List UInt8)))) (b:(List (List (List UInt8)))) (c:Int):Option (((List (List (List UInt8)))×Int)⊕(List (List (List (List UInt8))))):=
 if decide (c<((g.length:Nat):Int))=true then
  (if(d==((e.length:Nat):Int))=true then idx f.Accepts c else some default).bind λ h=>
  if((d==((e.length:Nat):Int))&&h)=true then
   CD n f e a d g b c ([[]])
  else
   CD n f e a d g b c ([]:List (List UInt8))
 else
  some (.inr (List.set a (Int.toNat (Bh d 5)) b))
def Dd (n:Nat) (d:Ap) (e:(List Int)) (a:(List (List (List (List UInt8))))) (b:Int):Option (((List (List (List (List UInt8))))×Int)⊕(List (List (List (List UInt8))))):=
 if decide (b>=0)=true then
  (idx a (Bh b 5)).bind λ c=>
  (CT (decide ((0:Int)<=Bh b 5/\Bh b 5<((5:Nat):Int)))).bind λ _=>
  (whl (λ (x:((List (List (List UInt8)))×Int))=>B1 n d e a b c x.1 x.2) n (c,0)).bind λ (f:(List (List (List (List UInt8)))))=>
  some (.inl (f,(K5 .i64 b 1)))
 else
  some (.inr a)
def EA (n:Nat) (b:Ap) (a:(List Int)):Option (List (List UInt8)):=
 (whl (λ (x:((List (List (List (List UInt8))))×Int))=>CC n b a x.1 x.2) n (([[],[],[],[],[]]:List (List (List (List UInt8)))),0)).bind λ (c:(List (List (List (List UInt8)))))=>
 (whl (λ (x:((List (List (List (List UInt8))))×Int))=>Dd n b a x.1 x.2) n (c,((a.length:Nat):Int))).bind λ (d:(List (List (List (List UInt8)))))=>
 (idx d 0).bind λ e=>
 (CT (decide ((0:Int)<=0/\0<((5:Nat):Int)))).bind λ _=>
 (idx e 0).bind λ f=>
 some f
def Dr (_:Nat) (_:Ab) (c:(List Ad)) (_:(List Bool)) (a:(List (Ad×Int))) (b:Int):Option (((List (Ad×Int))×Int)⊕(List (Ad×Int))):=
 if decide (b<((c.length:Nat):Int))=true then
  (idx c b).bind λ d=>
  some (.inl ((DV d b a),(Ba .i64 b 1)))
 else
  some (.inr a)
def EB (_:Nat) (a:Int) (b:Ap):Option ((Ap×Int)⊕Ap):=
 some (.inl (b,(Ba .i64 a 1)))
def CI (n:Nat) (e:Ab) (_:(List Ad)) (h:(List Bool)) (f:(List (Ad×Int))) (d:Int) (i:Ad) (b:Ap) (a:Int):Option ((Ap×Int)⊕Ap):=
 if decide (a<((e.Rules.length:Nat):Int))=true then
  (idx e.Rules a).bind λ g=>
  (Js n e i a).bind λ c=>
  (if c.2=true then idx h (Option.getD (BJ c.1 f) 0)else some default).bind λ j=>
  if(c.2&&j)=true then
   (idx b.Arcs d).bind λ k=>
   (app 48 k [({ Print:=g.Print,Cells:=g.Cells,To:=(Option.getD (BJ c.1 f) 0) }:EO)]).bind λ l=>
   EB n a ({ Arcs:=List.set b.Arcs d.toNat l,Accepts:=b.Accepts,Alive:=b.Alive }:Ap)
  else
   EB n a b
 else
  some (.inr b)
def Ds (n:Nat) (d:Ab) (c:(List Ad)) (f:(List Bool)) (g:(List (Ad×Int))) (b:Ap) (a:Int):Option ((Ap×Int)⊕Ap):=
 if decide (a<((c.length:Nat):Int))=true then
  (idx c a).bind λ e=>
  (FO n d e).bind λ h=>
  (idx b.Accepts a).bind λ _=>
  (put b.Accepts a h).bind λ i=>
  (whl (λ (x:(Ap×Int))=>CI n d c f g a e x.1 x.2) n (({ Arcs:=b.Arcs,Accepts:=i,Alive:=b.Alive }:Ap),0)).bind λ j=>
  some (.inl (j,(Ba .i64 a 1)))
 else
  some (.inr b)
def E4 (n:Nat) (a:Ab):Option Ap:=
 (K8 n a).bind λ b=>
 (Ki n a).bind λ c=>
 (whl (λ (x:((List (Ad×Int))×Int))=>Dr n a b c x.1 x.2) n ([],0)).bind λ d=>
 (mkl 24 ((b.length:Nat):Int) ([]:(List EO))).bind λ e=>
 (mkl 1 ((b.length:Nat):Int) (false:Bool)).bind λ f=>
 (idx c 0).bind λ g=>
 (whl (λ (x:(Ap×Int))=>Ds n a b c d x.1 x.2) n (({ Arcs:=e,Accepts:=f,Alive:=g }:Ap),0)).bind λ h=>
 some h
def KM (_:Nat) (_:Ap):Option Unit:=
 some ()
def DK (_:Nat) (a:(List (Aa×Int))) (b:(List Aa)) (c:(List (Option (List Af)))) (d:Int):Option ((List (Aa×Int))×(List Aa)×(List (Option (List Af)))×Int):=
 some (a,b,c,d)
def Cc (n:Nat) (a:Aa) (_:Ap) (b:(List Aa)) (c:(List (Aa×Int))) (d:(List (Option (List Af)))) (_:(List (Am×An))):Option ((List (Aa×Int))×(List Aa)×(List (Option (List Af)))×Int):=
 if(!(Option.isSome (BJ a c)))=true then
  (app 24 b [a]).bind λ e=>
  (app 24 d [none]).bind λ f=>
  DK n (DV a ((b.length:Nat):Int) c) e f ((b.length:Nat):Int)
 else
  DK n c b d (Option.getD (BJ a c) 0)
def Cd (_:Nat) (d:Ah) (_:Ap) (_:(List Aa)) (_:(List (Aa×Int))) (_:(List (Option (List Af)))) (e:(List (Am×An))) (b:An) (a:Int):Option (Int⊕(Unit⊕((List (Am×An))×Bool))):=
 if decide (a<((Int.toNat b.N:Nat):Int))=true then
  (idx (List.take b.N.toNat ([b.Leads.a0,b.Leads.a1]:List BR)) a).bind λ c=>
  if(((c.Side==d.Lead.Side)&&((c.Text==d.Lead.Text)&&true))||(c.Side==3))=true then
   some (.inr (.inr (e,false)))
  else
   some (.inl (Ba .i64 a 1))
 else
  some (.inr (.inl ()))
def CN (n:Nat) (b:Ah) (d:Ap) (f:(List Aa)) (g:(List (Aa×Int))) (h:(List (Option (List Af)))) (c:(List (Am×An))):Option ((List (Am×An))×Bool):=
 (some (Option.getD (BJ b.Pair c) (⟨0,⟨⟨0,[]⟩,⟨0,[]⟩⟩⟩:An))).bind λ a=>
 (inB (2+1) a.N).bind λ _=>
 (whl (λ (x:Int)=>Cd n b d f g h c a x) n 0).bind λ (i:(Unit⊕((List (Am×An))×Bool)))=>
 match i with
 | Sum.inl _=>
  if(a.N==2)=true then
   some (c,false)
  else
   (idx ([a.Leads.a0,a.Leads.a1]:List BR) a.N).bind λ _=>
   (put ([a.Leads.a0,a.Leads.a1]:List BR) a.N b.Lead).bind λ e=>
   some ((DV b.Pair ({ N:=Ba .i64 a.N 1,Leads:=({ a0:=(List.getD e 0 (⟨0,[]⟩:BR)),a1:=(List.getD e 1 (⟨0,[]⟩:BR)) }:(Ek BR)) }:An) c),true)
 | Sum.inr j=>
  some j
def Bm (_:Nat) (b:Int) (d:(List (Aa×Int))) (a:(List Af)) (e:(List Aa)) (c:(List (Option (List Af)))):Option ((List (Aa×Int))×(List Aa)×(List (Option (List Af)))×(List Af)):=
 (idx c b).bind λ _=>
 (put c b (some a)).bind λ f=>
 some (d,e,f,a)
def De (_:Nat) (b:Int) (c:(List (Aa×Int))) (a:(List Af)) (d:(List Aa)) (e:(List (Option (List Af)))):Option (((List (Aa×Int))×(List Af)×(List Aa)×(List (Option (List Af)))×Int)⊕((List (Aa×Int))×(List Af)×(List Aa)×(List (Option (List Af))))):=
 some (.inl (c,a,d,e,(Ba .i64 b 1)))
def B3 (_:Nat) (_:Int) (_:Ap) (_:(List (Am×An))) (_:(List EO)) (_:(List (Aa×Int))) (_:(List Af)) (_:(List Aa)) (_:(List (Option (List Af)))) (_:Int) (c:EO) (a:(List Int)) (b:Int):Option (((List Int)×Int)⊕(List Int)):=
 if decide (b<((c.Cells.length:Nat):Int))=true then
  (idx c.Cells b).bind λ d=>
  (app 1 a [d]).bind λ e=>
  some (.inl (e,(Ba .i64 b 1)))
 else
  some (.inr a)
def Bi (n:Nat) (m:Int) (d:Ap) (k:(List (Am×An))) (f:(List EO)) (g:(List (Aa×Int))) (a:(List Af)) (h:(List Aa)) (i:(List (Option (List Af)))) (b:Int):Option (((List (Aa×Int))×(List Af)×(List Aa)×(List (Option (List Af)))×Int)⊕((List (Aa×Int))×(List Af)×(List Aa)×(List (Option (List Af))))):=
 if decide (b<((f.length:Nat):Int))=true then
  (idx f b).bind λ e=>
  (whl (λ (x:((List Int)×Int))=>B3 n m d k f g a h i b e x.1 x.2) n (([]:List Int),0)).bind λ j=>
  (idx j 0).bind λ l=>
  (sub j 1 ((j.length:Nat):Int)).bind λ o=>
  (Oq o).bind λ r=>
  (Cc n ({ State:=e.To,Rest:=r }:Aa) d h g i k).bind λ (c:((List (Aa×Int))×(List Aa)×(List (Option (List Af)))×Int))=>
  (Kj n a ({ Cell:=l,Print:=e.Print,To:=c.2.2.2 }:Af)).bind λ p=>
  if(!p)=true then
   (app 32 a [({ Cell:=l,Print:=e.Print,To:=c.2.2.2 }:Af)]).bind λ q=>
   De n b c.1 q c.2.1 c.2.2.1
  else
   De n b c.1 a c.2.1 c.2.2.1
 else
  some (.inr (g,a,h,i))
noncomputable def Dt (n:Nat) (b:Int) (a:Ap) (e:(List Aa)) (h:(List (Aa×Int))) (d:(List (Option (List Af)))) (i:(List (Am×An))):Option ((List (Aa×Int))×(List Aa)×(List (Option (List Af)))×(List Af)):=
 (idx d b).bind λ j=>
 dem (nlO j) λ (o:Bool)=>
 if(!o)=true then
  (idx d b).bind λ k=>
  some (h,e,d,(Option.getD k []))
 else
  (idx e b).bind λ c=>
  if(!(c.Rest==[]))=true then
   (IY c.Rest 0).bind λ p=>
   (sub c.Rest 1 ((c.Rest.length:Nat):Int)).bind λ q=>
   (Cc n ({ State:=c.State,Rest:=q }:Aa) a e h d i).bind λ (f:((List (Aa×Int))×(List Aa)×(List (Option (List Af)))×Int))=>
   (app 32 ([]:List Af) ([({ Cell:=p,Print:=[],To:=f.2.2.2 }:Af)])).bind λ l=>
   Bm n b f.1 l f.2.1 f.2.2.1
  else
   (idx a.Arcs c.State).bind λ m=>
   (whl (λ (x:((List (Aa×Int))×(List Af)×(List Aa)×(List (Option (List Af)))×Int))=>Bi n b a i m x.1 x.2.1 x.2.2.1 x.2.2.2.1 x.2.2.2.2) n (h,([]:List Af),e,d,0)).bind λ (g:((List (Aa×Int))×(List Af)×(List Aa)×(List (Option (List Af)))))=>
   Bm n b g.1 g.2.1 g.2.2.1 g.2.2.2
def Ce (_:Nat) (b:Int) (a:(List (Int×(List Ah)))):Option (((List (Int×(List Ah)))×Int)⊕(List (Int×(List Ah)))):=
 some (.inl (a,(Ba .i64 b 1)))
def BK (n:Nat) (f:Ah) (_:Ap) (_:(List (Am×An))) (_:((List (Aa×Int))×(List Aa)×(List (Option (List Af)))×(List Af))) (_:Int) (c:Af) (e:((List (Aa×Int))×(List Aa)×(List (Option (List Af)))×(List Af))) (a:(List (Int×(List Ah)))) (b:Int):Option (((List (Int×(List Ah)))×Int)⊕(List (Int×(List Ah)))):=
 if decide (b<((e.2.2.2.length:Nat):Int))=true then
  (idx e.2.2.2 b).bind λ d=>
  if(c.Cell != d.Cell)=true then
   Ce n b a
  else
   (E3 n f.Lead c.Print d.Print).bind λ g=>
   (D4 n ({ Pair:=({ A:=c.To,B:=d.To }:Am),Lead:=g }:Ah)).bind λ h=>
   (app 40 (Ca c.Cell a) [h]).bind λ i=>
   Ce n b (DV c.Cell i a)
 else
  some (.inr a)
noncomputable def Cf (n:Nat) (i:Ah) (c:Ap) (j:(List (Am×An))) (h:((List (Aa×Int))×(List Aa)×(List (Option (List Af)))×(List Af))) (a:(List (Int×(List Ah)))) (e:(List (Aa×Int))) (f:(List Aa)) (g:(List (Option (List Af)))) (b:Int):Option (((List (Int×(List Ah)))×(List (Aa×Int))×(List Aa)×(List (Option (List Af)))×Int)⊕((List (Int×(List Ah)))×(List (Aa×Int))×(List Aa)×(List (Option (List Af))))):=
 if decide (b<((h.2.2.2.length:Nat):Int))=true then
  (idx h.2.2.2 b).bind λ k=>
  (Dt n i.Pair.B c f e g j).bind λ (d:((List (Aa×Int))×(List Aa)×(List (Option (List Af)))×(List Af)))=>
  (whl (λ (x:((List (Int×(List Ah)))×Int))=>BK n i c j h b k d x.1 x.2) n (a,0)).bind λ l=>
  some (.inl (l,d.1,d.2.1,d.2.2.1,(Ba .i64 b 1)))
 else
  some (.inr (a,e,f,g))
noncomputable def DL (n:Nat) (d:Ah) (a:Ap) (f:(List (Int×(List Ah)))) (g:(List Aa)) (h:(List (Aa×Int))) (i:(List (Option (List Af)))) (e:(List (Am×An))):Option ((List (Int×(List Ah)))×(List (Aa×Int))×(List Aa)×(List (Option (List Af)))):=
 (Dt n d.Pair.A a g h i e).bind λ (b:((List (Aa×Int))×(List Aa)×(List (Option (List Af)))×(List Af)))=>
 (whl (λ (x:((List (Int×(List Ah)))×(List (Aa×Int))×(List Aa)×(List (Option (List Af)))×Int))=>Cf n d a e b x.1 x.2.1 x.2.2.1 x.2.2.2.1 x.2.2.2.2) n (f,b.1,b.2.1,b.2.2.1,0)).bind λ (c:((List (Int×(List Ah)))×(List (Aa×Int))×(List Aa)×(List (Option (List Af)))))=>
 some (c.1,c.2.1,c.2.2.1,c.2.2.2)
def Df (_:Nat) (a:Ah) (b:Ap) (e:(List Aa)) (_:(List (Aa×Int))) (_:(List (Option (List Af)))) (_:(List (Am×An))):Option Bool:=
 (idx e a.Pair.A).bind λ c=>
 (idx e a.Pair.B).bind λ d=>
 (if(((a.Lead.Side != 0)&&(c.Rest==[]))&&(d.Rest==[]))=true then idx b.Accepts c.State else some default).bind λ f=>
 (if((((a.Lead.Side != 0)&&(c.Rest==[]))&&(d.Rest==[]))&&f)=true then idx b.Accepts d.State else some default).bind λ g=>
 some (((((a.Lead.Side != 0)&&(c.Rest==[]))&&(d.Rest==[]))&&f)&&g)
noncomputable def Bp (n:Nat) (g:Ap) (_:(List (List ((List Ah)×Int)))) (h:(List (Am×An))) (_:(List (List ((List Ah)×Int)))) (_:Int) (g2:Bf) (d:(List (Aa×Int))) (a:(List (Int×(List Ah)))) (e:(List Aa)) (f:(List (Option (List Af)))) (b:Int):Option (((List (Aa×Int))×(List (Int×(List Ah)))×(List Aa)×(List (Option (List Af)))×Int)⊕((List (Aa×Int))×(List (Int×(List Ah)))×(List Aa)×(List (Option (List Af))))):=
 if decide (b<((g2.Nodes.length:Nat):Int))=true then
  (idx g2.Nodes b).bind λ i=>
  (DL n i g a e d f h).bind λ (c:((List (Int×(List Ah)))×(List (Aa×Int))×(List Aa)×(List (Option (List Af)))))=>
  some (.inl (c.2.1,c.1,c.2.2.1,c.2.2.2,(Ba .i64 b 1)))
 else
  some (.inr (d,a,e,f))
def Dg (_:Nat) (b:Int) (c:(List (Am×An))) (a:(List (List ((List Ah)×Int)))):Option (((List (Am×An))×(List (List ((List Ah)×Int)))×Int)⊕(((List (Am×An))×(List (List ((List Ah)×Int))))⊕((List (Aa×Int))×(List (Am×An))×(List Int)×(List Aa)×(List (Option (List Af)))×Bool))):=
 some (.inl (c,a,(Ba .u8 b 1)))
def Cr (_:Nat) (b:Int) (a:Bf) (c:(List (Am×An))):Option ((Bf×(List (Am×An))×Int)⊕((Bf×(List (Am×An)))⊕((List (Aa×Int))×(List (Am×An))×(List Int)×(List Aa)×(List (Option (List Af)))×Bool))):=
 some (.inl (a,c,(Ba .i64 b 1)))
def Bq (n:Nat) (d:Ap) (_:(List (List ((List Ah)×Int)))) (_:Int) (_:Bf) (b:((List (Aa×Int))×(List (Int×(List Ah)))×(List Aa)×(List (Option (List Af))))) (_:(List (List ((List Ah)×Int)))) (f:Int) (a:Bf) (g:(List (Am×An))) (c:Int):Option ((Bf×(List (Am×An))×Int)⊕((Bf×(List (Am×An)))⊕((List (Aa×Int))×(List (Am×An))×(List Int)×(List Aa)×(List (Option (List Af)))×Bool))):=
 if decide (c<((List.length (Ca f b.2.1):Nat):Int))=true then
  (idx (Ca f b.2.1) c).bind λ h=>
  (CN n h d b.2.2.1 b.1 b.2.2.2 g).bind λ e=>
  if(!e.2)=true then
   Cr n c a e.1
  else
   (Df n h d b.2.2.1 b.1 b.2.2.2 e.1).bind λ i=>
   if i=true then
    (Ez n a).bind λ j=>
    some (.inr (.inr (b.1,e.1,j,b.2.2.1,b.2.2.2,true)))
   else
    (app 40 a.Nodes [h]).bind λ k=>
    Cr n c ({ Nodes:=k,From:=a.From,Cell:=a.Cell }:Bf) e.1
 else
  some (.inr (.inl (a,g)))
def Br (n:Nat) (f:Ap) (d:(List (List ((List Ah)×Int)))) (g:Int) (g2:Bf) (h:((List (Aa×Int))×(List (Int×(List Ah)))×(List Aa)×(List (Option (List Af))))) (e:(List (Am×An))) (a:(List (List ((List Ah)×Int)))) (b:Int):Option (((List (Am×An))×(List (List ((List Ah)×Int)))×Int)⊕(((List (Am×An))×(List (List ((List Ah)×Int))))⊕((List (Aa×Int))×(List (Am×An))×(List Int)×(List Aa)×(List (Option (List Af)))×Bool))):=
 if decide (b<63)=true then
  (whl (λ (x:(Bf×(List (Am×An))×Int))=>Bq n f d g g2 h a b x.1 x.2.1 x.2.2) n (({ Nodes:=([]:List Ah),From:=((g2.Nodes,g2.Cell)::g2.From),Cell:=b }:Bf),e,0)).bind λ (i:((Bf×(List (Am×An)))⊕((List (Aa×Int))×(List (Am×An))×(List Int)×(List Aa)×(List (Option (List Af)))×Bool)))=>
  match i with
  | Sum.inl c=>
   if decide (((c.1.Nodes.length:Nat):Int)>0)=true then
    (app 8 a [((c.1.Nodes,c.1.Cell)::c.1.From)]).bind λ (j:(List (List ((List Ah)×Int))))=>
    Dg n b c.2 j
   else
    Dg n b c.2 a
  | Sum.inr k=>
   some (.inr (.inr k))
 else
  some (.inr (.inl (e,a)))
noncomputable def Bs (n:Nat) (e:Ap) (a:(List (List ((List Ah)×Int)))) (h:(List (Aa×Int))) (f:(List (Am×An))) (d:(List (Int×(List Ah)))) (b:(List (List ((List Ah)×Int)))) (i:(List Aa)) (j:(List (Option (List Af)))) (c:Int):Option (((List (Aa×Int))×(List (Am×An))×(List (Int×(List Ah)))×(List (List ((List Ah)×Int)))×(List Aa)×(List (Option (List Af)))×Int)⊕(((List (Aa×Int))×(List (Am×An))×(List (Int×(List Ah)))×(List (List ((List Ah)×Int)))×(List Aa)×(List (Option (List Af))))⊕((List (Aa×Int))×(List (Am×An))×(List Int)×(List Aa)×(List (Option (List Af)))×Bool))):=
 if decide (c<((a.length:Nat):Int))=true then
  (idx a c).bind λ l=>
  (Q9 l).bind λ g2=>
  (whl (λ (x:((List (Aa×Int))×(List (Int×(List Ah)))×(List Aa)×(List (Option (List Af)))×Int))=>Bp n e a f b c g2 x.1 x.2.1 x.2.2.1 x.2.2.2.1 x.2.2.2.2) n (h,([]:(List (Int×(List Ah)))),i,j,0)).bind λ (g:((List (Aa×Int))×(List (Int×(List Ah)))×(List Aa)×(List (Option (List Af)))))=>
  (whl (λ (x:((List (Am×An))×(List (List ((List Ah)×Int)))×Int))=>Br n e a c g2 g x.1 x.2.1 x.2.2) n (f,b,0)).bind λ (m:(((List (Am×An))×(List (List ((List Ah)×Int))))⊕((List (Aa×Int))×(List (Am×An))×(List Int)×(List Aa)×(List (Option (List Af)))×Bool)))=>
  match m with
  | Sum.inl k=>
   some (.inl (g.1,k.1,g.2.1,k.2,g.2.2.1,g.2.2.2,(Ba .i64 c 1)))
  | Sum.inr o=>
   some (.inr (.inr o))
 else
  some (.inr (.inl (h,f,d,b,i,j)))
noncomputable def BV (n:Nat) (h:Ap) (d:(List (Aa×Int))) (e:(List (Am×An))) (a:(List (List ((List Ah)×Int)))) (b:(List (Int×(List Ah)))) (f:(List Aa)) (g:(List (Option (List Af)))):Option (((List (Aa×Int))×(List (Am×An))×(List (List ((List Ah)×Int)))×(List (Int×(List Ah)))×(List Aa)×(List (Option (List Af))))⊕(((List (Aa×Int))×(List (Am×An))×(List Aa)×(List (Option (List Af))))⊕((List (Aa×Int))×(List (Am×An))×(List Int)×(List Aa)×(List (Option (List Af)))×Bool))):=
 if decide (((a.length:Nat):Int)>0)=true then
  (whl (λ (x:((List (Aa×Int))×(List (Am×An))×(List (Int×(List Ah)))×(List (List ((List Ah)×Int)))×(List Aa)×(List (Option (List Af)))×Int))=>Bs n h a x.1 x.2.1 x.2.2.1 x.2.2.2.1 x.2.2.2.2.1 x.2.2.2.2.2.1 x.2.2.2.2.2.2) n (d,e,b,([]:List (List ((List Ah)×Int))),f,g,0)).bind λ (i:(((List (Aa×Int))×(List (Am×An))×(List (Int×(List Ah)))×(List (List ((List Ah)×Int)))×(List Aa)×(List (Option (List Af))))⊕((List (Aa×Int))×(List (Am×An))×(List Int)×(List Aa)×(List (Option (List Af)))×Bool)))=>
  match i with
  | Sum.inl c=>
   some (.inl (c.1,c.2.1,c.2.2.2.1,c.2.2.1,c.2.2.2.2.1,c.2.2.2.2.2))
  | Sum.inr j=>
   some (.inr (.inr j))
 else
  some (.inr (.inl (d,e,f,g)))
noncomputable def CY (n:Nat) (a:Ap) (f:(List Aa)) (g:(List (Aa×Int))) (h:(List (Option (List Af)))) (d:(List (Am×An))):Option ((List (Aa×Int))×(List (Am×An))×(List Int)×(List Aa)×(List (Option (List Af)))×Bool):=
 if(!a.Alive)=true then
  some (g,d,([]:List Int),f,h,false)
 else
  (Cc n ({ State:=0,Rest:=[] }:Aa) a f g h d).bind λ (c:((List (Aa×Int))×(List Aa)×(List (Option (List Af)))×Int))=>
  (Cc n ({ State:=0,Rest:=[] }:Aa) a c.2.1 c.1 c.2.2.1 d).bind λ (b:((List (Aa×Int))×(List Aa)×(List (Option (List Af)))×Int))=>
  (CN n ({ Pair:=({ A:=c.2.2.2,B:=b.2.2.2 }:Am),Lead:=({ Side:=0,Text:=[] }:BR) }:Ah) a b.2.1 b.1 b.2.2.1 d).bind λ i=>
  (whl (λ (x:((List (Aa×Int))×(List (Am×An))×(List (List ((List Ah)×Int)))×(List (Int×(List Ah)))×(List Aa)×(List (Option (List Af)))))=>BV n a x.1 x.2.1 x.2.2.1 x.2.2.2.1 x.2.2.2.2.1 x.2.2.2.2.2) n (b.1,i.1,([((([({ Pair:=({ A:=c.2.2.2,B:=b.2.2.2 }:Am),Lead:=({ Side:=0,Text:=[] }:BR) }:Ah)],0)::[]):(List ((List Ah)×Int)))]),([]:(List (Int×(List Ah)))),b.2.1,b.2.2.1)).bind λ (j:(((List (Aa×Int))×(List (Am×An))×(List Aa)×(List (Option (List Af))))⊕((List (Aa×Int))×(List (Am×An))×(List Int)×(List Aa)×(List (Option (List Af)))×Bool)))=>
  match j with
  | Sum.inl e=>
   some (e.1,e.2.1,([]:List Int),e.2.2.1,e.2.2.2,false)
  | Sum.inr k=>
   some k
noncomputable def Bg (n:Nat) (d:Ab):Option (Cb×Int):=
 (Kh n d).bind λ e=>
 if(!e)=true then
  some (({ Cells:=[],A:=[],B:=[] }:Cb),20)
 else
  (E4 n d).bind λ a=>
  (KM n a).bind λ _=>
  (CY n a ([]:List Aa) [] ([]:List (Option (List Af))) []).bind λ (b:((List (Aa×Int))×(List (Am×An))×(List Int)×(List Aa)×(List (Option (List Af)))×Bool))=>
  if(!b.2.2.2.2.2)=true then
   some (({ Cells:=[],A:=[],B:=[] }:Cb),0)
  else
   (EA n a b.2.2.1).bind λ c=>
   if decide (((c.length:Nat):Int)<2)=true then
    some (({ Cells:=[],A:=[],B:=[] }:Cb),0)
   else
    (idx c 0).bind λ f=>
    (idx c 1).bind λ g=>
    some (({ Cells:=b.2.2.1,A:=f,B:=g }:Cb),50)
def D5 (_:Nat) (b:(List Int)) (c:(List Int)) (a:Int):Option (Int⊕(Unit⊕Bool)):=
 if decide (a<((b.length:Nat):Int))=true then
  (idx b a).bind λ d=>
  (idx c a).bind λ e=>
  if(d != e)=true then
   some (.inr (.inr false))
  else
   some (.inl (Ba .i64 a 1))
 else
  some (.inr (.inl ()))
def CW (n:Nat) (a:(List Int)) (b:(List Int)):Option Bool:=
 if(((a.length:Nat):Int) != ((b.length:Nat):Int))=true then
  some false
 else
  (whl (λ (x:Int)=>D5 n a b x) n 0).bind λ c=>
  match c with
  | Sum.inl _=>
   some true
  | Sum.inr d=>
   some d
def HJ (n:Nat) (a:Cb) (b:Cb):Option Bool:=
 (if((a.A==b.A)&&(a.B==b.B))=true then CW n a.Cells b.Cells else some default).bind λ c=>
 some (((a.A==b.A)&&(a.B==b.B))&&c)
def KN (_:Nat) (b:(List UInt8)) (a:(List UInt8)):Option Bool:=
 (if decide (((b.length:Nat):Int)>=((a.length:Nat):Int))=true then sub b 0 ((a.length:Nat):Int)else some default).bind λ c=>
 some ((decide (((b.length:Nat):Int)>=((a.length:Nat):Int)))&&(c==a))
def KO (n:Nat) (a:(List UInt8)) (b:(List UInt8)):Option Bool:=
 (KN n a b).bind λ c=>
 some c
def CZ (_:Nat) (c:Int) (a:(List (AL×Bool))) (b:(List AL)):Option (((List (AL×Bool))×(List AL)×Int)⊕((List (AL×Bool))×(List AL))):=
 some (.inl (a,b,(Ba .i64 c 1)))
def Gb (n:Nat) (_:Ap) (g:(List Int)) (h:(List UInt8)) (d:AL) (i:(List EO)) (a:(List (AL×Bool))) (b:(List AL)) (e:Int):Option (((List (AL×Bool))×(List AL)×Int)⊕((List (AL×Bool))×(List AL))):=
 if decide (e<((i.length:Nat):Int))=true then
  (idx i e).bind λ c=>
  (sub g d.Cell ((g.length:Nat):Int)).bind λ j=>
  (GM n j c.Cells).bind λ f=>
  (if(!(!f))=true then sub h d.Byte ((h.length:Nat):Int)else some default).bind λ m=>
  (if(!(!f))=true then KO n m c.Print else some default).bind λ k=>
  if((!f)||(!k))=true then
   CZ n e a b
  else
   if(!(Option.getD (BJ ({ Cell:=Ba .i64 d.Cell ((c.Cells.length:Nat):Int),Byte:=Ba .i64 d.Byte ((c.Print.length:Nat):Int),State:=c.To }:AL) a) false))=true then
    (app 24 b [({ Cell:=Ba .i64 d.Cell ((c.Cells.length:Nat):Int),Byte:=Ba .i64 d.Byte ((c.Print.length:Nat):Int),State:=c.To }:AL)]).bind λ l=>
    CZ n e (DV ({ Cell:=Ba .i64 d.Cell ((c.Cells.length:Nat):Int),Byte:=Ba .i64 d.Byte ((c.Print.length:Nat):Int),State:=c.To }:AL) true a) l
   else
    CZ n e a b
 else
  some (.inr (a,b))
def Gc (n:Nat) (d:Ap) (e:(List Int)) (f:(List UInt8)) (c:(List (AL×Bool))) (a:(List AL)):Option (((List (AL×Bool))×(List AL))⊕(Unit⊕Bool)):=
 if decide (((a.length:Nat):Int)>0)=true then
  (idx a (K5 .i64 ((a.length:Nat):Int) 1)).bind λ b=>
  (sub a 0 (K5 .i64 ((a.length:Nat):Int) 1)).bind λ h=>
  (if((b.Cell==((e.length:Nat):Int))&&(b.Byte==((f.length:Nat):Int)))=true then idx d.Accepts b.State else some default).bind λ i=>
  if(((b.Cell==((e.length:Nat):Int))&&(b.Byte==((f.length:Nat):Int)))&&i)=true then
   some (.inr (.inr true))
  else
   (idx d.Arcs b.State).bind λ j=>
   (whl (λ (x:((List (AL×Bool))×(List AL)×Int))=>Gb n d e f b j x.1 x.2.1 x.2.2) n (c,h,0)).bind λ g=>
   some (.inl (g.1,g.2))
 else
  some (.inr (.inl ()))
def Fs (n:Nat) (a:Ap) (b:(List Int)) (c:(List UInt8)):Option Bool:=
 (whl (λ (x:((List (AL×Bool))×(List AL)))=>Gc n a b c x.1 x.2) n ((DV ({ Cell:=0,Byte:=0,State:=0 }:AL) true []),[({ Cell:=0,Byte:=0,State:=0 }:AL)])).bind λ d=>
 match d with
 | Sum.inl _=>
  some false
 | Sum.inr e=>
  some e
def Ft (n:Nat) (b:Ab) (a:Cb):Option Bool:=
 (Kh n b).bind λ e=>
 if((!e)||(a.A==a.B))=true then
  some false
 else
  (E4 n b).bind λ c=>
  (Fs n c a.Cells a.A).bind λ d=>
  (if d=true then Fs n c a.Cells a.B else some default).bind λ f=>
  some (d&&f)
def A6 (_:Nat) (b:(List UInt8)) (c:(List Int)) (a:(Ek Int)):Option AF:=
 some ({ Print:=b,Cells:=c,Left:=63,Right:=63,From:=a.a0,To:=a.a1 }:AF)
def M8 (n:Nat) :Option (List AF):=
 (A6 n [97] [1] ({ a0:=0,a1:=0 }:(Ek Int))).bind λ a=>
 (A6 n [98] [3] ({ a0:=0,a1:=0 }:(Ek Int))).bind λ b=>
 (A6 n [99] [9] ({ a0:=0,a1:=0 }:(Ek Int))).bind λ c=>
 (A6 n [32] [0] ({ a0:=0,a1:=0 }:(Ek Int))).bind λ d=>
 some [a,b,c,d]
def FC (n:Nat) (c:Int) (b:Int) (d:(Ek Int)):Option AF:=
 (A6 n [] [c] d).bind λ a=>
 (CT (decide (0<=b))).bind λ _=>
 some ({ Print:=a.Print,Cells:=a.Cells,Left:=a.Left,Right:=Oo .u8 1 b,From:=a.From,To:=a.To }:AF)
def EK (_:Nat) (a:(List AF)):Option Ab:=
 some ({ Modes:=1,Accept:=1,Rules:=a }:Ab)
def HK (n:Nat) (b:Int):Option Ab:=
 (M8 n).bind λ a=>
 if((Bh b 8)==1)=true then
  (FC n 60 3 ({ a0:=0,a1:=1 }:(Ek Int))).bind λ e=>
  (A6 n [49] [1] ({ a0:=1,a1:=1 }:(Ek Int))).bind λ f=>
  (A6 n [50] [3] ({ a0:=1,a1:=1 }:(Ek Int))).bind λ g=>
  (A6 n [32] [0] ({ a0:=1,a1:=0 }:(Ek Int))).bind λ h=>
  (app 64 a [e,f,g,h]).bind λ i=>
  some ({ Modes:=2,Accept:=3,Rules:=i }:Ab)
 else
  if((Bh b 8)==2)=true then
   (FC n 32 2 ({ a0:=0,a1:=1 }:(Ek Int))).bind λ j=>
   (A6 n [65] [1] ({ a0:=1,a1:=0 }:(Ek Int))).bind λ k=>
   (A6 n [66] [3] ({ a0:=1,a1:=0 }:(Ek Int))).bind λ l=>
   (app 64 a [j,k,l]).bind λ m=>
   some ({ Modes:=2,Accept:=1,Rules:=m }:Ab)
  else
   if((Bh b 8)==3)=true then
    (A6 n [97,98] [7] ({ a0:=0,a1:=0 }:(Ek Int))).bind λ o=>
    (A6 n [97,98,99] [15] ({ a0:=0,a1:=0 }:(Ek Int))).bind λ p=>
    (A6 n [99,97] [4,4] ({ a0:=0,a1:=0 }:(Ek Int))).bind λ q=>
    (app 64 a [o,p,q]).bind λ r=>
    EK n r
   else
    if((Bh b 8)==4)=true then
     (A6 n [45] [1,3] ({ a0:=0,a1:=0 }:(Ek Int))).bind λ s=>
     (app 64 a [s]).bind λ t=>
     EK n t
    else
     if((Bh b 8)==5)=true then
      (A6 n [98] [44] ({ a0:=0,a1:=0 }:(Ek Int))).bind λ c=>
      (A6 n [99,97,98] [44] ({ a0:=0,a1:=0 }:(Ek Int))).bind λ d=>
      (A6 n [45] [36] ({ a0:=0,a1:=0 }:(Ek Int))).bind λ u=>
      (app 64 a [({ Print:=c.Print,Cells:=c.Cells,Left:=17,Right:=c.Right,From:=c.From,To:=c.To }:AF),({ Print:=d.Print,Cells:=d.Cells,Left:=2,Right:=d.Right,From:=d.From,To:=d.To }:AF),u]).bind λ v=>
      EK n v
     else
      if((Bh b 8)==6)=true then
       (FC n 40 1 ({ a0:=0,a1:=1 }:(Ek Int))).bind λ w=>
       (A6 n [225] [1] ({ a0:=1,a1:=0 }:(Ek Int))).bind λ x=>
       (A6 n [226] [3] ({ a0:=1,a1:=0 }:(Ek Int))).bind λ y=>
       (app 64 a [w,x,y]).bind λ z=>
       some ({ Modes:=2,Accept:=1,Rules:=z }:Ab)
      else
       if((Bh b 8)==7)=true then
        (A6 n [45] [1,5] ({ a0:=0,a1:=0 }:(Ek Int))).bind λ A=>
        (A6 n [49] [5,5] ({ a0:=0,a1:=0 }:(Ek Int))).bind λ B=>
        (A6 n [50] [5,9] ({ a0:=0,a1:=0 }:(Ek Int))).bind λ C=>
        (app 64 a [A,B,C]).bind λ E=>
        EK n E
       else
        EK n a
noncomputable def Im (n:Nat) (a:Ab):Option Bool:=
 (Bg n a).bind λ b=>
 some (b.2==0)
noncomputable def GN (n:Nat) :Option Bool:=
 (EY n ([[97],[98]]) ([[1],[3]])).bind λ s=>
 (Bg n s).bind λ b=>
 (EY n ([[97],[98],[99]]) ([[1],[3],[1,3]])).bind λ t=>
 (Bg n t).bind λ a=>
 (EY n ([[98],[97]]) ([[1],[1]])).bind λ u=>
 (Bg n u).bind λ c=>
 (EY n ([[97],[98],[97,98]]) ([[1],[3],[1,3]])).bind λ v=>
 (Bg n v).bind λ e=>
 (EY n ([[97],[98],[99],[100]]) ([[1,3],[1],[3,3],[3]])).bind λ w=>
 (Bg n w).bind λ d=>
 (Bg n ({ Modes:=0,Accept:=0,Rules:=[] }:Ab)).bind λ g=>
 (if((b.2==0)&&(a.2==50))=true then HJ n a.1 ({ Cells:=[1,3],A:=[97,98],B:=[99] }:Cb)else some default).bind λ f=>
 (if((((b.2==0)&&(a.2==50))&&f)&&(c.2==50))=true then HJ n c.1 ({ Cells:=[1],A:=[97],B:=[98] }:Cb)else some default).bind λ h=>
 (if((e.2==0)&&(d.2==50))=true then HJ n d.1 ({ Cells:=[1,3],A:=[97],B:=[98,100] }:Cb)else some default).bind λ i=>
 (EY n ([[97],[98]]) ([[1],[1]])).bind λ o=>
 (if((((((b.2==0)&&(a.2==50))&&f)&&(c.2==50))&&h)&&((((e.2==0)&&(d.2==50))&&i)&&(g.2==20)))=true then Ft n o ({ Cells:=[1,1],A:=[98,97],B:=[97,98] }:Cb)else some default).bind λ k=>
 (if(((((((b.2==0)&&(a.2==50))&&f)&&(c.2==50))&&h)&&((((e.2==0)&&(d.2==50))&&i)&&(g.2==20)))&&k)=true then Ft n o ({ Cells:=[1],A:=[97],B:=[97] }:Cb)else some default).bind λ l=>
 (if((((((((b.2==0)&&(a.2==50))&&f)&&(c.2==50))&&h)&&((((e.2==0)&&(d.2==50))&&i)&&(g.2==20)))&&k)&&(!l))=true then Ft n o ({ Cells:=[1],A:=[97],B:=[99] }:Cb)else some default).bind λ j=>
 (if(((((((((b.2==0)&&(a.2==50))&&f)&&(c.2==50))&&h)&&((((e.2==0)&&(d.2==50))&&i)&&(g.2==20)))&&k)&&(!l))&&(!j))=true then HK n 2 else some default).bind λ p=>
 (if(((((((((b.2==0)&&(a.2==50))&&f)&&(c.2==50))&&h)&&((((e.2==0)&&(d.2==50))&&i)&&(g.2==20)))&&k)&&(!l))&&(!j))=true then Im n p else some default).bind λ m=>
 (if((((((((((b.2==0)&&(a.2==50))&&f)&&(c.2==50))&&h)&&((((e.2==0)&&(d.2==50))&&i)&&(g.2==20)))&&k)&&(!l))&&(!j))&&m)=true then HK n 4 else some default).bind λ q=>
 (if((((((((((b.2==0)&&(a.2==50))&&f)&&(c.2==50))&&h)&&((((e.2==0)&&(d.2==50))&&i)&&(g.2==20)))&&k)&&(!l))&&(!j))&&m)=true then Im n q else some default).bind λ r=>
 some (((((((((((b.2==0)&&(a.2==50))&&f)&&(c.2==50))&&h)&&((((e.2==0)&&(d.2==50))&&i)&&(g.2==20)))&&k)&&(!l))&&(!j))&&m)&&(!r))
def Ho (_:Nat) (a:Int):Option Bool:=
 some ((decide (Dp .u8 a 127>=32))&&(decide (Dp .u8 a 127<=126)))
def He (n:Nat) (b:(List UInt8)) (a:Int):Option (Int⊕(Unit⊕(Int×Int))):=
 if decide (a<((b.length:Nat):Int))=true then
  (IY b a).bind λ d=>
  (Ho n d).bind λ c=>
  if(!c)=true then
   some (.inr (.inr (a,60)))
  else
   some (.inl (Ba .i64 a 1))
 else
  some (.inr (.inl ()))
def LQ (n:Nat) (a:(List UInt8)):Option (Int×Int):=
 (whl (λ (x:Int)=>He n a x) n 0).bind λ b=>
 match b with
 | Sum.inl _=>
  some (((a.length:Nat):Int),0)
 | Sum.inr c=>
  some c
def In (n:Nat) (b:(List UInt8)):Option Bool:=
 (LQ n b).bind λ a=>
 some (a.2==0)
def Ms (_:Nat) (a:Int):Option Bool:=
 some ((Dp .u8 a 127)==32)
def D6 (n:Nat) (c:AF) (a:Bool) (b:Int):Option ((Bool×Int)⊕Bool):=
 if decide (b<((c.Print.length:Nat):Int))=true then
  (if(!a)=true then IY c.Print b else some default).bind λ e=>
  (if(!a)=true then Ms n e else some default).bind λ d=>
  some (.inl ((a||d),(Ba .i64 b 1)))
 else
  some (.inr a)
def Dh (_:Nat) (c:AF) (_:Bool) (a:Bool) (b:Int):Option ((Bool×Int)⊕(Bool⊕Bool)):=
 if decide (b<((c.Cells.length:Nat):Int))=true then
  (idx c.Cells b).bind λ d=>
  if decide (d>=63)=true then
   some (.inr (.inr false))
  else
   (if(!a)=true then idx c.Cells b else some default).bind λ e=>
   some (.inl ((a||(e==0)),(Ba .i64 b 1)))
 else
  some (.inr (.inl a))
def Kk (n:Nat) (a:AF) (b:Int):Option Bool:=
 (In n a.Print).bind λ c=>
 if((((!c)||(decide (((a.Print.length:Nat):Int)>4)))||(decide (((a.Cells.length:Nat):Int)<1)))||(decide (((a.Cells.length:Nat):Int)>4)))=true then
  some false
 else
  if((((((((decide (a.Left<1))||(decide (a.Left>63)))||(decide (a.Right<1)))||(decide (a.Right>63)))||(decide (a.From<0)))||(decide (a.From>=b)))||(decide (a.To<0)))||(decide (a.To>=b)))=true then
   some false
  else
   (whl (λ (x:(Bool×Int))=>D6 n a x.1 x.2) n (false,0)).bind λ d=>
   (whl (λ (x:(Bool×Int))=>Dh n a d x.1 x.2) n (false,0)).bind λ f=>
   match f with
   | Sum.inl e=>
    if(!d)=true then
     some (!e)
    else
     some (((((a.Print.length:Nat):Int)==1)&&(((a.Cells.length:Nat):Int)==1))&&e)
   | Sum.inr g=>
    some g
def Gu (n:Nat) (a:AF) (b:AF):Option Bool:=
 (if(a.Print==b.Print)=true then CW n a.Cells b.Cells else some default).bind λ c=>
 some ((((((a.Print==b.Print)&&c)&&(a.Left==b.Left))&&(a.Right==b.Right))&&(a.From==b.From))&&(a.To==b.To))
def E5 (n:Nat) (c:Ab) (a:Int) (b:Int):Option (Int⊕(Unit⊕(Int×Int))):=
 if decide (b<a)=true then
  (idx c.Rules b).bind λ e=>
  (idx c.Rules a).bind λ f=>
  (Gu n e f).bind λ d=>
  if d=true then
   some (.inr (.inr (a,20)))
  else
   some (.inl (Ba .i64 b 1))
 else
  some (.inr (.inl ()))
def E6 (n:Nat) (b:Ab) (a:Int):Option (Int⊕(Unit⊕(Int×Int))):=
 if decide (a<((b.Rules.length:Nat):Int))=true then
  (idx b.Rules a).bind λ d=>
  (Kk n d b.Modes).bind λ c=>
  if(!c)=true then
   some (.inr (.inr (a,20)))
  else
   (whl (λ (x:Int)=>E5 n b a x) n 0).bind λ e=>
   match e with
   | Sum.inl _=>
    some (.inl (Ba .i64 a 1))
   | Sum.inr f=>
    some (.inr (.inr f))
 else
  some (.inr (.inl ()))
def Kl (n:Nat) (a:Ab):Option (Int×Int):=
 (if(!(((decide (a.Modes<1))||(decide (a.Modes>8)))||(a.Accept==0)))=true then CT (decide (0<=a.Modes))else some default).bind λ _=>
 if((((((decide (a.Modes<1))||(decide (a.Modes>8)))||(a.Accept==0))||(decide (IntKind.i64.wrap a.Accept>=Oo .i64 1 a.Modes)))||(decide (((a.Rules.length:Nat):Int)<1)))||(decide (((a.Rules.length:Nat):Int)>64)))=true then
  some ((-1),1)
 else
  (whl (λ (x:Int)=>E6 n a x) n 0).bind λ b=>
  match b with
  | Sum.inl _=>
   some (0,0)
  | Sum.inr c=>
   some c
def Mt (n:Nat) (b:Ab):Option Bool:=
 (Kl n b).bind λ a=>
 some (a.2==0)
def Io (n:Nat) (b:(List Int)) (a:(List Int)):Option Bool:=
 (if decide (((b.length:Nat):Int)>=((a.length:Nat):Int))=true then sub b 0 ((a.length:Nat):Int)else some default).bind λ d=>
 (if decide (((b.length:Nat):Int)>=((a.length:Nat):Int))=true then CW n d a else some default).bind λ c=>
 some ((decide (((b.length:Nat):Int)>=((a.length:Nat):Int)))&&c)
def Ck (_:Nat) (e:(List (Ps Int))) (_:(List Int)) (_:Bool) (_:Ab) (c:Int) (a:AF) (d:Int):Option ((AF×Int)⊕AF):=
 (idx e c).bind λ f=>
 if decide (d<Ba .i64 1 (IntKind.i64.wrap (Bh f.a0 3)))=true then
  (idx e c).bind λ b=>
  (idx ([b.a0,b.a1,b.a2]:List Int) d).bind λ g=>
  (app 1 a.Cells [Ba .u8 1 (Bh g 4)]).bind λ h=>
  some (.inl (({ Print:=a.Print,Cells:=h,Left:=a.Left,Right:=a.Right,From:=a.From,To:=a.To }:AF),(Ba .i64 d 1)))
 else
  some (.inr a)
def CO (n:Nat) (d:(List (Ps Int))) (c:(List Int)) (e:Bool) (b:Ab) (a:Int):Option ((Ab×Int)⊕Ab):=
 if(((decide (a<((d.length:Nat):Int)))&&(decide (a<((c.length:Nat):Int))))&&(decide (a<8)))=true then
  (idx c a).bind λ f=>
  (Oq [Ba .u8 97 (Bh f 26)]).bind λ h=>
  (whl (λ (x:(AF×Int))=>Ck n d c e b a x.1 x.2) n (({ Print:=h,Cells:=([]:List Int),Left:=63,Right:=63,From:=0,To:=0 }:AF),0)).bind λ g=>
  (app 64 b.Rules [g]).bind λ i=>
  some (.inl (({ Modes:=b.Modes,Accept:=b.Accept,Rules:=i }:Ab),(Ba .i64 a 1)))
 else
  some (.inr b)
def DM (_:Nat) (c:Int) (a:Bool) (b:Int):Option ((Bool×Int×Int)⊕(Bool×Int)):=
 some (.inl (a,b,(Ba .i64 c 1)))
def CP (n:Nat) (a:Int) (e:Int) (b:AF) (d:AF) (c:Bool):Option ((Bool×Int×Int)⊕(Bool×Int)):=
 (if(!(b.Print==d.Print))=true then CW n b.Cells d.Cells else some default).bind λ f=>
 if((!(b.Print==d.Print))&&f)=true then
  DM n e c (if((b.Cells.length:Nat):Int)<a then((b.Cells.length:Nat):Int)else a)
 else
  DM n e c a
def Cl (n:Nat) (_:Bool) (d:Ab) (e:Int) (b:Bool) (a:Int) (c:Int):Option ((Bool×Int×Int)⊕(Bool×Int)):=
 if decide (c<((d.Rules.length:Nat):Int))=true then
  (idx d.Rules e).bind λ f=>
  (idx d.Rules c).bind λ g=>
  (if(e != c)=true then Io n f.Cells g.Cells else some default).bind λ h=>
  if((e != c)&&h)=true then
   CP n a c f g false
  else
   CP n a c f g b
 else
  some (.inr (b,a))
def Cm (n:Nat) (f:Bool) (d:Ab) (a:Bool) (b:Int) (c:Int):Option ((Bool×Int×Int)⊕(Bool×Int)):=
 if decide (c<((d.Rules.length:Nat):Int))=true then
  (whl (λ (x:(Bool×Int×Int))=>Cl n f d c x.1 x.2.1 x.2.2) n (a,b,0)).bind λ e=>
  some (.inl (e.1,e.2,(Ba .i64 c 1)))
 else
  some (.inr (a,b))
noncomputable def E7 (n:Nat) (f:(List (Ps Int))) (g:(List Int)):Option Bool:=
 (GN n).bind λ b=>
 (whl (λ (x:(Ab×Int))=>CO n f g b x.1 x.2) n (({ Modes:=1,Accept:=1,Rules:=([]:List AF) }:Ab),0)).bind λ c=>
 (Mt n c).bind λ e=>
 if(!e)=true then
  some b
 else
  (whl (λ (x:(Bool×Int×Int))=>Cm n b c x.1 x.2.1 x.2.2) n (true,99,0)).bind λ d=>
  (Bg n c).bind λ a=>
  if((d.1&&(a.2 != 0))||((decide (d.2<99))&&((a.2 != 50)||(decide (((a.1.Cells.length:Nat):Int)>d.2)))))=true then
   some false
  else
   some (((a.2==0)||(a.2==50))&&b)
end Go.AI
end
