/- Part 1 of 7 of the proof. -/
import Derived.LoopN
import Derived.Orders
import Derived.Tactics
import Derived.StillTail
import Derived.DefersIn
import Derived.Maps.RangeRun
import Derived.Laws.Cells
import Derived.Laws.Entries
import Derived.ChangeKeysEq
import Derived.Laws.BytesString
import Derived.Laws.Strings
import Derived.Laws.MakeOwn
section
namespace Go.AI
theorem JlE:type_of%@Result.andThen_ok:=@Result.andThen_ok
theorem JlF:type_of%@Option.bind_some:=@Option.bind_some
theorem JlG:type_of%@Sem.run_bind:=@Sem.run_bind
theorem JlH:type_of%@Sem.run_pure:=@Sem.run_pure
theorem JlI:type_of%@Nat.mul_le_mul_right:=@Nat.mul_le_mul_right
theorem JlJ:type_of%@List.all_eq_true:=@List.all_eq_true
theorem JlK:type_of%@Option.getD_some:=@Option.getD_some
theorem JlL:type_of%@List.getElem_mem:=@List.getElem_mem
theorem JlM:type_of%@Bool.not_true:=@Bool.not_true
theorem JlN:type_of%@Bool.not_eq_true:=@Bool.not_eq_true
theorem JlO:type_of%@Nat.le_refl:=@Nat.le_refl
theorem JlP:type_of%@Nat.lt_or_ge:=@Nat.lt_or_ge
theorem JlQ:type_of%@Array.getElem?_setIfInBounds_ne:=@Array.getElem?_setIfInBounds_ne
theorem JlR:type_of%@List.mem_map:=@List.mem_map
theorem JlS:type_of%@List.getElem?_drop:=@List.getElem?_drop
theorem JlT:type_of%@Nat.add_assoc:=@Nat.add_assoc
theorem JlU:type_of%@List.length_map:=@List.length_map
theorem JlV:type_of%@List.map_cons:=@List.map_cons
theorem JlW:type_of%@List.getElem?_cons_zero:=@List.getElem?_cons_zero
theorem JlX:type_of%@List.map_congr_left:=@List.map_congr_left
theorem JlY:type_of%@Bool.or_eq_false_iff:=@Bool.or_eq_false_iff
theorem JlZ:type_of%@List.getElem?_eq_getElem:=@List.getElem?_eq_getElem
theorem Jl0:type_of%@Bool.and_eq_true:=@Bool.and_eq_true
theorem Jl1:type_of%@List.mem_of_getElem?:=@List.mem_of_getElem?
theorem Jl2:type_of%@Option.map_eq_some_iff:=@Option.map_eq_some_iff
theorem Jl3:type_of%@List.getElem?_map:=@List.getElem?_map
theorem Jl4:type_of%@Array.getElem?_eq_getElem:=@Array.getElem?_eq_getElem
theorem Jl5:type_of%@Array.getD_eq_getD_getElem?:=@Array.getD_eq_getD_getElem?
theorem Jl6:type_of%@Nat.eq_of_beq_eq_true:=@Nat.eq_of_beq_eq_true
theorem Jl7:type_of%@List.getElem?_append_left:=@List.getElem?_append_left
theorem Jl8:type_of%@Int.toNat_natCast:=@Int.toNat_natCast
theorem Jl9:type_of%@Option.some.injEq:=@Option.some.injEq
theorem Jma:type_of%@List.getElem?_set_self:=@List.getElem?_set_self
theorem Jmb:type_of%@Bool.false_eq_true:=@Bool.false_eq_true
theorem Jmc:type_of%@Nat.add_mul:=@Nat.add_mul
theorem Jmd:type_of%@Nat.zero_add:=@Nat.zero_add
theorem Jme:type_of%@Nat.le_of_ble_eq_true:=@Nat.le_of_ble_eq_true
theorem Jmf:type_of%@List.getElem?_set_ne:=@List.getElem?_set_ne
theorem Jmg:type_of%@List.length_set:=@List.length_set
theorem Jmh:type_of%@List.getElem?_append_right:=@List.getElem?_append_right
theorem Jmi:type_of%@Bool.or_eq_true:=@Bool.or_eq_true
theorem Jmj:type_of%@List.getElem?_take_of_lt:=@List.getElem?_take_of_lt
theorem Jmk:type_of%@List.getElem?_eq_none:=@List.getElem?_eq_none
inductive D where
 | int (k:IntKind) (n:Int)
 | bool (b:Bool)
 | str (s:List UInt8)
 | nil
 | sl (es:List (List D))
 | nilp
 | nilm
 | nilf
 | po (l:List (List D))
inductive AV where
 | d (x:D)
 | agg (l:List AV)
 | tup (l:List AV)
 | ptr (k off:Nat)
 | eptr (k sz i off:Nat)
 | dptr (e:List D) (off:Nat)
 | osl (k sz lo n:Nat)
 | bsl (k off sz n:Nat)
 | own (sz:Nat) (es:List (List D))
 | mp (k:Nat)
 | ifc (t:Nat) (v:AV)
 | clo (f:Nat) (l:List AV)
 | yld (k:Nat)
 | gv (g:Bool) (v:AV)
 | top
structure ZF where
 n:Nat
 ps:List Nat
 asg:Code
 body:Code
 js:List Code
inductive Ob where
 | box (cells:List AV)
 | arr (sz:Nat) (es:List (List D))
 | narr (sz:Nat) (es:List (List AV))
 | map (ka va:Bool) (ents:List (List D×List D))
 | cut (k sz:Nat) (xs:List (Nat×Nat))
 | lp (d:ZF) (ts:List Nat) (vs:List AV) (j:Nat)
 | iter (ka va:Bool) (cur:Option (List D×List D)) (left:List (List D×List D))
 | nmp (ka:Bool) (dv:AV) (ents:List (List D×AV))
inductive TK where
 | int (k:IntKind)|bool|string
 | struct (offs:List (Nat×Nat))
 | slice (esz ebytes:Nat) (ezero:List D)
 | array (n esz:Nat)
 | map (ks:List TK) (ka va:Bool) (vz:List D)
 | other
structure Ty where
 ok:Bool
 eqk:List TK
 size:Nat
 agg:Bool
 zero:List D
 kind:TK
structure St where
 env:List (Nat×AV)
 objs:List (Option Ob)
structure Eff where
 v:AV
 obs:List Ob
 rm:List Nat
 upd:Option (Nat×Ob)
 ob:Prop
def lkA:List (Nat×AV)->Nat->AV
 | [],_=>.top
 | (k,v)::r,t=>bif Nat.beq k t then v else lkA r t
def V1:Value->AV
 | .int k n=>.d (.int k n)
 | .bool b=>.d (.bool b)
 | .string s=>.d (.str s.data.toList)
 | .slice none 0 0=>.d .nil
 | .pointer none=>.d .nilp
 | _=>.top
def Al (env:List (Nat×AV)):Operand->AV
 | .tmp t=>lkA env t
 | .const v=>V1 v
 | .func f=>.clo f []
 | _=>.top
def obA (objs:List (Option Ob)) (k:Nat):Option Ob:=
 match objs[k]? with
 | some (some o)=>some o
 | _=>none
def Ar:AV->List AV
 | .agg l=>l
 | v=>[v]
def CG:AV->Bool
 | .d _=>true
 | .ptr _ _=>true
 | .eptr _ _ _ _=>true
 | .dptr _ _=>true
 | .osl _ _ _ _=>true
 | .bsl _ _ _ _=>true
 | .mp _=>true
 | .clo _ _=>true
 | _=>false
def Bz:AV->Bool
 | .agg _=>true
 | v=>CG v
def val (v:AV):Option Eff:=some ⟨v,[],[],none,True⟩
def A9 (v:AV) (ob:Prop):Option Eff:=some ⟨v,[],[],none,ob⟩
def CA (cells:List AV) (off:Nat) (t:Ty):Option AV:=
 bif t.agg then some (.agg ((cells.drop off).take t.size))else cells[off]?
def splice (cells:List AV) (off:Nat):List AV->List AV
 | []=>cells
 | v::vs=>splice (cells.set off v) (off+1) vs
def Gm (cells:List D) (off:Nat):List D->List D
 | []=>cells
 | v::vs=>Gm (cells.set off v) (off+1) vs
structure Rd (α:Type) where
 x:α
 ks:List Nat
 ob:Prop
def IS (objs:List (Option Ob)):AV->Option (Rd D)
 | .d .nil=>some ⟨.sl [],[],True⟩
 | .d x=>some ⟨x,[],True⟩
 | .osl k sz lo n=>match obA objs k with
  | some (.arr sz' es)=>bif Nat.beq sz sz' then some ⟨.sl ((es.drop lo).take n),[k],lo+n<=es.length⟩else none
  | _=>none
 | _=>none
def D0 (objs:List (Option Ob)):List AV->Option (Rd (List D))
 | []=>some ⟨[],[],True⟩
 | v::vs=>match IS objs v,D0 objs vs with
  | some r,some rs=>some ⟨r.x::rs.x,r.ks++rs.ks,r.ob/\rs.ob⟩
  | _,_=>none
def FY (objs:List (Option Ob)):AV->Option (List (List D)×Prop)
 | .d .nil=>some ([],True)
 | .d (.sl es)=>some (es,True)
 | .d (.str s)=>some (s.map λ b=>[D.int .u8 b.toNat],True)
 | .osl k sz lo n=>match obA objs k with
  | some (.arr sz' es)=>bif Nat.beq sz sz' then some ((es.drop lo).take n,lo+n<=es.length)else none
  | _=>none
 | _=>none
def V2 (op:BinOp) (k:IntKind) (a b:Int):Option Eff:=
 match op with
 | .add=>val (.d (.int k (k.wrap (a+b))))
 | .sub=>val (.d (.int k (k.wrap (a-b))))
 | .mul=>val (.d (.int k (k.wrap (a*b))))
 | .quo=>A9 (.d (.int k (k.wrap (a.tdiv b)))) (b≠0)
 | .rem=>A9 (.d (.int k (a.tmod b))) (b≠0)
 | .and=>val (.d (.int k (k.wrap (BitVec.ofInt k.bits a &&& BitVec.ofInt k.bits b).toNat)))
 | .or=>val (.d (.int k (k.wrap (BitVec.ofInt k.bits a ||| BitVec.ofInt k.bits b).toNat)))
 | .xor=>val (.d (.int k (k.wrap (BitVec.ofInt k.bits a ^^^ BitVec.ofInt k.bits b).toNat)))
 | .andNot=>val (.d (.int k (k.wrap (BitVec.ofInt k.bits a &&& ~~~BitVec.ofInt k.bits b).toNat)))
 | .eql=>val (.d (.bool (a==b)))
 | .neq=>val (.d (.bool (a != b)))
 | .lss=>val (.d (.bool (decide (a<b))))
 | .leq=>val (.d (.bool (decide (a<=b))))
 | .gtr=>val (.d (.bool (decide (a>b))))
 | .geq=>val (.d (.bool (decide (a>=b))))
 | _=>none
def NI (op:BinOp) (k:IntKind) (a b:Int):Option Eff:=
 match op with
 | .shl=>A9 (.d (.int k (k.wrap (a*2 ^ (min b.toNat k.bits))))) (0<=b)
 | .shr=>A9 (.d (.int k (a.fdiv (2 ^ (min b.toNat k.bits))))) (0<=b)
 | _=>none
def Um (op:BinOp) (x y:List UInt8):Option Eff:=
 match op with
 | .add=>A9 (.d (.str (x++y))) (((x.length+y.length:Nat):Int)<=IntKind.i64.max)
 | .eql=>val (.d (.bool (x==y)))
 | .neq=>val (.d (.bool !(x==y)))
 | .lss=>val (.d (.bool (Op.bytesLess x y)))
 | .leq=>val (.d (.bool (Op.bytesLess x y||x==y)))
 | .gtr=>val (.d (.bool !(Op.bytesLess x y||x==y)))
 | .geq=>val (.d (.bool !(Op.bytesLess x y)))
 | _=>none
def Az:List TK->List AV->List AV->Option Bool
 | [],[],[]=>some true
 | .int _::ks,.d (.int k a)::xs,.d (.int k' b)::ys=>match Az ks xs ys with
  | some r=>bif k==k' then some ((a==b)&&r)else none
  | none=>none
 | .bool::ks,.d (.bool a)::xs,.d (.bool b)::ys=>match Az ks xs ys with
  | some r=>some ((a==b)&&r)
  | none=>none
 | .string::ks,.d (.str a)::xs,.d (.str b)::ys=>match Az ks xs ys with
  | some r=>some ((a==b)&&r)
  | none=>none
 | _,_,_=>none
def Yc (t:Ty) (op:BinOp) (x y:AV):Option Eff:=
 match x,y with
 | .d (.int k a),.d (.int k' b)=>
  match op with
  | .shl=>NI op k a b
  | .shr=>NI op k a b
  | _=>bif k==k' then V2 op k a b else none
 | .d (.str a),.d (.str b)=>Um op a b
 | .d (.bool a),.d (.bool b)=>match t.kind with
  | .bool=>bif t.ok then(match op with
   | .eql=>val (.d (.bool (a==b)))
   | .neq=>val (.d (.bool !(a==b)))
   | _=>none)else none
  | _=>none
 | .agg a,.agg b=>bif !t.eqk.isEmpty&&t.ok then(match op,Az t.eqk a b with
  | .eql,some r=>val (.d (.bool r))
  | .neq,some r=>val (.d (.bool !r))
  | _,_=>none)else none
 | _,_=>none
def Il:AV->Option Int
 | .d (.int _ n)=>some n
 | _=>none
def BK (ev:Operand->AV) (dflt:Int):Option Operand->Option Int
 | none=>some dflt
 | some o=>Il (ev o)
def GZ (sz:Nat):Nat->List D->List (List D)
 | 0,_=>[]
 | n+1,l=>l.take sz::GZ sz n (l.drop sz)
def Pz (kind:TK) (ev:Operand->AV) (x:AV) (lo hi:Option Operand):Option Eff:=
 match kind,x with
 | .string,.d (.str s)=>match BK ev 0 lo,BK ev s.length hi with
  | some l,some h=>A9 (.d (.str ((s.take h.toNat).drop l.toNat))) (0<=l/\l<=h/\h<=s.length)
  | _,_=>none
 | .slice esz _ _,.d (.sl es)=>match BK ev 0 lo,BK ev es.length hi with
  | some l,some h=>A9 (.d (.sl ((es.take h.toNat).drop l.toNat))) (0<=l/\l<=h/\h<=es.length/\∀ e∈es,e.length=esz)
  | _,_=>none
 | .slice _ _ _,.d .nil=>match BK ev 0 lo,BK ev 0 hi with
  | some l,some h=>A9 (.d .nil) (0<=l/\l<=h/\h<=0)
  | _,_=>none
 | .slice esz _ _,.osl k sz o n=>match BK ev 0 lo,BK ev n hi with
  | some l,some h=>A9 (.osl k sz (o+l.toNat) (h.toNat-l.toNat)) (0<=l/\l<=h/\h<=n/\sz=esz)
  | _,_=>none
 | .array n esz,.ptr k off=>match lo,BK ev n hi with
  | none,some h=>A9 (.bsl k off esz h.toNat) (0<=h/\h<=n)
  | _,_=>none
 | .array n esz,.dptr e off=>match lo,hi with
  | none,none=>A9 (.d (.sl (GZ esz n (e.drop off)))) (off+n*esz<=e.length)
  | _,_=>none
 | _,_=>none
def IT (kind:TK) (ev:Operand->AV) (x:AV) (lo:Option Operand) (hi mx:Operand):Option Eff:=
 match kind,x with
 | .slice esz _ _,.osl k sz o n=>match BK ev 0 lo,Il (ev hi),Il (ev mx)with
  | some l,some h,some m=>A9 (.osl k sz (o+l.toNat) (h.toNat-l.toNat)) (0<=l/\l<=h/\h<=m/\m<=n/\sz=esz)
  | _,_,_=>none
 | _,_=>none
def Rw (kind:TK) (x:AV) (i:Int):Option Eff:=
 match kind,x with
 | .slice esz _ _,.osl k sz lo n=>A9 (.eptr k sz (lo+i.toNat) 0) (0<=i/\i<n/\sz=esz)
 | .slice esz _ _,.bsl k off sz n=>A9 (.ptr k (off+i.toNat*sz)) (0<=i/\i<n/\sz=esz)
 | .slice esz _ _,.d (.sl es)=>A9 (.dptr (es[i.toNat]?.getD []) 0) (0<=i/\i<es.length/\(es[i.toNat]?.getD []).length=esz)
 | .array n esz,.ptr k off=>A9 (.ptr k (off+i.toNat*esz)) (0<=i/\i<n)
 | .array n esz,.eptr k sz j off=>A9 (bif Nat.beq esz sz then .eptr k sz (j+i.toNat) off else .eptr k sz j (off+i.toNat*esz)) (0<=i/\i<n)
 | .array n esz,.dptr e off=>A9 (.dptr e (off+i.toNat*esz)) (0<=i/\i<n)
 | _,_=>none
def Kf (kind:TK) (f:Nat) (x:AV):Option Eff:=
 match kind with
 | .struct offs=>match offs[f]? with
  | some (o,_)=>match x with
   | .ptr k off=>val (.ptr k (off+o))
   | .eptr k sz i off=>val (.eptr k sz i (off+o))
   | .dptr e off=>val (.dptr e (off+o))
   | _=>none
  | none=>none
 | _=>none
def PA (kind:TK) (f:Nat) (x:AV):Option Eff:=
 match kind with
 | .struct offs=>match offs[f]? with
  | some (o,1)=>match x with
   | .agg l=>match l[o]? with
    | some v=>val v
    | none=>none
   | _=>none
  | _=>none
 | _=>none
def CX (t:Ty) (objs:List (Option Ob)):AV->Option Eff
 | .ptr k off=>match obA objs k with
  | some (.box cells)=>match CA cells off t with
   | some v=>A9 v (off+t.size<=cells.length)
   | none=>none
  | _=>none
 | .eptr k sz i off=>match obA objs k with
  | some (.arr sz' es)=>match CA ((es[i]?.getD []).map .d) off t with
   | some v=>A9 v (sz=sz'/\i<es.length/\off+t.size<=(es[i]?.getD []).length)
   | none=>none
  | some (.narr sz' es)=>match CA (es[i]?.getD []) off t with
   | some v=>A9 v (sz=sz'/\i<es.length/\off+t.size<=(es[i]?.getD []).length/\(Ar v).all CG=true)
   | none=>none
  | _=>none
 | .dptr e off=>match CA (e.map .d) off t with
  | some v=>A9 v (off+t.size<=e.length)
  | none=>none
 | _=>none
def EO (t:Ty) (objs:List (Option Ob)) (a v:AV):Option Eff:=
 match a with
 | .ptr k off=>match obA objs k with
  | some (.box cells)=>bif Bz v&&(Ar v).all CG then some ⟨.top,[],[],some (k,.box (splice cells off (Ar v))),(Ar v).length=t.size/\off+t.size<=cells.length⟩else none
  | _=>none
 | .eptr k sz i off=>match obA objs k,D0 objs (Ar v)with
  | some (.narr sz' es),_=>bif Bz v&&(Ar v).all CG then some ⟨.top,[],[],some (k,.narr sz' (es.set i (splice (es[i]?.getD []) off (Ar v)))),sz=sz'/\(Ar v).length=t.size/\i<es.length/\off+t.size<=sz⟩else none
  | some (.arr sz' es),some r=>bif Bz v&&(Ar v).all CG&&!r.ks.contains k then some ⟨.top,[],r.ks,some (k,.arr sz' (es.set i (Gm (es[i]?.getD []) off r.x))),sz=sz'/\r.x.length=t.size/\i<es.length/\off+t.size<=sz/\r.ob⟩else none
  | _,_=>none
 | _=>none
def toN:D->AV
 | .nil=>.own 0 []
 | x=>.d x
def Ct (esz ebytes:Nat) (objs:List (Option Ob)) (s:AV) (ys:List (List D)) (ob:Prop):Option Eff:=
 match s with
 | .d .nil=>some ⟨.osl objs.length esz 0 ys.length,[.arr esz ys],[],none,(∀ e∈ys,e.length=esz)/\ys.length*ebytes<=70368744177664/\ob⟩
 | .osl k sz lo n=>match obA objs k with
  | some (.arr sz' es)=>bif Nat.beq sz sz'&&(Nat.beq sz esz||Nat.beq sz 0)then some ⟨.osl objs.length esz 0 (n+ys.length),[.arr esz ((es.drop lo).take n++ys)],[k],none,lo+n<=es.length/\(∀ e∈ys,e.length=esz)/\(n+ys.length)*ebytes<=70368744177664/\ob⟩else none
  | some (.narr sz' es)=>bif Nat.beq sz sz'&&Nat.beq sz esz&&Nat.beq lo 0 then some ⟨.osl objs.length esz 0 (n+ys.length),[.narr esz (es.take n++ys.map λ e=>e.map toN)],[k],none,n<=es.length/\(∀ e∈ys,e.length=esz)/\(n+ys.length)*ebytes<=70368744177664/\ob⟩else none
  | _=>none
 | _=>none
def V3 (kind:TK) (x:AV):Option Eff:=
 match kind,x with
 | .string,.d (.str s)=>val (.d (.int .i64 s.length))
 | .slice _ _ _,.d .nil=>val (.d (.int .i64 0))
 | .slice _ _ _,.d (.sl es)=>val (.d (.int .i64 es.length))
 | .slice _ _ _,.osl _ _ _ n=>val (.d (.int .i64 n))
 | .slice _ _ _,.bsl _ _ _ n=>val (.d (.int .i64 n))
 | _,_=>none
def Mk:List D->UInt8
 | [.int _ n]=>UInt8.ofNat n.toNat
 | _=>0
def NJ (e:List D):Prop:=∃ b:UInt8,e=[.int .u8 b.toNat]
def ML (src dst:TK) (x:AV):Option Eff:=
 match src,dst,x with
 | .slice 1 _ [.int .u8 0],.string,x=>match FY [] x with
  | some (es,ob)=>A9 (.d (.str (es.map Mk))) (ob/\∀ e∈es,NJ e)
  | none=>none
 | .int _,.int k,.d (.int _ n)=>val (.d (.int k (k.wrap n)))
 | _,.string,.d (.str s)=>val (.d (.str s))
 | _,_,_=>none
def eqK (ks:List TK) (a b:List D):Bool:=(Az ks (a.map .d) (b.map .d)).getD false
def Hx {β:Type} (ks:List TK) (key:List D):List (List D×β)->Option β
 | []=>none
 | p::r=>bif eqK ks key p.1 then some p.2 else Hx ks key r
def JX {β:Type} (ks:List TK) (key:List D) (v:β):List (List D×β)->List (List D×β)
 | []=>[(key,v)]
 | p::r=>bif eqK ks key p.1 then(key,v)::r else p::JX ks key v r
def E7 {β:Type} (ks:List TK) (key:List D) (ents:List (List D×β)):Prop:=(Az ks (key.map .d) (key.map .d)).isSome=true/\∀ p∈ents,(Az ks (key.map .d) (p.1.map .d)).isSome=true
def kvA (objs:List (Option Ob)) (agg:Bool) (v:AV):Option (Rd (List D)):=
 match v with
 | .agg l=>bif agg then D0 objs l else none
 | v=>bif agg then none else D0 objs [v]
def kvV (agg:Bool) (cs:List D):AV:=bif agg then .agg (cs.map .d)else .d (cs.headD .nilp)
def Jc6:List D->Bool
 | [.nil]=>true
 | _=>false
def FT (kind:TK) (objs:List (Option Ob)) (m key:AV) (commaOk:Bool):Option Eff:=
 match kind,m with
 | .map ks ka va vz,.mp k=>match obA objs k,kvA objs ka key with
  | some (.map ka' va' ents),some r=>bif r.ks.isEmpty&&(ka==ka')&&(va==va')then
    A9 (bif commaOk then .tup [kvV va ((Hx ks r.x ents).getD vz),.d (.bool (Hx ks r.x ents).isSome)]else kvV va ((Hx ks r.x ents).getD vz)) (r.ob/\E7 ks r.x ents)else none
  | some (.nmp ka' dv ents),some r=>bif r.ks.isEmpty&&(ka==ka')&&!va&&!commaOk&&Jc6 vz&&CG ((Hx ks r.x ents).getD dv)then A9 ((Hx ks r.x ents).getD dv) (r.ob/\E7 ks r.x ents)else none
  | _,_=>none
 | _,_=>none
def G8 (kind:TK) (objs:List (Option Ob)) (m key v:AV):Option Eff:=
 match kind,m with
 | .map ks ka va vz,.mp k=>match obA objs k,kvA objs ka key,kvA objs va v with
  | some (.map ka' va' ents),some r,some s=>bif r.ks.isEmpty&&(ka==ka')&&(va==va')then
    some ⟨.top,[],s.ks,some (k,.map ka va (JX ks r.x s.x ents)),r.ob/\s.ob/\E7 ks r.x ents/\k ∉ s.ks/\s.x.length=vz.length⟩else none
  | some (.nmp ka' dv ents),some r,_=>bif r.ks.isEmpty&&(ka==ka')&&!va&&CG v then some ⟨.top,[],[],some (k,.nmp ka dv (JX ks r.x v ents)),r.ob/\E7 ks r.x ents⟩else none
  | _,_,_=>none
 | _,_=>none
def R8 (place:Nat->Option (Nat×Nat)) (cells:List AV):List (Nat×AV)->Option (List AV)
 | []=>some cells
 | (i,v)::rest=>match place i with
  | none=>none
  | some (off,size)=>bif Bz v&&(Ar v).length==size&&decide (off+size<=cells.length)then R8 place (splice cells off (Ar v)) rest else none
def V4 (t:Ty) (parts:List (Nat×AV)):Option AV:=
 match t.kind with
 | .struct offs=>match R8 (λ i=>offs[i]?) (t.zero.map .d) parts with
  | some cs=>some (.agg cs)
  | none=>none
 | .array _ esz=>match R8 (λ i=>some (i*esz,esz)) (t.zero.map .d) parts with
  | some cs=>some (.agg cs)
  | none=>none
 | _=>none
def Yd (objs:List (Option Ob)):AV->Option (Rd (List D))
 | .d .nil=>some ⟨[.nil],[],True⟩
 | v=>D0 objs (Ar v)
theorem IU {objs:List (Option Ob)} {v:AV} {r:Rd (List D)} (h:Yd objs v=some r):(v=.d .nil/\r=⟨[.nil],[],True⟩)\/D0 objs (Ar v)=some r:=by
 unfold Yd at h;split at h
 ·cases h;exact .inl ⟨rfl,rfl⟩
 ·exact .inr h
def Im (objs:List (Option Ob)) (esz:Nat) (es:List (List D)):List (Nat×AV)->Option (Rd (List (List D)))
 | []=>some ⟨es,[],True⟩
 | (i,v)::rest=>match Yd objs v with
  | some r=>bif Bz v&&r.x.length==esz&&decide (i<es.length)then(match Im objs esz (es.set i r.x) rest with|some r'=>some ⟨r'.x,r.ks++r'.ks,r.ob/\r'.ob⟩|none=>none)else none
  | none=>none
def unP (g:Bool):AV->Option (Bool×Prop)
 | .d (.bool x)=>some (x,True)
 | .gv g' (.d (.bool x))=>some (x,g=true->g'=true)
 | _=>none
def Un:AV->Option (Bool×Prop)
 | .d (.bool t)=>some (t,True)
 | .gv g (.d (.bool t))=>some (t,g=true)
 | _=>none
def G9 (c a b:AV):Option Eff:=
 match Un c with
 | some (t,r)=>match unP t a,unP (!t) b with
  | some (x,p),some (y,q)=>A9 (.d (.bool (bif t then x else y))) (r/\p/\q)
  | _,_=>none
 | none=>none
def Jfe (isMin:Bool) (k:IntKind) (a:Int):List AV->Option AV
 | []=>some (.d (.int k a))
 | .d (.int _ b)::r=>Jfe isMin k (bif isMin then(if b<a then b else a)else(if b>a then b else a)) r
 | _=>none
def Jc7 (isMin:Bool):List AV->Option AV
 | .d (.int k a)::x::r=>Jfe isMin k a (x::r)
 | _=>none
def opA (Γ:Nat->Ty) (ev:Operand->AV) (objs:List (Option Ob)):Op->Option Eff
 | .move x=>val (ev x)
 | .assign x=>val (ev x)
 | .pick c a b=>G9 (ev c) (ev a) (ev b)
 | .alloc t=>bif (Γ t).ok then some ⟨.ptr objs.length 0,[.box ((Γ t).zero.map .d)],[],none,True⟩else none
 | .box _ v=>bif Bz (ev v)then some ⟨.ptr objs.length 0,[.box (Ar (ev v))],[],none,True⟩else none
 | .build t parts=>bif (Γ t).ok then(match V4 (Γ t) (parts.toList.map λ p=>(p.1,ev p.2))with
  | some v=>val v
  | none=>none)else none
 | .buildSlice t len parts=>bif (Γ t).ok&&decide (len<=1000)then(match (Γ t).kind with
  | .slice esz _ ez=>bif decide (1<=esz)&&decide (esz<=1000)&&ez.length==esz then(match Im objs esz (List.replicate len ez) (parts.toList.map λ p=>(p.1,ev p.2))with
   | some r=>some ⟨.osl objs.length esz 0 len,[.arr esz r.x],r.ks,none,r.ob⟩
   | none=>none)else none
  | _=>none)else none
 | .makeSlice t len cap=>bif (Γ t).ok then(match (Γ t).kind,Il (ev len),Il (ev cap)with
  | .slice esz eb ez,some n,some c=>bif decide (1<=esz)&&decide (1<=eb)then some ⟨.osl objs.length esz 0 n.toNat,[.arr esz (List.replicate n.toNat ez)],[],none,0<=n/\n<=c/\c.toNat*eb<=70368744177664⟩else none
  | _,_,_=>none)else none
 | .makeMap t none=>bif (Γ t).ok then(match (Γ t).kind with
  | .map _ ka va _=>some ⟨.mp objs.length,[.map ka va []],[],none,True⟩
  | _=>none)else none
 | .makeMap t (some h)=>bif (Γ t).ok then(match (Γ t).kind,Il (ev h)with
  | .map _ ka va _,some _=>some ⟨.mp objs.length,[.map ka va []],[],none,True⟩
  | _,_=>none)else none
 | .lookup t m key ok=>bif (Γ t).ok then FT (Γ t).kind objs (ev m) (ev key) ok else none
 | .mapUpdate t m key v=>bif (Γ t).ok then G8 (Γ t).kind objs (ev m) (ev key) (ev v)else none
 | .insert t m key v=>bif (Γ t).ok then G8 (Γ t).kind objs (ev m) (ev key) (ev v)else none
 | .load t a=>bif (Γ t).ok then CX (Γ t) objs (ev a)else none
 | .store t a v=>bif (Γ t).ok then EO (Γ t) objs (ev a) (ev v)else none
 | .nilCheck x=>match ev x with
  | .ptr k off=>val (.ptr k off)
  | .eptr k sz i off=>val (.eptr k sz i off)
  | .dptr e off=>val (.dptr e off)
  | _=>none
 | .binOp op t x y _=>Yc (Γ t) op (ev x) (ev y)
 | .unOp .not _ x=>match ev x with
  | .d (.bool b)=>val (.d (.bool !b))
  | _=>none
 | .unOp .neg _ x=>match ev x with
  | .d (.int k n)=>val (.d (.int k (k.wrap (0-n))))
  | _=>none
 | .convert s t x=>bif (Γ s).ok&&(Γ t).ok then ML (Γ s).kind (Γ t).kind (ev x)else none
 | .slice t x lo hi none=>bif (Γ t).ok then Pz (Γ t).kind ev (ev x) lo hi else none
 | .slice t x lo (some hi) (some mx)=>bif (Γ t).ok then IT (Γ t).kind ev (ev x) lo hi mx else none
 | .fieldAddr s x f=>bif (Γ s).ok then Kf (Γ s).kind f (ev x)else none
 | .indexAddr t x i=>bif (Γ t).ok then(match Il (ev i)with
  | some n=>Rw (Γ t).kind (ev x) n
  | none=>none)else none
 | .index t x i=>bif (Γ t).ok then(match (Γ t).kind,ev x,Il (ev i)with
  | .string,.d (.str s),some n=>A9 (.d (.int .u8 (s[n.toNat]?.getD 0).toNat)) (0<=n/\n<s.length)
  | _,_,_=>none)else none
 | .field s x f=>bif (Γ s).ok then PA (Γ s).kind f (ev x)else none
 | .extract x i=>match ev x with
  | .tup l=>match l[i]? with
   | some v=>val v
   | none=>none
  | _=>none
 | .call c=>match c.callee with
  | .builtin .append=>match c.args.toList,c.argTypes.toList with
   | [s,x],[t,t']=>bif (Γ t).ok&&(Γ t').ok then(match (Γ t).kind,(Γ t').kind,FY objs (ev x)with
    | .slice esz eb _,.slice _ _ _,some (ys,ob)=>bif decide (1<=esz)&&decide (1<=eb)&&decide (eb<=1000000)then Ct esz eb objs (ev s) ys ob else none
    | .slice esz eb _,.string,some (ys,ob)=>bif decide (1<=esz)&&decide (1<=eb)&&decide (eb<=1000000)then Ct esz eb objs (ev s) ys ob else none
    | _,_,_=>none)else none
   | _,_=>none
  | .builtin .len=>match c.args.toList,c.argTypes.toList with
   | [x],[t]=>bif (Γ t).ok then V3 (Γ t).kind (ev x)else none
   | _,_=>none
  | .builtin .min=>match Jc7 true (c.args.toList.map ev)with|some v=>val v|none=>none
  | .builtin .max=>match Jc7 false (c.args.toList.map ev)with|some v=>val v|none=>none
  | _=>none
 | _=>none
def Ml:AV->Bool
 | .d _=>true
 | _=>false
def R9:List AV->Option (Rd (List D))
 | []=>some ⟨[],[],True⟩
 | .d x::vs=>match R9 vs with
  | some r=>some ⟨x::r.x,[],True⟩
  | none=>none
 | _=>none
def Sa (esz:Nat) (es:List (List D)):List (Nat×AV)->Option (Rd (List (List D)))
 | []=>some ⟨es,[],True⟩
 | (i,v)::rest=>match R9 (Ar v)with
  | some r=>bif Bz v&&r.x.length==esz&&decide (i<es.length)then(match Sa esz (es.set i r.x) rest with|some r'=>some ⟨r'.x,r.ks++r'.ks,r.ob/\r'.ob⟩|none=>none)else none
  | none=>none
def opK (Γ:Nat->Ty) (ev:Operand->AV):Op->Option (Nat×List (List D))
 | .buildSlice t len parts=>bif (Γ t).ok&&decide (len<=1000)then(match (Γ t).kind with
  | .slice esz _ ez=>bif decide (1<=esz)&&decide (esz<=1000)&&ez.length==esz then(match Sa esz (List.replicate len ez) (parts.toList.map λ p=>(p.1,ev p.2))with
   | some r=>some (esz,r.x)
   | none=>none)else none
  | _=>none)else none
 | _=>none
def opF (Γ:Nat->Ty) (ev:Operand->AV):Op->Option (List (List D))
 | .buildSlice t len parts=>bif (parts.toList.all λ p=>(Ar (ev p.2)).all Ml)then(match opA Γ ev [] (.buildSlice t len parts)with
  | some ⟨_,[.arr _ es],_,_,_⟩=>some es
  | _=>none)else none
 | _=>none
end Go.AI
end
section
namespace Go.AI
def unG:AV->AV
  | .gv _ v=>v
  | v=>v
def Fu (g:Bool):List AV->Prop
  | []=>True
  | .gv g' _::r=>(g=true->g'=true)/\Fu g r
  | _::r=>Fu g r
def Bw (all:List Oper) (env:List (Nat×AV)):Option (Nat×Bool)->Option Bool
  | none=>some true
  | some (j,want)=>match all[j]? with
    | some o=>match o.dst with
      | some t=>match lkA env t with
        | .d (.bool b)=>some (bif want then b else !b)
        | .gv g (.d (.bool b))=>some (g&&(bif want then b else !b))
        | _=>none
      | none=>none
    | none=>none
def putA (dst:Option Tmp) (guarded:Bool) (g:Bool) (v:AV) (env:List (Nat×AV)):List (Nat×AV):=
  match dst with
  | some d=>(d,bif guarded then .gv g v else v)::env
  | none=>env
def rmA (objs:List (Option Ob)):List Nat->List (Option Ob)
  | []=>objs
  | k::ks=>rmA (objs.set k none) ks
def BG (objs:List (Option Ob)):Option (Nat×Ob)->List (Option Ob)
  | none=>objs
  | some (k,o)=>objs.set k (some o)
def ofN:AV->D
  | .d x=>x
  | .own _ xs=>.sl xs
  | _=>.nilp
def isN:AV->Bool
  | .d _=>true
  | .own _ _=>true
  | _=>false
def Uo (es:List (List AV)):Nat:=(es.flatten.filter λ a=>!isN a).length
def MM (objs:List (Option Ob)):AV->Option (Rd AV)
  | .agg l=>match D0 objs l with
    | some r=>some ⟨.agg (r.x.map .d),r.ks,r.ob⟩
    | none=>none
  | .ptr k off=>match obA objs k with
    | some (.box cells)=>match D0 objs cells with
      | some r=>some ⟨.dptr r.x off,k::r.ks,k ∉ r.ks/\r.ob⟩
      | none=>none
    | _=>none
  | .eptr k sz i off=>match obA objs k with
    | some (.arr sz' es)=>some ⟨.dptr (es[i]?.getD []) off,[k],sz=sz'/\i<es.length⟩
    | some (.narr sz' es)=>some ⟨.dptr ((es[i]?.getD []).map ofN) off,[k],sz=sz'/\i<es.length/\Uo es=0⟩
    | _=>none
  | .dptr e off=>some ⟨.dptr e off,[],True⟩
  | .osl k sz lo n=>match obA objs k with
    | some (.narr sz' es)=>bif Nat.beq sz sz' then some ⟨.d (.sl (((es.drop lo).take n).map λ e=>e.map ofN)),[k],lo+n<=es.length/\Uo es=0⟩else none
    | _=>match IS objs (.osl k sz lo n)with
      | some r=>some ⟨.d r.x,r.ks,r.ob⟩
      | none=>none
  | v=>match IS objs v with
    | some r=>some ⟨.d r.x,r.ks,r.ob⟩
    | none=>none
def LS (objs:List (Option Ob)):List AV->Option (Rd (List AV))
  | []=>some ⟨[],[],True⟩
  | v::vs=>match MM objs v,LS objs vs with
    | some r,some rs=>some ⟨r.x::rs.x,r.ks++rs.ks,r.ob/\rs.ob⟩
    | _,_=>none
def Bn (m:Bool) (n:Nat):List AV->List AV×List Ob
  | []=>([],[])
  | .own sz es::r=>bif m then((.osl n sz 0 es.length)::(Bn m (n+1) r).1,.arr sz es::(Bn m (n+1) r).2)else(.d (.sl es)::(Bn m n r).1,(Bn m n r).2)
  | .d x::r=>(.d x::(Bn m n r).1,(Bn m n r).2)
  | _::r=>(.top::(Bn m n r).1,(Bn m n r).2)
def B6 (m:Bool) (n:Nat):AV->AV×List Ob
  | .own sz es=>bif m then(.osl n sz 0 es.length,[.arr sz es])else(.d (.sl es),[])
  | .agg l=>(.agg (Bn m n l).1,(Bn m n l).2)
  | .d x=>(.d x,[])
  | _=>(.top,[])
def CY (m:Bool) (n:Nat):List AV->List AV×List Ob
  | []=>([],[])
  | v::r=>((B6 m n v).1::(CY m (n+(B6 m n v).2.length) r).1,(B6 m n v).2++(CY m (n+(B6 m n v).2.length) r).2)
def BZ (m:Bool) (n:Nat):AV->AV×List Ob
  | .tup l=>(.tup (CY m n l).1,(CY m n l).2)
  | v=>B6 m n v
def D.flat:D->Prop
  | .sl es=>es=[]
  | .po _=>False
  | _=>True
def Hy:List AV->Prop
  | []=>True
  | .d x::r=>x.flat/\Hy r
  | .own _ es::r=>(∀ e∈es,∀ x∈e,D.flat x)/\Hy r
  | _=>False
def Sb:AV->Prop
  | .agg l=>Hy l
  | .d x=>x.flat
  | .own _ es=>∀ e∈es,∀ x∈e,D.flat x
  | _=>False
def Oo:List AV->Prop
  | []=>True
  | v::r=>Sb v/\Oo r
def JC:AV->Prop
  | .tup l=>Oo l
  | v=>Sb v
structure Slt where
  n:Nat
  kl:List Nat
  nk:Nat
  qf:List (FuncId×Nat)
structure Cx where
  ty:Nat->Ty
  nt:Slt
  calls:FuncId->List AV->AV->Prop
  lent:FuncId->List AV->List (Option Ob)->Nat->AV->List (Option Ob)->Prop
  ext:Slt->Oper->Bool->St->St->Prop
  exn:Slt->Oper->St->(St->Prop)->Prop
  lentS:FuncId->List AV->List (Option Ob)->Nat->(AV->List (Option Ob)->Prop)->Prop
  rd:Bool:=false
def DV (dst:Option Tmp) (guarded g:Bool) (e:Eff) (st:St):St:=
  ⟨putA dst guarded g e.v st.env,BG (rmA st.objs e.rm) e.upd++e.obs.map some⟩
def JD (Γ:Cx) (o:Oper) (g:Bool) (f:FuncId) (args:List AV) (st:St) (Q:St->Prop):Prop:=
  match LS st.objs args with
  | some a=>(g=true->a.ob)/\∃ (m:Bool) (r:AV),(g=true->Γ.calls f a.x r)/\(bif a.ks.isEmpty then True else JC r) /\
      Q ⟨putA o.dst o.guard.isSome g (BZ m st.objs.length r).1 st.env,st.objs++(BZ m st.objs.length r).2.map some⟩
  | none=>False
def BE (nt:Slt):Option Tmp->Bool
  | some d=>decide (d<nt.n)&&!nt.kl.contains d
  | none=>true
def isW:Op->Bool
  | .store _ _ _=>true
  | .mapUpdate _ _ _ _=>true
  | .insert _ _ _ _=>true
  | .call ⟨.builtin .append,_,_⟩=>true
  | _=>false
def DG:Op->Bool
  | .load _ _ | .alloc _ | .box _ _ | .buildSlice _ _ _ | .lookup _ _ _ _ | .makeSlice _ _ _ | .makeMap _ _=>true
  | .call ⟨.value _,_,_⟩=>true
  | _=>false
def stepG (Γ:Cx) (draw:Bool) (o:Oper) (Q:St->Prop) (st:St) (g:Bool):Prop:=
    match o.op with
    | .call ⟨.value (.func f),args,_⟩=>Fu g (args.toList.map (Al st.env))/\JD Γ o g f (args.toList.map λ x=>unG (Al st.env x)) st Q
    | .pick c a b=>match opA Γ.ty (Al st.env) st.objs (.pick c a b)with
      | some e=>(g=true->e.ob)/\Q (DV o.dst o.guard.isSome g e st)
      | none=>False
    | op=>match opA Γ.ty (λ x=>unG (Al st.env x)) st.objs op with
      | some e=>Fu g (op.operands.toList.map (Al st.env))/\(g=true->e.ob)/\(bif (e.upd.isSome&&o.guard.isSome)||(!e.rm.isEmpty&&(o.guard.isSome||(draw&&!isW op)))then False else Q (DV o.dst o.guard.isSome g e st))
      | none=>False
def Fg (Γ:Cx) (o:Oper) (Q:St->Prop) (st:St) (g:Bool):Prop:=
  match opF Γ.ty (λ x=>unG (Al st.env x)) o.op with
  | some es=>Fu g (o.op.operands.toList.map (Al st.env))/\Q ⟨putA o.dst o.guard.isSome g (.d (.sl es)) st.env,st.objs⟩
  | none=>False
def ZG:AV->List Nat
  | .ptr k _=>[k]
  | .eptr k _ _ _=>[k]
  | .osl k _ _ _=>[k]
  | .bsl k _ _ _=>[k]
  | .mp k=>[k]
  | .yld k=>[k]
  | _=>[]
def DH:AV->List Nat
  | .ptr k _=>[k]
  | .eptr k _ _ _=>[k]
  | .osl k _ _ _=>[k]
  | .bsl k _ _ _=>[k]
  | .mp k=>[k]
  | .yld k=>[k]
  | .agg l=>l.flatMap ZG
  | .clo _ l=>l.flatMap ZG
  | .ifc _ v=>ZG v
  | _=>[]
def Bp:List AV->List Nat
  | []=>[]
  | v::r=>DH v++Bp r
def Sc (objs:List (Option Ob)):List Nat->List Nat
  | []=>[]
  | k::ks=>match obA objs k with
    | some (.box cells)=>Bp cells++Sc objs ks
    | some (.cut j _ _)=>j::Sc objs ks
    | some (.lp _ _ vs _)=>Bp vs++Sc objs ks
    | _=>Sc objs ks
def Ib (acc:List Nat):List Nat->List Nat
  | []=>acc
  | k::ks=>bif acc.contains k then Ib acc ks else Ib (acc++[k]) ks
def NK (objs:List (Option Ob)):Nat->List Nat->List Nat
  | 0,a=>a
  | n+1,a=>NK objs n (Ib a (Sc objs a))
def Mm (nk:Nat) (objs:List (Option Ob)) (vs:List AV):List Nat:=
  NK objs 5 (Ib (List.range nk) (Bp vs))
def AL (objs:List (Option Ob)) (vs:List AV):List Nat:=Mm 0 objs vs
def Hz:List Nat->Nat->Nat->Option Nat
  | [],_,_=>none
  | x::xs,k,i=>bif Nat.beq x k then some i else Hz xs k (i+1)
def FZ (ord:List Nat):AV->AV
  | .d x=>.d x
  | .ptr k off=>match Hz ord k 0 with|some j=>.ptr j off|none=>.top
  | .eptr k sz i off=>match Hz ord k 0 with|some j=>.eptr j sz i off|none=>.top
  | .osl k sz lo n=>match Hz ord k 0 with|some j=>.osl j sz lo n|none=>.top
  | .bsl k off sz n=>match Hz ord k 0 with|some j=>.bsl j off sz n|none=>.top
  | .dptr e off=>.dptr e off
  | .mp k=>match Hz ord k 0 with|some j=>.mp j|none=>.top
  | .yld k=>match Hz ord k 0 with|some j=>.yld j|none=>.top
  | _=>.top
def IV (ord:List Nat):AV->AV
  | .agg l=>.agg (l.map (FZ ord))
  | .clo f l=>.clo f (l.map (FZ ord))
  | .ifc t v=>.ifc t (FZ ord v)
  | v=>FZ ord v
def IW (ord:List Nat):AV->AV
  | .own sz es=>.own sz es
  | v=>FZ ord v
def Ha (π:Nat->Nat):AV->AV
  | .d x=>.d x
  | .ptr k off=>.ptr (π k) off
  | .eptr k sz i off=>.eptr (π k) sz i off
  | .osl k sz lo n=>.osl (π k) sz lo n
  | .bsl k off sz n=>.bsl (π k) off sz n
  | .dptr e off=>.dptr e off
  | .mp k=>.mp (π k)
  | .yld k=>.yld (π k)
  | .own sz es=>.own sz es
  | _=>.top
def ZH (π:Nat->Nat):AV->AV
  | .agg l=>.agg (l.map (Ha π))
  | .clo f l=>.clo f (l.map (Ha π))
  | .ifc t v=>.ifc t (Ha π v)
  | v=>Ha π v
def MN (π:Nat->Nat):AV->AV
  | .tup l=>.tup (l.map (ZH π))
  | v=>ZH π v
def Ye (π:Nat->Nat):Ob->Ob
  | .box cells=>.box (cells.map (ZH π))
  | .narr sz es=>.narr sz (es.map λ e=>e.map (Ha π))
  | .cut k sz xs=>.cut (π k) sz xs
  | .nmp ka dv ents=>.nmp ka (Ha π dv) (ents.map λ p=>(p.1,Ha π p.2))
  | .lp d ts vs j=>.lp d ts (vs.map (ZH π)) j
  | o=>o
def O5 (ord:List Nat) (k sz:Nat) (xs:List (Nat×Nat)):Ob:=match Hz ord k 0 with
  | some j=>.cut j sz xs
  | none=>.narr 1 (xs.map λ _=>[.top])
def ZI (ord:List Nat):Ob->Ob
  | .box cells=>.box (cells.map (IV ord))
  | .narr sz es=>.narr sz (es.map λ e=>e.map (IW ord))
  | .cut k sz xs=>O5 ord k sz xs
  | .nmp ka dv ents=>.nmp ka (FZ ord dv) (ents.map λ p=>(p.1,IW ord p.2))
  | .lp d ts vs j=>.lp d ts (vs.map (IV ord)) j
  | o=>o
def IX (ord:List Nat):AV->AV:=IV ord
def Fw (objs:List (Option Ob)) (ord:List Nat):List (Option Ob):=ord.map λ k=>(obA objs k).map (ZI ord)
def D1 (ord:List Nat) (n nb:Nat):Nat->Nat:=λ j=>bif decide (j<nb)then ord.getD j 0 else n+(j-nb)
def NL (objs:List (Option Ob)):List (Nat×Option Ob)->List (Option Ob)
  | []=>objs
  | (k,o)::r=>NL (objs.set k o) r
def Dk (objs:List (Option Ob)) (ord:List Nat) (nb:Nat) (objs1:List (Option Ob)):List (Option Ob):=
  NL (rmA objs ord) ((ord.take nb).zip ((objs1.take nb).map λ o=>o.map (Ye (D1 ord objs.length nb))))++(objs1.drop nb).map λ o=>o.map (Ye (D1 ord objs.length nb))
def JeI (Γ:Cx) (o:Oper) (f:FuncId) (args:List AV) (st:St) (Q:St->Prop):Prop:=
  ∃ (nb:Nat) (r:AV) (objs1:List (Option Ob)),Γ.lent f (args.map (IX (AL st.objs args))) (Fw st.objs (AL st.objs args)) nb r objs1/\nb<=(AL st.objs args).length/\nb<=objs1.length /\
    (∀ k∈AL st.objs args,k<st.objs.length)/\Q ⟨putA o.dst false true (MN (D1 (AL st.objs args) st.objs.length nb) r) st.env,Dk st.objs (AL st.objs args) nb objs1⟩
def Xp (Γ:Cx) (draw:Bool) (o:Oper) (Q:St->Prop) (st:St) (g:Bool):Prop:=
  draw=false/\((∃ st',Γ.ext Γ.nt o g st st'/\Q st')\/o.guard=none/\((match opK Γ.ty (λ x=>unG (Al st.env x)) o.op with
    | some (esz,es)=>Fu g (o.op.operands.toList.map (Al st.env))/\(Q ⟨putA o.dst false g (.d (.sl es)) st.env,st.objs⟩\/Q ⟨putA o.dst false g (.osl st.objs.length esz 0 es.length) st.env,st.objs++[some (.arr esz es)]⟩)
    | none=>False)\/match o.op with
    | .call ⟨.value (.func f),args,_⟩=>Fu g (args.toList.map (Al st.env))/\JeI Γ o f (args.toList.map λ x=>unG (Al st.env x)) st Q
    | _=>False))
def A1 (Γ:Cx) (draw:Bool) (all:List Oper) (o:Oper) (Q:St->Prop) (st:St):Prop:=
  match Bw all st.env o.guard with
  | none=>False
  | some g=>
    bif !BE Γ.nt o.dst then False else
    (g=true->stepG Γ draw o Q st g\/Fg Γ o Q st g\/Xp Γ draw o Q st g)/\(g=false->∃ v obs,(DG o.op=false->obs=[])/\Q ⟨putA o.dst o.guard.isSome false v st.env,st.objs++obs.map some⟩)
def HR (Γ:Cx) (draw:Bool) (all:List Oper):List Oper->(St->Prop)->St->Prop
  | [],Q,st=>Q st
  | o::rest,Q,st=>A1 Γ draw all o (HR Γ draw all rest Q) st
inductive Ex where
  | normal|exit (id:Nat)|ret
def Xq (c:AV) (A B:Prop):Prop:=
  match c with
  | .d (.bool t)=>(t=true->A)/\(t=false->B)
  | _=>False
def D2 (n:Nat):List AV->List AV×Nat
  | []=>([],0)
  | .d .nil::r=>(.osl n 0 0 0::(D2 (n+1) r).1,(D2 (n+1) r).2+1)
  | v::r=>(v::(D2 n r).1,(D2 n r).2)
def DK (ord:List Nat) (n:Nat):List (Option Ob)->List (Option Ob)×Nat
  | []=>([],0)
  | some (.box cells)::r=>(some (.box (D2 n (cells.map (IV ord))).1)::(DK ord (n+(D2 n (cells.map (IV ord))).2) r).1,(D2 n (cells.map (IV ord))).2+(DK ord (n+(D2 n (cells.map (IV ord))).2) r).2)
  | some (.narr sz es)::r=>(some (.narr sz (es.map λ e=>e.map (IW ord)))::(DK ord n r).1,(DK ord n r).2)
  | some (.cut k sz xs)::r=>(some (O5 ord k sz xs)::(DK ord n r).1,(DK ord n r).2)
  | some (.nmp ka dv ents)::r=>(some (.nmp ka (FZ ord dv) (ents.map λ p=>(p.1,IW ord p.2)))::(DK ord n r).1,(DK ord n r).2)
  | some (.lp d ts vs j)::r=>(some (.lp d ts (vs.map (IV ord)) j)::(DK ord n r).1,(DK ord n r).2)
  | o::r=>(o::(DK ord n r).1,(DK ord n r).2)
def gcA (nk:Nat) (ts:List Nat) (st:St):St:=
  let vs:=ts.map (lkA st.env);let ord:=Mm nk st.objs vs;let p:=D2 ord.length (vs.map (IV ord));let q:=DK ord (ord.length+p.2) (ord.map λ k=>(obA st.objs k))
  ⟨ts.zip p.1,q.1++List.replicate (p.2+q.2) (some (.arr 0 []))⟩
def SW (op:Op):List Tmp:=op.operands.toList.filterMap λ | .tmp t=>some t|_=>none
def MO (all:List Oper) (o:Oper):List Tmp:=
  match o.guard with
  | some (j,_)=>match all[j]? with
    | some o'=>o'.dst.toList
    | none=>[]
  | none=>[]
def CH (all:List Oper) (o:Oper):List Tmp:=SW o.op++MO all o
def Oq (ops:Array Oper) (cl:Array Nat) (i j:Nat) (oi oj:Oper):Bool:=
  (i==j) ||
  ((match oi.dst with
    | none=>true
    | some d=>(oj.dst != some d)&&(!(CH ops.toList oj).contains d||(bif decide (i<j)then Region.waitsFor .any ops j i else Region.waitsFor .any ops i j))) &&
   (!isW oj.op||((!DG oi.op||(decide (i<j)&&(cl.getD j 0).testBit i))&&(!isW oi.op||decide (j<i)||(cl.getD j 0).testBit i))))
def MP (ops:Array Oper):Bool:=
  let cl:=Region.before ops
  ops.toList.zipIdx.all λ (oj,j)=>(oj.after.all λ e=>!Region.binds .any e||decide (e.on<j))&&ops.toList.zipIdx.all λ (oi,i)=>Oq ops cl i j oi oj
def EP (ev:Operand->AV) (op:Op):List Nat:=op.operands.toList.flatMap λ x=>Bp (Ar (ev x))
def PB (ops:List Oper) (e0 e1:List (Nat×AV)) (i:Nat):Operand->AV
  | .tmp t=>bif (ops.take i).any (λ o=>match o.dst with|some d=>Nat.beq d t|none=>false)then lkA e1 t else lkA e0 t
  | x=>Al e0 x
def SX (ops:List Oper) (e0 e1:List (Nat×AV)) (i:Nat) (o:Oper):List Nat:=EP (λ x=>unG (PB ops e0 e1 i x)) o.op
def JiZ (a b:List Nat):Bool:=a.all λ k=>!b.contains k
def Jff:AV->Bool
  | .ptr _ _=>true
  | .eptr _ _ _ _=>true
  | _=>false
def IY (ev:Operand->AV):Op->Bool
  | .call ⟨.value _,args,_⟩=>args.toList.any λ x=>Jff (ev x)
  | _=>false
def V5 (ops:List Oper) (e0 e1:List (Nat×AV)) (i:Nat) (o:Oper):Bool:=IY (λ x=>unG (PB ops e0 e1 i x)) o.op
def Sd (ops:Array Oper) (e0 e1:List (Nat×AV)) (cl:Array Nat) (i j:Nat) (oi oj:Oper):Bool:=
  (i==j) ||
  ((match oi.dst with
    | none=>true
    | some d=>(oj.dst != some d)&&(!(CH ops.toList oj).contains d||(bif decide (i<j)then Region.waitsFor .any ops j i else Region.waitsFor .any ops i j))) &&
   (!isW oj.op||!(DG oi.op||isW oi.op)||(cl.getD j 0).testBit i||(cl.getD i 0).testBit j||(!V5 ops.toList e0 e1 i oi&&JiZ (SX ops.toList e0 e1 i oi) (SX ops.toList e0 e1 j oj))))
def Up (ops:Array Oper) (e0 e1:List (Nat×AV)):Bool:=
  let cl:=Region.before ops
  ops.toList.zipIdx.all λ (oj,j)=>(oj.after.all λ e=>!Region.binds .any e||decide (e.on<j))&&ops.toList.zipIdx.all λ (oi,i)=>Sd ops e0 e1 cl i j oi oj
def ndB:Op->Bool
  | .defer _=>false
  | _=>true
def MQ (draw:Bool) (ops:Array Oper) (e0 e1:List (Nat×AV)):Bool:=!draw||((MP ops||Up ops e0 e1)&&ops.toList.all λ o=>ndB o.op)
theorem PC {ops:Array Oper} {e0 e1:List (Nat×AV)} (h:MQ true ops e0 e1=true):(MP ops||Up ops e0 e1)=true/\∀ o∈ops.toList,ndB o.op=true:=by
  have h:((MP ops||Up ops e0 e1)&&ops.toList.all λ o=>ndB o.op)=true:=h;rw[Jl0]at h;exact⟨h.1,λ o ho=>JlJ.1 h.2 o ho⟩
end Go.AI
end
section
namespace Go.AI
structure Loc where
 b:Nat
 base:Nat
 size:Nat
inductive Bo (F:Nat->Option Obj):D->Value->Prop
 | int (k:IntKind) (n:Int):Bo F (.int k n) (.int k n)
 | bool (b:Bool):Bo F (.bool b) (.bool b)
 | str (s:List UInt8):Bo F (.str s) (.string ⟨s.toArray⟩)
 | nil:Bo F .nil (.slice none 0 0)
 | sl0 (a:Option Addr) (cap:Nat):Bo F (.sl []) (.slice a 0 cap)
 | sl (es:List (List D)) (b off cap sz:Nat) (cs:Array Value) (t:TypeId) (fr:Nat×Nat) (g:Nat->Nat->Value)
   (hF:F b=some (.cells cs t fr)) (hsz:∀ e∈es,e.length=sz) (hcap:es.length<=cap)
   (hc:∀ (i:Nat) (e:List D),es[i]?=some e->∀ (j:Nat) (x:D),e[j]?=some x->cs[off+i*sz+j]?=some (g i j))
   (hr:∀ (i:Nat) (e:List D),es[i]?=some e->∀ (j:Nat) (x:D),e[j]?=some x->Bo F x (g i j)) :
   Bo F (.sl es) (.slice (some ⟨b,off,none⟩) es.length cap)
 | nilp:Bo F .nilp (.pointer none)
 | nilm:Bo F .nilm (.map none)
 | nilf:Bo F .nilf .nilFunc
 | po0:Bo F (.po []) (.pointer none)
 | po (e:List D) (l:List (List D)) (b o:Nat) (cs:Array Value) (t:TypeId) (fr:Nat×Nat) (g:Nat->Value) (hF:F b=some (.cells cs t fr))
   (hc:∀ (j:Nat) (x:D),e[j]?=some x->cs[o+j]?=some (g j)) (hr:∀ (j:Nat) (x:D),e[j]?=some x->Bo F x (g j)):Bo F (.po (e::l)) (.pointer (some ⟨b,o,none⟩))
inductive Ak (F:Nat->Option Obj) (ρ:Nat->Option Loc):AV->Value->Prop
 | d (x:D) (v:Value) (h:Bo F x v):Ak F ρ (.d x) v
 | agg (l:List AV) (vs:Array Value) (hl:l.length=vs.size) (h:∀ (i:Nat) (a:AV) (v:Value),l[i]?=some a->vs[i]?=some v->Ak F ρ a v):Ak F ρ (.agg l) (.agg vs)
 | tup (l:List AV) (vs:Array Value) (hl:l.length=vs.size) (h:∀ (i:Nat) (a:AV) (v:Value),l[i]?=some a->vs[i]?=some v->Ak F ρ a v):Ak F ρ (.tup l) (.tuple vs)
 | ptr (k off:Nat) (L:Loc) (h:ρ k=some L):Ak F ρ (.ptr k off) (.pointer (some ⟨L.b,L.base+off,none⟩))
 | eptr (k sz i off:Nat) (L:Loc) (h:ρ k=some L):Ak F ρ (.eptr k sz i off) (.pointer (some ⟨L.b,L.base+i*sz+off,none⟩))
 | dptr (e:List D) (off b o:Nat) (cs:Array Value) (t:TypeId) (fr:Nat×Nat) (g:Nat->Value) (hF:F b=some (.cells cs t fr))
   (hc:∀ (j:Nat) (x:D),e[j]?=some x->cs[o+j]?=some (g j)) (hr:∀ (j:Nat) (x:D),e[j]?=some x->Bo F x (g j)):Ak F ρ (.dptr e off) (.pointer (some ⟨b,o+off,none⟩))
 | osl (k sz lo n cap:Nat) (L:Loc) (h:ρ k=some L) (hc:n<=cap) (hs:L.base+(lo+cap)*sz<=L.size) (hz:1<=sz):Ak F ρ (.osl k sz lo n) (.slice (some ⟨L.b,L.base+lo*sz,none⟩) n cap)
 | osl0 (k sz lo:Nat) (a:Option Addr):Ak F ρ (.osl k sz lo 0) (.slice a 0 0)
 | bsl (k off sz n cap:Nat) (L:Loc) (h:ρ k=some L) (hc:n<=cap):Ak F ρ (.bsl k off sz n) (.slice (some ⟨L.b,L.base+off,none⟩) n cap)
 | mp (k:Nat) (L:Loc) (h:ρ k=some L):Ak F ρ (.mp k) (.map (some L.b))
 | ifc (t:Nat) (v:AV) (x:Value) (h:Ak F ρ v x):Ak F ρ (.ifc t v) (.iface t x)
 | clo (f:Nat) (l:List AV) (vs:Array Value) (hl:l.length=vs.size) (h:∀ (i:Nat) (a:AV) (v:Value),l[i]?=some a->vs[i]?=some v->Ak F ρ a v):Ak F ρ (.clo f l) (.func (.func f) #[] vs)
 | yld (k:Nat) (L:Loc) (h:ρ k=some L):Ak F ρ (.yld k) (.func (.yield L.b) #[] #[])
 | gvT (v:AV) (x:Value) (h:Ak F ρ v x):Ak F ρ (.gv true v) x
 | gvF (v:AV):Ak F ρ (.gv false v) undef
 | top (x:Value):Ak F ρ .top x
def FLe (F F':Nat->Option Obj):Prop:=∀ b o,F b=some o->F' b=some o
def RLe (ρ ρ':Nat->Option Loc):Prop:=∀ k L,ρ k=some L->ρ' k=some L
theorem FLe.refl (F:Nat->Option Obj):FLe F F:=λ _ _ h=>h
theorem FLe.trans {F F' F'':Nat->Option Obj} (h:FLe F F') (h':FLe F' F''):FLe F F'':=λ b o x=>h' b o (h b o x)
theorem RLe.refl (ρ:Nat->Option Loc):RLe ρ ρ:=λ _ _ h=>h
theorem RLe.trans {ρ ρ' ρ'':Nat->Option Loc} (h:RLe ρ ρ') (h':RLe ρ' ρ''):RLe ρ ρ'':=λ b o x=>h' b o (h b o x)
def FCe (F F':Nat->Option Obj):Prop:=∀ b o,F b=some o->(∀ d,o≠.deferred d)->F' b=some o
theorem FLe.ce {F F':Nat->Option Obj} (h:FLe F F'):FCe F F':=λ b o hb _=>h b o hb
theorem FCe.cells {F F':Nat->Option Obj} (h:FCe F F') {b:Nat} {cs:Array Value} {t:TypeId} {fr:Nat×Nat} (hb:F b=some (.cells cs t fr)):F' b=some (.cells cs t fr):=h b _ hb λ d e=>by cases e
theorem FCe.map {F F':Nat->Option Obj} (h:FCe F F') {b:Nat} {es:Array MapEntry} {c:Nat} (hb:F b=some (.map es c)):F' b=some (.map es c):=h b _ hb λ d e=>by cases e
theorem Bo.monoC {F F':Nat->Option Obj} (hF:FCe F F') {x:D} {v:Value} (h:Bo F x v):Bo F' x v:=by
 induction h with
 | int k n=>exact .int k n
 | bool b=>exact .bool b
 | str s=>exact .str s
 | nil=>exact .nil
 | sl0 a cap=>exact .sl0 a cap
 | sl es b off cap sz cs t fr g h1 h2 h3 h4 _ ih=>exact .sl es b off cap sz cs t fr g (hF.cells h1) h2 h3 h4 ih
 | nilp=>exact .nilp
 | nilm=>exact .nilm
 | nilf=>exact .nilf
 | po0=>exact .po0
 | po e l b o cs t fr g h1 h2 _ ih=>exact .po e l b o cs t fr g (hF.cells h1) h2 ih
theorem Bo.mono {F F':Nat->Option Obj} (hF:FLe F F') {x:D} {v:Value} (h:Bo F x v):Bo F' x v:=h.monoC hF.ce
theorem Ak.monoC {F F':Nat->Option Obj} {ρ ρ':Nat->Option Loc} (hF:FCe F F') (hρ:RLe ρ ρ') {x:AV} {v:Value} (h:Ak F ρ x v):Ak F' ρ' x v:=by
 induction h with
 | d x v h=>exact .d x v (h.monoC hF)
 | agg l vs hl _ ih=>exact .agg l vs hl ih
 | tup l vs hl _ ih=>exact .tup l vs hl ih
 | ptr k off L h=>exact .ptr k off L (hρ _ _ h)
 | eptr k sz i off L h=>exact .eptr k sz i off L (hρ _ _ h)
 | dptr e off b o cs t fr g h1 h2 h3=>exact .dptr e off b o cs t fr g (hF.cells h1) h2 λ j x hx=>(h3 j x hx).monoC hF
 | osl k sz lo n cap L h h1 h2 h3=>exact .osl k sz lo n cap L (hρ _ _ h) h1 h2 h3
 | osl0 k sz lo a=>exact .osl0 k sz lo a
 | bsl k off sz n cap L h h1=>exact .bsl k off sz n cap L (hρ _ _ h) h1
 | mp k L h=>exact .mp k L (hρ _ _ h)
 | ifc t v x _ ih=>exact .ifc t v x ih
 | clo f l vs hl _ ih=>exact .clo f l vs hl ih
 | yld k L h=>exact .yld k L (hρ _ _ h)
 | gvT v x _ ih=>exact .gvT v x ih
 | gvF v=>exact .gvF v
 | top x=>exact .top x
theorem Ak.mono {F F':Nat->Option Obj} {ρ ρ':Nat->Option Loc} (hF:FLe F F') (hρ:RLe ρ ρ') {x:AV} {v:Value} (h:Ak F ρ x v):Ak F' ρ' x v:=h.monoC hF.ce hρ
def V6 (fr:Nat×Nat) (n:Nat):Prop:=∀ i,i<n->¬(fr.1<=i/\i<fr.2)
def JE:AV->Bool
 | .own _ _=>true
 | _=>false
def KV (F:Nat->Option Obj) (agg:Bool) (cs:List D) (v:Value):Prop:=
 bif agg then ∃ vs:Array Value,v=.agg vs/\cs.length=vs.size/\∀ (i:Nat) (x:D) (u:Value),cs[i]?=some x->vs[i]?=some u->Bo F x u
 else ∃ x,cs=[x]/\Bo F x v
theorem KV.monoC {F F':Nat->Option Obj} (hF:FCe F F') {agg:Bool} {cs:List D} {v:Value} (h:KV F agg cs v):KV F' agg cs v:=by
 cases agg with
 | true=>
  obtain⟨vs,h1,h2,h3⟩:=h;exact⟨vs,h1,h2,λ i x u hx hu=>(h3 i x u hx hu).monoC hF⟩
 | false=>
  obtain⟨x,h1,h2⟩:=h;exact⟨x,h1,h2.monoC hF⟩
theorem KV.mono {F F':Nat->Option Obj} (hF:FLe F F') {agg:Bool} {cs:List D} {v:Value} (h:KV F agg cs v):KV F' agg cs v:=h.monoC hF.ce
def JkG (d:ZF) (j:Nat) (s:LoopState) (p:Option Code):Prop:=(j=0/\s=.ready/\p=none)\/(j=1/\s=.busy/\p=none)\/(∃ c,2<=j/\d.js[j-2]?=some c/\s=.done/\p=some c)
def Ic (es:Array MapEntry) (clock:Nat):Prop:=(∀ x∈es.toList,x.born<clock)/\(es.toList.map (·.born)).Nodup
def SY (F:Nat->Option Obj) (o:Option Obj) (ka va:Bool) (cur:Option (List D×List D)) (left:List (List D×List D)):Prop:=
 ∃ (bm:Nat) (es:Array MapEntry) (clock since:Nat) (seen:Array Nat) (c0:Nat),F bm=some (.map es clock)/\o=some (.mapIter (some bm) since seen c0)/\(∀ x∈es.toList,x.born<since)/\since<=c0/\since<=clock/\(es.toList.map (·.born)).Nodup /\
  (leftOf es seen).size=left.length/\(∀ (i:Nat) p q,left[i]?=some p->(leftOf es seen)[i]?=some q->KV F ka p.1 q.key/\KV F va p.2 q.val) /\
  ∀ p,cur=some p->∃ (e:MapEntry) (seen':Array Nat),e∈es.toList/\seen=seen'.push e.born/\c0=clock/\KV F ka p.1 e.key/\KV F va p.2 e.val
theorem SY.monoC {F F':Nat->Option Obj} (hF:FCe F F') {o:Option Obj} {ka va:Bool} {cur:Option (List D×List D)} {left:List (List D×List D)} (h:SY F o ka va cur left):SY F' o ka va cur left:=by
 obtain⟨bm,es,clock,since,seen,c0,h1,h2,h3,h4,h4',h5,h6,h7,h8⟩:=h;refine⟨bm,es,clock,since,seen,c0,hF.map h1,h2,h3,h4,h4',h5,h6,λ i p q hp hq=>⟨(h7 i p q hp hq).1.monoC hF,(h7 i p q hp hq).2.monoC hF⟩,λ p hp=>?_⟩;obtain⟨e,s',g1,g2,g3,g4,g5⟩:=h8 p hp;exact⟨e,s',g1,g2,g3,g4.monoC hF,g5.monoC hF⟩
def Bv (F:Nat->Option Obj) (ρ:Nat->Option Loc) (h:Array Obj) (L:Loc):Ob->Prop
 | .box cells=>L.base=0/\L.size=cells.length/\∃ cs t fr,h[L.b]?=some (.cells cs t fr)/\cs.size=L.size/\V6 fr L.size /\
   ∀ (i:Nat) (a:AV) (v:Value),cells[i]?=some a->cs[i]?=some v->Ak F ρ a v
 | .arr sz es=>(∀ e∈es,e.length=sz)/\L.base+es.length*sz<=L.size/\∃ cs t fr,h[L.b]?=some (.cells cs t fr)/\cs.size=L.size/\V6 fr L.size /\
   ∀ (i:Nat) (e:List D),es[i]?=some e->∀ (j:Nat) (x:D),e[j]?=some x->∃ v,cs[L.base+i*sz+j]?=some v/\Bo F x v
 | .narr sz es=>(∀ e∈es,e.length=sz)/\L.base+es.length*sz<=L.size/\∃ cs t fr,h[L.b]?=some (.cells cs t fr)/\cs.size=L.size/\V6 fr L.size /\
   ∀ (i:Nat) (e:List AV),es[i]?=some e->∀ (j:Nat) (a:AV),e[j]?=some a->∃ v,cs[L.base+i*sz+j]?=some v/\(JE a=false->Ak F ρ a v)
 | .cut k isz xs=>L.base+xs.length*1<=L.size/\∃ cs t fr,h[L.b]?=some (.cells cs t fr)/\cs.size=L.size/\V6 fr L.size /\
   ∀ (i:Nat) (x:Nat×Nat),xs[i]?=some x->∃ v,cs[L.base+i*1+0]?=some v/\Ak F ρ (.osl k isz x.1 x.2) v
 | .map ka va ents=>L.base=0/\∃ es clock,h[L.b]?=some (.map es clock)/\Ic es clock/\es.size=ents.length/\∀ (i:Nat) p q,ents[i]?=some p->es[i]?=some q->KV F ka p.1 q.key/\KV F va p.2 q.val
 | .lp d ts vs j=>∃ r,h[L.b]?=some (.loop r)/\r.params.toList=d.ps/\r.assign=d.asg/\r.body=d.body/\r.tmps.size=d.n/\JkG d j r.state r.pending/\∀ t,Ak F ρ (lkA (ts.zip vs) t) (r.tmps.getD t undef)
 | .iter ka va cur left=>L.base=0/\SY F h[L.b]? ka va cur left
 | .nmp ka dv ents=>L.base=0/\Ak F ρ dv (.slice none 0 0)/\∃ es clock,h[L.b]?=some (.map es clock)/\Ic es clock/\es.size=ents.length/\∀ (i:Nat) p q,ents[i]?=some p->es[i]?=some q->KV F ka p.1 q.key/\(JE p.2=false->Ak F ρ p.2 q.val)
theorem Bv.monoC {F F':Nat->Option Obj} {ρ ρ':Nat->Option Loc} {h h':Array Obj} {L:Loc} {o:Ob} (hF:FCe F F') (hρ:RLe ρ ρ') (hh:h'[L.b]?=h[L.b]?) (H:Bv F ρ h L o):Bv F' ρ' h' L o:=by
 cases o with
 | box cells=>
  obtain⟨h1,h2,cs,t,fr,h3,h4,h5,h6⟩:=H;exact⟨h1,h2,cs,t,fr,hh.trans h3,h4,h5,λ i a v x y=>(h6 i a v x y).monoC hF hρ⟩
 | arr sz es=>
  obtain⟨h1,h2,cs,t,fr,h3,h4,h5,h6⟩:=H;refine⟨h1,h2,cs,t,fr,hh.trans h3,h4,h5,λ i e x j y z=>?_⟩;obtain⟨v,hv,hd⟩:=h6 i e x j y z;exact⟨v,hv,hd.monoC hF⟩
 | narr sz es=>
  obtain⟨h1,h2,cs,t,fr,h3,h4,h5,h6⟩:=H;refine⟨h1,h2,cs,t,fr,hh.trans h3,h4,h5,λ i e x j y z=>?_⟩;obtain⟨v,hv,hd⟩:=h6 i e x j y z;exact⟨v,hv,λ ho=>(hd ho).monoC hF hρ⟩
 | cut k isz xs=>
  obtain⟨h2,cs,t,fr,h3,h4,h5,h6⟩:=H;refine⟨h2,cs,t,fr,hh.trans h3,h4,h5,λ i x hx=>?_⟩;obtain⟨v,hv,hd⟩:=h6 i x hx;exact⟨v,hv,hd.monoC hF hρ⟩
 | map ka va ents=>
  obtain⟨h0,es,clock,h1,hb,h2,h3⟩:=H;exact⟨h0,es,clock,hh.trans h1,hb,h2,λ i p q hp hq=>⟨(h3 i p q hp hq).1.monoC hF,(h3 i p q hp hq).2.monoC hF⟩⟩
 | lp d ts vs j=>
  obtain⟨r,h1,h2,h3,h4,h5,h6,h7⟩:=H;exact⟨r,hh.trans h1,h2,h3,h4,h5,h6,λ t=>(h7 t).monoC hF hρ⟩
 | iter ka va cur left=>exact⟨H.1,by rw[hh];exact H.2.monoC hF⟩
 | nmp ka dv ents=>
  obtain⟨h0,hd,es,clock,h1,hb,h2,h3⟩:=H;exact⟨h0,hd.monoC hF hρ,es,clock,hh.trans h1,hb,h2,λ i p q hp hq=>⟨(h3 i p q hp hq).1.monoC hF,λ ho=>((h3 i p q hp hq).2 ho).monoC hF hρ⟩⟩
theorem Bv.mono {F F':Nat->Option Obj} {ρ ρ':Nat->Option Loc} {h h':Array Obj} {L:Loc} {o:Ob} (hF:FLe F F') (hρ:RLe ρ ρ') (hh:h'[L.b]?=h[L.b]?) (H:Bv F ρ h L o):Bv F' ρ' h' L o:=H.monoC hF.ce hρ hh
def Fx (F:Nat->Option Obj) (h:Array Obj) (M:Option Loc) (isz:Nat) (xs:List (List D)) (v:Value):Prop:=
 (xs=[]/\∃ a,v=.slice a 0 0)\/∃ L cap,M=some L/\v=.slice (some ⟨L.b,L.base,none⟩) xs.length cap/\xs.length<=cap/\L.base+cap*isz<=L.size/\1<=isz/\Bv F (λ _=>none) h L (.arr isz xs)
theorem Fx.monoC {F F':Nat->Option Obj} {h h':Array Obj} {M:Option Loc} {isz:Nat} {xs:List (List D)} {v:Value} (hF:FCe F F') (hh:∀ L,M=some L->h'[L.b]?=h[L.b]?) (H:Fx F h M isz xs v):Fx F' h' M isz xs v:=by
 rcases H with H|⟨L,cap,h1,h2,h3,h4,h5,h6⟩
 ·exact .inl H
 ·exact .inr ⟨L,cap,h1,h2,h3,h4,h5,h6.monoC hF (RLe.refl _) (hh L h1)⟩
theorem Fx.mono {F F':Nat->Option Obj} {h h':Array Obj} {M:Option Loc} {isz:Nat} {xs:List (List D)} {v:Value} (hF:FLe F F') (hh:∀ L,M=some L->h'[L.b]?=h[L.b]?) (H:Fx F h M isz xs v):Fx F' h' M isz xs v:=H.monoC hF.ce hh
def Ob.plain:Ob->Bool
 | .narr _ _=>false
 | .nmp _ _ _=>false
 | _=>true
def Ob.rows:Ob->Option (Nat×List (List AV))
 | .narr sz es=>some (sz,es)
 | .nmp _ _ ents=>some (1,ents.map λ p=>[p.2])
 | _=>none
theorem Jlr {ob:Ob} (h:ob.plain=true):ob.rows=none:=by cases ob<;>first|rfl|cases h
def E8:Obj->Nat->Option Value
 | .cells cs _ _,n=>cs[n]?
 | .map es _,n=>es[n]?.map (·.val)
 | _,_=>none
structure Inn (N:Nat->Prop) (F:Nat->Option Obj) (ρ:Nat->Option Loc) (O:List (Option Ob)) (h:Array Obj) (σ:Nat->Nat->Option Loc):Prop where
 new:∀ k c M,σ k c=some M->N M.b/\M.b<h.size/\F M.b=none
 obj:∀ k c M k' L ob,σ k c=some M->ρ k'=some L->obA O k'=some ob->L.b≠M.b
 sep:∀ k c M k' c' M',σ k c=some M->σ k' c'=some M'->(k≠k'\/c≠c')->M.b≠M'.b
 rep:∀ k L ob sz es,ρ k=some L->obA O k=some ob->ob.rows=some (sz,es)->∀ (i:Nat) (e:List AV) (j isz:Nat) (xs:List (List D)),es[i]?=some e->e[j]?=some (.own isz xs) ->
  ∀ o v,h[L.b]?=some o->E8 o (L.base+i*sz+j)=some v->Fx F h (σ k (i*sz+j)) isz xs v
theorem Inn.narr {N:Nat->Prop} {F:Nat->Option Obj} {ρ:Nat->Option Loc} {O:List (Option Ob)} {h:Array Obj} {σ:Nat->Nat->Option Loc} (H:Inn N F ρ O h σ):∀ k L sz es,ρ k=some L->obA O k=some (.narr sz es)->∀ (i:Nat) (e:List AV) (j isz:Nat) (xs:List (List D)),es[i]?=some e->e[j]?=some (.own isz xs) ->
  ∀ cs t fr v,h[L.b]?=some (.cells cs t fr)->cs[L.base+i*sz+j]?=some v->Fx F h (σ k (i*sz+j)) isz xs v:=
 λ k L sz es hk ho i e j isz xs hi hj _ _ _ v hb hv=>H.rep k L _ sz es hk ho rfl i e j isz xs hi hj _ v hb hv
structure Sim (N:Nat->Prop) (H0 F0 F:Nat->Option Obj) (ρ:Nat->Option Loc) (O:List (Option Ob)) (h:Array Obj):Prop where
 size:∀ b,h.size<=b->N b
 old:∀ b,¬N b->h[b]?=H0 b
 f0:FLe F0 F
 fnew:∀ b o,F b=some o->¬N b->F0 b=some o
 frz:∀ b o,F b=some o->h[b]?=some o
 loc:∀ k L,ρ k=some L->L.b<h.size
 dom:∀ k L,ρ k=some L->k<O.length
 obj:∀ k L ob,ρ k=some L->obA O k=some ob->Bv F ρ h L ob/\N L.b/\F L.b=none
 sep:∀ k k' L L' ob ob',ρ k=some L->ρ k'=some L'->obA O k=some ob->obA O k'=some ob'->k≠k'->L.b≠L'.b
 inn:∃ σ,Inn N F ρ O h σ
def Cf (F:Nat->Option Obj) (ρ:Nat->Option Loc) (env:List (Nat×AV)) (tmps:Array Value):Prop:=
 ∀ t,Ak F ρ (lkA env t) (tmps.getD t undef)
theorem Cf.mono {F F':Nat->Option Obj} {ρ ρ':Nat->Option Loc} {env:List (Nat×AV)} {tmps:Array Value} (hF:FLe F F') (hρ:RLe ρ ρ') (H:Cf F ρ env tmps):Cf F' ρ' env tmps:=
 λ t=>(H t).mono hF hρ
theorem Bi (k t:Nat) (v:AV) (r:List (Nat×AV)):lkA ((k,v)::r) t=if k=t then v else lkA r t:=by
 simp only[lkA];by_cases h:k=t
 ·subst h;simp
 ·have:Nat.beq k t=false:=by
   cases hb:Nat.beq k t with
   | false=>rfl
   | true=>exact absurd (Jl6 hb) h
  simp[this,h]
theorem Jfg {F F':Nat->Option Obj} {ρ ρ':Nat->Option Loc} {f:AV->AV} (hf:∀ a v,Ak F ρ a v->Ak F' ρ' (f a) v):∀ (ts:List Nat) (vs:List AV) (t:Nat) (v:Value),Ak F ρ (lkA (ts.zip vs) t) v->Ak F' ρ' (lkA (ts.zip (vs.map f)) t) v:=by
 intro ts;induction ts with
 | nil=>intro vs t v _;exact .top _
 | cons x ts ih=>
  intro vs t v h;cases vs with
  | nil=>exact .top _
  | cons y vs=>
   rw[List.zip_cons_cons,Bi]at h;rw[JlV,List.zip_cons_cons,Bi];split
   ·rename_i e;rw[if_pos e]at h;exact hf _ _ h
   ·rename_i e;rw[if_neg e]at h;exact ih vs t v h
theorem V7 {F F':Nat->Option Obj} {ρ ρ':Nat->Option Loc} {f:AV->AV} (hf:∀ a v,Ak F ρ a v->Ak F' ρ' (f a) v) {h:Array Obj} {L:Loc} {d:ZF} {ts:List Nat} {vs:List AV} {j:Nat} (H:Bv F ρ h L (.lp d ts vs j)):Bv F' ρ' h L (.lp d ts (vs.map f) j):=by
 obtain⟨r,h1,h2,h3,h4,h5,h6,h7⟩:=H;exact⟨r,h1,h2,h3,h4,h5,h6,λ t=>Jfg hf ts vs t _ (h7 t)⟩
theorem Cf.put {F:Nat->Option Obj} {ρ:Nat->Option Loc} {env:List (Nat×AV)} {a:Act} {d:Tmp} {v:Value} {x:AV} (H:Cf F ρ env a.tmps) (hd:d<a.tmps.size) (hx:Ak F ρ x v) :
  Cf F ρ ((d,x)::env) (a.put (some d) v).tmps:=by
 intro t;rw[Bi];by_cases h:d=t
 ·subst h;simp[Act.put,hd,hx]
 ·rw[if_neg h];have:=H t;simpa [Act.put,JlQ h]using this
theorem Bo.plain {F:Nat->Option Obj} {x:D} {v:Value} (h:Bo F x v) (hx:x.flat) (F':Nat->Option Obj):Bo F' x v:=by
 cases h with
 | int k n=>exact .int k n
 | bool b=>exact .bool b
 | str s=>exact .str s
 | nil=>exact .nil
 | sl0 a cap=>exact .sl0 a cap
 | sl es b off cap sz cs t fr g h1 h2 h3 h4 h5=>simp[D.flat]at hx;subst hx;exact .sl0 _ _
 | nilp=>exact .nilp
 | nilm=>exact .nilm
 | nilf=>exact .nilf
 | po0=>simp[D.flat]at hx
 | po e l b o cs t fr g h1 h2 h3=>simp[D.flat]at hx
structure Mu (w w':World):Prop where
 os:w'.os=w.os
 out:w'.output=w.output
 size:w.heap.size<=w'.heap.size
 tape:w'.tape=w.tape
 drawn:w.drawn<=w'.drawn
theorem Mu.refl (w:World):Mu w w:=⟨rfl,rfl,JlO _,rfl,JlO _⟩
theorem Mu.trans {w w' w'':World} (h:Mu w w') (h':Mu w' w''):Mu w w'':=⟨h'.os.trans h.os,h'.out.trans h.out,Nat.le_trans h.size h'.size,h'.tape.trans h.tape,Nat.le_trans h.drawn h'.drawn⟩
theorem Mu.draw {w w':World} (h:Mu w w'):Mu w { w' with drawn:=w'.drawn+1 }:=⟨h.os,h.out,h.size,h.tape,Nat.le_succ_of_le h.drawn⟩
theorem Mu.push {w w':World} {cs:Array Value} {t:TypeId} (h1:w'.os=w.os) (h2:w'.output=w.output) (h3:w'.heap=w.heap.push (.cells cs t)) (h4:w'.tape=w.tape:=by rfl) (h5:w.drawn<=w'.drawn:=by first|exact JlO _|exact Nat.le_succ _):Mu w w':=⟨h1,h2,by rw[h3];simp,h4,h5⟩
theorem Jls {w w':World} {es:Array MapEntry} {c:Nat} (h1:w'.os=w.os) (h2:w'.output=w.output) (h3:w'.heap=w.heap.push (.map es c)) (h4:w'.tape=w.tape:=by rfl) (h5:w.drawn<=w'.drawn:=by first|exact JlO _|exact Nat.le_succ _):Mu w w':=⟨h1,h2,by rw[h3];simp,h4,h5⟩
theorem Mu.set {w:World} {b:Nat} {cs cs':Array Value} {t t':TypeId} {fr:Nat×Nat} (_:w.heap[b]?=some (.cells cs t fr)):Mu w { w with heap:=w.heap.setIfInBounds b (.cells cs' t' fr) }:=⟨rfl,rfl,by simp,rfl,JlO _⟩
theorem Jlt {w:World} {b:Nat} {es:Array MapEntry} {c:Nat}:Mu w { w with heap:=w.heap.setIfInBounds b (.map es c) }:=⟨rfl,rfl,by simp,rfl,JlO _⟩
structure W0 where
 w:World
 kp:Nat->Option Value
 rk:Nat->Option Loc
def TS (nt:Slt) (kp:Nat->Option Value) (tmps:Array Value):Prop:=tmps.size=nt.n/\∀ t v,kp t=some v->t∈nt.kl/\tmps[t]?=some v
theorem TS.put {nt:Slt} {kp:Nat->Option Value} {a:Act} {d:Option Tmp} {v:Value} (h:TS nt kp a.tmps) (hd:BE nt d=true):TS nt kp (a.put d v).tmps:=by
 cases d with
 | none=>exact h
 | some d=>
  simp only[BE,Jl0,decide_eq_true_eq,Bool.not_eq_true']at hd;refine⟨by simp[Act.put,h.1],λ t u ht=>?_⟩;obtain⟨h1,h2⟩:=h.2 t u ht;refine⟨h1,?_⟩;have hne:d≠t:=λ e=>by
   subst e;rw[List.contains_iff_mem.2 h1]at hd;cases hd.2
  simp only[Act.put];rw[JlQ hne];exact h2
theorem TS.lt {nt:Slt} {kp:Nat->Option Value} {tmps:Array Value} {d:Tmp} (h:TS nt kp tmps) (hd:BE nt (some d)=true):d<tmps.size:=by
 simp only[BE,Jl0,decide_eq_true_eq]at hd;rw[h.1];exact hd.1
def RK (w0:W0) (nt:Slt) (ρ:Nat->Option Loc):Prop:=∀ j L,w0.rk j=some L->j<nt.nk/\ρ j=some L
theorem RK.mono {w0:W0} {nt:Slt} {ρ ρ':Nat->Option Loc} (h:RK w0 nt ρ) (hρ:RLe ρ ρ'):RK w0 nt ρ':=λ j L hj=>⟨(h j L hj).1,hρ _ _ (h j L hj).2⟩
def QD (P:Program) (d:Deferred):Prop:=∃ fv cap f args,d.target=.fn fv cap/\(∀ w,(invoke d.target d.args).run P w=.ok (.enter f args) w)/\∀ w,CallsDIn Fence.wide (0-1) P f args .returning w λ e u' w'=>∃ v,e=.returned v/\settle u'=.returning/\w'.heap=w.heap/\Mu w w'
def PD (b:Nat):Deferred:={ target:=.collected b,args:=#[] }
def MR (f:FuncId) (vs:Array Value):Deferred:={ target:=.fn (.func f) vs,args:=#[] }
inductive Rx (nt:Slt):List Nat->List Deferred->Prop
 | nil:Rx nt [] []
 | mark {l:List Nat} {ds:List Deferred} (b:Nat) (h:Rx nt l ds):Rx nt (b::l) (PD b::ds)
 | quiet {l:List Nat} {ds:List Deferred} {f:FuncId} {vs:Array Value} (hd:(f,vs.size)∈nt.qf) (h:Rx nt l ds):Rx nt l (MR f vs::ds)
theorem Rx.uniq {nt:Slt} {l l':List Nat} {ds:List Deferred} (h:Rx nt l ds) (h':Rx nt l' ds):l=l':=by
 induction h generalizing l' with
 | nil=>cases h';rfl
 | @mark l ds b h ih=>
  generalize hx:PD b::ds=ds' at h';cases h' with
  | nil=>cases hx
  | mark b' h2=>
   simp only[List.cons.injEq,PD,Deferred.mk.injEq,Target.collected.injEq,and_true]at hx;obtain⟨rfl,rfl⟩:=hx;rw[ih h2]
  | quiet hd h2=>
   simp only[List.cons.injEq,PD,MR,Deferred.mk.injEq]at hx;obtain⟨⟨h,_⟩,_⟩:=hx;cases h
 | @quiet l ds f vs hd h ih=>
  generalize hx:MR f vs::ds=ds' at h';cases h' with
  | nil=>cases hx
  | mark b' h2=>
   simp only[List.cons.injEq,PD,MR,Deferred.mk.injEq]at hx;obtain⟨⟨h,_⟩,_⟩:=hx;cases h
  | quiet hd2 h2=>
   simp only[List.cons.injEq]at hx;obtain⟨_,rfl⟩:=hx;exact ih h2
def Dfr (w0:W0) (nt:Slt) (F:Nat->Option Obj) (ds:List Deferred):Prop:=∃ l:List Nat,Rx nt l ds/\l.Nodup/\∀ b∈l,w0.w.heap.size<=b/\F b=some (.deferred (some []))
theorem Dfr.nil {w0:W0} {nt:Slt} {F:Nat->Option Obj}:Dfr w0 nt F []:=⟨[],.nil,List.nodup_nil,λ b h=>by cases h⟩
theorem Dfr.mono {w0:W0} {nt:Slt} {F F':Nat->Option Obj} {ds:List Deferred} (h:Dfr w0 nt F ds) (hF:FLe F F'):Dfr w0 nt F' ds:=by
 obtain⟨l,h1,h2,h3⟩:=h;exact⟨l,h1,h2,λ b hb=>⟨(h3 b hb).1,hF _ _ (h3 b hb).2⟩⟩
def Inv (N:Nat->Prop) (H0 F0:Nat->Option Obj) (w0:W0) (nt:Slt) (st:St) (a:Act) (w:World):Prop:=
 ∃ F ρ,Sim N H0 F0 F ρ st.objs w.heap/\Cf F ρ st.env a.tmps/\TS nt w0.kp a.tmps/\Dfr w0 nt F a.defers/\Mu w0.w w/\RK w0 nt ρ
end Go.AI
end
section
namespace Go.AI
inductive Ay (nk:Nat):St->St->Prop
 | refl (st:St):Ay nk st st
 | trans {a b c:St} (h:Ay nk a b) (h':Ay nk b c):Ay nk a c
 | toN {st:St} (k sz:Nat) (es:List (List D)) (h:obA st.objs k=some (.arr sz es)):Ay nk st ⟨st.env,st.objs.set k (some (.narr sz (es.map λ e=>e.map toN)))⟩
 | out {st:St} (k sz i j isz:Nat) (es:List (List AV)) (e:List AV) (xs:List (List D)) (h:obA st.objs k=some (.narr sz es)) (hi:es[i]?=some e) (hj:e[j]?=some (.own isz xs)) :
   Ay nk st ⟨st.env,st.objs.set k (some (.narr sz (es.set i (e.set j (.osl st.objs.length isz 0 xs.length)))))++[some (.arr isz xs)]⟩
 | inn {st:St} (k sz i j m isz:Nat) (es:List (List AV)) (e:List AV) (xs:List (List D)) (h:obA st.objs k=some (.narr sz es)) (hi:es[i]?=some e) (hj:e[j]?=some (.osl m isz 0 xs.length)) (hm:obA st.objs m=some (.arr isz xs)) :
   Ay nk st ⟨st.env,(st.objs.set m none).set k (some (.narr sz (es.set i (e.set j (.own isz xs)))))⟩
 | frz {st:St} (t k sz:Nat) (es:List (List AV)) (ht:lkA st.env t=.osl k sz 0 es.length) (h:obA st.objs k=some (.narr sz es)) (hn:∀ e∈es,∀ a∈e,isN a=true) :
   Ay nk st ⟨(t,.d (.sl (es.map λ e=>e.map ofN)))::st.env,st.objs.set k none⟩
 | frzA {st:St} (t k sz lo n:Nat) (es:List (List D)) (ht:lkA st.env t=.osl k sz lo n) (h:obA st.objs k=some (.arr sz es)) (hn:lo+n<=es.length) :
   Ay nk st ⟨(t,.d (.sl ((es.drop lo).take n)))::st.env,st.objs.set k none⟩
 | gc {st:St} (ts:List Nat):Ay nk st (gcA nk ts st)
 | nilo {st:St} (t sz:Nat) (h:lkA st.env t=.d .nil):Ay nk st ⟨(t,.osl st.objs.length sz 0 0)::st.env,st.objs++[some (.arr sz [])]⟩
 | nilc {st:St} (k i sz:Nat) (cells:List AV) (h:obA st.objs k=some (.box cells)) (hi:cells[i]?=some (.d .nil)) :
   Ay nk st ⟨st.env,st.objs.set k (some (.box (cells.set i (.osl st.objs.length sz 0 0))))++[some (.arr sz [])]⟩
 | frzC {st:St} (kb i k sz lo n:Nat) (cells:List AV) (es:List (List D)) (hb:obA st.objs kb=some (.box cells)) (hi:cells[i]?=some (.osl k sz lo n)) (h:obA st.objs k=some (.arr sz es)) (hn:lo+n<=es.length) :
   Ay nk st ⟨st.env,(st.objs.set k none).set kb (some (.box (cells.set i (.d (.sl ((es.drop lo).take n))))))⟩
 | nilD {st:St} (t:Nat) (h:lkA st.env t=.d .nil):Ay nk st ⟨(t,.d (.sl []))::st.env,st.objs⟩
 | nilDc {st:St} (k i:Nat) (cells:List AV) (h:obA st.objs k=some (.box cells)) (hi:cells[i]?=some (.d .nil)):Ay nk st ⟨st.env,st.objs.set k (some (.box (cells.set i (.d (.sl [])))))⟩
 | sub {st:St} (t k sz lo n:Nat) (es:List (List D)) (ht:lkA st.env t=.osl k sz lo n) (h:obA st.objs k=some (.arr sz es)) (hn:lo+n<=es.length) :
   Ay nk st ⟨(t,.osl st.objs.length sz 0 n)::st.env,st.objs.set k none++[some (.arr sz ((es.drop lo).take n))]⟩
 | subC {st:St} (kb i k sz lo n:Nat) (cells:List AV) (es:List (List D)) (hb:obA st.objs kb=some (.box cells)) (hi:cells[i]?=some (.osl k sz lo n)) (h:obA st.objs k=some (.arr sz es)) (hn:lo+n<=es.length) :
   Ay nk st ⟨st.env,(st.objs.set k none).set kb (some (.box (cells.set i (.osl st.objs.length sz 0 n))))++[some (.arr sz ((es.drop lo).take n))]⟩
 | reown {st:St} (k sz:Nat) (es es':List (List AV)) (h:obA st.objs k=some (.narr sz es)) (hl:es.length=es'.length)
   (hr:∀ (i:Nat) (e e':List AV),es[i]?=some e->es'[i]?=some e'->e.length=e'.length/\∀ (j:Nat) (a a':AV),e[j]?=some a->e'[j]?=some a'->a=a'\/(a=.own 0 []/\∃ s,a'=.own s [])) :
   Ay nk st ⟨st.env,st.objs.set k (some (.narr sz es'))⟩
 | dup {st:St} (t:Nat):Ay nk st ⟨(t,lkA st.env t)::st.env,st.objs⟩
 | sem {a b:St} (h:∀ (N:Nat->Prop) (H0 F0:Nat->Option Obj) (w0:W0) (nt:Slt) (x:Act) (w:World),nt.nk=nk->Inv N H0 F0 w0 nt a x w->Inv N H0 F0 w0 nt b x w):Ay nk a b
def Ry (nk:Nat) (B:St->Prop) (Q:Ex->St->Prop):Ex->St->Prop
 | .normal,s=>∃ s',Ay nk s s'/\B s'
 | .exit i,s=>Q (.exit i) s
 | .ret,s=>Q .ret s
def IZ (id:Nat) (Q:Ex->St->Prop):Ex->St->Prop
 | .exit i,s=>bif Nat.beq i id then Q .normal s else Q (.exit i) s
 | .normal,s=>Q .normal s
 | .ret,s=>Q .ret s
def Ji0 (nk:Nat) (I:Nat->St->Prop) (n:Nat) (Q:Ex->St->Prop):Ex->St->Prop
 | .normal,s=>∃ m s',m<n/\Ay nk s s'/\I m s'
 | .exit i,s=>Q (.exit i) s
 | .ret,s=>Q .ret s
def HA:Op->Bool
 | .move _ | .assign _ | .build _ _ | .load _ _ | .nilCheck _ | .binOp _ _ _ _ _ | .unOp _ _ _ | .convert _ _ _ | .slice _ _ _ _ _ | .fieldAddr _ _ _ | .field _ _ _ | .indexAddr _ _ _ | .index _ _ _ | .extract _ _=>true
 | .call ⟨.builtin .len,_,_⟩=>true
 | .call ⟨.builtin .min,_,_⟩=>true
 | .call ⟨.builtin .max,_,_⟩=>true
 | _=>false
def Ez:Op->Bool
 | .call ⟨.value _,_,_⟩=>true
 | _=>false
def alB (o:Oper):Bool:=(match o.op with | .alloc _=>true|_=>false)&&o.guard.isNone&&o.dst.isSome
def yM (ops:Array Oper) (b m:Nat):Nat:=match m with
 | 0=>0
 | k+1=>bif Nat.ble b k&&(match ops[k]? with|some o=>alB o|none=>false)then k else k+1
def Mn (ops:Array Oper) (b x m:Nat):Bool:=
 let cl:=Region.before ops
 Nat.blt m ops.size&&Nat.ble b x&&Nat.ble b m&&(match ops[x]? with|some o=>Ez o.op|none=>true)&&ops.toList.zipIdx.all λ (oj,j)=>
  (oj.after.all λ e=>!Region.binds .any e||decide (e.on<j))&&(Nat.blt j b||(bif Nat.blt j m then(cl.getD m 0).testBit j&&(bif Nat.beq j x then Ez oj.op else HA oj.op||(Nat.beq (j+1) m&&alB oj))else Nat.beq j m||(cl.getD j 0).testBit m))&&(match oj.guard with|some (k,_)=>decide (k<j)|none=>true) &&
  ops.toList.zipIdx.all λ (oi,i)=>(i==j)||(match oi.dst with
   | none=>true
   | some d=>(oj.dst != some d)&&(!(CH ops.toList oj).contains d||(bif decide (i<j)then Region.waitsFor .any ops j i else Region.waitsFor .any ops i j)))
def ldX (t:Ty) (objs:List (Option Ob)):AV->Option AV
 | .ptr k off=>match obA objs k with
  | some (.box cells)=>bif Nat.ble (off+t.size) cells.length then CA cells off t else none
  | _=>none
 | .dptr e off=>bif Nat.ble (off+t.size) e.length then CA (e.map .d) off t else none
 | _=>none
def exX (ops:Array Oper) (b x m i:Nat):Bool:=Nat.blt i b||Nat.beq i x||Nat.ble m x||(Nat.blt i x&&((Region.before ops).getD x 0).testBit i)||(Nat.blt x i&&((Region.before ops).getD i 0).testBit x)
def ldL (Γ:Nat->Ty) (ops:Array Oper) (b x m:Nat) (e0 e1:List (Nat×AV)) (objs:List (Option Ob)):List (Option AV):=
 (ops.toList.take m).zipIdx.map λ (o,i)=>bif exX ops b x m i then some .top else match o.op with
  | .load t a=>ldX (Γ t) objs (unG (PB ops.toList e0 e1 i a))
  | _=>some .top
def Jfh (Γ:Nat->Ty) (ops:Array Oper) (b x m:Nat) (e0 e1:List (Nat×AV)) (O0 O1:List (Option Ob)):Prop:=ldL Γ ops b x m e0 e1 O0=ldL Γ ops b x m e0 e1 O1/\(ldL Γ ops b x m e0 e1 O0).all Option.isSome=true
def Ji1 (Γ:Cx) (ops:Array Oper) (x:Nat) (nt:Slt) (o:Oper) (g:Bool) (st st':St):Prop:=
 ops[x]?=some o/\∃ (v:AV) (O1:List (Option Ob)),st'=⟨putA o.dst o.guard.isSome g v st.env,O1⟩/\∀ env,(∀ y∈o.op.operands.toList,Al env y=Al st.env y)->Γ.ext nt o g ⟨env,st.objs⟩ ⟨putA o.dst o.guard.isSome g v env,O1⟩
def cxX (Γ:Cx) (ops:Array Oper) (x:Nat):Cx:={ ty:=Γ.ty,nt:=Γ.nt,calls:=λ _ _ _=>False,lent:=λ _ _ _ _ _ _=>False,ext:=Ji1 Γ ops x,exn:=λ _ _ _ _=>False,lentS:=λ _ _ _ _ _=>False,rd:=Γ.rd }
def phX (Γ:Cx) (ops:Array Oper) (Q:St->Prop):Nat->Nat->St->Prop
 | 0,b,st=>b=ops.size/\Q st
 | f+1,b,st=>(b=ops.size/\Q st)\/∃ x m,b<=m/\Mn ops b x m=true/\HR (cxX Γ ops x) false (ops.toList.take m) ((ops.toList.take m).drop b) (λ s=>Jfh Γ.ty ops b x m st.env s.env st.objs (bif Nat.blt (yM ops b m) m then s.objs.dropLast else s.objs)/\∃ F,ops[m]?=some F/\A1 Γ false ops.toList F (λ s'=>phX Γ ops Q f (m+1) s') s) st
def Jc8 (ops:Array Oper) (m:Nat):Bool:=
 let cl:=Region.before ops
 Nat.blt m ops.size&&ops.toList.zipIdx.all λ (oj,j)=>
  (oj.after.all λ e=>!Region.binds .any e||decide (e.on<j))&&(match oj.guard with|some (k,_)=>decide (k<j)|none=>true) &&
  (Nat.blt j m||((Nat.beq j m||(cl.getD j 0).testBit m)&&(List.range m).all λ i=>(cl.getD j 0).testBit i))
def JkH (Γ:Cx) (ops:Array Oper) (Q:St->Prop) (f m:Nat) (st:St):Prop:=Jc8 ops m=true/\HR Γ true (ops.toList.take m) (ops.toList.take m) (λ s=>MQ true (ops.toList.take m).toArray st.env s.env=true/\∃ F,ops[m]?=some F/\A1 Γ false ops.toList F (λ s'=>phX Γ ops Q f (m+1) s') s) st
def lzF (ops:Array Oper):Option (Tmp×Tmp):=match ops[0]? with
 | some o=>(match o.dst,o.op with
  | some d,.move (.tmp t)=>bif o.guard.isNone&&o.after.isEmpty&&!(Nat.beq d t)then some (d,t)else none
  | _,_=>none)
 | none=>none
def Xr (ops:Array Oper):Bool:=match lzF ops with
 | some (d,t)=>ops.toList.zipIdx.all λ (oj,j)=>ndB oj.op&&(match oj.op with | .select _ _=>false|_=>true) &&
   (Nat.beq j 0||oj.after.any (λ e=>Region.binds .any e&&Nat.beq e.on 0)||(!(oj.looksAt ops).contains d&&(oj.dst != some d)&&(oj.dst != some t)))
 | none=>false
def lzS (ops:Array Oper) (st:St):St:=match lzF ops with
 | some (d,t)=>⟨(d,lkA st.env t)::st.env,st.objs⟩
 | none=>st
def lzD (Γ:Cx) (ops:Array Oper):Bool:=match lzF ops with
 | some (d,_)=>BE Γ.nt (some d)
 | none=>false
def Ji2 (Γ:Cx) (ops:Array Oper) (Q:St->Prop) (st:St):Prop:=(∃ f,phX Γ ops Q f 0 st)\/(∃ f m,JkH Γ ops Q f m st)\/∃ f,(Xr ops&&lzD Γ ops)=true/\phX Γ ops Q f 1 (lzS ops st)
def Uq (Q:Ex->St->Prop) (js:List Code) (j:Nat) (st:St):Prop:=
 match j with
 | 0=>Q .normal st
 | 1=>False
 | i+2=>match js[i]? with
  | some .ret=>Q .ret st
  | some (.exit k)=>Q (.exit k) st
  | _=>False
def lpJ (objs:List (Option Ob)) (k:Nat):Option (List Code×Nat):=
 match obA objs k with
 | some (.lp d _ _ j)=>some (d.js,j)
 | _=>none
def rgO (Γ:Cx) (ps:Array Tmp) (asg body:Code) (js:List Code) (ts:List Nat) (st:St):List (Option Ob):=st.objs++[some (.lp ⟨Γ.nt.n,ps.toList,asg,body,js⟩ ts (ts.map (lkA st.env)) 0)]
def SZ (Γ:Cx) (g:Operand) (ps:Array Tmp) (asg body:Code) (Q:Ex->St->Prop) (st:St):Prop:=
 match Al st.env g with
 | .clo f caps=>∃ (js:List Code) (ts:List Nat) (nb:Nat) (r:AV) (objs1:List (Option Ob)) (j:Nat),
   Γ.rd=false/\Γ.lent f ((.yld st.objs.length::caps).map (IX (AL (rgO Γ ps asg body js ts st) (.yld st.objs.length::caps)))) (Fw (rgO Γ ps asg body js ts st) (AL (rgO Γ ps asg body js ts st) (.yld st.objs.length::caps))) nb r objs1 /\
   nb<=(AL (rgO Γ ps asg body js ts st) (.yld st.objs.length::caps)).length/\nb<=objs1.length/\(∀ k∈AL (rgO Γ ps asg body js ts st) (.yld st.objs.length::caps),k<(rgO Γ ps asg body js ts st).length) /\
   lpJ (Dk (rgO Γ ps asg body js ts st) (AL (rgO Γ ps asg body js ts st) (.yld st.objs.length::caps)) nb objs1) st.objs.length=some (js,j) /\
   Uq Q js j ⟨st.env,(Dk (rgO Γ ps asg body js ts st) (AL (rgO Γ ps asg body js ts st) (.yld st.objs.length::caps)) nb objs1).set st.objs.length none⟩
 | _=>False
def S0 (Γ:Cx) (g:Operand) (ps:Array Tmp) (asg body:Code) (Q:Ex->St->Prop) (st:St):Prop:=
 match Al st.env g with
 | .clo f caps=>∃ (js:List Code) (ts:List Nat) (nb:Nat) (R:AV->List (Option Ob)->Prop),
   Γ.rd=false/\Γ.lentS f ((.yld st.objs.length::caps).map (IX (AL (rgO Γ ps asg body js ts st) (.yld st.objs.length::caps)))) (Fw (rgO Γ ps asg body js ts st) (AL (rgO Γ ps asg body js ts st) (.yld st.objs.length::caps))) nb R /\
   nb<=(AL (rgO Γ ps asg body js ts st) (.yld st.objs.length::caps)).length/\(∀ k∈AL (rgO Γ ps asg body js ts st) (.yld st.objs.length::caps),k<(rgO Γ ps asg body js ts st).length) /\
   ∀ r objs1,R r objs1->nb<=objs1.length/\∃ j,lpJ (Dk (rgO Γ ps asg body js ts st) (AL (rgO Γ ps asg body js ts st) (.yld st.objs.length::caps)) nb objs1) st.objs.length=some (js,j) /\
    Uq Q js j ⟨st.env,(Dk (rgO Γ ps asg body js ts st) (AL (rgO Γ ps asg body js ts st) (.yld st.objs.length::caps)) nb objs1).set st.objs.length none⟩
 | _=>False
def Ji3 (Γ:Cx) (o:Oper) (Q:St->Prop) (st:St):Prop:=o.guard=none/\BE Γ.nt o.dst=true/\∃ S:St->Prop,Γ.exn Γ.nt o st S/\∀ st',S st'->Q st'
def Ji4 (Γ:Cx) (ops:List Oper) (Q:St->Prop) (st:St):Prop:=∃ i o,ops[i]?=some o/\HR Γ false ops (ops.take i) (λ s=>Ji3 Γ o (λ s'=>HR Γ false ops (ops.drop (i+1)) Q s') s) st
def wpA (Γ:Cx):Code->(Ex->St->Prop)->St->Prop
 | .skip,Q,st=>Q .normal st
 | .region _ ops draw,Q,st=>∃ st',Ay Γ.nt.nk st st'/\(HR Γ draw ops.toList ops.toList (λ s=>MQ draw ops st'.env s.env=true/\Q .normal s) st'\/draw=true/\Ji2 Γ ops (Q .normal) st'\/draw=false/\Ji4 Γ ops.toList (Q .normal) st')
 | .seq a b,Q,st=>wpA Γ a (Ry Γ.nt.nk (wpA Γ b Q) Q) st
 | .cond c a b,Q,st=>Xq (Al st.env c) (wpA Γ a Q st) (wpA Γ b Q st)
 | .block id c,Q,st=>wpA Γ c (IZ id Q) st
 | .loop c,Q,st=>∃ (I:Nat->St->Prop) (n:Nat),(∃ s',Ay Γ.nt.nk st s'/\I n s')/\∀ n st,I n st->wpA Γ c (Ji0 Γ.nt.nk I n Q) st
 | .exit id,Q,st=>Q (.exit id) st
 | .ret,Q,st=>Q .ret st
 | .scope c,Q,st=>wpA Γ c Q st
 | .label _,Q,st=>Q .normal st
 | .rangeFunc g ps asg body,Q,st=>∃ s',Ay Γ.nt.nk st s'/\(SZ Γ g ps asg body Q s'\/S0 Γ g ps asg body Q s')
 | _,_,_=>False
end Go.AI
end
section
namespace Go.AI
def D.val:D->Value
 | .int k n=>.int k n
 | .bool b=>.bool b
 | .str s=>.string ⟨s.toArray⟩
 | .nil=>.slice none 0 0
 | .nilp=>.pointer none
 | .nilm=>.map none
 | .nilf=>.nilFunc
 | .sl _=>undef
 | .po _=>undef
def D.isPlain:D->Bool
 | .sl _=>false
 | .po _=>false
 | _=>true
theorem Bo.val (F:Nat->Option Obj) {x:D} (h:x.isPlain=true):Bo F x x.val:=by
 cases x with
 | int k n=>exact .int k n
 | bool b=>exact .bool b
 | str s=>exact .str s
 | nil=>exact .nil
 | sl es=>cases h
 | nilp=>exact .nilp
 | nilm=>exact .nilm
 | nilf=>exact .nilf
 | po e=>cases h
def HW:TypeDesc->Bool
 | .struct _=>true
 | .array _ _=>true
 | _=>false
structure HB (P:Program) (key:TypeId) (ka:Bool) (ks:List TK):Prop where
 chk:∀ (F:Nat->Option Obj) (a:List D) (x:Value) (w:World) (b:Bool),KV F ka a x->(Az ks (a.map .d) (a.map .d)).isSome=true->(Instr.checkKey b 10000 key x).run P w=.ok () w
 now:∃ d,P.underlying key=some d/\∀ (F:Nat->Option Obj) (a b:List D) (x y:Value) (r:Bool),KV F ka a x->KV F ka b y->Az ks (a.map .d) (b.map .d)=some r->Instr.sameNow d x y=if ka then none else some r
 eq:∀ (F:Nat->Option Obj) (a b:List D) (x y:Value) (r:Bool) (w:World),KV F ka a x->KV F ka b y->Az ks (a.map .d) (b.map .d)=some r->(Op.equal key x y).run P w=.ok r w
 same:∀ (F:Nat->Option Obj) (a b:List D) (x y:Value),KV F ka a x->KV F ka b y->Az ks (a.map .d) (b.map .d)=some true->Instr.sameBits 10000 y x=true
def In (P:Program) (d:TypeDesc):TK->Prop
 | .int k=>d=.int k
 | .bool=>d=.bool
 | .string=>d=.string
 | .struct offs=>∃ fields,d=.struct fields/\fields.size=offs.length/\∀ (i o s:Nat),offs[i]?=some (o,s)->∃ f j,fields[i]?=some f/\f.offset=o/\P.info? f.type=some j/\j.size=s/\s≠0/\∃ e,P.underlying f.type=some e/\(s=1->HW e=false)
 | .slice esz eb ez=>∃ elem i z,d=.slice elem/\P.info? elem=some i/\i.size=esz/\i.bytes=eb/\i.zero=some z/\z.cells.toList=ez.map D.val/\ez.all D.isPlain=true/\ez.length=esz/\(ez=[.int .u8 0]->P.underlying elem=some (.int .u8))
 | .array n esz=>∃ elem i,d=.array n elem/\P.info? elem=some i/\i.size=esz
 | .map ks ka va vz=>∃ key elem i z,d=.map key elem/\HB P key ka ks/\P.info? elem=some i/\i.zero=some z/\vz.all D.isPlain=true/\(va=true->∃ zs,z=.agg zs/\zs.toList=vz.map D.val)/\(va=false->∃ x,vz=[x]/\z=x.val)
 | .other=>True
def MS (P:Program) (t:TypeId) (ks:List TK):Prop:=
 ∀ (l l':List AV) (r:Bool) (xs ys:Array Value) (F:Nat->Option Obj) (ρ:Nat->Option Loc) (w:World) (x y:Operand),Az ks l l'=some r->Ak F ρ (.agg l) (.agg xs)->Ak F ρ (.agg l') (.agg ys) ->
  (do eqGuard .eql t x y (.agg xs) (.agg ys);binOp .eql t (.agg xs) (.agg ys)).run P w=.ok (.bool r) w /\
  (do eqGuard .neq t x y (.agg xs) (.agg ys);binOp .neq t (.agg xs) (.agg ys)).run P w=.ok (.bool !r) w
structure AD (P:Program) (t:TypeId) (y:Ty):Prop where
 info:∃ i z,P.info? t=some i/\i.size=y.size/\i.zero=some z/\z.cells.toList=y.zero.map D.val
 plain:y.zero.all D.isPlain=true
 desc:∃ d,P.underlying t=some d/\HW d=y.agg/\In P d y.kind
 one:y.agg=false->y.size=1
 pos:1<=y.size
 eq:y.eqk≠[]->MS P t y.eqk
def I0 (P:Program) (Γ:Nat->Ty):Prop:=∀ t,(Γ t).ok=true->AD P t (Γ t)
section
variable {P:Program} (w:World)
theorem Lf {t:TypeId} {d:TypeDesc} (h:P.underlying t=some d):(isAgg t).run P w=.ok (HW d) w:=by
 simp only[isAgg,JlG,run_underlying h,JlE];cases d<;>simp[HW]
theorem AY {t:TypeId} {i:TypeInfo} (h:P.info? t=some i):(sizeOf t).run P w=.ok i.size w:=by
 simp[sizeOf,run_typeInfo w h]
theorem BH {t:TypeId} {i:TypeInfo} {z:Value} (h:P.info? t=some i) (hz:i.zero=some z):(zeroValue t).run P w=.ok z w:=by
 simp[zeroValue,run_typeInfo w h,hz]
end
theorem BP (b o n:Nat):(⟨b,o,none⟩:Addr).add n=⟨b,o+n,none⟩:=by
 unfold Addr.add;split
 ·rename_i h;subst h;rfl
 ·rfl
theorem Kg {w:World} {b o:Nat} {cs:Array Value} {t:TypeId} {fr:Nat×Nat} (h:w.heap[b]?=some (.cells cs t fr)):w.cell? ⟨b,o,none⟩=cs[o]? := by
 simp[World.cell?,h]
theorem V8 {w:World} {b o:Nat} {cs:Array Value} {t:TypeId} {fr:Nat×Nat} (h:w.heap[b]?=some (.cells cs t fr)) (hn:¬(fr.1<=o/\o<fr.2)):w.frozen? ⟨b,o,none⟩=false:=by
 simp[World.frozen?,h];omega
theorem O6 {P:Program} {w:World} {t:TypeId} {y:Ty} (hy:AD P t y) {b o:Nat} {cs:Array Value} {e:TypeId} {fr:Nat×Nat} (h:w.heap[b]?=some (.cells cs e fr)) (hsz:o+y.size<=cs.size) :
  (loadVar t ⟨b,o,none⟩).run P w=.ok (if y.agg then .agg (cs.extract o (o+y.size))else cs.getD o undef) w:=by
 obtain⟨i,z,hi,his,_,_⟩:=hy.info;obtain⟨d,hd,hda,_⟩:=hy.desc;simp only[loadVar,JlG,Lf w hd,JlE,hda];cases hagg:y.agg with
 | true=>
  have hl:=run_loadCells_list (P:=P) (w:=w) ⟨b,o,none⟩ ((cs.extract o (o+y.size)).toList) (by
   intro j v hv;rw[BP,Kg h];have hj:j<(cs.extract o (o+y.size)).toList.length:=by
    rcases JlP j (cs.extract o (o+y.size)).toList.length with h'|h'
    ·exact h'
    ·rw[Jmk h']at hv;cases hv
   rw[JlZ hj]at hv;simp at hv hj;rw[Jl4 (by omega)];simpa using hv)
  have hlen:(cs.extract o (o+y.size)).toList.length=i.size:=by simp;omega
  rw[hlen]at hl;simp only[if_true,JlG,AY w hi,JlE,hl,JlH,Array.toArray_toList]
 | false=>
  have h1:=hy.one hagg;simp[Kg h,show o<cs.size by omega]
def BX (cur:Array Value) (o:Nat):List Value->Array Value
 | []=>cur
 | v::vs=>BX (cur.setIfInBounds o v) (o+1) vs
theorem BF (o:Nat) (vs:List Value) (cur:Array Value):(BX cur o vs).size=cur.size:=by
 induction vs generalizing cur o with
 | nil=>rfl
 | cons v vs ih=>simp[BX,ih]
theorem F3 (vs:List Value):∀ (o:Nat) (cur:Array Value) (i:Nat),o+vs.length<=cur.size->(BX cur o vs)[i]?=if o<=i/\i<o+vs.length then vs[i-o]? else cur[i]? := by
 induction vs with
 | nil=>intro o cur i _;simp[BX];intro h h';omega
 | cons v vs ih=>
  intro o cur i h;simp only[List.length_cons]at h⊢;rw[BX,ih (o+1) _ i (by simp;omega)];by_cases hi:i=o
  ·subst hi;rw[if_neg (by omega),if_pos (by omega)];simp[show i<cur.size by omega]
  ·by_cases hr:o<=i/\i<o+(vs.length+1)
   ·rw[if_pos (by omega),if_pos hr];rw[show i-o=(i-(o+1))+1 by omega];simp
   ·rw[if_neg (by omega),if_neg hr,JlQ (by omega)]
theorem CI (P:Program) (b o:Nat) (t:TypeId) (fr:Nat×Nat):∀ (vs:List Value) (i:Nat) (cur:Array Value) (w:World),w.heap[b]?=some (.cells cur t fr)->o+i+vs.length<=cur.size->V6 fr cur.size->(∀ v∈vs,v.oneCell'=true) ->
  (storeCells ⟨b,o,none⟩ vs i).run P w=.ok () { w with heap:=w.heap.setIfInBounds b (.cells (BX cur (o+i) vs) t fr) }:=by
 intro vs;induction vs with
 | nil=>
  intro i cur w h _ _ _;have hb:b<w.heap.size:=by
   rcases JlP b w.heap.size with h'|h'
   ·exact h'
   ·rw[Array.getElem?_eq_none h']at h;cases h
  have:w.heap.setIfInBounds b (.cells cur t fr)=w.heap:=by
   rw[Jl4 hb]at h;have h:=Option.some.inj h;rw[← h];simp[Array.setIfInBounds,hb]
  simp[storeCells,BX,this]
 | cons v vs ih=>
  intro i cur w h hs hf hv;simp only[List.length_cons]at hs;have hb:b<w.heap.size:=by
   rcases JlP b w.heap.size with h'|h'
   ·exact h'
   ·rw[Array.getElem?_eq_none h']at h;cases h
  have hc:w.cell? ⟨b,o+i,none⟩=some cur[o+i]:=by rw[Kg h,Jl4]
  have hfz:w.frozen? ⟨b,o+i,none⟩=false:=V8 h (hf _ (by omega));have hst:=run_store P w ⟨b,o+i,none⟩ v .plain (hv v (by simp));have hset:w.setCell ⟨b,o+i,none⟩ v={ w with heap:=w.heap.setIfInBounds b (.cells (cur.setIfInBounds (o+i) v) t fr) }:=by
   have hx:w.heap.modify b (λ | .cells c elem frozen=>.cells (if(none:Option Nat).isSome then c else c.setIfInBounds (o+i) v) elem frozen|o=>o)=w.heap.setIfInBounds b (.cells (cur.setIfInBounds (o+i) v) t fr):=by
    apply Array.ext_getElem?;intro j;rw[Array.getElem?_modify];by_cases hj:b=j
    ·subst hj;rw[if_pos rfl,h];simp[hb]
    ·rw[if_neg hj,JlQ hj]
   simp only[World.setCell];rw[← hx];rfl
  simp only[storeCells,JlG,BP,hst,hc,hfz,hset];simp only[Jmb,if_false,JlE];rw[ih (i+1) (cur.setIfInBounds (o+i) v) _ (by simp[hb]) (by simp;omega) (by simpa using hf) (λ x hx=>hv x (by simp[hx]))];simp[BX,JlT]
end Go.AI
end
section
namespace Go.AI
theorem Ak.int {F ρ k n v} (h:Ak F ρ (.d (.int k n)) v):v=.int k n:=by cases h with|d _ _ h=>cases h;rfl
theorem Ak.bool {F ρ b v} (h:Ak F ρ (.d (.bool b)) v):v=.bool b:=by cases h with|d _ _ h=>cases h;rfl
theorem Ak.str {F ρ s v} (h:Ak F ρ (.d (.str s)) v):v=.string ⟨s.toArray⟩:=by cases h with|d _ _ h=>cases h;rfl
theorem Ak.nil {F ρ v} (h:Ak F ρ (.d .nil) v):v=.slice none 0 0:=by cases h with|d _ _ h=>cases h;rfl
theorem Ak.mkInt {F ρ} (k:IntKind) (n:Int):Ak F ρ (.d (.int k n)) (.int k n):=.d _ _ (.int k n)
theorem Ak.mkBool {F ρ} (b:Bool):Ak F ρ (.d (.bool b)) (.bool b):=.d _ _ (.bool b)
theorem Ak.mkStr {F ρ} (s:List UInt8):Ak F ρ (.d (.str s)) (.string ⟨s.toArray⟩):=.d _ _ (.str s)
theorem Af {α:Type} {l:List α} {i:Nat} {x:α} (h:l[i]?=some x):i<l.length:=by
 rcases JlP i l.length with h'|h'
 ·exact h'
 ·rw[Jmk h']at h;cases h
theorem Av {α:Type} {l:Array α} {i:Nat} {x:α} (h:l[i]?=some x):i<l.size:=by
 rcases JlP i l.size with h'|h'
 ·exact h'
 ·rw[Array.getElem?_eq_none h']at h;cases h
def Jc9 (F:Nat->Option Obj) (ρ:Nat->Option Loc) (cells:List AV) (cs:Array Value) (o:Nat):Prop:=
 ∀ (j:Nat) (a:AV),cells[j]?=some a->∃ v,cs[o+j]?=some v/\Ak F ρ a v
theorem MT {P:Program} {w:World} {F ρ} {t:TypeId} {y:Ty} (hy:AD P t y) {b o off:Nat} {cs:Array Value} {e:TypeId} {fr:Nat×Nat} {cells:List AV} {av:AV}
  (h:w.heap[b]?=some (.cells cs e fr)) (hc:Jc9 F ρ cells cs o) (hsz:off+y.size<=cells.length) (hl:CA cells off y=some av) :
  ∃ v,(loadVar t ⟨b,o+off,none⟩).run P w=.ok v w/\Ak F ρ av v:=by
 have hin:o+off+y.size<=cs.size:=by
  have hp:=hy.pos;obtain⟨v,hv,_⟩:=hc (off+y.size-1) _ (JlZ (by omega));have:=Av hv;omega
 rw[O6 hy h hin];refine⟨_,rfl,?_⟩;unfold CA at hl;cases hag:y.agg with
 | true=>
  rw[hag,cond_true]at hl;cases hl;rw[if_pos rfl];refine .agg _ _ (by simp;omega) λ i a v ha hv=>?_;have hi:=Af ha;simp at hi;rw[Jmj (by omega),JlS]at ha;obtain⟨v',hv',hr⟩:=hc (off+i) a ha;rw[Array.getElem?_extract_of_lt (by omega)]at hv;rw[show o+(off+i)=o+off+i by omega,Jl4 (by omega),hv]at hv';cases hv';exact hr
 | false=>
  rw[hag,cond_false]at hl;obtain⟨v',hv',hr⟩:=hc off av hl;simp[hv',hr]
def Yf (a:AV):AV:=bif JE a then .top else a
theorem PE {a:AV} (h:CG a=true):Yf a=a:=by cases a<;>first|rfl|cases h
theorem ZJ {F:Nat->Option Obj} {ρ:Nat->Option Loc} {a:AV} {v:Value} (h:JE a=false->Ak F ρ a v):Ak F ρ (Yf a) v:=by
 unfold Yf;cases ho:JE a with
 | true=>exact .top _
 | false=>exact h ho
theorem ZK {l:List AV} (h:l.all CG=true):l.map Yf=l:=by
 induction l with
 | nil=>rfl
 | cons a l ih=>
  simp only[List.all_cons,Jl0]at h;rw[JlV,PE h.1,ih h.2]
theorem Jda {cells:List AV} {off:Nat} {y:Ty} {v:AV} (h:CA cells off y=some v) (hs:(Ar v).all CG=true):CA (cells.map Yf) off y=some v:=by
 unfold CA at h⊢;cases hag:y.agg with
 | true=>
  rw[hag,cond_true]at h;cases h;rw[cond_true,← List.map_drop,← List.map_take,ZK (l:=List.take y.size (List.drop off cells)) hs]
 | false=>
  rw[hag,cond_false]at h;rw[cond_false,Jl3,h];cases v with
  | agg l=>rfl
  | _=>simp only[Ar,List.all_cons,List.all_nil,Bool.and_true]at hs;rw[Option.map_some,PE hs]
variable {P:Program} {Γ:Nat->Ty} {F:Nat->Option Obj} {ρ:Nat->Option Loc} {N:Nat->Prop} {H0 F0:Nat->Option Obj} {O objs:List (Option Ob)} {w:World}
theorem Ot {t:TypeId} (hy:AD P t (Γ t)) (hS:Sim N H0 F0 F ρ O w.heap) (hO:∀ k ob,obA objs k=some ob->obA O k=some ob) {p:AV} {e:Eff} {pv:Value}
  (h:CX (Γ t) objs p=some e) (hob:e.ob) (hp:Ak F ρ p pv) :
  e.obs=[]/\e.rm=[]/\e.upd=none/\∃ v,(Instr.loadAt t pv).run P w=.ok v w/\Ak F ρ e.v v:=by
 cases hp with
 | ptr k off L hL=>
  simp only[CX]at h;split at h
  ·rename_i cells hcs;split at h
   ·rename_i v hv;simp only[A9,Jl9]at h;subst h;obtain⟨⟨h1,h2,cs,t',fr,h3,h4,h5,h6⟩,_⟩:=hS.obj k L _ hL (hO _ _ hcs);refine⟨rfl,rfl,rfl,?_⟩;have:=MT (P:=P) hy (o:=0) (off:=off) h3 (cells:=cells) (F:=F) (ρ:=ρ) (λ j a ha=>?_) hob hv
    ·rw[h1];simpa [Instr.loadAt,Instr.sureAddr]using this
    ·have hj:=Af ha;exact⟨cs[j],by rw[Jmd];exact Jl4 (by omega),h6 j a _ ha (Jl4 (by omega))⟩
   ·cases h
  ·cases h
 | eptr k sz i off L hL=>
  simp only[CX]at h;split at h
  ·rename_i sz' es hcs;split at h
   ·rename_i v hv;simp only[A9,Jl9]at h;subst h;obtain⟨hsz,hi,hoff⟩:=hob;subst hsz;obtain⟨⟨h1,h2,cs,t',fr,h3,h4,h5,h6⟩,_⟩:=hS.obj k L _ hL (hO _ _ hcs);refine⟨rfl,rfl,rfl,?_⟩;have hei:es[i]?=some es[i]:=JlZ hi;have:=MT (P:=P) hy (o:=L.base+i*sz) (off:=off) h3 (F:=F) (ρ:=ρ) (cells:=(es[i]?.getD []).map .d) (λ j a ha=>?_) (by simpa using hoff) hv
    ·simpa [Instr.loadAt,Instr.sureAddr]using this
    ·simp only[Jl3,Jl2]at ha;obtain⟨x,hx,rfl⟩:=ha;rw[hei]at hx;obtain⟨v,hv,hd⟩:=h6 i _ hei j x hx;exact⟨v,hv,.d _ _ hd⟩
   ·cases h
  ·rename_i sz' es hcs;split at h
   ·rename_i v hv;simp only[A9,Jl9]at h;subst h;obtain⟨hsz,hi,hoff,hsol⟩:=hob;subst hsz;obtain⟨⟨h1,h2,cs,t',fr,h3,h4,h5,h6⟩,_⟩:=hS.obj k L _ hL (hO _ _ hcs);refine⟨rfl,rfl,rfl,?_⟩;have hei:es[i]?=some es[i]:=JlZ hi;have:=MT (P:=P) hy (o:=L.base+i*sz) (off:=off) h3 (F:=F) (ρ:=ρ) (cells:=(es[i]?.getD []).map Yf) (λ j a ha=>?_) (by simpa using hoff) (Jda hv hsol)
    ·simpa [Instr.loadAt,Instr.sureAddr]using this
    ·simp only[Jl3,Jl2]at ha;obtain⟨x,hx,rfl⟩:=ha;rw[hei]at hx;obtain⟨v,hv,hd⟩:=h6 i _ hei j x hx;exact⟨v,hv,ZJ hd⟩
   ·cases h
  ·cases h
 | mp=>cases h
 | ifc=>cases h
 | clo=>cases h
 | yld=>cases h
 | dptr el off b o cs t' fr g hF hc hr=>
  simp only[CX]at h;split at h
  ·rename_i v hv;simp only[A9,Jl9]at h;subst h;refine⟨rfl,rfl,rfl,?_⟩;have:=MT (P:=P) hy (o:=o) (off:=off) (hS.frz _ _ hF) (F:=F) (ρ:=ρ) (cells:=el.map .d) (λ j a ha=>?_) (by simpa using hob) hv
   ·simpa [Instr.loadAt,Instr.sureAddr]using this
   ·simp only[Jl3,Jl2]at ha;obtain⟨x,hx,rfl⟩:=ha;exact⟨_,hc j x hx,.d _ _ (hr j x hx)⟩
  ·cases h
 | d=>cases h
 | agg=>cases h
 | tup=>cases h
 | osl=>cases h
 | osl0=>cases h
 | bsl=>cases h
 | gvT=>cases h
 | gvF=>cases h
 | top=>cases h
end Go.AI
end
section
namespace Go.AI
def Eff.quiet (e:Eff):Prop:=e.obs=[]/\e.rm=[]/\e.upd=none
theorem AF {v:AV} {ob:Prop} {e:Eff} (h:A9 v ob=some e):e.quiet/\e.v=v/\(e.ob↔ob):=by
 simp only[A9,Jl9]at h;subst h;exact⟨⟨rfl,rfl,rfl⟩,rfl,Iff.rfl⟩
theorem AG {v:AV} {e:Eff} (h:val v=some e):e.quiet/\e.v=v:=by
 simp only[val,Jl9]at h;subst h;exact⟨⟨rfl,rfl,rfl⟩,rfl⟩
variable {P:Program} {Γ:Nat->Ty} {F:Nat->Option Obj} {ρ:Nat->Option Loc} {N:Nat->Prop} {H0 F0:Nat->Option Obj} {O objs:List (Option Ob)} {w:World}
theorem PF {f:Field} {j:TypeInfo} (hj:P.info? f.type=some j) (h0:j.size≠0) (b o:Nat):(fieldPlace ⟨b,o,none⟩ f).run P w=.ok ⟨b,o+f.offset,none⟩ w:=by
 simp only[fieldPlace,JlG,AY w hj,JlE];rw[if_neg h0];simp[BP]
theorem Ur {t:TypeId} {f:Nat} (hy:AD P t (Γ t)) {p:AV} {e:Eff} {pv:Value} (h:PA (Γ t).kind f p=some e) (hp:Ak F ρ p pv) :
  e.quiet/\∃ v,(Instr.field t pv f).run P w=.ok v w/\Ak F ρ e.v v:=by
 obtain⟨d,hd,_,hk⟩:=hy.desc;unfold PA at h;split at h
 ·rename_i offs hkind;rw[hkind]at hk;obtain⟨fields,rfl,hlen,hf⟩:=hk;split at h
  ·rename_i o hos;obtain⟨fl,j,h1,h2,h3,h4,h5,e',h6,h7⟩:=hf f o 1 hos;subst h2;split at h
   ·rename_i l;split at h
    ·rename_i v hl;obtain⟨hq,hv⟩:=AG h;refine⟨hq,?_⟩;rw[hv];cases hp with
     | agg _ vs hln hr=>
      have hi:fl.offset<vs.size:=by rw[← hln];exact Af hl
      refine⟨vs[fl.offset],?_,hr _ v _ hl (Jl4 hi)⟩;simp only[Instr.field,JlG,run_underlying hd,JlE,h1,asAgg,JlH,part,Lf w h6,h7 rfl,Jmb,if_false,Jl4 hi]
    ·cases h
   ·cases h
  ·cases h
 ·cases h
theorem Rz {t:TypeId} {f:Nat} (hy:AD P t (Γ t)) {p:AV} {e:Eff} {pv:Value} (h:Kf (Γ t).kind f p=some e) (hp:Ak F ρ p pv) :
  e.quiet/\∃ v,(Instr.fieldAt t pv f).run P w=.ok v w/\Ak F ρ e.v v:=by
 obtain⟨d,hd,_,hk⟩:=hy.desc;unfold Kf at h;split at h
 ·rename_i offs hkind;rw[hkind]at hk;obtain⟨fields,rfl,hlen,hf⟩:=hk;split at h
  ·rename_i o s hos;obtain⟨fl,j,h1,h2,h3,h4,h5,_⟩:=hf f o s hos;subst h2;have hpl:=λ b' o'=>PF (w:=w) h3 (by omega) b' o';split at h
   ·rename_i k off;obtain⟨hq,hv⟩:=AG h;refine⟨hq,?_⟩;rw[hv];cases hp with
    | ptr _ _ L hL=>
     refine⟨_,?_,.ptr k (off+fl.offset) L hL⟩;simp[Instr.fieldAt,run_underlying hd,h1,Instr.sureAddr,hpl,JlT]
   ·rename_i k sz i off;obtain⟨hq,hv⟩:=AG h;refine⟨hq,?_⟩;rw[hv];cases hp with
    | eptr _ _ _ _ L hL=>
     refine⟨_,?_,.eptr k sz i (off+fl.offset) L hL⟩;simp[Instr.fieldAt,run_underlying hd,h1,Instr.sureAddr,hpl,JlT]
   ·rename_i el off;obtain⟨hq,hv⟩:=AG h;refine⟨hq,?_⟩;rw[hv];cases hp with
    | dptr _ _ b o' cs t' fr g hF hc hr=>
     refine⟨_,?_,.dptr el (off+fl.offset) b o' cs t' fr g hF hc hr⟩;simp[Instr.fieldAt,run_underlying hd,h1,Instr.sureAddr,hpl,JlT]
   ·cases h
  ·cases h
 ·cases h
theorem Yg {t:TypeId} {n:Int} {k:IntKind} (hy:AD P t (Γ t)) {p:AV} {e:Eff} {pv:Value} (h:Rw (Γ t).kind p n=some e) (hob:e.ob) (hp:Ak F ρ p pv) :
  e.quiet/\∃ v,(Instr.indexAt t pv (.int k n)).run P w=.ok v w/\Ak F ρ e.v v:=by
 obtain⟨d,hd,_,hk⟩:=hy.desc;unfold Rw at h;split at h
 ·rename_i esz eb ez kk sz lo m hkind;rw[hkind]at hk;obtain⟨elem,i,z,rfl,h1,h2,_⟩:=hk;obtain⟨hq,hv,hob'⟩:=AF h;refine⟨hq,?_⟩;obtain⟨h0,hlt,hsz⟩:=hob'.1 hob;rw[hv];cases hp with
  | osl _ _ _ _ cap L hL hc hs hz=>
   refine⟨_,?_,.eptr kk sz (lo+n.toNat) 0 L hL⟩;simp[Instr.indexAt,run_underlying hd,asIntOf,h0,hlt,AY w h1,h2,BP,← hsz,Jmc,JlT]
  | osl0=>omega
 ·rename_i esz eb ez kk off sz m hkind;rw[hkind]at hk;obtain⟨elem,i,z,rfl,h1,h2,_⟩:=hk;obtain⟨hq,hv,hob'⟩:=AF h;refine⟨hq,?_⟩;obtain⟨h0,hlt,hsz⟩:=hob'.1 hob;rw[hv];cases hp with
  | bsl _ _ _ _ cap L hL hc=>
   refine⟨_,?_,.ptr kk (off+n.toNat*sz) L hL⟩;simp[Instr.indexAt,run_underlying hd,asIntOf,h0,hlt,AY w h1,h2,BP,← hsz,JlT]
 ·rename_i esz eb ez es hkind;rw[hkind]at hk;obtain⟨elem,i,z,rfl,h1,h2,_⟩:=hk;obtain⟨hq,hv,hob'⟩:=AF h;refine⟨hq,?_⟩;obtain⟨h0,hlt,hsz⟩:=hob'.1 hob;rw[hv];have hi:n.toNat<es.length:=by omega
  have hei:es[n.toNat]?=some es[n.toNat]:=JlZ hi;rw[hei]at hsz⊢;cases hp with
  | d _ _ hd'=>
   cases hd' with
   | sl0=>simp at hlt;omega
   | sl _ b off cap sz cs t' fr g hF hs hcap hc hr=>
    have hse:sz=esz:=by rw[← hsz];exact(hs _ (JlL hi)).symm
    subst hse;refine⟨.pointer (some ⟨b,off+n.toNat*sz,none⟩),?_,.dptr _ 0 b (off+n.toNat*sz) cs t' fr (g n.toNat) hF (λ j x hx=>hc _ _ hei j x hx) (λ j x hx=>hr _ _ hei j x hx)⟩;simp[Instr.indexAt,run_underlying hd,asIntOf,h0,hlt,AY w h1,h2,BP]
 ·rename_i m esz kk off hkind;rw[hkind]at hk;obtain⟨elem,i,rfl,h1,h2⟩:=hk;obtain⟨hq,hv,hob'⟩:=AF h;refine⟨hq,?_⟩;obtain⟨h0,hlt⟩:=hob'.1 hob;rw[hv];cases hp with
  | ptr _ _ L hL=>
   refine⟨_,?_,.ptr kk (off+n.toNat*esz) L hL⟩;simp[Instr.indexAt,run_underlying hd,asIntOf,h0,hlt,AY w h1,h2,BP,Instr.sureAddr,JlT]
 ·rename_i m esz kk sz jj off hkind;rw[hkind]at hk;obtain⟨elem,i,rfl,h1,h2⟩:=hk;obtain⟨hq,hv,hob'⟩:=AF h;refine⟨hq,?_⟩;obtain⟨h0,hlt⟩:=hob'.1 hob;rw[hv];cases hp with
  | eptr _ _ _ _ L hL=>
   cases hb:Nat.beq esz sz with
   | false=>
    refine⟨_,?_,.eptr kk sz jj (off+n.toNat*esz) L hL⟩;simp[Instr.indexAt,run_underlying hd,asIntOf,h0,hlt,AY w h1,h2,BP,Instr.sureAddr,JlT]
   | true=>
    have hsz:=Jl6 hb;subst hsz;refine⟨_,?_,.eptr kk esz (jj+n.toNat) off L hL⟩;simp[Instr.indexAt,run_underlying hd,asIntOf,h0,hlt,AY w h1,h2,BP,Instr.sureAddr,Jmc,JlT,Nat.add_comm off]
 ·rename_i m esz el off hkind;rw[hkind]at hk;obtain⟨elem,i,rfl,h1,h2⟩:=hk;obtain⟨hq,hv,hob'⟩:=AF h;refine⟨hq,?_⟩;obtain⟨h0,hlt⟩:=hob'.1 hob;rw[hv];cases hp with
  | dptr _ _ b o' cs t' fr g hF hc hr=>
   refine⟨_,?_,.dptr el (off+n.toNat*esz) b o' cs t' fr g hF hc hr⟩;simp[Instr.indexAt,run_underlying hd,asIntOf,h0,hlt,AY w h1,h2,BP,Instr.sureAddr,JlT]
 ·cases h
theorem DR {a:AV} {n:Int} {v:Value} (h:Il a=some n) (hr:Ak F ρ a v):∃ k,v=.int k n:=by
 unfold Il at h;split at h
 ·rename_i k m;cases h;exact⟨k,hr.int⟩
 ·cases h
end Go.AI
end
section
namespace Go.AI
variable {P:Program} {Γ:Nat->Ty} {F:Nat->Option Obj} {ρ:Nat->Option Loc} {N:Nat->Prop} {H0 F0:Nat->Option Obj} {O objs:List (Option Ob)} {w:World}
theorem Eb {v:Value} {k:IntKind} {n:Int} {y:Nat} {c:BoundsCode} (hv:v=.int k n) (h0:0<=n) (h1:n<=y):(Instr.sliceBound v y c).run P w=.ok n.toNat w:=by
 subst hv;simp[Instr.sliceBound,asIntOf,h0,h1]
theorem Cw {ev:Operand->AV} {ρv:Operand->Value} {lo hi:Option Operand} {l h:Int} {len cap:Nat} {b:Bool} (hlo:BK ev 0 lo=some l) (hhi:BK ev len hi=some h)
  (rlo:∀ x,lo=some x->Ak F ρ (ev x) (ρv x)) (rhi:∀ x,hi=some x->Ak F ρ (ev x) (ρv x)) (h0:0<=l) (h1:l<=h) (h2:h<=len) (h3:len<=cap) :
  (Instr.sliceBounds b len cap (lo.map ρv) (hi.map ρv) none).run P w=.ok (l.toNat,h.toNat,cap) w:=by
 have hH:∀ m,m=cap->(match (Option.map ρv hi,(none:Option Value)) with|(some v,some _)=>Instr.sliceBound v m .slice3B|(some v,none)=>Instr.sliceBound v m (if b=true then .sliceAcap else .sliceAlen)|(none,none)=>pure len|(none,some _)=>stuck "Slice: max without high":Sem Nat).run P w=.ok h.toNat w:=by
  intro m hm;subst hm;cases hi with
  | none=>simp only[BK,Jl9]at hhi;subst hhi;simp
  | some x=>
   simp only[BK]at hhi;obtain⟨k,hk⟩:=DR hhi (rhi x rfl);simp only[Option.map_some];exact Eb hk (by omega) (by omega)
 have hL:(match Option.map ρv lo with|some v=>Instr.sliceBound v h.toNat (if(none:Option Value).isSome then .slice3C else .sliceB)|none=>pure 0:Sem Nat).run P w=.ok l.toNat w:=by
  cases lo with
  | none=>simp only[BK,Jl9]at hlo;subst hlo;simp
  | some x=>
   simp only[BK]at hlo;obtain⟨k,hk⟩:=DR hlo (rlo x rfl);simp only[Option.map_some];exact Eb hk (by omega) (by omega)
 cases hi with
 | none=>
  cases lo with
  | none=>simp only[BK,Jl9]at hhi hlo;subst hhi;subst hlo;simp[Instr.sliceBounds]
  | some x=>simp at hL;simp only[BK,Jl9]at hhi;subst hhi;simp[Instr.sliceBounds];simp at hL;simp[hL]
 | some y=>
  have:=hH cap rfl;simp at this;cases lo with
  | none=>simp only[BK,Jl9]at hlo;subst hlo;simp[Instr.sliceBounds,this]
  | some x=>simp at hL;simp[Instr.sliceBounds,this,hL]
theorem Us {t:TypeId} {ev:Operand->AV} {ρv:Operand->Value} {lo hi:Option Operand} (hy:AD P t (Γ t)) {p:AV} {e:Eff} {pv:Value} (h:Pz (Γ t).kind ev p lo hi=some e) (hob:e.ob) (hp:Ak F ρ p pv)
  (rlo:∀ x,lo=some x->Ak F ρ (ev x) (ρv x)) (rhi:∀ x,hi=some x->Ak F ρ (ev x) (ρv x)) :
  e.quiet/\∃ v,(Instr.sliceAt t pv (lo.map ρv) (hi.map ρv) none).run P w=.ok v w/\Ak F ρ e.v v:=by
 obtain⟨d,hd,_,hk⟩:=hy.desc;unfold Pz at h;split at h
 ·rename_i s hkind;rw[hkind]at hk;cases hk;split at h
  ·rename_i l hh hlo hhi;obtain⟨hq,hv,hob'⟩:=AF h;obtain⟨h0,h1,h2⟩:=hob'.1 hob;refine⟨hq,?_⟩;rw[hv,hp.str];have hb:=Cw (P:=P) (w:=w) (b:=false) (cap:=s.length) hlo hhi rlo rhi h0 h1 h2 (JlO _);refine⟨_,?_,.mkStr _⟩;have hsz:(⟨s.toArray⟩:ByteArray).size=s.length:=by simp[← ByteArray.size_data]
   simp only[Instr.sliceAt,run_underlying hd,Instr.slice,hsz,Option.isSome_none,Jmb,if_false,JlG,JlE,JlH,hb];have hex:(⟨s.toArray⟩:ByteArray).extract l.toNat hh.toNat=⟨(List.drop l.toNat (List.take hh.toNat s)).toArray⟩:=by
    apply ByteArray.ext;simp[List.extract,List.drop_take]
   rw[hex]
  ·cases h
 ·rename_i esz eb ez es hkind;rw[hkind]at hk;obtain⟨elem,i,z,rfl,h1',h2',_⟩:=hk;split at h
  ·rename_i l hh hlo hhi;obtain⟨hq,hv,hob'⟩:=AF h;obtain⟨h0,h1,h2,hes⟩:=hob'.1 hob;refine⟨hq,?_⟩;rw[hv];cases hp with
   | d _ _ hd'=>
    cases hd' with
    | sl0 a cap=>
     simp only[List.length_nil]at h2 hhi;have hb:=Cw (P:=P) (w:=w) (b:=true) (len:=0) (cap:=cap) hlo hhi rlo rhi h0 h1 h2 (Nat.zero_le _);simp[Instr.sliceAt,run_underlying hd,Instr.slice,hb,AY w h1'];have e1:hh.toNat-l.toNat=0:=by omega
     rw[e1];exact .d _ _ (.sl0 _ _)
    | sl _ b off cap sz cs t' fr g hF hs hcap hc hr=>
     have hb:=Cw (P:=P) (w:=w) (b:=true) (cap:=cap) hlo hhi rlo rhi h0 h1 h2 hcap;simp only[Instr.sliceAt,run_underlying hd,Instr.slice,hb,AY w h1',JlG,JlE,JlH];refine⟨_,rfl,?_⟩;by_cases hemp:hh.toNat-l.toNat=0
     ·rw[hemp];have:List.drop l.toNat (List.take hh.toNat es)=[]:=by apply List.drop_eq_nil_of_le;simp;omega
      rw[this];exact .d _ _ (.sl0 _ _)
     ·have hne:es≠[]:=by intro he;subst he;simp at h2;omega
      have hsz:sz=esz:=by
       cases es with
       | nil=>exact absurd rfl hne
       | cons e0 _=>rw[← hs e0 (by simp),hes e0 (by simp)]
      subst hsz;have hlen:(List.drop l.toNat (List.take hh.toNat es)).length=hh.toNat-l.toNat:=by simp;omega
      rw[if_neg (by omega),Option.map_some,BP,h2',← hlen];have hget:∀ (i:Nat) (e:List D),(List.drop l.toNat (List.take hh.toNat es))[i]?=some e->es[l.toNat+i]?=some e:=by
       intro i e he;rw[JlS]at he;have:=Af he;simp at this;rwa[Jmj (by omega)]at he
      refine .d _ _ (.sl _ b (off+l.toNat*sz) (cap-l.toNat) sz cs t' fr (λ i j=>g (l.toNat+i) j) hF (λ e he=>hs e (List.mem_of_mem_take (List.mem_of_mem_drop he))) (by omega) ?_ ?_)
      ·intro i e he j x hx;have:=hc _ _ (hget i e he) j x hx;rw[Jmc]at this;rw[← this];congr 1;omega
      ·intro i e he j x hx;exact hr _ _ (hget i e he) j x hx
  ·cases h
 ·rename_i esz eb ez hkind;rw[hkind]at hk;obtain⟨elem,i,z,rfl,h1',h2',_⟩:=hk;split at h
  ·rename_i l hh hlo hhi;obtain⟨hq,hv,hob'⟩:=AF h;obtain⟨h0,h1,h2⟩:=hob'.1 hob;refine⟨hq,?_⟩;rw[hv,hp.nil];have hb:=Cw (P:=P) (w:=w) (b:=true) (len:=0) (cap:=0) hlo hhi rlo rhi h0 h1 h2 (Nat.zero_le _);have e1:hh.toNat=0:=by omega
   have e2:l.toNat=0:=by omega
   refine⟨_,?_,.d _ _ .nil⟩;simp[Instr.sliceAt,run_underlying hd,Instr.slice,hb,AY w h1',e1,e2]
  ·cases h
 ·rename_i esz eb ez k sz o n hkind;rw[hkind]at hk;obtain⟨elem,i,z,rfl,h1',h2',_⟩:=hk;split at h
  ·rename_i l hh hlo hhi;obtain⟨hq,hv,hob'⟩:=AF h;obtain⟨h0,h1,h2,hsz⟩:=hob'.1 hob;subst hsz;refine⟨hq,?_⟩;rw[hv];cases hp with
   | osl _ _ _ _ cap L hL hc hs hz=>
    have hb:=Cw (P:=P) (w:=w) (b:=true) (cap:=cap) hlo hhi rlo rhi h0 h1 h2 hc;simp only[Instr.sliceAt,run_underlying hd,Instr.slice,hb,AY w h1',JlG,JlE,JlH];refine⟨_,rfl,?_⟩;by_cases hm:cap=l.toNat
    ·rw[if_pos hm];have e1:hh.toNat-l.toNat=0:=by omega
     have e2:cap-l.toNat=0:=by omega
     rw[e1,e2];exact .osl0 _ _ _ _
    ·rw[if_neg hm,Option.map_some,BP,h2',JlT,← Jmc];refine .osl k sz (o+l.toNat) (hh.toNat-l.toNat) (cap-l.toNat) L hL (by omega) ?_ hz;rw[show o+l.toNat+(cap-l.toNat)=o+cap by omega];exact hs
   | osl0 _ _ _ a=>
    have hb:=Cw (P:=P) (w:=w) (b:=true) (len:=0) (cap:=0) hlo hhi rlo rhi h0 h1 h2 (Nat.zero_le _);have e1:hh.toNat=0:=by omega
    have e2:l.toNat=0:=by omega
    simp[Instr.sliceAt,run_underlying hd,Instr.slice,hb,AY w h1',e1,e2];exact .osl0 _ _ _ _
  ·cases h
 ·rename_i n esz kk off hkind;rw[hkind]at hk;obtain⟨elem,i,rfl,h1',h2'⟩:=hk;split at h
  ·rename_i hh hhi;obtain⟨hq,hv,hob'⟩:=AF h;obtain⟨h0,h1⟩:=hob'.1 hob;refine⟨hq,?_⟩;rw[hv];cases hp with
   | ptr _ _ L hL=>
    have hb:=Cw (P:=P) (w:=w) (b:=false) (cap:=n) (lo:=none) (l:=0) rfl hhi rlo rhi (Int.le_refl _) h0 h1 (JlO _);simp only[Instr.sliceAt,run_underlying hd,Instr.slice,hb,AY w h1',JlG,JlE,JlH,Instr.sureAddr];refine⟨_,rfl,?_⟩;have e0:(0:Int).toNat=0:=rfl;simp only[e0,Nat.zero_mul,Nat.sub_zero];have e1:(if n=0 then(⟨L.b,L.base+off,none⟩:Addr)else Addr.add ⟨L.b,L.base+off,none⟩ 0)=⟨L.b,L.base+off,none⟩:=by
     split
     ·rfl
     ·rw[BP];rfl
    rw[e1];exact .bsl kk off esz hh.toNat n L hL (by omega)
  ·cases h
 ·rename_i n esz el off hkind;rw[hkind]at hk;obtain⟨elem,i,rfl,h1',h2'⟩:=hk;split at h
  ·obtain⟨hq,hv,hob'⟩:=AF h;have hle:=hob'.1 hob;refine⟨hq,?_⟩;rw[hv];cases hp with
   | dptr _ _ b ob cs t' fr g hF hc hr=>
    have hrun:(Instr.sliceAt t (.pointer (some ⟨b,ob+off,none⟩)) none none none).run P w=.ok (.slice (some ⟨b,ob+off,none⟩) n n) w:=by
     simp only[Instr.sliceAt,JlG,run_underlying hd,JlE,Instr.sureAddr,Instr.sliceBounds,JlH,AY w h1',Nat.zero_mul];simp[BP]
    refine⟨_,hrun,.d _ _ ?_⟩;have hlen:∀ (n:Nat) (l:List D),(GZ esz n l).length=n:=by
     intro n;induction n with
     | zero=>intro l;rfl
     | succ n ih=>intro l;simp only[GZ,List.length_cons,ih]
    have hch:∀ (n:Nat) (l:List D),n*esz<=l.length->(∀ x∈GZ esz n l,x.length=esz)/\∀ (i:Nat) (x:List D),(GZ esz n l)[i]?=some x->∀ (j:Nat) (y:D),x[j]?=some y->l[i*esz+j]?=some y:=by
     intro n;induction n with
     | zero=>intro l _;exact⟨λ x hx=>by simp[GZ]at hx,λ i x hx=>by simp[GZ]at hx⟩
     | succ n ih=>
      intro l hl;rw[Jmc,Nat.one_mul]at hl;obtain⟨p1,p2⟩:=ih (l.drop esz) (by rw[List.length_drop];omega);refine⟨λ x hx=>?_,λ i x hx j y hy=>?_⟩
      ·simp only[GZ,List.mem_cons]at hx;rcases hx with rfl|hx
       ·rw[List.length_take];omega
       ·exact p1 x hx
      ·cases i with
       | zero=>
        simp only[GZ,JlW,Jl9]at hx;subst hx;have hj:=Af hy;rw[List.length_take]at hj;rw[Jmj (by omega)]at hy;simpa using hy
       | succ i=>
        simp only[GZ,List.getElem?_cons_succ]at hx;have:=p2 i x hx j y hy;rw[JlS]at this;rw[← this];congr 1;rw[Jmc,Nat.one_mul];omega
    obtain⟨q1,q2⟩:=hch n (el.drop off) (by rw[List.length_drop];omega);have hn:=hlen n (el.drop off);have:=Bo.sl (F:=F) (GZ esz n (el.drop off)) b (ob+off) n esz cs t' fr (λ i j=>g (off+(i*esz+j))) hF q1 (by rw[hn];exact JlO _) (λ i x hx j y hy=>by
     have h3:=q2 i x hx j y hy;rw[JlS]at h3;rw[← hc _ y h3];congr 1;omega) (λ i x hx j y hy=>by
     have h3:=q2 i x hx j y hy;rw[JlS]at h3;exact hr _ y h3)
    rw[hn]at this;exact this
  ·cases h
 ·cases h
theorem Io {ev:Operand->AV} {ρv:Operand->Value} {lo:Option Operand} {vh vm:Value} {kh km:IntKind} {l h m:Int} {len cap:Nat} (hlo:BK ev 0 lo=some l) (rlo:∀ x,lo=some x->Ak F ρ (ev x) (ρv x)) (eh:vh=.int kh h) (em:vm=.int km m) (h0:0<=l) (h1:l<=h) (h2:h<=m) (h3:m<=cap) :
  (Instr.sliceBounds true len cap (lo.map ρv) (some vh) (some vm)).run P w=.ok (l.toNat,h.toNat,m.toNat) w:=by
 subst eh;subst em;have b1:=Eb (P:=P) (w:=w) (k:=km) (n:=m) (y:=cap) (c:=.slice3Acap) rfl (by omega) (by omega);have b2:=Eb (P:=P) (w:=w) (k:=kh) (n:=h) (y:=m.toNat) (c:=.slice3B) rfl (by omega) (by omega);cases lo with
 | none=>
  simp only[BK,Jl9]at hlo;subst hlo;simp[Instr.sliceBounds,b1,b2]
 | some x=>
  simp only[BK]at hlo;obtain⟨kl,el⟩:=DR hlo (rlo x rfl);have b3:=Eb (P:=P) (w:=w) (k:=kl) (n:=l) (y:=h.toNat) (c:=.slice3C) rfl (by omega) (by omega);simp only[Option.map_some,el];simp[Instr.sliceBounds,b1,b2,b3]
theorem S1 {t:TypeId} {ev:Operand->AV} {ρv:Operand->Value} {lo:Option Operand} {hi mx:Operand} (hy:AD P t (Γ t)) {p:AV} {e:Eff} {pv:Value} (h:IT (Γ t).kind ev p lo hi mx=some e) (hob:e.ob) (hp:Ak F ρ p pv)
  (rlo:∀ x,lo=some x->Ak F ρ (ev x) (ρv x)) (rhi:Ak F ρ (ev hi) (ρv hi)) (rmx:Ak F ρ (ev mx) (ρv mx)) :
  e.quiet/\∃ v,(Instr.sliceAt t pv (lo.map ρv) (some (ρv hi)) (some (ρv mx))).run P w=.ok v w/\Ak F ρ e.v v:=by
 obtain⟨d,hd,_,hk⟩:=hy.desc;unfold IT at h;split at h
 ·rename_i esz eb ez k sz o n hkind;rw[hkind]at hk;obtain⟨elem,i,z,rfl,h1',h2',_⟩:=hk;split at h
  ·rename_i l hh m hlo hhi hmx;obtain⟨hq,hv,hob'⟩:=AF h;obtain⟨h0,h1,h2,h3,hsz⟩:=hob'.1 hob;subst hsz;refine⟨hq,?_⟩;rw[hv];obtain⟨kh,eh⟩:=DR hhi rhi;obtain⟨km,em⟩:=DR hmx rmx;cases hp with
   | osl _ _ _ _ cap L hL hc hs hz=>
    have hb:=Io (P:=P) (w:=w) (len:=n) (cap:=cap) hlo rlo eh em h0 h1 h2 (by omega);simp only[Instr.sliceAt,run_underlying hd,Instr.slice,hb,AY w h1',JlG,JlE,JlH];refine⟨_,rfl,?_⟩;by_cases hm:m.toNat=l.toNat
    ·rw[if_pos hm];have e1:hh.toNat-l.toNat=0:=by omega
     have e2:m.toNat-l.toNat=0:=by omega
     rw[e1,e2];exact .osl0 _ _ _ _
    ·rw[if_neg hm,Option.map_some,BP,h2',JlT,← Jmc];refine .osl k sz (o+l.toNat) (hh.toNat-l.toNat) (m.toNat-l.toNat) L hL (by omega) ?_ hz;refine Nat.le_trans ?_ hs;refine Nat.add_le_add_left (JlI _ ?_) _;omega
   | osl0 _ _ _ a=>
    have hb:=Io (P:=P) (w:=w) (len:=0) (cap:=0) hlo rlo eh em h0 h1 h2 (by omega);have e1:hh.toNat=0:=by omega
    have e2:l.toNat=0:=by omega
    have e3:m.toNat=0:=by omega
    simp[Instr.sliceAt,run_underlying hd,Instr.slice,hb,AY w h1',e1,e2,e3];exact .osl0 _ _ _ _
  ·cases h
 ·cases h
end Go.AI
end
section
namespace Go.AI
variable {P:Program} {Γ:Nat->Ty} {F:Nat->Option Obj} {ρ:Nat->Option Loc} {N:Nat->Prop} {H0 F0:Nat->Option Obj} {O objs:List (Option Ob)} {w:World}
theorem I1 (s:List UInt8):(⟨s.toArray⟩:ByteArray).size=s.length:=by simp[← ByteArray.size_data]
def ER (F:Nat->Option Obj) (esz:Nat) (es:List (List D)) (cs:Array Value) (o:Nat):Prop:=
 (∀ e∈es,e.length=esz)/\o+es.length*esz<=cs.size/\∀ (i:Nat) (e:List D),es[i]?=some e->∀ (j:Nat) (x:D),e[j]?=some x->∃ v,cs[o+i*esz+j]?=some v/\Bo F x v
theorem D3 {b o m:Nat} {cs:Array Value} {t:TypeId} {fr:Nat×Nat} (h:w.heap[b]?=some (.cells cs t fr)) (hm:o+m<=cs.size):(loadCells ⟨b,o,none⟩ m).run P w=.ok (cs.extract o (o+m)) w:=by
 have hl:=run_loadCells_list (P:=P) (w:=w) ⟨b,o,none⟩ ((cs.extract o (o+m)).toList) (by
  intro j v hv;rw[BP,Kg h];have hj:=Af hv;rw[JlZ hj]at hv;simp at hv hj;rw[Jl4 (by omega)];simpa using hv)
 have hlen:(cs.extract o (o+m)).toList.length=m:=by simp;omega
 rw[hlen]at hl;simpa only [Array.toArray_toList]using hl
theorem ER.extract {esz:Nat} {es:List (List D)} {cs:Array Value} {o:Nat} (h:ER F esz es cs o):ER F esz es (cs.extract o (o+es.length*esz)) 0:=by
 obtain⟨h1,h2,h3⟩:=h;refine⟨h1,by simp;omega,λ i e hi j x hx=>?_⟩;obtain⟨v,hv,hd⟩:=h3 i e hi j x hx;refine⟨v,?_,hd⟩;have hil:=Af hi;have hjl:=Af hx;rw[h1 e (Jl1 hi)]at hjl;have:(i+1)*esz<=es.length*esz:=JlI _ hil;rw[Jmc,Nat.one_mul]at this;rw[Array.getElem?_extract_of_lt (by omega),← hv,Jl4 (by have:=Av hv;omega)];congr 2;omega
theorem ER.empty (esz:Nat):ER F esz [] #[] 0:=⟨by simp,by simp,λ i e hi=>by simp at hi⟩
theorem F4 {x:AV} {xv:Value} {ys:List (List D)} {ob:Prop} {esz:Nat} {hp:Array Obj} (h1:1<=esz) (hS:Sim N H0 F0 F ρ O hp) (hO:∀ k ob,obA objs k=some ob->obA O k=some ob) (h:FY objs x=some (ys,ob)) (hob:ob) (hr:Ak F ρ x xv) (hys:∀ e∈ys,e.length=esz) :
  ∃ cs,(∀ w':World,w'.heap=hp->(Builtin.lenOf xv).run P w'=.ok ys.length w'/\(Builtin.firstCells esz ys.length xv).run P w'=.ok cs w')/\ER F esz ys cs 0/\cs.size=ys.length*esz:=by
 unfold FY at h;split at h
 ·cases h;rw[hr.nil];exact⟨#[],λ _ _=>⟨rfl,rfl⟩,ER.empty _,by simp⟩
 ·cases h;cases hr with
  | d _ _ hd=>
   cases hd with
   | sl0 a cap=>
    refine⟨#[],λ _ _=>⟨rfl,?_⟩,ER.empty _,by simp⟩;cases a with
    | none=>rfl
    | some a=>simp[Builtin.firstCells,loadCells,loadCellsFrom]
   | sl _ b off cap sz cs t fr g hF hsz hcap hc hrr=>
    by_cases hemp:ys=[]
    ·subst hemp;exact⟨#[],λ _ _=>⟨rfl,by simp[Builtin.firstCells,loadCells,loadCellsFrom]⟩,ER.empty _,by simp⟩
    ·have hse:sz=esz:=by
      cases ys with
      | nil=>exact absurd rfl hemp
      | cons e0 _=>rw[← hsz e0 (by simp),hys e0 (by simp)]
     subst hse;have hpos:0<ys.length:=List.length_pos_iff.2 hemp;have hin:off+ys.length*sz<=cs.size:=by
      have hi:ys.length-1<ys.length:=by omega
      have he:=JlZ hi;have hj:sz-1<(ys[ys.length-1]).length:=by rw[hsz _ (JlL hi)];omega
      have:=Av (hc _ _ he _ _ (JlZ hj));have e2:(ys.length-1)*sz+sz=ys.length*sz:=by
       conv=>rhs;rw[show ys.length=(ys.length-1)+1 by omega,Jmc,Nat.one_mul]
      omega
     exact⟨cs.extract off (off+ys.length*sz),λ w' hw'=>⟨rfl,D3 (by rw[hw'];exact hS.frz _ _ hF) hin⟩,ER.extract ⟨hsz,hin,λ i e hi j x hx=>⟨_,hc i e hi j x hx,hrr i e hi j x hx⟩⟩,by simp;omega⟩
 ·rename_i s;cases h;rw[hr.str];refine⟨(s.map λ b=>Value.int .u8 b.toNat).toArray,λ w' _=>⟨by simp[Builtin.lenOf,I1],?_⟩,?_,?_⟩
  ·simp only[Builtin.firstCells,JlU,JlH,Result.ok.injEq,and_true];have:(⟨s.toArray⟩:ByteArray).extract 0 s.length=⟨s.toArray⟩:=by
    apply ByteArray.ext;simp
   rw[this];simp
  ·have hsz:esz=1\/s=[]:=by
    cases s with
    | nil=>exact .inr rfl
    | cons b s=>exact .inl (hys [D.int .u8 (b.toNat:Int)] (by simp)).symm
   refine⟨hys,?_,λ i e hi j x hx=>?_⟩
   ·rcases hsz with h|h
    ·subst h;simp
    ·subst h;simp
   ·simp only[Jl3,Jl2]at hi;obtain⟨b,hb,rfl⟩:=hi;have hsz:esz=1:=by rcases hsz with h|h;exact h;subst h;simp at hb
    subst hsz;cases j with
    | zero=>simp at hx;subst hx;exact⟨.int .u8 b.toNat,by simp[hb],.int _ _⟩
    | succ j=>simp at hx
  ·cases s with
   | nil=>simp
   | cons b s=>have:esz=1:=(hys [D.int .u8 (b.toNat:Int)] (by simp)).symm;subst this;simp
 ·rename_i k sz lo n;split at h
  ·rename_i sz' es hobk;cases hb:Nat.beq sz sz' with
   | false=>rw[hb]at h;cases h
   | true=>
    rw[hb,cond_true]at h;have hb:=Jl6 hb;subst hb;cases h;have hlen:((es.drop lo).take n).length=n:=by simp;omega
    cases hr with
    | osl _ _ _ _ cap L hL hc hs hz=>
     obtain⟨⟨g1,g2,cs,t,fr,g3,g4,g5,g6⟩,_⟩:=hS.obj k L _ hL (hO _ _ hobk);by_cases hn:n=0
     ·subst hn;simp only[List.take_zero];exact⟨#[],λ _ _=>⟨rfl,by simp[Builtin.firstCells,loadCells,loadCellsFrom]⟩,ER.empty _,by simp⟩
     ·have hse:sz=esz:=by
       have hi:lo<es.length:=by omega
       have hm:es[lo]∈(es.drop lo).take n:=by
        apply Jl1 (i:=0);rw[Jmj (by omega),JlS];simp[hi]
       rw[← g1 _ (JlL hi),hys _ hm]
      subst hse;have hin:L.base+lo*sz+n*sz<=cs.size:=by
       have:(lo+n)*sz<=es.length*sz:=JlI _ hob;rw[Jmc]at this;omega
      have her:ER F sz ((es.drop lo).take n) cs (L.base+lo*sz):=by
       refine⟨hys,by rw[hlen];exact hin,λ i e hi j x hx=>?_⟩;have hil:=Af hi;rw[hlen]at hil;rw[Jmj hil,JlS]at hi;obtain⟨v,hv,hd⟩:=g6 _ e hi j x hx;exact⟨v,by rw[← hv,Jmc];congr 1;omega,hd⟩
      refine⟨cs.extract (L.base+lo*sz) (L.base+lo*sz+((es.drop lo).take n).length*sz),λ w' hw'=>⟨by rw[hlen];rfl,?_⟩,her.extract,by simp only[Array.size_extract,hlen];omega⟩;simp only[Builtin.firstCells];exact D3 (by rw[hw'];exact g3) (by rw[hlen];exact hin)
    | osl0 _ _ _ a=>
     simp only[List.take_zero];refine⟨#[],λ _ _=>⟨rfl,?_⟩,ER.empty _,by simp⟩;cases a with
     | none=>rfl
     | some a=>simp[Builtin.firstCells,loadCells,loadCellsFrom]
  ·cases h
 ·cases h
end Go.AI
end
section
namespace Go.AI
variable {P:Program} {Γ:Nat->Ty} {F:Nat->Option Obj} {ρ:Nat->Option Loc} {N:Nat->Prop} {H0 F0:Nat->Option Obj} {O objs:List (Option Ob)} {w:World}
theorem Ci (s:List UInt8):(⟨s.toArray⟩:ByteArray).toList=s:=by
 exact ByteArray.toList_mk s
theorem Ou {op:BinOp} {k yk:IntKind} {a b:Int} {e:Eff} (h:NI op k a b=some e) (hob:e.ob) :
  e.quiet/\∃ v,(Op.shift op k a yk b).run P w=.ok v w/\Ak F ρ e.v v:=by
 unfold NI at h;split at h
 ·obtain⟨hq,hv,hob'⟩:=AF h;refine⟨hq,?_⟩;rw[hv];have:=hob'.1 hob;exact⟨_,by simp[Op.shift,show ¬ b<0 by omega],.mkInt _ _⟩
 ·obtain⟨hq,hv,hob'⟩:=AF h;refine⟨hq,?_⟩;rw[hv];have:=hob'.1 hob;exact⟨_,by simp[Op.shift,show ¬ b<0 by omega],.mkInt _ _⟩
 ·cases h
theorem Yh {op:BinOp} {k:IntKind} {a b:Int} {t:TypeId} {e:Eff} (hsh:op≠.shl) (hsr:op≠.shr) (h:V2 op k a b=some e) (hob:e.ob) :
  e.quiet/\∃ v,(binOp op t (.int k a) (.int k b)).run P w=.ok v w/\Ak F ρ e.v v:=by
 cases op<;>simp only[V2]at h
 case add=>obtain⟨hq,hv⟩:=AG h;exact⟨hq,_,by simp only[binOp,ne_eq,not_true,if_false];rfl,by rw[hv];exact .mkInt _ _⟩
 case sub=>obtain⟨hq,hv⟩:=AG h;exact⟨hq,_,by simp only[binOp,ne_eq,not_true,if_false];rfl,by rw[hv];exact .mkInt _ _⟩
 case mul=>obtain⟨hq,hv⟩:=AG h;exact⟨hq,_,by simp only[binOp,ne_eq,not_true,if_false];rfl,by rw[hv];exact .mkInt _ _⟩
 case quo=>obtain⟨hq,hv,hob'⟩:=AF h;exact⟨hq,_,by simp only[binOp,ne_eq,not_true,if_false,Op.intDiv,if_neg (hob'.1 hob)];rfl,by rw[hv];exact .mkInt _ _⟩
 case rem=>obtain⟨hq,hv,hob'⟩:=AF h;exact⟨hq,_,by simp only[binOp,ne_eq,not_true,if_false,Op.intDiv,if_neg (hob'.1 hob)];rfl,by rw[hv];exact .mkInt _ _⟩
 case and=>obtain⟨hq,hv⟩:=AG h;exact⟨hq,_,by simp only[binOp,ne_eq,not_true,if_false];rfl,by rw[hv];exact .mkInt _ _⟩
 case or=>obtain⟨hq,hv⟩:=AG h;exact⟨hq,_,by simp only[binOp,ne_eq,not_true,if_false];rfl,by rw[hv];exact .mkInt _ _⟩
 case xor=>obtain⟨hq,hv⟩:=AG h;exact⟨hq,_,by simp only[binOp,ne_eq,not_true,if_false];rfl,by rw[hv];exact .mkInt _ _⟩
 case andNot=>obtain⟨hq,hv⟩:=AG h;exact⟨hq,_,by simp only[binOp,ne_eq,not_true,if_false];rfl,by rw[hv];exact .mkInt _ _⟩
 case eql=>obtain⟨hq,hv⟩:=AG h;exact⟨hq,_,by simp only[binOp,ne_eq,not_true,if_false];rfl,by rw[hv];exact .mkBool _⟩
 case neq=>obtain⟨hq,hv⟩:=AG h;exact⟨hq,_,by simp only[binOp,ne_eq,not_true,if_false];rfl,by rw[hv];exact .mkBool _⟩
 case lss=>obtain⟨hq,hv⟩:=AG h;exact⟨hq,_,by simp only[binOp,ne_eq,not_true,if_false];rfl,by rw[hv];exact .mkBool _⟩
 case leq=>obtain⟨hq,hv⟩:=AG h;exact⟨hq,_,by simp only[binOp,ne_eq,not_true,if_false];rfl,by rw[hv];exact .mkBool _⟩
 case gtr=>obtain⟨hq,hv⟩:=AG h;exact⟨hq,_,by simp only[binOp,ne_eq,not_true,if_false];rfl,by rw[hv];exact .mkBool _⟩
 case geq=>obtain⟨hq,hv⟩:=AG h;exact⟨hq,_,by simp only[binOp,ne_eq,not_true,if_false];rfl,by rw[hv];exact .mkBool _⟩
 all_goals cases h
theorem Yi {op:BinOp} {a b:List UInt8} {t:TypeId} {e:Eff} (h:Um op a b=some e) (hob:e.ob) :
  e.quiet/\∃ v,(binOp op t (.string ⟨a.toArray⟩) (.string ⟨b.toArray⟩)).run P w=.ok v w/\Ak F ρ e.v v:=by
 cases op<;>simp only[Um]at h
 case eql=>obtain⟨hq,hv⟩:=AG h;exact⟨hq,_,by simp only[binOp,Op.stringOp,Ci,JlH];rfl,by rw[hv];exact .mkBool _⟩
 case neq=>obtain⟨hq,hv⟩:=AG h;exact⟨hq,_,by simp only[binOp,Op.stringOp,Ci,JlH];rfl,by rw[hv];exact .mkBool _⟩
 case lss=>obtain⟨hq,hv⟩:=AG h;exact⟨hq,_,by simp only[binOp,Op.stringOp,Ci,JlH];rfl,by rw[hv];exact .mkBool _⟩
 case leq=>obtain⟨hq,hv⟩:=AG h;exact⟨hq,_,by simp only[binOp,Op.stringOp,Ci,JlH];rfl,by rw[hv];exact .mkBool _⟩
 case gtr=>obtain⟨hq,hv⟩:=AG h;exact⟨hq,_,by simp only[binOp,Op.stringOp,Ci,JlH];rfl,by rw[hv];exact .mkBool _⟩
 case geq=>obtain⟨hq,hv⟩:=AG h;exact⟨hq,_,by simp only[binOp,Op.stringOp,Ci,JlH];rfl,by rw[hv];exact .mkBool _⟩
 case add=>
  obtain⟨hq,hv,hob'⟩:=AF h;refine⟨hq,.string ⟨(a++b).toArray⟩,?_,by rw[hv];exact .mkStr _⟩;have h1:=hob'.1 hob;simp only[binOp,Op.stringOp,I1];rw[if_neg (by omega)];simp only[JlH,Result.ok.injEq,Value.string.injEq,and_true];apply ByteArray.ext;simp
 all_goals cases h
theorem Ut {op:BinOp} {t:TypeId} {x y:Operand} {k:IntKind} {n:Int} {b:Value}:(eqGuard op t x y (.int k n) b).run P w=.ok () w:=by cases op<;>rfl
theorem S2 {op:BinOp} {t:TypeId} {x y:Operand} {n:Bool} {b:Value}:(eqGuard op t x y (.bool n) b).run P w=.ok () w:=by cases op<;>rfl
theorem Uu {op:BinOp} {t:TypeId} {x y:Operand} {n:ByteArray} {b:Value}:(eqGuard op t x y (.string n) b).run P w=.ok () w:=by cases op<;>rfl
theorem NM {t:TypeId} (hd:P.underlying t=some .bool) (n:Nat) (a b:Bool):(Op.equalIn (n+1) t (.bool a) (.bool b)).run P w=.ok (a==b) w:=by
 simp only[Op.equalIn,JlG,run_underlying hd,JlE,JlH]
theorem Kh {t:TypeId} (hd:P.underlying t=some .bool) (a b:Bool):(Op.equal t (.bool a) (.bool b)).run P w=.ok (a==b) w:=NM hd 9999 a b
theorem Yj {t:TypeId} {op:BinOp} {x y:AV} {e:Eff} {xv yv:Value} {ox oy:Operand} (hΓ:I0 P Γ) (h:Yc (Γ t) op x y=some e) (hob:e.ob) (hx:Ak F ρ x xv) (hy:Ak F ρ y yv) :
  e.quiet/\∃ v,(do eqGuard op t ox oy xv yv;binOp op t xv yv:Sem Value).run P w=.ok v w/\Ak F ρ e.v v:=by
 unfold Yc at h;split at h
 ·rename_i k a k' b;rw[hx.int,hy.int];simp only[JlG,Ut,JlE];split at h
  ·exact Ou (yk:=k') h hob
  ·exact Ou (yk:=k') h hob
  ·rename_i hsl hsr;cases hk:(k==k')with
   | false=>rw[hk]at h;cases h
   | true=>
    rw[hk,cond_true]at h;have:k=k':=by simpa using hk
    subst this;exact Yh hsl hsr h hob
 ·rename_i a b;rw[hx.str,hy.str];simp only[JlG,Uu,JlE];exact Yi h hob
 ·rename_i a b;split at h
  ·rename_i hkind;cases hok:(Γ t).ok with
   | false=>rw[hok]at h;cases h
   | true=>
    rw[hok,cond_true]at h;obtain⟨d,hd,_,hk⟩:=(hΓ t hok).desc;rw[hkind]at hk;cases hk;rw[hx.bool,hy.bool];simp only[JlG,S2,JlE];split at h
    ·obtain⟨hq,hv⟩:=AG h;exact⟨hq,.bool (a==b),by simp only[binOp,JlG,Kh hd,JlE,JlH],by rw[hv];exact .mkBool _⟩
    ·obtain⟨hq,hv⟩:=AG h;exact⟨hq,.bool !(a==b),by simp only[binOp,JlG,Kh hd,JlE,JlH],by rw[hv];exact .mkBool _⟩
    ·cases h
  ·cases h
 ·rename_i a b;cases hok:!(Γ t).eqk.isEmpty&&(Γ t).ok with
  | false=>rw[hok]at h;cases h
  | true=>
   rw[hok,cond_true]at h;simp only[Jl0]at hok;have heq:=(hΓ t hok.2).eq (by intro e;rw[e]at hok;simp at hok);cases hx with
   | agg _ xs hxl hxr=>
    cases hy with
    | agg _ ys hyl hyr=>
     split at h
     ·rename_i r hr;obtain⟨hq,hv⟩:=AG h;exact⟨hq,_,(heq a b r xs ys F ρ w ox oy hr (.agg _ _ hxl hxr) (.agg _ _ hyl hyr)).1,by rw[hv];exact .mkBool _⟩
     ·rename_i r hr;obtain⟨hq,hv⟩:=AG h;exact⟨hq,_,(heq a b r xs ys F ρ w ox oy hr (.agg _ _ hxl hxr) (.agg _ _ hyl hyr)).2,by rw[hv];exact .mkBool _⟩
     ·cases h
 ·cases h
theorem Yk:∀ (es:List (List D)),(∀ e∈es,NJ e)->es=(es.map Mk).map λ b=>[D.int .u8 b.toNat]:=by
 intro es;induction es with
 | nil=>intro _;rfl
 | cons e es ih=>
  intro h;obtain⟨b,hb⟩:=h e (by simp);have:=ih λ e he=>h e (by simp[he]);rw[JlV,JlV,← this,hb];simp[Mk]
theorem Ov:∀ (l:List UInt8) (r:ByteArray),(l.map (λ b=>(b.toNat:Int))).foldl (λ r n=>r.push (UInt8.ofNat n.toNat)) r=⟨r.data++l.toArray⟩
 | [],r=>by simp
 | b::l,r=>by
  simp only[JlV,List.foldl_cons];rw[Ov l];simp[ByteArray.push]
theorem JeJ {s t:TypeId} {x:AV} {xv:Value} {elem:TypeId} {es:List (List D)} {ob:Prop} (hS:Sim N H0 F0 F ρ O w.heap) (hO:∀ k ob,obA objs k=some ob->obA O k=some ob) (hd:P.underlying s=some (.slice elem)) (hu:P.underlying elem=some (.int .u8)) (hd':P.underlying t=some .string)
  (hel:FY objs x=some (es,ob)) (hob1:ob) (hby:∀ e∈es,NJ e) (hx:Ak F ρ x xv):∃ v,(convert s t xv).run P w=.ok v w/\Ak F ρ (.d (.str (es.map Mk))) v:=by
 have hes:=Yk es hby
 generalize es.map Mk=l at hes;subst hes;obtain⟨cs,hrun,her,hsz⟩:=F4 (P:=P) (esz:=1) (objs:=objs) (JlO _) hS hO hel hob1 hx (λ e he=>by
  simp only[JlR]at he;obtain⟨b,_,rfl⟩:=he;rfl)
 obtain⟨hlen,hcells⟩:=hrun w rfl;have hcs:cs=((l.map (λ b=>(b.toNat:Int))).map (Value.int .u8)).toArray:=by
  apply Array.ext_getElem?;intro n;by_cases hn:n<l.length
  ·obtain⟨v,hv,hd⟩:=her.2.2 n [D.int .u8 (l[n].toNat:Int)] (by simp[hn]) 0 (.int .u8 (l[n].toNat:Int)) rfl;cases hd;simp only[Jmd,Nat.mul_one,Nat.add_zero]at hv;rw[hv];simp[hn]
  ·rw[Array.getElem?_eq_none (by rw[hsz];simp;omega)];simp only[List.map_map,List.getElem?_toArray];rw[Jmk (by simp;omega)]
 refine⟨.string ⟨l.toArray⟩,?_,.mkStr _⟩;cases xv with
 | slice a n cap=>
  have hn:n=l.length:=by
   simp[Builtin.lenOf]at hlen;exact hlen
  subst hn;rw[run_convert_bytes_string w s t elem a l.length cap hd hu hd'];cases a with
  | none=>
   simp only[Builtin.firstCells,JlH,Result.ok.injEq,and_true]at hcells;have:l=[]:=by
    have:=congrArg Array.size hcells;rw[hcs]at this;simp at this;exact List.eq_nil_of_length_eq_zero this.symm
   subst this;rfl
  | some a=>
   simp only[Builtin.firstCells,JlU,Nat.mul_one]at hcells;rw[hcs]at hcells;rw[run_bytesToString w a l.length cap _ hcells,Ov];have he0:ByteArray.empty.data=#[]:=rfl;rw[he0];simp
 | string b=>
  have:b=⟨l.toArray⟩:=by
   simp only[Builtin.firstCells,JlH,Result.ok.injEq,and_true]at hcells;simp only[Builtin.lenOf,JlH,Result.ok.injEq,and_true,JlU]at hlen;rw[hcs,JlU,← hlen]at hcells;have hb:b.extract 0 b.size=b:=by
    apply ByteArray.ext;simp
   rw[hb]at hcells;have hl:=congrArg Array.toList hcells;simp only[Array.toList_map,List.map_map]at hl;have hinj:∀ (m m':List UInt8),m.map (λ b=>Value.int .u8 (b.toNat:Int))=m'.map (Value.int .u8 ∘ λ b=>(b.toNat:Int))->m=m':=by
    intro m;induction m with
    | nil=>intro m' h;cases m' with|nil=>rfl|cons=>cases h
    | cons c m ih=>
     intro m' h;cases m' with
     | nil=>cases h
     | cons c' m'=>
      simp only[JlV,List.cons.injEq,Function.comp,Value.int.injEq,true_and]at h;rw[ih m' h.2];have:=h.1;have:c.toNat=c'.toNat:=by omega
      rw[UInt8.toNat_inj.1 this]
   have:=hinj _ _ hl;apply ByteArray.ext;rw[← this]
  subst this;simp[convert,run_underlying hd,run_underlying hd']
 | _=>simp[Builtin.lenOf]at hlen
theorem V9 {s t:TypeId} {x:AV} {e:Eff} {xv:Value} (hS:Sim N H0 F0 F ρ O w.heap) (hs:AD P s (Γ s)) (ht:AD P t (Γ t)) (h:ML (Γ s).kind (Γ t).kind x=some e) (hob:e.ob) (hx:Ak F ρ x xv) :
  e.quiet/\∃ v,(convert s t xv).run P w=.ok v w/\Ak F ρ e.v v:=by
 obtain⟨d,hd,_,hk⟩:=hs.desc;obtain⟨d',hd',_,hk'⟩:=ht.desc;unfold ML at h;split at h
 ·rename_i eb h1 h2;rw[h1]at hk;rw[h2]at hk';obtain⟨elem,i,z,rfl,_,_,_,_,_,_,_,hu⟩:=hk;have hu:=hu rfl;cases hk';split at h
  ·rename_i es ob hel;obtain⟨hq,hv,hob'⟩:=AF h;obtain⟨hob1,hby⟩:=hob'.1 hob;refine⟨hq,?_⟩;rw[hv];exact JeJ (objs:=[]) hS (λ k ob h=>by simp[obA]at h) hd hu hd' hel hob1 hby hx
  ·cases h
 ·rename_i k k' k'' n h1 h2;rw[h1]at hk;rw[h2]at hk';cases hk;cases hk';obtain⟨hq,hv⟩:=AG h;refine⟨hq,_,?_,by rw[hv];exact .mkInt _ _⟩;rw[hx.int];simp only[convert,JlG,run_underlying hd,run_underlying hd',JlE,Conv.intToInt,JlH]
 ·rename_i k s h2 _;rw[h2]at hk';cases hk';obtain⟨hq,hv⟩:=AG h;refine⟨hq,_,?_,by rw[hv];exact .mkStr _⟩;rw[hx.str];cases d<;>simp[convert,run_underlying hd,run_underlying hd']
 ·cases h
theorem Yl {t:TypeId} {x:AV} {e:Eff} {xv:Value} {ty:TypeId} (hy:AD P t (Γ t)) (h:V3 (Γ t).kind x=some e) (hx:Ak F ρ x xv) :
  e.quiet/\∃ v,(Builtin.len_ #[t] ty #[xv]).run P w=.ok v w/\Ak F ρ e.v v:=by
 obtain⟨d,hd,_,hk⟩:=hy.desc;unfold V3 at h;split at h
 ·rename_i s hkind;rw[hkind]at hk;cases hk;obtain⟨hq,hv⟩:=AG h;refine⟨hq,_,?_,by rw[hv];exact .mkInt _ _⟩;rw[hx.str];simp only[Builtin.len_,List.getElem?_toArray,JlW,JlG,run_underlying hd,JlE,I1,goInt,JlH]
 ·rename_i a b c hkind;rw[hkind]at hk;obtain⟨elem,i,z,rfl,h1,h2,_⟩:=hk;obtain⟨hq,hv⟩:=AG h;refine⟨hq,_,?_,by rw[hv];exact .mkInt _ _⟩;rw[hx.nil];simp[Builtin.len_,run_underlying hd,goInt]
 ·rename_i a b c es hkind;rw[hkind]at hk;obtain⟨elem,i,z,rfl,h1,h2,_⟩:=hk;obtain⟨hq,hv⟩:=AG h;refine⟨hq,_,?_,by rw[hv];exact .mkInt _ _⟩;cases hx with
  | d _ _ hx=>cases hx<;>simp[Builtin.len_,run_underlying hd,goInt]
 ·rename_i a b c k sz lo n hkind;rw[hkind]at hk;obtain⟨elem,i,z,rfl,h1,h2,_⟩:=hk;obtain⟨hq,hv⟩:=AG h;refine⟨hq,_,?_,by rw[hv];exact .mkInt _ _⟩;cases hx<;>simp[Builtin.len_,run_underlying hd,goInt]
 ·rename_i a b c k sz lo n hkind;rw[hkind]at hk;obtain⟨elem,i,z,rfl,h1,h2,_⟩:=hk;obtain⟨hq,hv⟩:=AG h;refine⟨hq,_,?_,by rw[hv];exact .mkInt _ _⟩;cases hx<;>simp[Builtin.len_,run_underlying hd,goInt]
 ·cases h
theorem Wa {m:Bool} {k:IntKind}:∀ (l:List AV) (a:Int) (v:AV) (vs:List Value),Jfe m k a l=some v->l.length=vs.length->(∀ (i:Nat) a x,l[i]?=some a->vs[i]?=some x->Ak F ρ a x) ->
  ∃ x,(vs.foldlM (if m then Builtin.min2 else Builtin.max2) (.int k a)).run P w=.ok x w/\Ak F ρ v x:=by
 intro l;induction l with
 | nil=>
  intro a v vs h hn _;cases h;cases vs with
  | nil=>exact⟨_,rfl,.mkInt _ _⟩
  | cons x vs=>cases hn
 | cons y l ih=>
  intro a v vs h hn hl;cases vs with
  | nil=>cases hn
  | cons x vs=>
   cases y with
   | d y=>
    cases y with
    | int k' b=>
     have h1:=hl 0 _ x rfl rfl;rw[h1.int];obtain⟨z,hz,hr⟩:=ih _ v vs h (by simpa using hn) (λ i a u ha hu=>hl (i+1) a u (by simpa using ha) (by simpa using hu));refine⟨z,?_,hr⟩;rw[List.foldlM_cons,JlG];cases m<;>simpa [Builtin.min2,Builtin.max2]using hz
    | _=>cases h
   | _=>cases h
theorem Se {m:Bool} {l:List AV} {v:AV} {vs:List Value} {ty:TypeId} {ts:Array TypeId} (h:Jc7 m l=some v) (hn:l.length=vs.length) (hl:∀ (i:Nat) a x,l[i]?=some a->vs[i]?=some x->Ak F ρ a x) :
  ∃ x,(if m then Builtin.min_ ts ty vs.toArray else Builtin.max_ ts ty vs.toArray).run P w=.ok x w/\Ak F ρ v x:=by
 unfold Jc7 at h;split at h
 ·rename_i k a y r;cases vs with
  | nil=>cases hn
  | cons x vs=>
   have h1:=hl 0 _ x rfl rfl;rw[h1.int];obtain⟨z,hz,hr⟩:=Wa (P:=P) (w:=w) (y::r) a v vs h (by simpa using hn) (λ i a u ha hu=>hl (i+1) a u (by simpa using ha) (by simpa using hu));refine⟨z,?_,hr⟩;cases m<;>simpa [Builtin.min_,Builtin.max_]using hz
 ·cases h
theorem Uv {t:TypeId} {s:List UInt8} {n:Int} {k:IntKind} {e:Eff} (hd:P.underlying t=some .string) (h:A9 (.d (.int .u8 (s[n.toNat]?.getD 0).toNat)) (0<=n/\n<s.length)=some e) (hob:e.ob) :
  e.quiet/\∃ v,(Instr.index t (.string ⟨s.toArray⟩) (.int k n)).run P w=.ok v w/\Ak F ρ e.v v:=by
 obtain⟨hq,hv,hob'⟩:=AF h;obtain⟨h0,h1⟩:=hob'.1 hob;have hi:n.toNat<s.length:=by omega
 refine⟨hq,_,?_,by rw[hv];exact .mkInt _ _⟩;have hg:(⟨s.toArray⟩:ByteArray)[n.toNat]?=some s[n.toNat]:=by
  rw[getElem?_pos _ _ (by rw[I1];exact hi)];rfl
 simp[Instr.index,asIntOf,run_underlying hd,h0,hg,JlZ hi]
end Go.AI
end
section
namespace Go.AI
variable {P:Program} {Γ:Nat->Ty} {F:Nat->Option Obj} {ρ:Nat->Option Loc} {N:Nat->Prop} {H0 F0:Nat->Option Obj} {O objs:List (Option Ob)} {w:World}
def CR (F:Nat->Option Obj) (ρ:Nat->Option Loc) (l:List AV) (vs:List Value):Prop:=
 l.length=vs.length/\∀ (i:Nat) (a:AV) (v:Value),l[i]?=some a->vs[i]?=some v->Ak F ρ a v
theorem Sf {a:AV} {v:Value} (h:Ak F ρ a v) (hs:CG a=true):v.oneCell'=true/\v.cells=#[v]:=by
 cases h with
 | d x v h=>cases h<;>first|exact⟨rfl,rfl⟩|cases hs
 | agg=>cases hs
 | tup=>cases hs
 | ptr=>exact⟨rfl,rfl⟩
 | eptr=>exact⟨rfl,rfl⟩
 | dptr=>exact⟨rfl,rfl⟩
 | osl=>exact⟨rfl,rfl⟩
 | osl0=>exact⟨rfl,rfl⟩
 | bsl=>exact⟨rfl,rfl⟩
 | mp=>exact⟨rfl,rfl⟩
 | ifc=>cases hs
 | clo=>exact⟨rfl,rfl⟩
 | yld=>cases hs
 | gvT=>cases hs
 | gvF=>cases hs
 | top=>cases hs
theorem F5 {a:AV} {v:Value} (h:Ak F ρ a v) (hs:Bz a=true):CR F ρ (Ar a) v.cells.toList:=by
 cases h with
 | agg l vs hl hr=>exact⟨by simpa [Ar,Value.cells]using hl,λ i a v ha hv=>hr i a v ha (by simpa [Value.cells]using hv)⟩
 | tup=>cases hs
 | ifc=>cases hs
 | clo f l vs hl h=>exact⟨rfl,λ i a v' ha hv=>by cases i with|zero=>simp[Ar,Value.cells]at ha hv;subst ha;subst hv;exact .clo f l vs hl h|succ i=>simp[Ar]at ha⟩
 | yld=>cases hs
 | gvT=>cases hs
 | gvF=>cases hs
 | top=>cases hs
 | d x v h=>
  have hc:Ar (.d x)=[.d x]:=rfl;have h1:=(Sf (F:=F) (ρ:=ρ) (.d x v h) (by simpa [Bz]using hs)).2;rw[hc,h1];refine⟨rfl,λ i a v' ha hv=>?_⟩;cases i with
  | zero=>simp at ha hv;subst ha;subst hv;exact .d x v h
  | succ i=>simp at ha
 | ptr k off L hL=>exact⟨rfl,λ i a v' ha hv=>by cases i with|zero=>simp[Ar,Value.cells]at ha hv;subst ha;subst hv;exact .ptr k off L hL|succ i=>simp[Ar]at ha⟩
 | eptr k sz j off L hL=>exact⟨rfl,λ i a v' ha hv=>by cases i with|zero=>simp[Ar,Value.cells]at ha hv;subst ha;subst hv;exact .eptr k sz j off L hL|succ i=>simp[Ar]at ha⟩
 | dptr e off b o cs t fr g h1 h2 h3=>exact⟨rfl,λ i a v' ha hv=>by cases i with|zero=>simp[Ar,Value.cells]at ha hv;subst ha;subst hv;exact .dptr e off b o cs t fr g h1 h2 h3|succ i=>simp[Ar]at ha⟩
 | osl k sz lo n cap L h1 h2 h3 h4=>exact⟨rfl,λ i a v' ha hv=>by cases i with|zero=>simp[Ar,Value.cells]at ha hv;subst ha;subst hv;exact .osl k sz lo n cap L h1 h2 h3 h4|succ i=>simp[Ar]at ha⟩
 | osl0 k sz lo x=>exact⟨rfl,λ i a v' ha hv=>by cases i with|zero=>simp[Ar,Value.cells]at ha hv;subst ha;subst hv;exact .osl0 k sz lo x|succ i=>simp[Ar]at ha⟩
 | bsl k off sz n cap L h1 h2=>exact⟨rfl,λ i a v' ha hv=>by cases i with|zero=>simp[Ar,Value.cells]at ha hv;subst ha;subst hv;exact .bsl k off sz n cap L h1 h2|succ i=>simp[Ar]at ha⟩
 | mp k L hL=>exact⟨rfl,λ i a v' ha hv=>by cases i with|zero=>simp[Ar,Value.cells]at ha hv;subst ha;subst hv;exact .mp k L hL|succ i=>simp[Ar]at ha⟩
theorem Gn (vs:List AV):∀ (cells:List AV) (o:Nat),(splice cells o vs).length=cells.length:=by
 induction vs with
 | nil=>intro cells o;rfl
 | cons v vs ih=>intro cells o;simp[splice,ih]
theorem Mo (vs:List AV):∀ (o:Nat) (cur:List AV) (i:Nat),o+vs.length<=cur.length->(splice cur o vs)[i]?=if o<=i/\i<o+vs.length then vs[i-o]? else cur[i]? := by
 induction vs with
 | nil=>intro o cur i _;simp[splice];intro h h';omega
 | cons v vs ih=>
  intro o cur i h;simp only[List.length_cons]at h⊢;rw[splice,ih (o+1) _ i (by simp;omega)];by_cases hi:i=o
  ·subst hi;rw[if_neg (by omega),if_pos (by omega)];simp[show i<cur.length by omega]
  ·by_cases hr:o<=i/\i<o+(vs.length+1)
   ·rw[if_pos (by omega),if_pos hr];rw[show i-o=(i-(o+1))+1 by omega];simp
   ·rw[if_neg (by omega),if_neg hr,Jmf (by omega)]
theorem CR.splice {l vs:List AV} {cs:Array Value} {xs:List Value} {o:Nat} (h:CR F ρ l cs.toList) (h':CR F ρ vs xs) (ho:o+vs.length<=l.length):CR F ρ (AI.splice l o vs) (BX cs o xs).toList:=by
 refine⟨?_,λ i a v ha hv=>?_⟩
 ·have:=h.1;simp only[Array.length_toList]at this;simp only[Gn,Array.length_toList,BF,this]
 ·have hl:=h.1;simp only[Array.length_toList]at hl;rw[Mo _ _ _ _ ho]at ha;rw[Array.getElem?_toList,F3 _ _ _ _ (by rw[← h'.1];omega),← h'.1]at hv;by_cases hr:o<=i/\i<o+vs.length
  ·rw[if_pos hr]at ha hv;exact h'.2 _ _ _ ha hv
  ·rw[if_neg hr]at ha hv;exact h.2 i a v ha (by simpa using hv)
theorem Uw (off:Nat):∀ (l:List Value) (k:Nat) (cs:Array Value),(l.zipIdx k).foldl (λ cs (x:Value×Nat)=>cs.setIfInBounds (off+x.2) x.1) cs=BX cs (off+k) l:=by
 intro l;induction l with
 | nil=>intro k cs;rfl
 | cons v l ih=>intro k cs;simp only[List.zipIdx_cons,List.foldl_cons,ih,BX,JlT]
theorem NN (off:Nat) (vs cs:Array Value):(vs.zipIdx.foldl (λ cs (x:Value×Nat)=>cs.setIfInBounds (off+x.2) x.1) cs)=BX cs off vs.toList:=by
 rw[← Array.foldl_toList,Array.toList_zipIdx,Uw];rfl
theorem PG {place place':Nat->Option (Nat×Nat)} (hpl:∀ i o s,place i=some (o,s)->place' i=some (o,s)):∀ (parts:List (Nat×AV)) (vparts:List (Nat×Value)) (l:List AV) (cs:Array Value) (r:List AV),
  parts.length=vparts.length->(∀ (i:Nat) p q,parts[i]?=some p->vparts[i]?=some q->p.1=q.1/\Ak F ρ p.2 q.2)->CR F ρ l cs.toList->R8 place l parts=some r ->
  ∃ cs',Instr.fill place' cs vparts=some cs'/\CR F ρ r cs'.toList:=by
 intro parts;induction parts with
 | nil=>
  intro vparts l cs r hn _ hl h;cases vparts with
  | nil=>simp only[R8,Jl9]at h;subst h;exact⟨cs,rfl,hl⟩
  | cons=>cases hn
 | cons p parts ih=>
  intro vparts l cs r hn hr hl h;cases vparts with
  | nil=>cases hn
  | cons q vparts=>
   obtain⟨i,v⟩:=p;obtain⟨j,x⟩:=q;obtain⟨h1,h2⟩:=hr 0 (i,v) (j,x) rfl rfl;simp only at h1 h2;subst h1;simp only[R8]at h;split at h
   ·cases h
   ·rename_i off size hpi;cases hc:(Bz v&&(Ar v).length==size&&decide (off+size<=l.length))with
    | false=>rw[hc]at h;cases h
    | true=>
     rw[hc,cond_true]at h;simp only[Jl0,beq_iff_eq,decide_eq_true_eq]at hc;obtain⟨⟨hc1,hc2⟩,hc3⟩:=hc;have hcr:=F5 h2 hc1;have e1:x.cells.size=size:=by have:=hcr.1;simp at this;omega
     have e2:cs.size=l.length:=by have:=hl.1;simp at this;omega
     obtain⟨cs',hf,hcr'⟩:=ih vparts _ (BX cs off x.cells.toList) r (by simpa using hn) (λ n p q hp hq=>hr (n+1) p q (by simpa using hp) (by simpa using hq)) (hl.splice hcr (by omega)) h;refine⟨cs',?_,hcr'⟩;simp only[Instr.fill,hpl i off size hpi];rw[if_neg (by simp[e1];omega)];have:=NN off x.cells cs;rw[← this]at hf;exact hf
theorem Ux {t:TypeId} (hy:AD P t (Γ t)) {parts:List (Nat×AV)} {vparts:Array (Nat×Value)} {v:AV} (hn:parts.length=vparts.toList.length)
  (hr:∀ (i:Nat) p q,parts[i]?=some p->vparts.toList[i]?=some q->p.1=q.1/\Ak F ρ p.2 q.2) (h:V4 (Γ t) parts=some v) :
  ∃ x,(Instr.build t vparts).run P w=.ok x w/\Ak F ρ v x:=by
 obtain⟨i,z,hi,his,hz,hzc⟩:=hy.info;obtain⟨d,hd,_,hk⟩:=hy.desc;have hzero:CR F ρ ((Γ t).zero.map .d) z.cells.toList:=by
  rw[hzc];refine⟨by simp,λ j a v ha hv=>?_⟩;simp only[Jl3,Jl2]at ha hv;obtain⟨x,hx,rfl⟩:=ha;obtain⟨x',hx',rfl⟩:=hv;rw[hx]at hx';cases hx';exact .d _ _ (Bo.val F (JlJ.1 hy.plain x (Jl1 hx)))
 unfold V4 at h;split at h
 ·rename_i offs hkind;rw[hkind]at hk;obtain⟨fields,rfl,hlen,hf⟩:=hk;split at h
  ·rename_i cs hcs;cases h;have hm:∀ (fs:List Field) (os:List (Nat×Nat)),fs.length=os.length->(∀ (i o s:Nat),os[i]?=some (o,s)->∃ f j,fs[i]?=some f/\f.offset=o/\P.info? f.type=some j/\j.size=s/\s≠0) ->
     (fs.mapM (λ f=>do pure (f.offset,← sizeOf f.type):Field->Sem (Nat×Nat))).run P w=.ok os w:=by
    intro fs;induction fs with
    | nil=>intro os hl _;cases os with|nil=>rfl|cons=>cases hl
    | cons f fs ih=>
     intro os hl hfs;cases os with
     | nil=>cases hl
     | cons o os=>
      obtain⟨o1,o2⟩:=o;obtain⟨f',j,g1,g2,g3,g4,_⟩:=hfs 0 o1 o2 rfl;simp at g1;subst g1;have:=ih os (by simpa using hl) (λ i o s hi=>by obtain⟨f',j,g⟩:=hfs (i+1) o s (by simpa using hi);exact⟨f',j,by simpa using g⟩);simp only[List.mapM_cons,JlG,AY w g3,JlE,JlH,this,g2,g4]
   have hm':=hm fields.toList offs (by simpa using hlen) (λ i o s hi=>by obtain⟨f,j,g1,g2,g3,g4,g5,_⟩:=hf i o s hi;exact⟨f,j,by simpa using⟨g1,g2,g3,g4,g5⟩⟩);obtain⟨cs',hfill,hcr⟩:=PG (place':=λ i=>offs.toArray[i]?) (λ i o s h=>by simpa using h) parts vparts.toList _ _ _ hn hr hzero hcs;refine⟨.agg cs',?_,.agg _ _ (by have:=hcr.1;simpa using this) (λ i a v ha hv=>hcr.2 i a v ha (by simpa using hv))⟩;have hma:(fields.mapM (λ f=>do pure (f.offset,← sizeOf f.type):Field->Sem (Nat×Nat))).run P w=.ok offs.toArray w:=by
    rw[Array.mapM_eq_mapM_toList];simp only[Sem.run_map,hm',JlE]
   simp only[Instr.build,JlG,BH w hi hz,JlE,run_underlying hd,hma,hfill,JlH]
  ·cases h
 ·rename_i n esz hkind;rw[hkind]at hk;obtain⟨elem,j,rfl,h1,h2⟩:=hk;split at h
  ·rename_i cs hcs;cases h;obtain⟨cs',hfill,hcr⟩:=PG (place':=λ i=>some (i*esz,esz)) (λ i o s h=>h) parts vparts.toList _ _ _ hn hr hzero hcs;refine⟨.agg cs',?_,.agg _ _ (by have:=hcr.1;simpa using this) (λ i a v ha hv=>hcr.2 i a v ha (by simpa using hv))⟩;simp only[Instr.build,JlG,BH w hi hz,JlE,run_underlying hd,AY w h1,h2,hfill,JlH]
  ·cases h
 ·cases h
end Go.AI
end
section
namespace Go.AI
variable {P:Program} {Γ:Nat->Ty} {F:Nat->Option Obj} {ρ:Nat->Option Loc} {N:Nat->Prop} {H0 F0:Nat->Option Obj} {O objs:List (Option Ob)} {w:World}
theorem I2 {v:AV} {r:Rd D} {val:Value} {h:Array Obj} (hS:Sim N H0 F0 F ρ O h) (hO:∀ k ob,obA objs k=some ob->obA O k=some ob) {F':Nat->Option Obj} (hF:FLe F F')
  (hF':∀ k L,k∈r.ks->ρ k=some L->F' L.b=h[L.b]?) (he:IS objs v=some r) (hob:r.ob) (hr:Ak F ρ v val):Bo F' r.x val:=by
 unfold IS at he;split at he
 ·cases he;rw[hr.nil];exact .sl0 _ _
 ·cases he;cases hr with
  | d _ _ h=>exact h.mono hF
 ·rename_i k sz lo n;split at he
  ·rename_i sz' es hobk;cases hsz:Nat.beq sz sz' with
   | false=>rw[hsz]at he;cases he
   | true=>
    rw[hsz,cond_true]at he;have hsz:=Jl6 hsz;subst hsz;cases he;cases hr with
    | osl _ _ _ _ cap L hL hc hs hz=>
     obtain⟨⟨g1,g2,cs,t,fr,g3,g4,g5,g6⟩,_⟩:=hS.obj k L _ hL (hO _ _ hobk);have hFb:=hF' k L (by simp) hL;rw[g3]at hFb;have hlen:((es.drop lo).take n).length=n:=by simp;simp at hob;omega
     have hget:∀ (i:Nat) (e:List D),((es.drop lo).take n)[i]?=some e->es[lo+i]?=some e:=by
      intro i e he;have:=Af he;rw[hlen]at this;rw[Jmj this,JlS]at he;exact he
     have hv:∀ (i:Nat) (e:List D),((es.drop lo).take n)[i]?=some e->∀ (j:Nat) (x:D),e[j]?=some x->cs[L.base+lo*sz+i*sz+j]?=some (cs.getD (L.base+lo*sz+i*sz+j) undef)/\Bo F' x (cs.getD (L.base+lo*sz+i*sz+j) undef):=by
      intro i e he j x hx;obtain⟨v,hv,hd⟩:=g6 _ e (hget i e he) j x hx;rw[Jmc,← JlT]at hv;rw[Jl5,hv];exact⟨rfl,hd.mono hF⟩
     have:=Bo.sl (F:=F') ((es.drop lo).take n) L.b (L.base+lo*sz) cap sz cs t fr (λ i j=>cs.getD (L.base+lo*sz+i*sz+j) undef) hFb (λ e he=>g1 e (List.mem_of_mem_drop (List.mem_of_mem_take he))) (by omega) (λ i e he j x hx=>(hv i e he j x hx).1) (λ i e he j x hx=>(hv i e he j x hx).2);rw[hlen]at this;exact this
    | osl0 _ _ _ a=>simp only[List.take_zero];exact .sl0 _ _
  ·cases he
 ·cases he
theorem Fh {h:Array Obj} (hS:Sim N H0 F0 F ρ O h) (hO:∀ k ob,obA objs k=some ob->obA O k=some ob) {F':Nat->Option Obj} (hF:FLe F F'):∀ (l:List AV) (r:Rd (List D)) (vs:List Value),
  (∀ k L,k∈r.ks->ρ k=some L->F' L.b=h[L.b]?)->D0 objs l=some r->r.ob->CR F ρ l vs->r.x.length=vs.length/\∀ (i:Nat) (x:D) (v:Value),r.x[i]?=some x->vs[i]?=some v->Bo F' x v:=by
 intro l;induction l with
 | nil=>
  intro r vs _ he _ hc;cases he;have:=hc.1;exact⟨by simpa using this,λ i x v hx=>by simp at hx⟩
 | cons a l ih=>
  intro r vs hF' he hob hc;simp only[D0]at he;split at he
  ·rename_i r1 r2 h1 h2;cases he;cases vs with
   | nil=>have:=hc.1;simp at this
   | cons v vs=>
    have hd:=I2 hS hO hF (λ k L hk=>hF' k L (by simp[hk])) h1 hob.1 (hc.2 0 a v rfl rfl);obtain⟨g1,g2⟩:=ih r2 vs (λ k L hk=>hF' k L (by simp[hk])) h2 hob.2 ⟨by have:=hc.1;simpa using this,λ i a v ha hv=>hc.2 (i+1) a v (by simpa using ha) (by simpa using hv)⟩;refine⟨by simp[g1],λ i x v' hx hv=>?_⟩;cases i with
    | zero=>simp at hx hv;subst hx;subst hv;exact hd
    | succ i=>exact g2 i x v' (by simpa using hx) (by simpa using hv)
  ·cases he
theorem Ip {h:Array Obj} (hS:Sim N H0 F0 F ρ O h) (hO:∀ k ob,obA objs k=some ob->obA O k=some ob) {F':Nat->Option Obj} (hF:FLe F F') {agg:Bool} {v:AV} {r:Rd (List D)} {x:Value}
  (hF':∀ k L,k∈r.ks->ρ k=some L->F' L.b=h[L.b]?) (he:kvA objs agg v=some r) (hob:r.ob) (hr:Ak F ρ v x):KV F' agg r.x x:=by
 have one:∀ v:AV,Ak F ρ v x->(bif agg then none else D0 objs [v])=some r->KV F' agg r.x x:=by
  intro v hr he;cases agg with
  | true=>cases he
  | false=>
   rw[cond_false]at he;obtain⟨g1,g2⟩:=Fh hS hO hF [v] r [x] hF' he hob ⟨rfl,λ i a u ha hu=>by
    cases i with
    | zero=>simp at ha hu;subst ha;subst hu;exact hr
    | succ i=>simp at ha⟩
   match hx:r.x,g1 with
   | [y],_=>exact⟨y,rfl,g2 0 y x (by rw[hx];rfl) rfl⟩
 unfold kvA at he;split at he
 ·rename_i l;cases agg with
  | false=>cases he
  | true=>
   rw[cond_true]at he;cases hr with
   | agg _ vs hl hv=>
    obtain⟨g1,g2⟩:=Fh hS hO hF l r vs.toList hF' he hob ⟨by simpa using hl,λ i a v ha hv'=>hv i a v ha (by simpa using hv')⟩;exact⟨vs,rfl,by simpa using g1,λ i y u hy hu=>g2 i y u hy (by simpa using hu)⟩
 ·exact one v hr he
def fnd {β:Type} (ks:List TK) (key:List D):List (List D×β)->List MapEntry->Nat->Option (Nat×Value)
 | p::ps,e::es,i=>bif eqK ks key p.1 then some (i,e.val)else fnd ks key ps es (i+1)
 | _,_,_=>none
theorem MU {ks:List TK} {a b:List D} (h:(Az ks (a.map .d) (b.map .d)).isSome=true):Az ks (a.map .d) (b.map .d)=some (eqK ks a b):=by
 unfold eqK;cases he:Az ks (a.map .d) (b.map .d)with
 | none=>rw[he]at h;cases h
 | some r=>rfl
section
variable {key:TypeId} {ka va:Bool} {ks:List TK} {a:List D} {x:Value}
theorem Uy {β:Type} (hk:HB P key false ks) {d:TypeDesc} (hd:P.underlying key=some d) (hx:KV F false a x):∀ (ents:List (List D×β)) (es:List MapEntry) (i:Nat),ents.length=es.length ->
  (∀ p∈ents,(Az ks (a.map .d) (p.1.map .d)).isSome=true)->(∀ (j:Nat) p q,ents[j]?=some p->es[j]?=some q->KV F false p.1 q.key)->Instr.findNow d x es i=some (fnd ks a ents es i):=by
 obtain⟨d',hd',hn⟩:=hk.now;rw[hd]at hd';cases hd';intro ents;induction ents with
 | nil=>intro es i hl _ _;cases es with|nil=>rfl|cons=>cases hl
 | cons p ps ih=>
  intro es i hl hs hr;cases es with
  | nil=>cases hl
  | cons e es=>
   have h1:=hn F a p.1 x e.key _ hx (hr 0 p e rfl rfl) (MU (hs p (by simp)));simp only[Jmb,if_false]at h1;simp only[Instr.findNow,h1,fnd];cases eqK ks a p.1 with
   | true=>rfl
   | false=>exact ih es (i+1) (by simpa using hl) (λ q hq=>hs q (by simp[hq])) λ j p q hp hq=>hr (j+1) p q (by simpa using hp) (by simpa using hq)
theorem PH {β:Type} (hk:HB P key ka ks) (hx:KV F ka a x):∀ (ents:List (List D×β)) (es:List MapEntry) (i:Nat),ents.length=es.length ->
  (∀ p∈ents,(Az ks (a.map .d) (p.1.map .d)).isSome=true)->(∀ (j:Nat) p q,ents[j]?=some p->es[j]?=some q->KV F ka p.1 q.key)->(Instr.findAsking key x es i).run P w=.ok (fnd ks a ents es i) w:=by
 intro ents;induction ents with
 | nil=>intro es i hl _ _;cases es with|nil=>rfl|cons=>cases hl
 | cons p ps ih=>
  intro es i hl hs hr;cases es with
  | nil=>cases hl
  | cons e es=>
   have h1:=hk.eq F a p.1 x e.key _ w hx (hr 0 p e rfl rfl) (MU (hs p (by simp)));simp only[Instr.findAsking,JlG,h1,JlE,fnd];cases eqK ks a p.1 with
   | true=>rfl
   | false=>
    simp only[Jmb,if_false,cond_false];exact ih es (i+1) (by simpa using hl) (λ q hq=>hs q (by simp[hq])) λ j p q hp hq=>hr (j+1) p q (by simpa using hp) (by simpa using hq)
theorem Ki {β:Type} (hk:HB P key ka ks) (hx:KV F ka a x) {ents:List (List D×β)} {es:List MapEntry} (hl:ents.length=es.length)
  (hs:∀ p∈ents,(Az ks (a.map .d) (p.1.map .d)).isSome=true) (hr:∀ (j:Nat) p q,ents[j]?=some p->es[j]?=some q->KV F ka p.1 q.key):(Instr.findKey key x es).run P w=.ok (fnd ks a ents es 0) w:=by
 obtain⟨d,hd,hn⟩:=hk.now;cases ka with
 | false=>
  have:=Uy hk hd hx ents es 0 hl hs hr;simp only[Instr.findKey,JlG,run_underlying hd,JlE,this,JlH]
 | true=>
  cases ents with
  | nil=>
   cases es with
   | cons=>cases hl
   | nil=>simp only[Instr.findKey,JlG,run_underlying hd,JlE,Instr.findNow,JlH,fnd]
  | cons p ps=>
   cases es with
   | nil=>cases hl
   | cons e es=>
    have h1:=hn F a p.1 x e.key _ hx (hr 0 p e rfl rfl) (MU (hs p (by simp)));simp only[if_true]at h1;have h2:Instr.findNow d x (e::es) 0=none:=by simp only[Instr.findNow,h1]
    simp only[Instr.findKey,JlG,run_underlying hd,JlE,h2];exact PH hk hx (p::ps) (e::es) 0 hl hs hr
theorem PI {β:Type} (v:β):∀ (ents:List (List D×β)) (es:List MapEntry) (i:Nat),ents.length=es.length ->
  (fnd ks a ents es i=none/\Hx ks a ents=none/\JX ks a v ents=ents++[(a,v)]) \/
  ∃ m p e,fnd ks a ents es i=some (i+m,e.val)/\ents[m]?=some p/\es[m]?=some e/\Hx ks a ents=some p.2/\eqK ks a p.1=true/\JX ks a v ents=ents.set m (a,v):=by
 intro ents;induction ents with
 | nil=>intro es i _;exact .inl ⟨by simp[fnd],rfl,rfl⟩
 | cons p ps ih=>
  intro es i hl;cases es with
  | nil=>cases hl
  | cons e es=>
   simp only[fnd,Hx,JX];cases hq:eqK ks a p.1 with
   | true=>exact .inr ⟨0,p,e,rfl,rfl,rfl,rfl,hq,rfl⟩
   | false=>
    simp only[cond_false];rcases ih es (i+1) (by simpa using hl)with⟨h1,h2,h3⟩|⟨m,p',e',h1,h2,h3,h4,h5,h6⟩
    ·exact .inl ⟨h1,h2,by rw[h3];rfl⟩
    ·exact .inr ⟨m+1,p',e',by rw[h1];congr 2;omega,by simpa using h2,by simpa using h3,h4,h5,by rw[h6];rfl⟩
end
theorem KV.val {agg:Bool} {cs:List D} {v:Value} (h:KV F agg cs v):Ak F ρ (kvV agg cs) v:=by
 cases agg with
 | true=>
  obtain⟨vs,rfl,h2,h3⟩:=h;refine .agg _ vs (by simpa using h2) λ i a u ha hu=>?_;simp only[Jl3,Jl2]at ha;obtain⟨y,hy,rfl⟩:=ha;exact .d _ _ (h3 i y u hy hu)
 | false=>
  obtain⟨x,rfl,h2⟩:=h;exact .d _ _ h2
theorem Jdb {va:Bool} {vz:List D} {z:Value} (hp:vz.all D.isPlain=true) (h1:va=true->∃ zs:Array Value,z=.agg zs/\zs.toList=vz.map D.val) (h2:va=false->∃ x,vz=[x]/\z=x.val):KV F va vz z:=by
 cases va with
 | true=>
  obtain⟨zs,rfl,hz⟩:=h1 rfl;have hl:=congrArg List.length hz;simp at hl;refine⟨zs,rfl,hl.symm,λ i x u hx hu=>?_⟩;have:zs.toList[i]?=some u:=by simpa using hu
  rw[hz,Jl3,hx]at this;simp at this;subst this;exact Bo.val F (JlJ.1 hp x (Jl1 hx))
 | false=>
  obtain⟨x,rfl,rfl⟩:=h2 rfl;simp at hp;exact⟨x,rfl,Bo.val F hp⟩
theorem Ic.push {es:Array MapEntry} {c:Nat} (h:Ic es c) (k v:Value):Ic (es.push { key:=k,val:=v,born:=c }) (c+1):=by
 obtain⟨h1,h2⟩:=h;refine⟨λ x hx=>?_,?_⟩
 ·simp only[Array.toList_push,List.mem_append,List.mem_singleton]at hx;rcases hx with hx|rfl
  ·have:=h1 x hx;omega
  ·exact Nat.lt_succ_self c
 ·simp only[Array.toList_push,List.map_append,JlV,List.map_nil];refine List.nodup_append.2 ⟨h2,List.pairwise_singleton _ _,λ a ha b hb=>?_⟩;simp only[List.mem_singleton]at hb;subst hb;obtain⟨x,hx,rfl⟩:=JlR.1 ha;have:=h1 x hx;omega
theorem Ic.modify {es:Array MapEntry} {c:Nat} (h:Ic es c) (n:Nat) (k v:Value):Ic (es.modify n λ e=>{ e with key:=k,val:=v }) c:=by
 have e:(es.modify n λ e=>{ e with key:=k,val:=v }).toList.map (·.born)=es.toList.map (·.born):=by
  rw[Array.toList_modify];refine List.ext_getElem? λ i=>?_;simp only[Jl3,List.getElem?_modify];cases es.toList[i]? with
  | none=>rfl
  | some x=>simp only[Option.map_eq_map,Option.map_some,Jl9];split<;>rfl
 refine⟨λ x hx=>?_,by rw[e];exact h.2⟩;have:x.born∈es.toList.map (·.born):=by rw[← e];exact List.mem_map_of_mem hx
 obtain⟨y,hy,hyx⟩:=JlR.1 this;have:=h.1 y hy;omega
theorem Xs {β:Type} {t kt et:TypeId} {ka:Bool} (RV:Nat->β->Value->Prop) {ks:List TK} (hd:P.underlying t=some (.map kt et)) (hkf:HB P kt ka ks) {L:Loc} {es:Array MapEntry} {clock:Nat} {ents:List (List D×β)} (g1:w.heap[L.b]?=some (.map es clock)) (gb:Ic es clock) (g2:es.size=ents.length)
  (g3:∀ (i:Nat) p q,ents[i]?=some p->es[i]?=some q->KV F ka p.1 q.key/\RV i p.2 q.val) {a:List D} {v:β} {kv vv:Value} (hk:KV F ka a kv) (hv:∀ i,RV i v vv) (ho:E7 ks a ents) :
  ∃ es' clock',(Instr.mapUpdate t (.map (some L.b)) kv vv).run P w=.ok () { w with heap:=w.heap.setIfInBounds L.b (.map es' clock') }/\Ic es' clock'/\es'.size=(JX ks a v ents).length /\
   ∀ (i:Nat) p q,(JX ks a v ents)[i]?=some p->es'[i]?=some q->KV F ka p.1 q.key/\RV i p.2 q.val:=by
 obtain⟨ho2,ho3⟩:=ho;have hlen:ents.length=es.toList.length:=by simp[g2]
 have hfk:=Ki (w:=w) hkf hk hlen ho3 (λ j p q hp hq=>(g3 j p q hp (by simpa using hq)).1);have hchk:=hkf.chk F a kv w false hk ho2;have hget:(getObj L.b).run P w=.ok (.map es clock) w:=by simp[getObj,Sem.run,g1]
 have hset:∀ o,(setObj L.b o).run P w=.ok () { w with heap:=w.heap.setIfInBounds L.b o }:=λ o=>by simp[setObj,Sem.run,g1]
 rcases PI (ks:=ks) (a:=a) v ents es.toList 0 hlen with⟨f1,f2,f3⟩|⟨n,p,q,f1,f2,f3,f4,f5,f6⟩
 ·rw[f1]at hfk;refine⟨es.push { key:=kv,val:=vv,born:=clock },clock+1,?_,gb.push _ _,by rw[f3];simp[g2],λ i p q hp hq=>?_⟩
  ·simp only[Instr.mapUpdate,JlG,run_underlying hd,JlE,hget,hchk,hfk,hset]
  ·rw[f3]at hp;rw[List.getElem?_append]at hp;rw[Array.getElem?_push]at hq;by_cases hi:i<ents.length
   ·rw[if_pos hi]at hp;rw[if_neg (by omega)]at hq;exact g3 i p q hp hq
   ·rw[if_neg hi]at hp;by_cases hi':i=es.size
    ·rw[if_pos hi']at hq;cases hq;rw[hi',g2]at hp;simp at hp;subst hp;exact⟨hk,hv _⟩
    ·rw[if_neg hi']at hq;rw[Array.getElem?_eq_none (by omega)]at hq;cases hq
 ·rw[f1,Jmd]at hfk;have hf3:es[n]?=some q:=by simpa using f3
  have hsame:=hkf.same F a p.1 kv q.key hk (g3 n p q f2 hf3).1 (by rw[MU (ho3 p (Jl1 f2)),f5]);refine⟨es.modify n λ e=>{ e with key:=kv,val:=vv },clock,?_,gb.modify _ _ _,by rw[f6];simp[g2],λ i p' q' hp hq=>?_⟩
  ·simp only[Instr.mapUpdate,JlG,run_underlying hd,JlE,hget,hchk,hfk,hf3,Option.map_some,JlK,Instr.keyThatStays,hsame,if_true,JlH,hset]
  ·rw[f6,List.getElem?_set]at hp;rw[Array.getElem?_modify]at hq;by_cases hi:n=i
   ·subst hi;rw[if_pos rfl,hf3]at hq;rw[if_pos rfl,if_pos (Af f2)]at hp;cases hp;simp at hq;subst hq;exact⟨hk,hv _⟩
   ·rw[if_neg hi]at hq hp;exact g3 i p' q' hp hq
theorem Wb {t:TypeId} (hy:AD P t (Γ t)) (hS:Sim N H0 F0 F ρ O w.heap) (hO:∀ k ob,obA objs k=some ob->obA O k=some ob) {m key:AV} {ok:Bool} {e:Eff} {mv kv:Value} (h:FT (Γ t).kind objs m key ok=some e) (hob:e.ob) (hm:Ak F ρ m mv) (hk:Ak F ρ key kv) :
  e.quiet/\∃ v,(Instr.lookup t mv kv ok).run P w=.ok v w/\Ak F ρ e.v v:=by
 obtain⟨d,hd,_,hkd⟩:=hy.desc;unfold FT at h;split at h
 ·rename_i ks ka va vz k hkind;rw[hkind]at hkd;obtain⟨kt,et,i,z,rfl,hkf,hi,hz,hp,hz1,hz2⟩:=hkd;split at h
  ·rename_i ka' va' ents r hobk hkv;cases hc:(r.ks.isEmpty&&(ka==ka')&&(va==va'))with
   | false=>rw[hc]at h;cases h
   | true=>
    rw[hc,cond_true]at h;simp only[Jl0,beq_iff_eq]at hc;obtain⟨⟨hc1,rfl⟩,rfl⟩:=hc;have hks:r.ks=[]:=by simpa using hc1
    obtain⟨hq,hv,hob'⟩:=AF h;obtain⟨ho1,ho2,ho3⟩:=hob'.1 hob;refine⟨hq,?_⟩;rw[hv];cases hm with
    | mp _ L hL=>
     obtain⟨⟨_,es,clock,g1,_,g2,g3⟩,_⟩:=hS.obj k L _ hL (hO _ _ hobk);have hkv':=Ip hS hO (FLe.refl F) (λ k L hk=>by rw[hks]at hk;cases hk) hkv ho1 hk;have hlen:ents.length=es.toList.length:=by simp[g2]
     have hfk:=Ki (w:=w) hkf hkv' hlen ho3 (λ j p q hp hq=>(g3 j p q hp (by simpa using hq)).1);have hchk:=hkf.chk F r.x kv w es.isEmpty hkv' ho2;have hget:(getObj L.b).run P w=.ok (.map es clock) w:=by simp[getObj,Sem.run,g1]
     have hzr:=BH w hi hz;rcases PI (ks:=ks) (a:=r.x) ([]:List D) ents es.toList 0 hlen with⟨f1,f2,_⟩|⟨n,p,q,f1,f2,f3,f4,_,_⟩
     ·rw[f1]at hfk;have hzk:KV F va vz z:=Jdb hp hz1 hz2;refine⟨if ok=true then .tuple #[z,.bool false]else z,?_,?_⟩
      ·simp only[Instr.lookup,JlG,run_underlying hd,JlE,hget,JlH,hchk,hfk,hzr]
      ·rw[f2];cases ok with
       | true=>
        refine .tup _ _ rfl λ j a u ha hu=>?_
        match j with
        | 0=>simp at ha hu;subst ha;subst hu;exact hzk.val
        | 1=>simp at ha hu;subst ha;subst hu;exact .mkBool _
        | j+2=>simp at ha
       | false=>exact hzk.val
     ·rw[f1]at hfk;have hvk:=(g3 n p q f2 (by simpa using f3)).2;refine⟨if ok=true then .tuple #[q.val,.bool true]else q.val,?_,?_⟩
      ·simp only[Instr.lookup,JlG,run_underlying hd,JlE,hget,JlH,hchk,hfk]
      ·rw[f4];cases ok with
       | true=>
        refine .tup _ _ rfl λ j a u ha hu=>?_
        match j with
        | 0=>simp at ha hu;subst ha;subst hu;exact hvk.val
        | 1=>simp at ha hu;subst ha;subst hu;exact .mkBool _
        | j+2=>simp at ha
       | false=>exact hvk.val
  ·rename_i ka' dv ents r hobk hkv;cases hc:(r.ks.isEmpty&&(ka==ka')&&!va&&!ok&&Jc6 vz&&CG ((Hx ks r.x ents).getD dv))with
   | false=>rw[hc]at h;cases h
   | true=>
    rw[hc,cond_true]at h;simp only[Jl0,beq_iff_eq,Bool.not_eq_true']at hc;obtain⟨⟨⟨⟨⟨hc1,rfl⟩,rfl⟩,rfl⟩,hvz⟩,hsol⟩:=hc;have hks:r.ks=[]:=by simpa using hc1
    obtain⟨hq,hv,hob'⟩:=AF h;obtain⟨ho1,ho2,ho3⟩:=hob'.1 hob;refine⟨hq,?_⟩;rw[hv];cases hm with
    | mp _ L hL=>
     obtain⟨⟨_,hdv,es,clock,g1,_,g2,g3⟩,_⟩:=hS.obj k L _ hL (hO _ _ hobk);have hkv':=Ip hS hO (FLe.refl F) (λ k L hk=>by rw[hks]at hk;cases hk) hkv ho1 hk;have hlen:ents.length=es.toList.length:=by simp[g2]
     have hfk:=Ki (w:=w) hkf hkv' hlen ho3 (λ j p q hp hq=>(g3 j p q hp (by simpa using hq)).1);have hchk:=hkf.chk F r.x kv w es.isEmpty hkv' ho2;have hget:(getObj L.b).run P w=.ok (.map es clock) w:=by simp[getObj,Sem.run,g1]
     have hzr:=BH w hi hz;rcases PI (ks:=ks) (a:=r.x) dv ents es.toList 0 hlen with⟨f1,f2,_⟩|⟨n,p,q,f1,f2,f3,f4,_,_⟩
     ·rw[f1]at hfk;have hzn:z=.slice none 0 0:=by
       obtain⟨x,hx,rfl⟩:=hz2 rfl;rw[hx]at hvz;cases x<;>first|rfl|cases hvz
      refine⟨z,?_,?_⟩
      ·simp only[Instr.lookup,JlG,run_underlying hd,JlE,hget,JlH,hchk,hfk,hzr,Jmb,if_false]
      ·rw[f2,hzn];exact hdv
     ·rw[f1]at hfk;rw[f4,JlK]at hsol⊢;refine⟨q.val,?_,(g3 n p q f2 (by simpa using f3)).2 ?_⟩
      ·simp only[Instr.lookup,JlG,run_underlying hd,JlE,hget,JlH,hchk,hfk,Jmb,if_false]
      ·cases hp2:p.2<;>first|rfl|(rw[hp2]at hsol;cases hsol)
  ·cases h
 ·cases h
end Go.AI
end
section
namespace Go.AI
variable {P:Program} {Γ:Nat->Ty} {F:Nat->Option Obj} {ρ:Nat->Option Loc} {N:Nat->Prop} {H0 F0:Nat->Option Obj} {O objs:List (Option Ob)} {w:World}
def HX:Op->Bool
 | .move _ | .assign _ | .pick _ _ _ | .build _ _ | .load _ _ | .nilCheck _ | .binOp _ _ _ _ _ | .unOp _ _ _ | .convert _ _ _ | .slice _ _ _ _ _ | .fieldAddr _ _ _ | .field _ _ _ | .indexAddr _ _ _ | .index _ _ _ | .extract _ _ | .lookup _ _ _ _=>true
 | .call ⟨.builtin .len,_,_⟩=>true
 | .call ⟨.builtin .min,_,_⟩=>true
 | .call ⟨.builtin .max,_,_⟩=>true
 | _=>false
theorem Ec {s:Sem Value} {v:Value} {w':World} (h:s.run P w=.ok v w'):(do pure (Next.value (← s)):Sem Next).run P w=.ok (.value v) w':=by
 simp only[JlG,h,JlE,JlH]
theorem Sg {g:Bool} {a:AV} {v:Value} {x:Bool} {p:Prop} (h:unP g a=some (x,p)) (hp:p) (hg:g=true) (ha:Ak F ρ a v):v=.bool x:=by
 unfold unP at h;split at h
 ·cases h;exact ha.bool
 ·cases h;have:=hp hg;subst this;cases ha with
  | gvT _ _ h=>exact h.bool
 ·cases h
theorem Uz {c:AV} {cv:Value} {t:Bool} {r:Prop} (h:Un c=some (t,r)) (hr:r) (hc:Ak F ρ c cv):cv=.bool t:=by
 unfold Un at h;split at h
 ·cases h;exact hc.bool
 ·cases h;cases hc with
  | gvT _ _ hv=>exact hv.bool
  | gvF _=>cases hr
 ·cases h
theorem Wc {c a b:AV} {cv av bv:Value} {e:Eff} (h:G9 c a b=some e) (hob:e.ob) (hc:Ak F ρ c cv) (ha:Ak F ρ a av) (hb:Ak F ρ b bv) :
  e.quiet/\∃ v,(do pure (Next.value (if ← asBool cv then av else bv)):Sem Next).run P w=.ok (.value v) w/\Ak F ρ e.v v:=by
 unfold G9 at h;split at h
 ·rename_i t r ht;split at h
  ·rename_i x p y q hx hy;obtain⟨hq,hv,hob'⟩:=AF h;obtain⟨hr',hp',hq'⟩:=hob'.1 hob;rw[Uz ht hr' hc];refine⟨hq,?_⟩;simp only[asBool,JlG,JlH,JlE];refine⟨_,rfl,?_⟩;rw[hv];cases t with
   | true=>rw[if_pos rfl,cond_true,Sg hx hp' rfl ha];exact .mkBool _
   | false=>rw[if_neg (by simp),cond_false,Sg hy hq' rfl hb];exact .mkBool _
  ·cases h
 ·cases h
theorem CZ (hΓ:I0 P Γ) (hS:Sim N H0 F0 F ρ O w.heap) (hO:∀ k ob,obA objs k=some ob->obA O k=some ob) (o:Oper) {ev:Operand->AV} {ρv:Operand->Value} {e:Eff}
  (hq:HX o.op=true) (h:opA Γ ev objs o.op=some e) (hob:e.ob) (hev:∀ x∈o.op.operands.toList,Ak F ρ (ev x) (ρv x)) :
  e.quiet/\∃ v,(execOp ρv o).run P w=.ok (.value v) w/\Ak F ρ e.v v:=by
 cases hop:o.op with
 | move x=>
  rw[hop]at h hev;obtain⟨hq,hv⟩:=AG h;exact⟨hq,ρv x,by simp only[execOp,hop,JlH],by rw[hv];exact hev x (by simp[Op.operands])⟩
 | assign x=>
  rw[hop]at h hev;obtain⟨hq,hv⟩:=AG h;exact⟨hq,ρv x,by simp only[execOp,hop,JlH],by rw[hv];exact hev x (by simp[Op.operands])⟩
 | pick c a b=>
  rw[hop]at h hev;obtain⟨hq,v,hv,hr⟩:=Wc (P:=P) (w:=w) h hob (hev c (by simp[Op.operands])) (hev a (by simp[Op.operands])) (hev b (by simp[Op.operands]));exact⟨hq,v,by simp only[execOp,hop];exact hv,hr⟩
 | build t parts=>
  rw[hop]at h hev;simp only[opA]at h;cases hok:(Γ t).ok with
  | false=>rw[hok]at h;cases h
  | true=>
   rw[hok,cond_true]at h;split at h
   ·rename_i v hb;obtain⟨hq,hv⟩:=AG h;obtain⟨x,hx,hr⟩:=Ux (w:=w) (F:=F) (ρ:=ρ) (hΓ t hok) (parts:=parts.toList.map λ p=>(p.1,ev p.2)) (vparts:=parts.map λ (i,x)=>(i,ρv x)) (by simp) (λ i p q hp hq=>by
     simp only[Array.toList_map,Jl3,Jl2]at hp hq;obtain⟨p',hp',rfl⟩:=hp;obtain⟨q',hq',rfl⟩:=hq;rw[hp']at hq';cases hq';exact⟨rfl,hev _ (by simp[Op.operands];exact⟨p'.1,by simpa using Jl1 hp'⟩)⟩) hb
    exact⟨hq,x,by simp only[execOp,hop];exact Ec hx,by rw[hv];exact hr⟩
   ·cases h
 | load t a=>
  rw[hop]at h hev;simp only[opA]at h;cases hok:(Γ t).ok with
  | false=>rw[hok]at h;cases h
  | true=>
   rw[hok,cond_true]at h;obtain⟨h1,h2,h3,v,hv,hr⟩:=Ot (hΓ t hok) hS hO h hob (hev a (by simp[Op.operands]));exact⟨⟨h1,h2,h3⟩,v,by simp only[execOp,hop];exact Ec hv,hr⟩
 | nilCheck x=>
  rw[hop]at h hev;have hx:=hev x (by simp[Op.operands]);simp only[opA]at h;split at h
  ·rename_i k off he;obtain⟨hq,hv⟩:=AG h;rw[he]at hx;refine⟨hq,ρv x,?_,by rw[hv];exact hx⟩;cases hg:ρv x<;>rw[hg]at hx<;>cases hx;simp only[execOp,hop,hg,JlH]
  ·rename_i k sz i off he;obtain⟨hq,hv⟩:=AG h;rw[he]at hx;refine⟨hq,ρv x,?_,by rw[hv];exact hx⟩;cases hg:ρv x<;>rw[hg]at hx<;>cases hx;simp only[execOp,hop,hg,JlH]
  ·rename_i el off he;obtain⟨hq,hv⟩:=AG h;rw[he]at hx;refine⟨hq,ρv x,?_,by rw[hv];exact hx⟩;cases hg:ρv x<;>rw[hg]at hx<;>cases hx;simp only[execOp,hop,hg,JlH]
  ·cases h
 | binOp op t x y u=>
  rw[hop]at h hev;simp only[opA]at h;obtain⟨hq,v,hv,hr⟩:=Yj (w:=w) (ox:=x) (oy:=y) hΓ h hob (hev x (by simp[Op.operands])) (hev y (by simp[Op.operands]));exact⟨hq,v,by simp only[execOp,hop];exact Ec hv,hr⟩
 | unOp op t x=>
  rw[hop]at h hev;have hx:=hev x (by simp[Op.operands]);cases op with
  | not=>
   simp only[opA]at h;split at h
   ·rename_i b he;obtain⟨hq,hv⟩:=AG h;rw[he]at hx;exact⟨hq,.bool !b,by simp only[execOp,hop,hx.bool];exact Ec rfl,by rw[hv];exact .mkBool _⟩
   ·cases h
  | neg=>
   simp only[opA]at h;split at h
   ·rename_i k n he;obtain⟨hq,hv⟩:=AG h;rw[he]at hx;exact⟨hq,.int k (k.wrap (0-n)),by simp only[execOp,hop,hx.int];exact Ec rfl,by rw[hv];exact .mkInt _ _⟩
   ·cases h
  | xor=>cases h
  | plus=>cases h
 | convert s t x=>
  rw[hop]at h hev;simp only[opA]at h;cases hok:(Γ s).ok&&(Γ t).ok with
  | false=>rw[hok]at h;cases h
  | true=>
   rw[hok,cond_true]at h;simp only[Jl0]at hok;obtain⟨hq,v,hv,hr⟩:=V9 (w:=w) hS (hΓ s hok.1) (hΓ t hok.2) h hob (hev x (by simp[Op.operands]));exact⟨hq,v,by simp only[execOp,hop];exact Ec hv,hr⟩
 | slice t x lo hi mx=>
  rw[hop]at h hev;cases mx with
  | some m=>
   cases hi with
   | none=>cases h
   | some hi=>
    simp only[opA]at h;cases hok:(Γ t).ok with
    | false=>rw[hok]at h;cases h
    | true=>
     rw[hok,cond_true]at h;obtain⟨hq,v,hv,hr⟩:=S1 (w:=w) (ρv:=ρv) (hΓ t hok) h hob (hev x (by simp[Op.operands])) (λ y hy=>hev y (by simp[Op.operands,hy])) (hev hi (by simp[Op.operands])) (hev m (by simp[Op.operands]));exact⟨hq,v,by simp only[execOp,hop];exact Ec hv,hr⟩
  | none=>
   simp only[opA]at h;cases hok:(Γ t).ok with
   | false=>rw[hok]at h;cases h
   | true=>
    rw[hok,cond_true]at h;obtain⟨hq,v,hv,hr⟩:=Us (w:=w) (ρv:=ρv) (hΓ t hok) h hob (hev x (by simp[Op.operands])) (λ y hy=>hev y (by simp[Op.operands,hy])) (λ y hy=>hev y (by simp[Op.operands,hy]));exact⟨hq,v,by simp only[execOp,hop];exact Ec hv,hr⟩
 | fieldAddr s x f=>
  rw[hop]at h hev;simp only[opA]at h;cases hok:(Γ s).ok with
  | false=>rw[hok]at h;cases h
  | true=>
   rw[hok,cond_true]at h;obtain⟨hq,v,hv,hr⟩:=Rz (w:=w) (hΓ s hok) h (hev x (by simp[Op.operands]));exact⟨hq,v,by simp only[execOp,hop];exact Ec hv,hr⟩
 | field s x f=>
  rw[hop]at h hev;simp only[opA]at h;cases hok:(Γ s).ok with
  | false=>rw[hok]at h;cases h
  | true=>
   rw[hok,cond_true]at h;obtain⟨hq,v,hv,hr⟩:=Ur (w:=w) (hΓ s hok) h (hev x (by simp[Op.operands]));exact⟨hq,v,by simp only[execOp,hop];exact Ec hv,hr⟩
 | indexAddr t x i=>
  rw[hop]at h hev;simp only[opA]at h;cases hok:(Γ t).ok with
  | false=>rw[hok]at h;cases h
  | true=>
   rw[hok,cond_true]at h;split at h
   ·rename_i n hn;obtain⟨k,hk⟩:=DR hn (hev i (by simp[Op.operands]));obtain⟨hq,v,hv,hr⟩:=Yg (w:=w) (k:=k) (hΓ t hok) h hob (hev x (by simp[Op.operands]));exact⟨hq,v,by simp only[execOp,hop,hk];exact Ec hv,hr⟩
   ·cases h
 | index t x i=>
  rw[hop]at h hev;simp only[opA]at h;cases hok:(Γ t).ok with
  | false=>rw[hok]at h;cases h
  | true=>
   rw[hok,cond_true]at h;split at h
   ·rename_i s n hkind hx hn;obtain⟨k,hk⟩:=DR hn (hev i (by simp[Op.operands]));obtain⟨d,hd,_,hkd⟩:=(hΓ t hok).desc;rw[hkind]at hkd;cases hkd;have hxr:=hev x (by simp[Op.operands]);rw[hx]at hxr;obtain⟨hq,v,hv,hr⟩:=Uv (P:=P) (w:=w) (F:=F) (ρ:=ρ) (k:=k) hd h hob;exact⟨hq,v,by simp only[execOp,hop,hk,hxr.str];exact Ec hv,hr⟩
   ·cases h
 | lookup t m key ok=>
  rw[hop]at h hev;simp only[opA]at h;cases hok:(Γ t).ok with
  | false=>rw[hok]at h;cases h
  | true=>
   rw[hok,cond_true]at h;obtain⟨hq,v,hv,hr⟩:=Wb (w:=w) (hΓ t hok) hS hO h hob (hev m (by simp[Op.operands])) (hev key (by simp[Op.operands]));exact⟨hq,v,by simp only[execOp,hop];exact Ec hv,hr⟩
 | extract x i=>
  rw[hop]at h hev;have hx:=hev x (by simp[Op.operands]);simp only[opA]at h;split at h
  ·rename_i l he;split at h
   ·rename_i v hl;obtain⟨hq,hv⟩:=AG h;rw[he]at hx;cases hg:ρv x<;>rw[hg]at hx<;>cases hx;rename_i vs hln hr;have hi:i<vs.size:=by rw[← hln];exact Af hl
    refine⟨hq,vs[i],?_,by rw[hv];exact hr i v _ hl (Jl4 hi)⟩;simp only[execOp,hop,hg,Instr.extract,Jl4 hi];exact Ec rfl
   ·cases h
  ·cases h
 | call c=>
  rw[hop]at h hev hq;obtain⟨callee,args,ts⟩:=c;cases callee with
  | value f=>cases hq
  | invoke r m=>cases hq
  | builtin b=>
   cases b<;>try (simp[HX]at hq;done)
   case len=>
    simp only[opA]at h;split at h
    ·rename_i x t hargs hts;cases hok:(Γ t).ok with
     | false=>rw[hok]at h;cases h
     | true=>
      rw[hok,cond_true]at h;have ha:args=#[x]:=by rw[← Array.toArray_toList (xs:=args),hargs]
      have ht:ts=#[t]:=by rw[← Array.toArray_toList (xs:=ts),hts]
      subst ha;subst ht;obtain⟨hq,v,hv,hr⟩:=Yl (w:=w) (ty:=o.type) (hΓ t hok) h (hev x (by simp[Op.operands,Call.operands]));refine⟨hq,v,?_,hr⟩;simp only[execOp,hop,resolve,invoke,builtin,JlG,JlH,JlE,List.map_toArray,JlV,List.map_nil,hv]
    ·cases h
   case min=>
    simp only[opA]at h;split at h
    ·rename_i v hm;obtain⟨hq,hv⟩:=AG h;obtain⟨x,hx,hr⟩:=Se (P:=P) (w:=w) (F:=F) (ρ:=ρ) (ty:=o.type) (ts:=ts) (vs:=args.toList.map ρv) hm (by simp) (λ i a x ha hx=>by
      simp only[Jl3,Jl2]at ha hx;obtain⟨y,hy,rfl⟩:=ha;obtain⟨z,hz,rfl⟩:=hx;rw[hy]at hz;cases hz;exact hev y (by simp[Op.operands,Call.operands];simpa using Jl1 hy))
     refine⟨hq,x,?_,by rw[hv];exact hr⟩;simp only[if_true]at hx;have hmap:(args.toList.map ρv).toArray=args.map ρv:=by apply Array.ext';simp
     rw[hmap]at hx;simp only[execOp,hop,resolve,invoke,builtin,JlG,JlH,JlE,hx]
    ·cases h
   case max=>
    simp only[opA]at h;split at h
    ·rename_i v hm;obtain⟨hq,hv⟩:=AG h;obtain⟨x,hx,hr⟩:=Se (P:=P) (w:=w) (F:=F) (ρ:=ρ) (ty:=o.type) (ts:=ts) (vs:=args.toList.map ρv) hm (by simp) (λ i a x ha hx=>by
      simp only[Jl3,Jl2]at ha hx;obtain⟨y,hy,rfl⟩:=ha;obtain⟨z,hz,rfl⟩:=hx;rw[hy]at hz;cases hz;exact hev y (by simp[Op.operands,Call.operands];simpa using Jl1 hy))
     refine⟨hq,x,?_,by rw[hv];exact hr⟩;simp only[Jmb,if_false]at hx;have hmap:(args.toList.map ρv).toArray=args.map ρv:=by apply Array.ext';simp
     rw[hmap]at hx;simp only[execOp,hop,resolve,invoke,builtin,JlG,JlH,JlE,hx]
    ·cases h
 | _=>rw[hop]at hq;cases hq
end Go.AI
end
section
namespace Go.AI
variable {P:Program} {Γ:Nat->Ty} {F:Nat->Option Obj} {ρ:Nat->Option Loc} {N:Nat->Prop} {H0 F0:Nat->Option Obj} {O objs:List (Option Ob)} {w:World}
def upR (ρ:Nat->Option Loc) (k:Nat) (L:Loc):Nat->Option Loc:=λ j=>if j=k then some L else ρ j
theorem AP (ρ:Nat->Option Loc) (k:Nat) (L:Loc):upR ρ k L k=some L:=by simp[upR]
theorem Bj {ρ:Nat->Option Loc} {k j:Nat} {L:Loc} (h:j≠k):upR ρ k L j=ρ j:=by simp[upR,h]
theorem Dp {ρ:Nat->Option Loc} {k:Nat} {L:Loc} (h:ρ k=none):RLe ρ (upR ρ k L):=λ j L' hj=>by
 have:j≠k:=λ e=>by rw[e,h]at hj;cases hj
 rw[Bj this];exact hj
theorem Cy {h:Array Obj} {x:Obj} {b:Nat} (hb:b<h.size):(h.push x)[b]?=h[b]? := by
 rw[Array.getElem?_push,if_neg (by omega)]
theorem Sim.lt_size {h:Array Obj} (hS:Sim N H0 F0 F ρ O h) {b:Nat} (hb:¬N b):b<h.size:=by
 rcases JlP b h.size with h1|h1
 ·exact h1
 ·exact absurd (hS.size b h1) hb
theorem Sim.push' {h:Array Obj} (hS:Sim N H0 F0 F ρ O h) {k:Nat} {L:Loc} {x:Obj} {ob:Ob} (hk:ρ k=none) (hob:obA O k=some ob) (hL:L.b=h.size) (hrep:Bv F (upR ρ k L) (h.push x) L ob) (hinn:∃ σ,Inn N F (upR ρ k L) O (h.push x) σ) :
  Sim N H0 F0 F (upR ρ k L) O (h.push x):={
 size:=λ b hb=>hS.size b (by simp at hb;omega)
 old:=λ b hb=>by rw[Cy (hS.lt_size hb)];exact hS.old b hb
 f0:=hS.f0
 fnew:=hS.fnew
 frz:=λ b o hb=>by
  have:=hS.frz b o hb;rw[Cy (Av this)];exact this
 loc:=λ j L' hj=>by
  by_cases e:j=k
  ·subst e;rw[AP]at hj;cases hj;simp[hL]
  ·rw[Bj e]at hj;have:=hS.loc j L' hj;simp;omega
 dom:=λ j L' hj=>by
  by_cases e:j=k
  ·subst e;unfold obA at hob;split at hob
   ·rename_i h';exact Af h'
   ·cases hob
  ·rw[Bj e]at hj;exact hS.dom j L' hj
 obj:=λ j L' ob' hj hob'=>by
  by_cases e:j=k
  ·subst e;rw[AP]at hj;cases hj;rw[hob]at hob';cases hob';refine⟨hrep,hS.size _ (by omega),?_⟩;cases hF:F L.b with
   | none=>rfl
   | some o=>have:=Av (hS.frz _ _ hF);omega
  ·rw[Bj e]at hj;obtain⟨h1,h2,h3⟩:=hS.obj j L' ob' hj hob';exact⟨h1.mono (FLe.refl _) (Dp hk) (Cy (hS.loc j L' hj)),h2,h3⟩
 sep:=λ j j' L1 L2 ob1 ob2 hj hj' h1 h2 hne=>by
  by_cases e:j=k
  ·subst e;rw[AP]at hj;cases hj;rw[Bj (Ne.symm hne)]at hj';have:=hS.loc j' L2 hj';omega
  ·rw[Bj e]at hj;by_cases e':j'=k
   ·subst e';rw[AP]at hj';cases hj';have:=hS.loc j L1 hj;omega
   ·rw[Bj e']at hj';exact hS.sep j j' L1 L2 ob1 ob2 hj hj' h1 h2 hne
 inn:=hinn }
theorem Inn.push {h:Array Obj} (hS:Sim N H0 F0 F ρ O h) {σ:Nat->Nat->Option Loc} (hσ:Inn N F ρ O h σ) {k:Nat} {L:Loc} {x:Obj} (hk:ρ k=none) (hL:L.b=h.size)
  (hrep:∀ ob sz es,obA O k=some ob->ob.rows=some (sz,es)->∀ (i:Nat) (e:List AV) (j isz:Nat) (xs:List (List D)),es[i]?=some e->e[j]?=some (.own isz xs)->∀ o v,(h.push x)[L.b]?=some o->E8 o (L.base+i*sz+j)=some v->Fx F (h.push x) (σ k (i*sz+j)) isz xs v) :
  Inn N F (upR ρ k L) O (h.push x) σ:=by
  refine⟨λ j c M hM=>?_,λ j c M k' L' ob' hM hk' ho'=>?_,hσ.sep,λ j L' ob0 sz es hj ho hr i e m isz xs hi hm o1 v hb hv=>?_⟩
  ·obtain⟨g1,g2,g3⟩:=hσ.new j c M hM;exact⟨g1,by simp;omega,g3⟩
  ·by_cases e:k'=k
   ·subst e;rw[AP]at hk';cases hk';have:=(hσ.new j c M hM).2.1;omega
   ·rw[Bj e]at hk';exact hσ.obj j c M k' L' ob' hM hk' ho'
  ·by_cases e:j=k
   ·subst e;rw[AP]at hj;cases hj;exact hrep ob0 sz es ho hr i _ m isz xs hi hm o1 v hb hv
   ·rw[Bj e]at hj;have hlt:=hS.loc j L' hj;rw[Cy hlt]at hb;exact(hσ.rep j L' ob0 sz es hj ho hr i _ m isz xs hi hm o1 v hb hv).mono (FLe.refl _) λ M hM=>Cy (hσ.new _ _ _ hM).2.1
theorem Sim.push {h:Array Obj} (hS:Sim N H0 F0 F ρ O h) {k:Nat} {L:Loc} {x:Obj} {ob:Ob} (hk:ρ k=none) (hob:obA O k=some ob) (hL:L.b=h.size) (hrep:Bv F (upR ρ k L) (h.push x) L ob) (hpl:ob.plain=true) :
  Sim N H0 F0 F (upR ρ k L) O (h.push x):=by
 obtain⟨σ,hσ⟩:=hS.inn;exact hS.push' hk hob hL hrep ⟨σ,hσ.push hS hk hL λ ob0 sz es ho hr=>by rw[hob]at ho;cases ho;rw[Jlr hpl]at hr;cases hr⟩
theorem PJ (n:Nat):V6 (0,0) n:=λ i _ h=>by omega
theorem Xt {h:Array Obj} {k:Nat} {cells:List AV} {cs:Array Value} {t:TypeId} (hk:ρ k=none) (hc:CR F ρ cells cs.toList) :
  Bv F (upR ρ k ⟨h.size,0,cells.length⟩) (h.push (.cells cs t)) ⟨h.size,0,cells.length⟩ (.box cells):=by
 have hl:=hc.1;simp only[Array.length_toList]at hl;exact⟨rfl,rfl,cs,t,(0,0),by simp,hl.symm,PJ _,λ i a v ha hv=>(hc.2 i a v ha (by simpa using hv)).mono (FLe.refl _) (Dp hk)⟩
theorem Po {h:Array Obj} {k:Nat} {esz:Nat} {es:List (List D)} {cs:Array Value} {t:TypeId} {fr:Nat×Nat} (he:ER F esz es cs 0) (hf:V6 fr cs.size) :
  Bv F (upR ρ k ⟨h.size,0,cs.size⟩) (h.push (.cells cs t fr)) ⟨h.size,0,cs.size⟩ (.arr esz es):=
 ⟨he.1,by simpa using he.2.1,cs,t,fr,by simp,rfl,hf,λ i e h1 j x h2=>he.2.2 i e h1 j x h2⟩
end Go.AI
end
section
namespace Go.AI
variable {P:Program} {Γ:Nat->Ty} {F:Nat->Option Obj} {ρ:Nat->Option Loc} {N:Nat->Prop} {H0 F0:Nat->Option Obj} {O objs:List (Option Ob)} {w:World}
theorem BT (O:List (Option Ob)) (k j:Nat) (x:Option Ob):obA (O.set k x) j=if j=k/\k<O.length then x else obA O j:=by
 unfold obA;rw[List.getElem?_set];by_cases h:k=j
 ·subst h;by_cases hl:k<O.length
  ·simp only[if_true,hl,and_self];cases x<;>rfl
  ·simp only[if_true,hl,and_false,if_false];rw[Jmk (by omega)]
 ·simp only[h,if_false];rw[if_neg (by intro hh;exact h hh.1.symm)]
theorem BL (ks:List Nat):∀ O:List (Option Ob),(rmA O ks).length=O.length:=by
 induction ks with
 | nil=>intro O;rfl
 | cons k ks ih=>intro O;simp[rmA,ih]
theorem DW (ks:List Nat):∀ (O:List (Option Ob)) (j:Nat),obA (rmA O ks) j=if j∈ks then none else obA O j:=by
 induction ks with
 | nil=>intro O j;simp[rmA]
 | cons k ks ih=>
  intro O j;rw[rmA,ih,BT];by_cases h:j∈ks
  ·simp[h]
  ·by_cases h':j=k
   ·subst h';simp only[h,if_false,true_and,List.mem_cons,true_or,if_true];by_cases hl:j<O.length
    ·simp[hl]
    ·rw[if_neg hl];unfold obA;rw[Jmk (by omega)]
   ·simp[h,h']
theorem A6 {O:List (Option Ob)} {k:Nat} {ob:Ob} (h:obA O k=some ob):k<O.length:=by
 unfold obA at h;split at h
 ·rename_i h';exact Af h'
 ·cases h
theorem AM (O O':List (Option Ob)) (k:Nat):obA (O++O') k=if k<O.length then obA O k else obA O' (k-O.length):=by
 unfold obA;rw[List.getElem?_append];by_cases h:k<O.length
 ·simp only[h,if_true]
 ·simp only[h,if_false]
theorem Sim.table {h:Array Obj} (hS:Sim N H0 F0 F ρ O h) {O':List (Option Ob)} (hl:O.length<=O'.length) (hO:∀ k L ob,ρ k=some L->obA O' k=some ob->obA O k=some ob):Sim N H0 F0 F ρ O' h:=
 { hS with
  dom:=λ k L hk=>Nat.lt_of_lt_of_le (hS.dom k L hk) hl
  obj:=λ k L ob hk hob=>hS.obj k L ob hk (hO k L ob hk hob)
  sep:=λ k k' L L' ob ob' hk hk' h1 h2=>hS.sep k k' L L' ob ob' hk hk' (hO k L ob hk h1) (hO k' L' ob' hk' h2)
  inn:=by
   obtain⟨σ,hσ⟩:=hS.inn;exact⟨σ,hσ.new,λ k c M k' L ob hM hk' ho=>hσ.obj k c M k' L ob hM hk' (hO k' L ob hk' ho),hσ.sep,λ k L ob0 sz es hk ho=>hσ.rep k L ob0 sz es hk (hO k L _ hk ho)⟩ }
theorem Sim.grow {h:Array Obj} (hS:Sim N H0 F0 F ρ O h) (obs:List (Option Ob)):Sim N H0 F0 F ρ (O++obs) h:=
 hS.table (by simp) λ k L ob hk hob=>by
  rw[AM,if_pos (hS.dom k L hk)]at hob;exact hob
open Classical in
noncomputable def HS (F:Nat->Option Obj) (ρ:Nat->Option Loc) (h:Array Obj) (ks:List Nat):Nat->Option Obj:=
 λ b=>if ∃ k∈ks,∃ L,ρ k=some L/\L.b=b then h[b]? else F b
theorem Fy {h:Array Obj} (hS:Sim N H0 F0 F ρ O h) (ks:List Nat):FLe F (HS F ρ h ks):=by
 intro b o hb;unfold HS;split
 ·exact hS.frz b o hb
 ·exact hb
theorem Lg {h:Array Obj} {ks:List Nat} {k:Nat} {L:Loc} (hk:k∈ks) (hL:ρ k=some L):HS F ρ h ks L.b=h[L.b]? := by
 unfold HS;rw[if_pos ⟨k,hk,L,hL,rfl⟩]
theorem Sim.freeze {h:Array Obj} (hS:Sim N H0 F0 F ρ O h) (ks:List Nat) (hal:∀ k∈ks,∃ ob,obA O k=some ob):Sim N H0 F0 (HS F ρ h ks) ρ (rmA O ks) h:={
 size:=hS.size
 old:=hS.old
 f0:=hS.f0.trans (Fy hS ks)
 fnew:=λ b o hb hN=>by
  unfold HS at hb;split at hb
  ·rename_i hx;obtain⟨k,hk,L,hL,rfl⟩:=hx;obtain⟨ob,hob⟩:=hal k hk;exact absurd (hS.obj k L ob hL hob).2.1 hN
  ·exact hS.fnew b o hb hN
 frz:=λ b o hb=>by
  unfold HS at hb;split at hb
  ·exact hb
  ·exact hS.frz b o hb
 loc:=hS.loc
 dom:=λ k L hk=>by rw[BL];exact hS.dom k L hk
 obj:=λ k L ob hk hob=>by
  rw[DW]at hob;split at hob
  ·cases hob
  ·rename_i hnk;obtain⟨h1,h2,h3⟩:=hS.obj k L ob hk hob;refine⟨h1.mono (Fy hS ks) (RLe.refl _) rfl,h2,?_⟩;unfold HS;rw[if_neg,h3];rintro⟨k',hk',L',hL',hb⟩;obtain⟨ob',hob'⟩:=hal k' hk';exact hS.sep k k' L L' ob ob' hk hL' hob hob' (λ e=>hnk (e▸hk')) hb.symm
 sep:=λ k k' L L' ob ob' hk hk' h1 h2=>by
  rw[DW]at h1 h2;split at h1
  ·cases h1
  ·split at h2
   ·cases h2
   ·exact hS.sep k k' L L' ob ob' hk hk' h1 h2
 inn:=by
  obtain⟨σ,hσ⟩:=hS.inn;refine⟨σ,λ k c M hM=>?_,λ k c M k' L ob hM hk' ho=>?_,hσ.sep,λ k L ob0 sz es hk ho hr0 i e j isz xs hi hj o1 v hb hv=>?_⟩
  ·obtain⟨g1,g2,g3⟩:=hσ.new k c M hM;refine⟨g1,g2,?_⟩;unfold HS;rw[if_neg,g3];rintro⟨k',hk',L',hL',hb⟩;obtain⟨ob',hob'⟩:=hal k' hk';exact hσ.obj k c M k' L' ob' hM hL' hob' hb
  ·rw[DW]at ho;split at ho
   ·cases ho
   ·exact hσ.obj k c M k' L ob hM hk' ho
  ·rw[DW]at ho;split at ho
   ·cases ho
   ·exact(hσ.rep k L ob0 sz es hk ho hr0 i e j isz xs hi hj o1 v hb hv).mono (Fy hS ks) λ _ _=>rfl }
theorem Wd {v:AV} {r:Rd D} (he:IS objs v=some r):∀ k∈r.ks,∃ ob,obA objs k=some ob:=by
 unfold IS at he;split at he
 ·cases he;intro k hk;simp at hk
 ·cases he;intro k hk;simp at hk
 ·split at he
  ·rename_i sz' es hob;cases hb:Nat.beq _ sz' with
   | false=>rw[hb]at he;cases he
   | true=>rw[hb,cond_true]at he;cases he;intro k hk;simp at hk;subst hk;exact⟨_,hob⟩
  ·cases he
 ·cases he
theorem Gt:∀ (l:List AV) (r:Rd (List D)),D0 objs l=some r->∀ k∈r.ks,∃ ob,obA objs k=some ob:=by
 intro l;induction l with
 | nil=>intro r he;cases he;intro k hk;simp at hk
 | cons a l ih=>
  intro r he;simp only[D0]at he;split at he
  ·rename_i r1 r2 h1 h2;cases he;intro k hk;simp at hk;rcases hk with hk|hk
   ·exact Wd h1 k hk
   ·exact ih r2 h2 k hk
  ·cases he
theorem Ow {esz:Nat}:∀ (parts:List (Nat×AV)) (es:List (List D)) (r:Rd (List (List D))),Im objs esz es parts=some r->∀ k∈r.ks,∃ ob,obA objs k=some ob:=by
 intro parts;induction parts with
 | nil=>intro es r he;cases he;intro k hk;simp at hk
 | cons p parts ih=>
  intro es r he;obtain⟨i,v⟩:=p;simp only[Im]at he;split at he
  ·rename_i r1 h1;cases hc:(Bz v&&r1.x.length==esz&&decide (i<es.length))with
   | false=>rw[hc]at he;cases he
   | true=>
    rw[hc,cond_true]at he;split at he
    ·rename_i r2 h2;cases he;intro k hk;simp at hk;rcases hk with hk|hk
     ·rcases IU h1 with⟨_,rfl⟩|h1
      ·simp at hk
      ·exact Gt _ _ h1 k hk
     ·exact ih _ _ h2 k hk
    ·cases he
  ·cases he
theorem Ox {h:Array Obj} (hS:Sim N H0 F0 F ρ O h) (hO:∀ k ob,obA objs k=some ob->obA O k=some ob) {F':Nat->Option Obj} (hF:FLe F F') {esz:Nat}:∀ (parts:List (Nat×AV)) (vparts:List (Nat×Value)) (es:List (List D)) (cs:Array Value) (r:Rd (List (List D))),
  parts.length=vparts.length->(∀ (i:Nat) p q,parts[i]?=some p->vparts[i]?=some q->p.1=q.1/\Ak F ρ p.2 q.2)->ER F' esz es cs 0->cs.size=es.length*esz ->
  (∀ k L,k∈r.ks->ρ k=some L->F' L.b=h[L.b]?)->Im objs esz es parts=some r->r.ob ->
  ∃ cs',Instr.fill (λ i=>some (i*esz,esz)) cs vparts=some cs'/\ER F' esz r.x cs' 0/\cs'.size=cs.size/\r.x.length=es.length:=by
 intro parts;induction parts with
 | nil=>
  intro vparts es cs r hn _ he _ _ h _;cases vparts with
  | nil=>cases h;exact⟨cs,rfl,he,rfl,rfl⟩
  | cons=>cases hn
 | cons p parts ih=>
  intro vparts es cs r hn hr he hcs hF' h hob;cases vparts with
  | nil=>cases hn
  | cons q vparts=>
   obtain⟨i,v⟩:=p;obtain⟨j,x⟩:=q;obtain⟨h1,h2⟩:=hr 0 (i,v) (j,x) rfl rfl;simp only at h1 h2;subst h1;simp only[Im]at h;split at h
   ·rename_i r1 hr1;cases hc:(Bz v&&r1.x.length==esz&&decide (i<es.length))with
    | false=>rw[hc]at h;cases h
    | true=>
     rw[hc,cond_true]at h;simp only[Jl0,beq_iff_eq,decide_eq_true_eq]at hc;obtain⟨⟨hc1,hc2⟩,hc3⟩:=hc;split at h
     ·rename_i r2 hr2;cases h;have hcr:=F5 h2 hc1;have hgg:r1.x.length=x.cells.toList.length/\∀ (i:Nat) (x':D) (v:Value),r1.x[i]?=some x'->x.cells.toList[i]?=some v->Bo F' x' v:=by
       rcases IU hr1 with⟨rfl,rfl⟩|hr1
       ·cases h2 with
        | d _ _ hd=>
         cases hd;refine⟨rfl,λ i x' v hx hv=>?_⟩;cases i with
         | zero=>cases hx;cases hv;exact .nil
         | succ i=>simp at hx
       ·exact Fh hS hO hF _ r1 _ (λ k L hk=>hF' k L (by simp[hk])) hr1 hob.1 hcr
      obtain⟨g1,g2⟩:=hgg;have e1:x.cells.size=esz:=by simp at g1;omega
      have hroom:i*esz+esz<=cs.size:=by rw[hcs];calc i*esz+esz=(i+1)*esz:=by rw[Jmc,Nat.one_mul]
         _<=es.length*esz:=JlI _ hc3
      have hput:∀ n,(BX cs (i*esz) x.cells.toList)[n]?=if i*esz<=n/\n<i*esz+esz then x.cells.toList[n-i*esz]? else cs[n]? := λ n=>by
       have:=F3 x.cells.toList (i*esz) cs n (by simp[e1];omega);rw[this];simp[e1]
      have her:ER F' esz (es.set i r1.x) (BX cs (i*esz) x.cells.toList) 0:=by
       refine⟨λ e hm=>?_,?_,λ a e ha b y hb=>?_⟩
       ·rcases List.mem_or_eq_of_mem_set hm with hm|hm
        ·exact he.1 e hm
        ·rw[hm];exact hc2
       ·rw[BF];simpa using he.2.1
       ·rw[hput];rw[List.getElem?_set]at ha;by_cases hai:i=a
        ·subst hai;simp only[if_true,hc3]at ha;cases ha;have hbl:=Af hb;rw[if_pos (by omega)];rw[show 0+i*esz+b-i*esz=b by omega];have hbx:b<x.cells.toList.length:=by simp[e1];omega
         exact⟨x.cells.toList[b],JlZ hbx,g2 b y _ hb (JlZ hbx)⟩
        ·rw[if_neg hai]at ha;obtain⟨v',hv',hd⟩:=he.2.2 a e ha b y hb;have hbl:=Af hb;rw[he.1 e (Jl1 ha)]at hbl;rw[if_neg]
         ·exact⟨v',hv',hd⟩
         ·intro hh;rcases Nat.lt_or_gt_of_ne hai with hlt|hgt
          ·have:(i+1)*esz<=a*esz:=JlI _ hlt;rw[Jmc,Nat.one_mul]at this;omega
          ·have:(a+1)*esz<=i*esz:=JlI _ hgt;rw[Jmc,Nat.one_mul]at this;omega
      obtain⟨cs',hf,hcr',hsz',hl'⟩:=ih vparts (es.set i r1.x) (BX cs (i*esz) x.cells.toList) r2 (by simpa using hn) (λ n p q hp hq=>hr (n+1) p q (by simpa using hp) (by simpa using hq)) her (by rw[BF];simpa using hcs) (λ k L hk=>hF' k L (by simp[hk])) hr2 hob.2;refine⟨cs',?_,hcr',by rw[hsz',BF],by rw[hl'];simp⟩;simp only[Instr.fill];rw[if_neg (by simp[e1];omega)];rw[← NN (i*esz) x.cells cs]at hf;exact hf
     ·cases h
   ·cases h
theorem UA {F':Nat->Option Obj} (hF:FLe F F'):∀ (l:List AV) (r:Rd (List D)) (vs:List Value),R9 l=some r->CR F ρ l vs->r.x.length=vs.length/\∀ (i:Nat) (x:D) (v:Value),r.x[i]?=some x->vs[i]?=some v->Bo F' x v:=by
 intro l;induction l with
 | nil=>
  intro r vs h hc;cases h;have:=hc.1;exact⟨this,λ i x v hx=>by simp at hx⟩
 | cons a l ih=>
  intro r vs h hc;cases a with
  | d x=>
   simp only[R9]at h;split at h
   ·rename_i r1 h1;cases h;cases vs with
    | nil=>have:=hc.1;simp at this
    | cons v vs=>
     obtain⟨g1,g2⟩:=ih r1 vs h1 ⟨by have:=hc.1;simpa using this,λ i a v ha hv=>hc.2 (i+1) a v (by simpa using ha) (by simpa using hv)⟩;refine⟨by simp[g1],λ i y u hy hu=>?_⟩;cases i with
     | zero=>
      simp at hy hu;subst hy;subst hu;have:=hc.2 0 (.d x) v rfl rfl;cases this with
      | d _ _ hd=>exact hd.mono hF
     | succ i=>exact g2 i y u (by simpa using hy) (by simpa using hu)
   ·cases h
  | _=>cases h
theorem UB {F':Nat->Option Obj} (hF:FLe F F') {esz:Nat}:∀ (parts:List (Nat×AV)) (vparts:List (Nat×Value)) (es:List (List D)) (cs:Array Value) (r:Rd (List (List D))),
  parts.length=vparts.length->(∀ (i:Nat) p q,parts[i]?=some p->vparts[i]?=some q->p.1=q.1/\Ak F ρ p.2 q.2)->ER F' esz es cs 0->cs.size=es.length*esz ->
  Sa esz es parts=some r->r.ob ->
  ∃ cs',Instr.fill (λ i=>some (i*esz,esz)) cs vparts=some cs'/\ER F' esz r.x cs' 0/\cs'.size=cs.size/\r.x.length=es.length:=by
 intro parts;induction parts with
 | nil=>
  intro vparts es cs r hn _ he _ h _;cases vparts with
  | nil=>cases h;exact⟨cs,rfl,he,rfl,rfl⟩
  | cons=>cases hn
 | cons p parts ih=>
  intro vparts es cs r hn hr he hcs h hob;cases vparts with
  | nil=>cases hn
  | cons q vparts=>
   obtain⟨i,v⟩:=p;obtain⟨j,x⟩:=q;obtain⟨h1,h2⟩:=hr 0 (i,v) (j,x) rfl rfl;simp only at h1 h2;subst h1;simp only[Sa]at h;split at h
   ·rename_i r1 hr1;cases hc:(Bz v&&r1.x.length==esz&&decide (i<es.length))with
    | false=>rw[hc]at h;cases h
    | true=>
     rw[hc,cond_true]at h;simp only[Jl0,beq_iff_eq,decide_eq_true_eq]at hc;obtain⟨⟨hc1,hc2⟩,hc3⟩:=hc;split at h
     ·rename_i r2 hr2;cases h;have hcr:=F5 h2 hc1;obtain⟨g1,g2⟩:=UA hF _ r1 _ hr1 hcr;have e1:x.cells.size=esz:=by simp at g1;omega
      have hroom:i*esz+esz<=cs.size:=by rw[hcs];calc i*esz+esz=(i+1)*esz:=by rw[Jmc,Nat.one_mul]
         _<=es.length*esz:=JlI _ hc3
      have hput:∀ n,(BX cs (i*esz) x.cells.toList)[n]?=if i*esz<=n/\n<i*esz+esz then x.cells.toList[n-i*esz]? else cs[n]? := λ n=>by
       have:=F3 x.cells.toList (i*esz) cs n (by simp[e1];omega);rw[this];simp[e1]
      have her:ER F' esz (es.set i r1.x) (BX cs (i*esz) x.cells.toList) 0:=by
       refine⟨λ e hm=>?_,?_,λ a e ha b y hb=>?_⟩
       ·rcases List.mem_or_eq_of_mem_set hm with hm|hm
        ·exact he.1 e hm
        ·rw[hm];exact hc2
       ·rw[BF];simpa using he.2.1
       ·rw[hput];rw[List.getElem?_set]at ha;by_cases hai:i=a
        ·subst hai;simp only[if_true,hc3]at ha;cases ha;have hbl:=Af hb;rw[if_pos (by omega)];rw[show 0+i*esz+b-i*esz=b by omega];have hbx:b<x.cells.toList.length:=by simp[e1];omega
         exact⟨x.cells.toList[b],JlZ hbx,g2 b y _ hb (JlZ hbx)⟩
        ·rw[if_neg hai]at ha;obtain⟨v',hv',hd⟩:=he.2.2 a e ha b y hb;have hbl:=Af hb;rw[he.1 e (Jl1 ha)]at hbl;rw[if_neg]
         ·exact⟨v',hv',hd⟩
         ·intro hh;rcases Nat.lt_or_gt_of_ne hai with hlt|hgt
          ·have:(i+1)*esz<=a*esz:=JlI _ hlt;rw[Jmc,Nat.one_mul]at this;omega
          ·have:(a+1)*esz<=i*esz:=JlI _ hgt;rw[Jmc,Nat.one_mul]at this;omega
      obtain⟨cs',hf,hcr',hsz',hl'⟩:=ih vparts (es.set i r1.x) (BX cs (i*esz) x.cells.toList) r2 (by simpa using hn) (λ n p q hp hq=>hr (n+1) p q (by simpa using hp) (by simpa using hq)) her (by rw[BF];simpa using hcs) hr2 hob.2;refine⟨cs',?_,hcr',by rw[hsz',BF],by rw[hl'];simp⟩;simp only[Instr.fill];rw[if_neg (by simp[e1];omega)];rw[← NN (i*esz) x.cells cs]at hf;exact hf
     ·cases h
   ·cases h
theorem Pp {esz len cap:Nat} (hlc:len<=cap) {ez:List D} {z:Value} (hz:z.cells.toList=ez.map D.val) (hp:ez.all D.isPlain=true) (he:ez.length=esz) :
  ER F esz (List.replicate len ez) ((Array.range (cap*esz)).map (z.cells[· % z.cells.size]!)) 0:=by
 have hzs:z.cells.size=esz:=by have:=congrArg List.length hz;simp at this;omega
 have hlc':len*esz<=cap*esz:=JlI _ hlc;refine⟨λ e hm=>?_,by simp;omega,λ i e hi j x hx=>?_⟩
 ·rw[List.eq_of_mem_replicate hm];exact he
 ·have hil:=Af hi;simp at hil;have:e=ez:=List.eq_of_mem_replicate (Jl1 hi);subst this;have hj:=Af hx;have hlt:i*esz+j<len*esz:=by
   have:(i+1)*esz<=len*esz:=JlI _ hil;rw[Jmc,Nat.one_mul]at this;omega
  refine⟨x.val,?_,Bo.val F (JlJ.1 hp x (Jl1 hx))⟩;rw[Array.getElem?_map,Array.getElem?_range,if_pos (by omega)];simp only[Option.map_some,Jl9];have hm:(0+i*esz+j) % z.cells.size=j:=by
   rw[hzs,Jmd,Nat.mul_comm,Nat.mul_add_mod];exact Nat.mod_eq_of_lt (by omega)
  rw[hm];have hg:z.cells[j]?=some x.val:=by
   rw[← Array.getElem?_toList,hz,Jl3,hx];rfl
  rw[getElem!_def,hg]
def Xu:Op->Bool
 | .alloc _ | .box _ _ | .buildSlice _ _ _ | .makeSlice _ _ _ | .makeMap _ _=>true
 | _=>false
theorem Sh (hΓ:I0 P Γ) {O1:List (Option Ob)} {F':Nat->Option Obj} (hS:Sim N H0 F0 F ρ O w.heap) (hO:∀ k ob,obA objs k=some ob->obA O k=some ob) (o:Oper) {ev:Operand->AV} {ρv:Operand->Value} {e:Eff}
  (hq:Xu o.op=true) (h:opA Γ ev objs o.op=some e) (hob:e.ob) (hev:∀ x∈o.op.operands.toList,Ak F ρ (ev x) (ρv x))
  (hF:FLe F F') (hF':∀ k L,k∈e.rm->ρ k=some L->F' L.b=w.heap[L.b]?) (hS1:Sim N H0 F0 F' ρ O1 w.heap) (hnew:∀ (i:Nat) ob,e.obs[i]?=some ob->obA O1 (objs.length+i)=some ob) (hfresh:ρ objs.length=none) :
  e.upd=none/\e.obs.length=1/\(∀ k∈e.rm,∃ ob,obA objs k=some ob)/\∃ v w' ρ',(execOp ρv o).run P w=.ok (.value v) w'/\Sim N H0 F0 F' ρ' O1 w'.heap/\RLe ρ ρ'/\(∀ k,k≠objs.length->ρ' k=ρ k)/\Ak F' ρ' e.v v/\Mu w w':=by
 cases hop:o.op with
 | alloc t=>
  rw[hop]at h hev;simp only[opA]at h;cases hok:(Γ t).ok with
  | false=>rw[hok]at h;cases h
  | true=>
   rw[hok,cond_true]at h;cases h;obtain⟨i,z,hi,his,hz,hzc⟩:=(hΓ t hok).info;refine⟨rfl,rfl,by simp,.pointer (some ⟨w.heap.size,0,none⟩),{ w with heap:=w.heap.push (.cells z.cells t) },upR ρ objs.length ⟨w.heap.size,0,((Γ t).zero.map AV.d).length⟩,?_,?_,Dp hfresh,λ k hk=>Bj hk,?_,Mu.push rfl rfl rfl⟩
   ·simp only[execOp,hop];exact Ec (by simp[Instr.alloc,BH w hi hz,newVar,newRow])
   ·refine hS1.push hfresh (hnew 0 _ rfl) rfl (Xt hfresh ?_) rfl;rw[hzc];refine⟨by simp,λ j a v ha hv=>?_⟩;simp only[Jl3,Jl2]at ha hv;obtain⟨x,hx,rfl⟩:=ha;obtain⟨x',hx',rfl⟩:=hv;rw[hx]at hx';cases hx';exact .d _ _ (Bo.val F' (JlJ.1 (hΓ t hok).plain x (Jl1 hx)))
   ·exact .ptr objs.length 0 ⟨w.heap.size,0,_⟩ (AP _ _ _)
 | box t x=>
  rw[hop]at h hev;simp only[opA]at h;cases hok:Bz (ev x)with
  | false=>rw[hok]at h;cases h
  | true=>
   rw[hok,cond_true]at h;cases h;have hcr:=F5 ((hev x (by simp[Op.operands])).mono hF (RLe.refl ρ)) hok;refine⟨rfl,rfl,by simp,.pointer (some ⟨w.heap.size,0,none⟩),{ w with heap:=w.heap.push (.cells (ρv x).cells t) },upR ρ objs.length ⟨w.heap.size,0,(Ar (ev x)).length⟩,?_,?_,Dp hfresh,λ k hk=>Bj hk,?_,Mu.push rfl rfl rfl⟩
   ·simp only[execOp,hop];exact Ec (by simp[Instr.box,newVar,newRow])
   ·exact hS1.push hfresh (hnew 0 _ rfl) rfl (Xt hfresh hcr) rfl
   ·exact .ptr objs.length 0 ⟨w.heap.size,0,_⟩ (AP _ _ _)
 | buildSlice t len parts=>
  rw[hop]at h hev;simp only[opA]at h;cases hok:(Γ t).ok&&decide (len<=1000)with
  | false=>rw[hok]at h;cases h
  | true=>
   rw[hok,cond_true]at h;simp only[Jl0,decide_eq_true_eq]at hok;obtain⟨hok,hlen⟩:=hok;obtain⟨d,hd,_,hk⟩:=(hΓ t hok).desc;split at h
   ·rename_i esz eb ez hkind;rw[hkind]at hk;obtain⟨elem,i,z,rfl,h1,h2,h3,h4,h5,h6,_⟩:=hk;cases hc:(decide (1<=esz)&&decide (esz<=1000)&&ez.length==esz)with
    | false=>rw[hc]at h;cases h
    | true=>
     rw[hc,cond_true]at h;simp only[Jl0,decide_eq_true_eq,beq_iff_eq]at hc;obtain⟨⟨hc1,hc2⟩,hc3⟩:=hc;split at h
     ·rename_i r hr;cases h;have hz:ER F' esz (List.replicate len ez) ((Array.range (len*esz)).map ((if len*esz=0 then #[]else z.cells)[· % (if len*esz=0 then(#[]:Array Value)else z.cells).size]!)) 0:=by
       by_cases h0:len*esz=0
       ·have:len=0:=by rcases Nat.mul_eq_zero.1 h0 with h|h<;>omega
        subst this;exact⟨by simp,by simp,λ i e he=>by simp at he⟩
       ·simp only[h0,if_false];exact Pp (JlO _) h5 h6 hc3
      obtain⟨cs',hfill,her,hsz,hl⟩:=Ox hS hO hF (esz:=esz) (parts.toList.map λ p=>(p.1,ev p.2)) ((parts.map λ (i,x)=>(i,ρv x)).toList) (List.replicate len ez) _ r (by simp) (λ i p q hp hq=>by
       simp only[Array.toList_map,Jl3,Jl2]at hp hq;obtain⟨p',hp',rfl⟩:=hp;obtain⟨q',hq',rfl⟩:=hq;rw[hp']at hq';cases hq';exact⟨rfl,hev _ (by simp[Op.operands];exact⟨p'.1,by simpa using Jl1 hp'⟩)⟩) hz (by simp) hF' hr hob
      have hbig:¬ (len*esz>2 ^ 24):=by
       have:len*esz<=1000*1000:=Nat.mul_le_mul hlen hc2;omega
      refine⟨rfl,rfl,Ow _ _ _ hr,.slice (some ⟨w.heap.size,0,none⟩) len len,{ w with heap:=w.heap.push (.cells cs' elem) },upR ρ objs.length ⟨w.heap.size,0,cs'.size⟩,?_,?_,Dp hfresh,λ k hk=>Bj hk,?_,Mu.push rfl rfl rfl⟩
      ·simp only[execOp,hop];refine Ec ?_;simp only[Instr.buildSlice,JlG,run_underlying hd,JlE,AY w h1,h2,hbig,if_false];by_cases h0:len*esz=0
       ·simp only[h0,if_true]at hfill⊢;simp only[JlH,JlE,hfill,newRow,JlG,run_newObj]
       ·simp only[h0,if_false]at hfill⊢;simp only[JlG,BH w h1 h4,JlH,JlE,hfill,newRow,run_newObj]
      ·exact hS1.push hfresh (hnew 0 _ rfl) rfl (Po her (PJ _)) rfl
      ·have:=Ak.osl (F:=F') (ρ:=upR ρ objs.length ⟨w.heap.size,0,cs'.size⟩) objs.length esz 0 len len ⟨w.heap.size,0,cs'.size⟩ (AP _ _ _) (JlO _) (by simp only[Jmd];rw[hsz];simp) hc1;simpa using this
     ·cases h
   ·cases h
 | makeSlice t len cap=>
  rw[hop]at h hev;simp only[opA]at h;cases hok:(Γ t).ok with
  | false=>rw[hok]at h;cases h
  | true=>
   rw[hok,cond_true]at h;obtain⟨d,hd,_,hk⟩:=(hΓ t hok).desc;split at h
   ·rename_i esz eb ez n c hkind hn hcc;rw[hkind]at hk;obtain⟨elem,i,z,rfl,h1,h2,h3,h4,h5,h6,h7,_⟩:=hk;obtain⟨k1,hk1⟩:=DR hn (hev len (by simp[Op.operands]));obtain⟨k2,hk2⟩:=DR hcc (hev cap (by simp[Op.operands]));cases hc:(decide (1<=esz)&&decide (1<=eb))with
    | false=>rw[hc]at h;cases h
    | true=>
     rw[hc,cond_true]at h;simp only[Jl0,decide_eq_true_eq]at hc;obtain⟨hc1,hc2⟩:=hc;cases h;obtain⟨ho1,ho2,ho3⟩:=hob;obtain⟨m,rfl⟩:=Int.eq_ofNat_of_zero_le ho1;obtain⟨q,rfl⟩:=Int.eq_ofNat_of_zero_le (Int.le_trans ho1 ho2);have hmq:m<=q:=by omega
     simp only[Jl8]at ho3;have hm:q<=70368744177664:=Nat.le_trans (Nat.le_mul_of_pos_right _ hc2) ho3;let cs:=madeCells z.cells (q*esz);have hz:ER F' esz (List.replicate m ez) cs 0:=Pp hmq h5 h6 h7;have hsz:cs.size=q*esz:=size_madeCells _ _;refine⟨rfl,rfl,by simp,.slice (some ⟨w.heap.size,0,none⟩) m q,{ w with heap:=w.heap.push (.cells cs elem) },upR ρ objs.length ⟨w.heap.size,0,cs.size⟩,?_,?_,Dp hfresh,λ k hk=>Bj hk,?_,Mu.push rfl rfl rfl⟩
     ·simp only[execOp,hop,hk1,hk2];refine Ec ?_;have hb:(i.bytes:Int)*(q:Int)<=281474976710656:=by
       have:eb*q<=70368744177664:=by rw[Nat.mul_comm];exact ho3
       have:((eb*q:Nat):Int)<=70368744177664:=Int.ofNat_le.2 this;rw[Int.natCast_mul]at this;rw[h3];omega
      have:=run_make w t elem i z hd h1 h4 k1 k2 (m:Int) (q:Int) (by omega) ho2 hb (by omega);rw[this];simp only[Jl8,h2,World.alloc,cs]
     ·exact hS1.push hfresh (hnew 0 _ rfl) rfl (Po hz (PJ _)) rfl
     ·have:=Ak.osl (F:=F') (ρ:=upR ρ objs.length ⟨w.heap.size,0,cs.size⟩) objs.length esz 0 m q ⟨w.heap.size,0,cs.size⟩ (AP _ _ _) hmq (by simp only[Jmd];rw[hsz];exact JlO _) hc1;simpa using this
   ·cases h
 | makeMap t hint=>
  rw[hop]at h hev;have main:∀ ka va,e=⟨.mp objs.length,[.map ka va []],[],none,True⟩->(Instr.makeMap t (hint.map ρv)).run P w=.ok (.map (some w.heap.size)) { w with heap:=w.heap.push (.map #[] 0) } ->
    e.upd=none/\e.obs.length=1/\(∀ k∈e.rm,∃ ob,obA objs k=some ob)/\∃ v w' ρ',(execOp ρv o).run P w=.ok (.value v) w'/\Sim N H0 F0 F' ρ' O1 w'.heap/\RLe ρ ρ'/\(∀ k,k≠objs.length->ρ' k=ρ k)/\Ak F' ρ' e.v v/\Mu w w':=by
   intro ka va he hrun;subst he;refine⟨rfl,rfl,by simp,.map (some w.heap.size),{ w with heap:=w.heap.push (.map #[] 0) },upR ρ objs.length ⟨w.heap.size,0,0⟩,?_,?_,Dp hfresh,λ k hk=>Bj hk,.mp _ ⟨w.heap.size,0,0⟩ (AP _ _ _),Jls rfl rfl rfl⟩
   ·simp only[execOp,hop];exact Ec hrun
   ·exact hS1.push hfresh (hnew 0 _ rfl) rfl ⟨rfl,#[],0,by simp,⟨λ x hx=>by simp at hx,by simp⟩,rfl,λ i p q hp=>by simp at hp⟩ rfl
  cases hint with
  | none=>
   simp only[opA]at h;cases hok:(Γ t).ok with
   | false=>rw[hok]at h;cases h
   | true=>
    rw[hok,cond_true]at h;split at h
    ·rename_i ks ka va vz hkind;cases h;exact main ka va rfl (by simp[Instr.makeMap])
    ·cases h
  | some x=>
   simp only[opA]at h;cases hok:(Γ t).ok with
   | false=>rw[hok]at h;cases h
   | true=>
    rw[hok,cond_true]at h;obtain⟨d,hd,_,hk⟩:=(hΓ t hok).desc;split at h
    ·rename_i ks ka va vz n hkind hn;rw[hkind]at hk;obtain⟨kt,et,i,z,rfl,_⟩:=hk;obtain⟨k1,hk1⟩:=DR hn (hev x (by simp[Op.operands]));cases h;exact main ka va rfl (by simp[Instr.makeMap,hk1,run_underlying hd,asInt,asIntOf])
    ·cases h
 | _=>rw[hop]at hq;cases hq
theorem Sim.pushF {h:Array Obj} (hS:Sim N H0 F0 F ρ O h) (x:Obj):Sim N H0 F0 (λ b=>if b=h.size then some x else F b) ρ O (h.push x):=by
 have hlt:∀ b o,F b=some o->b<h.size:=λ b o hb=>Av (hS.frz b o hb);have hle:FLe F (λ b=>if b=h.size then some x else F b):=λ b o hb=>by
  have:=hlt b o hb;simp only[if_neg (show ¬b=h.size by omega)];exact hb
 refine { size:=λ b hb=>hS.size b (by simp at hb;omega),old:=λ b hb=>by rw[Cy (hS.lt_size hb)];exact hS.old b hb,f0:=hS.f0.trans hle,fnew:=λ b o hb hN=>?_,frz:=λ b o hb=>?_,loc:=λ k L hk=>by have:=hS.loc k L hk;simp;omega,dom:=hS.dom,obj:=λ k L ob hk hob=>?_,sep:=hS.sep,inn:=?_ }
 ·split at hb
  ·rename_i e;exact absurd (hS.size b (by omega)) hN
  ·exact hS.fnew b o hb hN
 ·split at hb
  ·rename_i e;cases hb;subst e;simp
  ·rw[Cy (hlt b o hb)];exact hS.frz b o hb
 ·obtain⟨h1,h2,h3⟩:=hS.obj k L ob hk hob;have hL:=hS.loc k L hk;refine⟨h1.mono hle (RLe.refl _) (Cy hL),h2,?_⟩;simp only[if_neg (show ¬L.b=h.size by omega)];exact h3
 ·obtain⟨σ,hσ⟩:=hS.inn;refine⟨σ,λ k c M hM=>?_,hσ.obj,hσ.sep,λ k L ob0 sz es hk ho hr0 i e j isz xs hi hj o1 v hb hv=>?_⟩
  ·obtain⟨g1,g2,g3⟩:=hσ.new k c M hM;refine⟨g1,by simp;omega,?_⟩;simp only[if_neg (show ¬M.b=h.size by omega)];exact g3
  ·rw[Cy (hS.loc k L hk)]at hb;exact(hσ.rep k L ob0 sz es hk ho hr0 i e j isz xs hi hj o1 v hb hv).mono hle λ L' hL'=>Cy (hσ.new k _ L' hL').2.1
theorem UC {esz:Nat}:∀ (parts:List (Nat×AV)) (es:List (List D)) (r:Rd (List (List D))),(parts.all λ p=>(Ar p.2).all Ml)=true->Im [] esz es parts=some r->r.ob/\r.ks=[]:=by
 have hD:∀ (v:AV) (r:Rd D),Ml v=true->IS [] v=some r->r.ob/\r.ks=[]:=λ v r hd h=>by
  cases v with
  | d x=>cases x<;>(cases h;exact⟨trivial,rfl⟩)
  | _=>cases hd
 have hDs:∀ (l:List AV) (r:Rd (List D)),l.all Ml=true->D0 [] l=some r->r.ob/\r.ks=[]:=by
  intro l;induction l with
  | nil=>intro r _ h;cases h;exact⟨trivial,rfl⟩
  | cons v l ih=>
   intro r hd h;simp only[List.all_cons,Jl0]at hd;simp only[D0]at h;split at h
   ·rename_i r1 r2 h1 h2;cases h;obtain⟨a1,a2⟩:=hD v r1 hd.1 h1;obtain⟨b1,b2⟩:=ih r2 hd.2 h2;exact⟨⟨a1,b1⟩,by simp[a2,b2]⟩
   ·cases h
 intro parts;induction parts with
 | nil=>intro es r _ h;cases h;exact⟨trivial,rfl⟩
 | cons p parts ih=>
  intro es r hd h;obtain⟨i,v⟩:=p;simp only[List.all_cons,Jl0]at hd;simp only[Im]at h;split at h
  ·rename_i r1 h1;cases hb:(Bz v&&r1.x.length==esz&&decide (i<es.length))with
   | false=>rw[hb]at h;cases h
   | true=>
    rw[hb,cond_true]at h;split at h
    ·rename_i r2 h2;cases h;have ha:r1.ob/\r1.ks=[]:=by
      rcases IU h1 with⟨_,rfl⟩|h1
      ·exact⟨trivial,rfl⟩
      ·exact hDs _ r1 hd.1 h1
     obtain⟨a1,a2⟩:=ha;obtain⟨b1,b2⟩:=ih _ r2 hd.2 h2;exact⟨⟨a1,b1⟩,by simp[a2,b2]⟩
    ·cases h
  ·cases h
theorem Oy (hΓ:I0 P Γ) (hS:Sim N H0 F0 F ρ O w.heap) (o:Oper) {ev:Operand->AV} {ρv:Operand->Value} {es:List (List D)} (h:opF Γ ev o.op=some es) (hev:∀ x∈o.op.operands.toList,Ak F ρ (ev x) (ρv x)) :
  ∃ v w' F',(execOp ρv o).run P w=.ok (.value v) w'/\FLe F F'/\Sim N H0 F0 F' ρ O w'.heap/\Bo F' (.sl es) v/\Mu w w':=by
 cases hop:o.op with
 | buildSlice t len parts=>
  rw[hop]at h hev;simp only[opF]at h;cases hdd:(parts.toList.all λ p=>(Ar (ev p.2)).all Ml)with
  | false=>rw[hdd]at h;cases h
  | true=>
   rw[hdd,cond_true]at h;split at h
   ·rename_i v0 sz0 es0 rm0 upd0 ob0 heq;cases h;have h:=heq;simp only[opA]at h;cases hok:(Γ t).ok&&decide (len<=1000)with
    | false=>rw[hok]at h;cases h
    | true=>
     rw[hok,cond_true]at h;simp only[Jl0,decide_eq_true_eq]at hok;obtain⟨hok,hlen⟩:=hok;obtain⟨d,hd,_,hk⟩:=(hΓ t hok).desc;split at h
     ·rename_i esz eb ez hkind;rw[hkind]at hk;obtain⟨elem,i,z,rfl,h1,h2,h3,h4,h5,h6,_⟩:=hk;cases hc:(decide (1<=esz)&&decide (esz<=1000)&&ez.length==esz)with
      | false=>rw[hc]at h;cases h
      | true=>
       rw[hc,cond_true]at h;simp only[Jl0,decide_eq_true_eq,beq_iff_eq]at hc;obtain⟨⟨hc1,hc2⟩,hc3⟩:=hc;split at h
       ·rename_i r hr;have he:esz=sz0/\r.x=es:=by cases h;exact⟨rfl,rfl⟩
        obtain⟨rfl,rfl⟩:=he;obtain⟨hob,hks⟩:=UC _ _ r (by rw[List.all_map];exact hdd) hr;have hz:ER F esz (List.replicate len ez) ((Array.range (len*esz)).map ((if len*esz=0 then #[]else z.cells)[· % (if len*esz=0 then(#[]:Array Value)else z.cells).size]!)) 0:=by
         by_cases h0:len*esz=0
         ·have:len=0:=by rcases Nat.mul_eq_zero.1 h0 with h|h<;>omega
          subst this;exact⟨by simp,by simp,λ i e he=>by simp at he⟩
         ·simp only[h0,if_false];exact Pp (JlO _) h5 h6 hc3
        obtain⟨cs',hfill,her,hsz,hl⟩:=Ox (objs:=[]) hS (λ k ob hk=>by simp[obA]at hk) (FLe.refl _) (esz:=esz) (parts.toList.map λ p=>(p.1,ev p.2)) ((parts.map λ (i,x)=>(i,ρv x)).toList) (List.replicate len ez) _ r (by simp) (λ i p q hp hq=>by
         simp only[Array.toList_map,Jl3,Jl2]at hp hq;obtain⟨p',hp',rfl⟩:=hp;obtain⟨q',hq',rfl⟩:=hq;rw[hp']at hq';cases hq';exact⟨rfl,hev _ (by simp[Op.operands];exact⟨p'.1,by simpa using Jl1 hp'⟩)⟩) hz (by simp) (λ k L hk=>by rw[hks]at hk;simp at hk) hr hob
        have hbig:¬ (len*esz>2 ^ 24):=by
         have:len*esz<=1000*1000:=Nat.mul_le_mul hlen hc2;omega
        have hle:FLe F (λ b=>if b=w.heap.size then some (.cells cs' elem)else F b):=λ b o hb=>by
         have:=Av (hS.frz b o hb);simp only[if_neg (show ¬b=w.heap.size by omega)];exact hb
        refine⟨.slice (some ⟨w.heap.size,0,none⟩) len len,{ w with heap:=w.heap.push (.cells cs' elem) },_,?_,hle,hS.pushF _,?_,Mu.push rfl rfl rfl⟩
        ·simp only[execOp,hop];refine Ec ?_;simp only[Instr.buildSlice,JlG,run_underlying hd,JlE,AY w h1,h2,hbig,if_false];by_cases h0:len*esz=0
         ·simp only[h0,if_true]at hfill⊢;simp only[JlH,JlE,hfill,newRow,JlG,run_newObj]
         ·simp only[h0,if_false]at hfill⊢;simp only[JlG,BH w h1 h4,JlH,JlE,hfill,newRow,run_newObj]
        ·have hl':r.x.length=len:=by rw[hl];simp
         obtain⟨q1,q2,q6⟩:=her;have:=Bo.sl (F:=λ b=>if b=w.heap.size then some (.cells cs' elem)else F b) r.x w.heap.size 0 len esz cs' elem _ (λ i j=>(cs'[0+i*esz+j]?).getD undef) (if_pos rfl) q1 (by omega) (λ i e hi j x hx=>by
          obtain⟨u,hu,_⟩:=q6 i e hi j x hx;simp only[hu,JlK]) (λ i e hi j x hx=>by
          obtain⟨u,hu,hd⟩:=q6 i e hi j x hx;simp only[hu,JlK];exact hd.mono hle)
         rw[hl']at this;exact this
       ·cases h
     ·cases h
   ·cases h
 | _=>rw[hop]at h;cases h
theorem ZL (hΓ:I0 P Γ) (o:Oper) {ev:Operand->AV} {ρv:Operand->Value} {esz:Nat} {es:List (List D)} (h:opK Γ ev o.op=some (esz,es)) (hev:∀ x∈o.op.operands.toList,Ak F ρ (ev x) (ρv x)) (w:World) :
  ∃ cs' elem,(execOp ρv o).run P w=.ok (.value (.slice (some ⟨w.heap.size,0,none⟩) es.length es.length)) { w with heap:=w.heap.push (.cells cs' elem) }/\ER F esz es cs' 0/\cs'.size=es.length*esz/\1<=esz:=by
 cases hop:o.op with
 | buildSlice t len parts=>
  rw[hop]at h hev;simp only[opK]at h;cases hok:(Γ t).ok&&decide (len<=1000)with
  | false=>rw[hok]at h;cases h
  | true=>
   rw[hok,cond_true]at h;simp only[Jl0,decide_eq_true_eq]at hok;obtain⟨hok,hlen⟩:=hok;obtain⟨d,hd,_,hk⟩:=(hΓ t hok).desc;split at h
   ·rename_i esz' eb ez hkind;rw[hkind]at hk;obtain⟨elem,i,z,rfl,h1,h2,h3,h4,h5,h6,_⟩:=hk;cases hc:(decide (1<=esz')&&decide (esz'<=1000)&&ez.length==esz')with
    | false=>rw[hc]at h;cases h
    | true=>
     rw[hc,cond_true]at h;simp only[Jl0,decide_eq_true_eq,beq_iff_eq]at hc;obtain⟨⟨hc1,hc2⟩,hc3⟩:=hc;split at h
     ·rename_i r hr;simp only[Jl9,Prod.mk.injEq]at h;obtain⟨rfl,rfl⟩:=h;have hz:ER F esz' (List.replicate len ez) ((Array.range (len*esz')).map ((if len*esz'=0 then #[]else z.cells)[· % (if len*esz'=0 then(#[]:Array Value)else z.cells).size]!)) 0:=by
       by_cases h0:len*esz'=0
       ·have:len=0:=by rcases Nat.mul_eq_zero.1 h0 with h|h<;>omega
        subst this;exact⟨by simp,by simp,λ i e he=>by simp at he⟩
       ·simp only[h0,if_false];exact Pp (JlO _) h5 h6 hc3
      have hob:r.ob:=by
       have gen:∀ (parts:List (Nat×AV)) (es:List (List D)) (r:Rd (List (List D))),Sa esz' es parts=some r->r.ob:=by
        have hN:∀ (l:List AV) (r:Rd (List D)),R9 l=some r->r.ob:=by
         intro l;induction l with
         | nil=>intro r h;cases h;trivial
         | cons a l ih=>
          intro r h;cases a with
          | d x=>
           simp only[R9]at h;split at h
           ·cases h;trivial
           ·cases h
          | _=>cases h
        intro parts;induction parts with
        | nil=>intro es r h;cases h;trivial
        | cons p parts ih=>
         intro es r h;obtain⟨i,v⟩:=p;simp only[Sa]at h;split at h
         ·rename_i r1 h1;cases hb:(Bz v&&r1.x.length==esz'&&decide (i<es.length))with
          | false=>rw[hb]at h;cases h
          | true=>
           rw[hb,cond_true]at h;split at h
           ·rename_i r2 h2;cases h;exact⟨hN _ r1 h1,ih _ r2 h2⟩
           ·cases h
         ·cases h
       exact gen _ _ r hr
      obtain⟨cs',hfill,her,hsz,hl⟩:=UB (F:=F) (ρ:=ρ) (FLe.refl F) (esz:=esz') (parts.toList.map λ p=>(p.1,ev p.2)) ((parts.map λ (i,x)=>(i,ρv x)).toList) (List.replicate len ez) _ r (by simp) (λ i p q hp hq=>by
       simp only[Array.toList_map,Jl3,Jl2]at hp hq;obtain⟨p',hp',rfl⟩:=hp;obtain⟨q',hq',rfl⟩:=hq;rw[hp']at hq';cases hq';exact⟨rfl,hev _ (by simp[Op.operands];exact⟨p'.1,by simpa using Jl1 hp'⟩)⟩) hz (by simp) hr hob
      have hbig:¬ (len*esz'>2 ^ 24):=by
       have:len*esz'<=1000*1000:=Nat.mul_le_mul hlen hc2;omega
      have hl':r.x.length=len:=by rw[hl];simp
      refine⟨cs',elem,?_,her,by rw[hsz,hl'];simp,hc1⟩;rw[hl'];simp only[execOp,hop];refine Ec ?_;simp only[Instr.buildSlice,JlG,run_underlying hd,JlE,AY w h1,h2,hbig,if_false];by_cases h0:len*esz'=0
      ·simp only[h0,if_true]at hfill⊢;simp only[JlH,JlE,hfill,newRow,JlG,run_newObj]
      ·simp only[h0,if_false]at hfill⊢;simp only[JlG,BH w h1 h4,JlH,JlE,hfill,newRow,run_newObj]
     ·cases h
   ·cases h
 | _=>rw[hop]at h;cases h
theorem Ym {h:Array Obj} (hS:Sim N H0 F0 F ρ O h) {esz:Nat} {es:List (List D)} {cs':Array Value} {elem:TypeId} (her:ER F esz es cs' 0) :
  ∃ F',FLe F F'/\Sim N H0 F0 F' ρ O (h.push (.cells cs' elem))/\Bo F' (.sl es) (.slice (some ⟨h.size,0,none⟩) es.length es.length):=by
 have hle:FLe F (λ b=>if b=h.size then some (.cells cs' elem)else F b):=λ b o hb=>by
  have:=Av (hS.frz b o hb);simp only[if_neg (show ¬b=h.size by omega)];exact hb
 obtain⟨q1,q2,q6⟩:=her;refine⟨_,hle,hS.pushF _,?_⟩;exact Bo.sl (F:=λ b=>if b=h.size then some (.cells cs' elem)else F b) es h.size 0 es.length esz cs' elem _ (λ i j=>(cs'[0+i*esz+j]?).getD undef) (if_pos rfl) q1 (JlO _) (λ i e hi j x hx=>by
  obtain⟨u,hu,_⟩:=q6 i e hi j x hx;simp only[hu,JlK]) (λ i e hi j x hx=>by
  obtain⟨u,hu,hd⟩:=q6 i e hi j x hx;simp only[hu,JlK];exact hd.mono hle)
theorem ZM {h:Array Obj} (hS:Sim N H0 F0 F ρ O h) {esz:Nat} {es:List (List D)} {cs':Array Value} {elem:TypeId} (her:ER F esz es cs' 0) (hsz:cs'.size=es.length*esz) (h1:1<=esz) :
  ∃ ρ',RLe ρ ρ'/\Sim N H0 F0 F ρ' (O++[some (.arr esz es)]) (h.push (.cells cs' elem))/\Ak F ρ' (.osl O.length esz 0 es.length) (.slice (some ⟨h.size,0,none⟩) es.length es.length):=by
 have hne:ρ O.length=none:=by
  cases hq:ρ O.length with
  | none=>rfl
  | some L=>have:=hS.dom _ L hq;omega
 have hS1:Sim N H0 F0 F ρ (O++[some (.arr esz es)]) h:=hS.grow _;refine⟨upR ρ O.length ⟨h.size,0,cs'.size⟩,Dp hne,hS1.push hne (ob:=.arr esz es) (by rw[AM,if_neg (by omega)];simp[obA]) rfl (Po her (PJ _)) rfl,?_⟩;have:=Ak.osl (F:=F) (ρ:=upR ρ O.length ⟨h.size,0,cs'.size⟩) O.length esz 0 es.length es.length ⟨h.size,0,cs'.size⟩ (AP _ _ _) (JlO _) (by simp only[Jmd];rw[hsz];exact JlO _) h1;simpa using this
end Go.AI
end
section
namespace Go.AI
variable {P:Program} {Γ:Nat->Ty} {F:Nat->Option Obj} {ρ:Nat->Option Loc} {N:Nat->Prop} {H0 F0:Nat->Option Obj} {O objs:List (Option Ob)} {w:World}
theorem Cj {h:Array Obj} {b j:Nat} {x:Obj}:(h.setIfInBounds b x)[j]?=if b=j/\b<h.size then some x else h[j]? := by
 by_cases e:b=j
 ·subst e;by_cases hb:b<h.size
  ·simp[hb]
  ·simp[hb]
 ·rw[JlQ e,if_neg (λ hh=>e hh.1)]
theorem Sim.rewrite' {h:Array Obj} (hS:Sim N H0 F0 F ρ O h) {k k':Nat} {L L':Loc} {ob:Ob} {x:Obj} {O':List (Option Ob)} (hk:ρ k=some L) (hob:obA O k=some ob) (hle:RLe ρ (upR ρ k' L')) (hb:L'.b=L.b)
  (hO:∀ j ob',j≠k'->obA O' j=some ob'->obA O j=some ob'/\j≠k) (hl:O.length<=O'.length) (hdom:k'<O'.length)
  (hrep:∀ ob',obA O' k'=some ob'->Bv F (upR ρ k' L') (h.setIfInBounds L.b x) L' ob') (hinn:∃ σ,Inn N F (upR ρ k' L') O' (h.setIfInBounds L.b x) σ):Sim N H0 F0 F (upR ρ k' L') O' (h.setIfInBounds L.b x):=by
 obtain⟨_,hN,hFn⟩:=hS.obj k L ob hk hob;have hne:∀ b,b≠L.b->(h.setIfInBounds L.b x)[b]?=h[b]? := λ b hb=>by rw[Cj,if_neg (λ hh=>hb hh.1.symm)]
 refine { size:=λ b hb=>hS.size b (by simpa using hb),old:=λ b hb=>by rw[hne b (λ e=>hb (by rw[e];exact hN))];exact hS.old b hb,f0:=hS.f0,fnew:=hS.fnew,frz:=λ b o hb=>?_,loc:=λ j L1 hj=>?_,dom:=λ j L1 hj=>?_,obj:=λ j L1 ob1 hj ho=>?_,sep:=λ j j' L1 L2 ob1 ob2 hj hj' h1 h2 hn=>?_,inn:=hinn }
 ·rw[hne b (λ e=>by rw[e,hFn]at hb;cases hb)];exact hS.frz b o hb
 ·by_cases e:j=k'
  ·subst e;rw[AP]at hj;cases hj;rw[hb];simpa using hS.loc k L hk
  ·rw[Bj e]at hj;simpa using hS.loc j L1 hj
 ·by_cases e:j=k'
  ·subst e;exact hdom
  ·rw[Bj e]at hj;exact Nat.lt_of_lt_of_le (hS.dom j L1 hj) hl
 ·by_cases e:j=k'
  ·subst e;rw[AP]at hj;cases hj;rw[hb];exact⟨hrep ob1 ho,hN,hFn⟩
  ·rw[Bj e]at hj;obtain⟨ho',hjk⟩:=hO j ob1 e ho;obtain⟨g1,g2,g3⟩:=hS.obj j L1 ob1 hj ho';exact⟨g1.mono (FLe.refl _) hle (hne _ (hS.sep j k L1 L ob1 ob hj hk ho' hob hjk)),g2,g3⟩
 ·by_cases e:j=k'
  ·subst e;rw[AP]at hj;cases hj;rw[Bj (Ne.symm hn)]at hj';obtain⟨ho',hjk⟩:=hO j' ob2 (Ne.symm hn) h2;rw[hb];exact λ e=>hS.sep j' k L2 L ob2 ob hj' hk ho' hob hjk e.symm
  ·rw[Bj e]at hj;obtain⟨ho',hjk⟩:=hO j ob1 e h1;by_cases e':j'=k'
   ·subst e';rw[AP]at hj';cases hj';rw[hb];exact hS.sep j k L1 L ob1 ob hj hk ho' hob hjk
   ·rw[Bj e']at hj';exact hS.sep j j' L1 L2 ob1 ob2 hj hj' ho' (hO j' ob2 e' h2).1 hn
theorem Inn.rewrite {h:Array Obj} (hS:Sim N H0 F0 F ρ O h) {σ:Nat->Nat->Option Loc} (hσ:Inn N F ρ O h σ) {k k':Nat} {L L':Loc} {ob:Ob} {x:Obj} {O':List (Option Ob)} (hk:ρ k=some L) (hob:obA O k=some ob) (hb:L'.b=L.b)
  (hO:∀ j ob',j≠k'->obA O' j=some ob'->obA O j=some ob'/\j≠k)
  (hrep:∀ ob sz es,obA O' k'=some ob->ob.rows=some (sz,es)->∀ (i:Nat) (e:List AV) (j isz:Nat) (xs:List (List D)),es[i]?=some e->e[j]?=some (.own isz xs)->∀ o v,(h.setIfInBounds L.b x)[L'.b]?=some o->E8 o (L'.base+i*sz+j)=some v->Fx F (h.setIfInBounds L.b x) (σ k' (i*sz+j)) isz xs v) :
  Inn N F (upR ρ k' L') O' (h.setIfInBounds L.b x) σ:=by
 have hne:∀ b,b≠L.b->(h.setIfInBounds L.b x)[b]?=h[b]? := λ b hb=>by rw[Cj,if_neg (λ hh=>hb hh.1.symm)]
 refine⟨λ j c M hM=>?_,λ j c M j' L1 ob1 hM hj' ho'=>?_,hσ.sep,λ j L1 ob0 sz es hj ho hr i e m isz xs hi hm o1 v hb' hv=>?_⟩
 ·obtain⟨g1,g2,g3⟩:=hσ.new j c M hM;exact⟨g1,by simpa using g2,g3⟩
 ·by_cases e:j'=k'
  ·subst e;rw[AP]at hj';cases hj';rw[hb];exact hσ.obj j c M k L ob hM hk hob
  ·rw[Bj e]at hj';exact hσ.obj j c M j' L1 ob1 hM hj' (hO j' ob1 e ho').1
 ·by_cases e':j=k'
  ·subst e';rw[AP]at hj;cases hj;exact hrep ob0 sz es ho hr i e m isz xs hi hm o1 v hb' hv
  ·rw[Bj e']at hj;obtain⟨ho',hjk⟩:=hO j _ e' ho;rw[hne _ (hS.sep j k L1 L _ ob hj hk ho' hob hjk)]at hb';exact(hσ.rep j L1 ob0 sz es hj ho' hr i e m isz xs hi hm o1 v hb' hv).mono (FLe.refl _) λ M hM=>hne _ (λ e=>hσ.obj j _ M k L ob hM hk hob e.symm)
theorem Sim.rewrite {h:Array Obj} (hS:Sim N H0 F0 F ρ O h) {k k':Nat} {L L':Loc} {ob:Ob} {x:Obj} {O':List (Option Ob)} (hk:ρ k=some L) (hob:obA O k=some ob) (hle:RLe ρ (upR ρ k' L')) (hb:L'.b=L.b)
  (hO:∀ j ob',j≠k'->obA O' j=some ob'->obA O j=some ob'/\j≠k) (hl:O.length<=O'.length) (hdom:k'<O'.length)
  (hrep:∀ ob',obA O' k'=some ob'->Bv F (upR ρ k' L') (h.setIfInBounds L.b x) L' ob') (hpl:∀ ob',obA O' k'=some ob'->ob'.plain=true):Sim N H0 F0 F (upR ρ k' L') O' (h.setIfInBounds L.b x):=by
 obtain⟨σ,hσ⟩:=hS.inn;exact hS.rewrite' hk hob hle hb hO hl hdom hrep ⟨σ,hσ.rewrite hS hk hob hb hO λ ob0 sz es ho hr=>by rw[Jlr (hpl _ ho)]at hr;cases hr⟩
theorem BQ {k:Nat} {L:Loc} (h:ρ k=some L):upR ρ k L=ρ:=by
 funext j;by_cases e:j=k
 ·subst e;rw[AP,h]
 ·rw[Bj e]
theorem Bo.oneCell {x:D} {v:Value} (h:Bo F x v):v.oneCell'=true:=by cases h<;>rfl
theorem ER.all {esz:Nat} {es:List (List D)} {cs:Array Value} {o:Nat} (h:ER F esz es cs o) (n:Nat) (hn:n<es.length*esz):∃ v x,cs[o+n]?=some v/\Bo F x v:=by
 obtain⟨h1,h2,h3⟩:=h;rcases Nat.eq_zero_or_pos esz with h0|h0
 ·subst h0;simp at hn
 ·have hi:n / esz<es.length:=by rw[Nat.div_lt_iff_lt_mul h0];exact hn
  have he:=JlZ hi;have hj:n % esz<(es[n / esz]).length:=by rw[h1 _ (JlL hi)];exact Nat.mod_lt _ h0
  have hx:=JlZ hj;obtain⟨v,hv,hd⟩:=h3 _ _ he _ _ hx;refine⟨v,_,?_,hd⟩;rw[← hv];congr 1;have:=Nat.div_add_mod n esz;rw[Nat.mul_comm]at this;omega
theorem ER.ones {esz:Nat} {es:List (List D)} {cs:Array Value} (h:ER F esz es cs 0) (hs:cs.size=es.length*esz):∀ v∈cs.toList,v.oneCell'=true:=by
 intro v hv;obtain⟨n,hn⟩:=List.getElem?_of_mem hv;have hl:=Af hn;simp only[Array.length_toList]at hl;obtain⟨v',x,hv',hd⟩:=h.all n (by omega);rw[Jmd,← Array.getElem?_toList,hn]at hv';cases hv';exact hd.oneCell
end Go.AI
end
section
namespace Go.AI
variable {P:Program} {Γ:Nat->Ty} {F:Nat->Option Obj} {ρ:Nat->Option Loc} {N:Nat->Prop} {H0 F0:Nat->Option Obj} {O objs:List (Option Ob)} {w:World}
def PK (F:Nat->Option Obj) (ρ:Nat->Option Loc) (h:Array Obj) (M:Option Loc) (a:AV) (v:Value):Prop:=
 (JE a=false->Ak F ρ a v)/\∀ isz xs,a=.own isz xs->Fx F h M isz xs v
theorem ZN {h:Array Obj} {M:Option Loc} {x:D} {v:Value} (hd:Bo F x v):PK F ρ h M (toN x) v:=by
 have gen:∀ y:D,Bo F y v->PK F ρ h M (.d y) v:=λ y hy=>⟨λ _=>.d _ _ hy,λ _ _ e=>by cases e⟩;cases hd with
 | nil=>exact⟨λ h=>(by cases h),λ isz xs e=>(by cases e;exact .inl ⟨rfl,none,rfl⟩)⟩
 | int k n=>exact gen _ (.int k n)
 | bool b=>exact gen _ (.bool b)
 | str s=>exact gen _ (.str s)
 | sl0 a cap=>exact gen _ (.sl0 a cap)
 | sl es b off cap sz cs t fr g h1 h2 h3 h4 h5=>exact gen _ (.sl es b off cap sz cs t fr g h1 h2 h3 h4 h5)
 | nilp=>exact gen _ .nilp
 | nilm=>exact gen _ .nilm
 | nilf=>exact gen _ .nilf
 | po0=>exact gen _ .po0
 | po e l b o cs t fr g h1 h2 h3=>exact gen _ (.po e l b o cs t fr g h1 h2 h3)
def GR (R:Nat->AV->Value->Prop) (esz:Nat) (es:List (List AV)) (cs:Array Value) (o:Nat):Prop:=
 (∀ e∈es,e.length=esz)/\o+es.length*esz<=cs.size/\∀ (i:Nat) (e:List AV),es[i]?=some e->∀ (j:Nat) (a:AV),e[j]?=some a->∃ v,cs[o+i*esz+j]?=some v/\R (i*esz+j) a v
theorem ER.toN {h:Array Obj} {τ:Nat->Option Loc} {esz:Nat} {ys:List (List D)} {ds:Array Value} (he:ER F esz ys ds 0):GR (λ c=>PK F ρ h (τ c)) esz (ys.map λ e=>e.map AI.toN) ds 0:=by
 refine⟨λ e hm=>?_,by simpa using he.2.1,λ i e hi j a ha=>?_⟩
 ·simp only[JlR]at hm;obtain⟨e',h1,rfl⟩:=hm;simpa using he.1 e' h1
 ·simp only[Jl3,Jl2]at hi;obtain⟨e',h1,rfl⟩:=hi;simp only[Jl3,Jl2]at ha;obtain⟨x,h2,rfl⟩:=ha;obtain⟨v,hv,hd⟩:=he.2.2 i e' h1 j x h2;exact⟨v,hv,ZN hd⟩
theorem GR.extract {R:Nat->AV->Value->Prop} {esz:Nat} {es:List (List AV)} {cs:Array Value} {o:Nat} (h:GR R esz es cs o):GR R esz es (cs.extract o (o+es.length*esz)) 0:=by
 obtain⟨h1,h2,h3⟩:=h;refine⟨h1,by simp;omega,λ i e hi j x hx=>?_⟩;obtain⟨v,hv,hd⟩:=h3 i e hi j x hx;refine⟨v,?_,hd⟩;have hil:=Af hi;have hjl:=Af hx;rw[h1 e (Jl1 hi)]at hjl;have:(i+1)*esz<=es.length*esz:=JlI _ hil;rw[Jmc,Nat.one_mul]at this;rw[Array.getElem?_extract_of_lt (by omega),← hv,Jl4 (by have:=Av hv;omega)];congr 2;omega
theorem GR.append {R R':Nat->AV->Value->Prop} {esz:Nat} {es ys:List (List AV)} {cs ds:Array Value} {rest:Array Value} (h:GR R esz es cs 0) (hs:cs.size=es.length*esz) (h':GR R' esz ys ds 0) (hs':ds.size=ys.length*esz) (hR:∀ c a v,R' c a v->R (es.length*esz+c) a v):GR R esz (es++ys) (cs++ds++rest) 0:=by
 refine⟨λ e he=>?_,by simp[Jmc];omega,λ i e hi j x hx=>?_⟩
 ·rcases List.mem_append.1 he with he|he
  ·exact h.1 e he
  ·exact h'.1 e he
 ·rw[List.getElem?_append]at hi;by_cases hil:i<es.length
  ·rw[if_pos hil]at hi;obtain⟨v,hv,hd⟩:=h.2.2 i e hi j x hx;refine⟨v,?_,hd⟩;have:=Av hv;rw[Array.append_assoc,Array.getElem?_append_left this];exact hv
  ·rw[if_neg hil]at hi;obtain⟨v,hv,hd⟩:=h'.2.2 _ e hi j x hx;have e1:i*esz=es.length*esz+(i-es.length)*esz:=by rw[← Jmc];congr 1;omega
   refine⟨v,?_,by rw[e1,JlT];exact hR _ _ _ hd⟩;have hlt:=Av hv;rw[Array.getElem?_append_left (by simp;omega),Array.getElem?_append_right (by omega),← hv];congr 1;omega
theorem GR.put {R R':Nat->AV->Value->Prop} {esz:Nat} {es ys:List (List AV)} {cs ds:Array Value} {o:Nat} (h:GR R esz es cs o) (h':GR R' esz ys ds 0) (hs':ds.size=ys.length*esz) (hr:o+(es.length+ys.length)*esz<=cs.size) (hR:∀ c a v,R' c a v->R (es.length*esz+c) a v) :
  GR R esz (es++ys) (BX cs (o+es.length*esz) ds.toList) o:=by
 rw[Jmc]at hr;have hput:∀ n,(BX cs (o+es.length*esz) ds.toList)[n]?=if o+es.length*esz<=n/\n<o+es.length*esz+ys.length*esz then ds[n-(o+es.length*esz)]? else cs[n]? := λ n=>by
  have:=F3 ds.toList (o+es.length*esz) cs n (by simp[hs'];omega);rw[this];simp[hs']
 refine⟨λ e he=>?_,by rw[BF];simp[Jmc];omega,λ i e hi j x hx=>?_⟩
 ·rcases List.mem_append.1 he with he|he
  ·exact h.1 e he
  ·exact h'.1 e he
 ·rw[hput];rw[List.getElem?_append]at hi;have hjl:=Af hx;by_cases hil:i<es.length
  ·rw[if_pos hil]at hi;rw[h.1 e (Jl1 hi)]at hjl;obtain⟨v,hv,hd⟩:=h.2.2 i e hi j x hx;refine⟨v,?_,hd⟩;have:(i+1)*esz<=es.length*esz:=JlI _ hil;rw[Jmc,Nat.one_mul]at this;rw[if_neg (by omega)];exact hv
  ·rw[if_neg hil]at hi;rw[h'.1 e (Jl1 hi)]at hjl;obtain⟨v,hv,hd⟩:=h'.2.2 _ e hi j x hx;have e1:i*esz=es.length*esz+(i-es.length)*esz:=by rw[← Jmc];congr 1;omega
   refine⟨v,?_,by rw[e1,JlT];exact hR _ _ _ hd⟩;have hil':=Af hi;have:((i-es.length)+1)*esz<=ys.length*esz:=JlI _ hil';rw[Jmc,Nat.one_mul]at this;rw[if_pos (by omega),← hv];congr 1;omega
def mvS (σ:Nat->Nat->Option Loc) (k k':Nat):Nat->Nat->Option Loc:=λ j c=>if j=k' then σ k c else if j=k then none else σ j c
theorem Inn.move {h:Array Obj} {σ:Nat->Nat->Option Loc} (hσ:Inn N F ρ O h σ) {k k':Nat} (hk:obA O k=none) (hk':ρ k'=none):Inn N F ρ O h (mvS σ k k'):=by
 have get:∀ j c M,mvS σ k k' j c=some M->∃ j',σ j' c=some M/\(j=k'/\j'=k\/j≠k'/\j≠k/\j'=j):=λ j c M hM=>by
  unfold mvS at hM;by_cases e:j=k'
  ·rw[if_pos e]at hM;exact⟨k,hM,.inl ⟨e,rfl⟩⟩
  ·rw[if_neg e]at hM;by_cases e':j=k
   ·rw[if_pos e']at hM;cases hM
   ·rw[if_neg e']at hM;exact⟨j,hM,.inr ⟨e,e',rfl⟩⟩
 refine⟨λ j c M hM=>?_,λ j c M k1 L ob hM hL ho=>?_,λ j c M j' c' M' hM hM' hne=>?_,λ j L ob0 sz es hj ho hr i e m isz xs hi hm o1 v hb hv=>?_⟩
 ·obtain⟨j',h1,_⟩:=get j c M hM;exact hσ.new j' c M h1
 ·obtain⟨j',h1,_⟩:=get j c M hM;exact hσ.obj j' c M k1 L ob h1 hL ho
 ·obtain⟨a,h1,h2⟩:=get j c M hM;obtain⟨b,h3,h4⟩:=get j' c' M' hM';refine hσ.sep a c M b c' M' h1 h3 ?_;rcases h2 with⟨rfl,rfl⟩|⟨h2,h2',rfl⟩<;>rcases h4 with⟨rfl,rfl⟩|⟨h4,h4',rfl⟩
  ·rcases hne with h|h
   ·exact absurd rfl h
   ·exact .inr h
  ·exact .inl (Ne.symm h4')
  ·exact .inl h2'
  ·exact hne
 ·have:mvS σ k k' j (i*sz+m)=σ j (i*sz+m):=by
   unfold mvS;rw[if_neg (λ e=>by rw[e,hk']at hj;cases hj),if_neg (λ e=>by rw[e,hk]at ho;cases ho)]
  rw[this];exact hσ.rep j L ob0 sz es hj ho hr i e m isz xs hi hm o1 v hb hv
theorem Xv (σ:Nat->Nat->Option Loc) (k k' c:Nat):mvS σ k k' k' c=σ k c:=by simp[mvS]
end Go.AI
end
section
namespace Go.AI
variable {P:Program} {Γ:Nat->Ty} {F:Nat->Option Obj} {ρ:Nat->Option Loc} {N:Nat->Prop} {H0 F0:Nat->Option Obj} {O objs:List (Option Ob)} {w:World}
theorem Yn (n:Nat):∀ (r c:Nat),c<=n+(n+768) / 4->Builtin.growBy n r c<=n+(n+768) / 4:=by
 intro r;induction r with
 | zero=>intro c h;exact h
 | succ r ih=>
  intro c h;unfold Builtin.growBy;split
  ·exact h
  ·exact ih _ (by omega)
theorem We {need cap:Nat} (h:cap<need):Builtin.nextslicecap need cap<=2*need+200:=by
 unfold Builtin.nextslicecap;split
 ·omega
 ·split
  ·omega
  ·have:=Yn need 4 cap (by omega);omega
theorem JF {sT xT elem:TypeId} {d':TypeDesc} {i:TypeInfo} {z:Value} {esz eb:Nat} (hd:P.underlying sT=some (.slice elem)) (hd':P.underlying xT=some d') (hd'n:(∃ e2,d'=.slice e2)\/d'=.string) (hi:P.info? elem=some i) (his:i.size=esz) (hib:i.bytes=eb) (hz:i.zero=some z)
  {base:Option Addr} {n cap m:Nat} {xv:Value} {ty:TypeId} {old new:Array Value} (hgrow:cap<n+m) (hb1:1<=eb) (hb2:eb<=1000000) (hsmall:(n+m)*eb<=70368744177664)
  (hlen:(Builtin.lenOf xv).run P w=.ok m w) (hold:∀ w',w'.heap=w.heap->(Builtin.firstCells esz n (.slice base n cap)).run P w'=.ok old w') (hnew:∀ w',w'.heap=w.heap->(Builtin.firstCells esz m xv).run P w'=.ok new w') :
  ∃ nc w',n+m<=nc/\(Builtin.append_ #[sT,xT] ty #[.slice base n cap,xv]).run P w=.ok (.slice (some ⟨w.heap.size,0,none⟩) (n+m) nc) w'/\w'.heap=w.heap.push (.cells (old++new++Builtin.zeroCells z.cells (nc-(n+m))) elem)/\Mu w w':=by
 let w1:World:={ w with drawn:=w.drawn+1 };have hmul:n+m<=(n+m)*eb:=Nat.le_mul_of_pos_right _ hb1;have hcap:¬ (Builtin.nextslicecap (n+m) cap*eb>2 ^ 48):=by
  have h1:=We hgrow;have h2:Builtin.nextslicecap (n+m) cap*eb<=(2*(n+m)+200)*eb:=JlI _ h1;have h3:(2*(n+m)+200)*eb=2*((n+m)*eb)+200*eb:=by rw[Jmc,Nat.mul_assoc]
  omega
 have hq:(Question.appendCap (n+m) cap elem).forced=false:=rfl;have hcut:(Question.appendCap (n+m) cap elem).cut (w.tape w.drawn (.appendCap (n+m) cap elem))=(n+m)+w.tape w.drawn (.appendCap (n+m) cap elem) % (2 ^ 63-(n+m)):=rfl;refine⟨(n+m)+w.tape w.drawn (.appendCap (n+m) cap elem) % (2 ^ 63-(n+m)),{ w1 with heap:=w.heap.push (.cells (old++new++Builtin.zeroCells z.cells ((n+m)+w.tape w.drawn (.appendCap (n+m) cap elem) % (2 ^ 63-(n+m))-(n+m))) elem) },by omega,?_,rfl,Mu.push rfl rfl rfl⟩;have hmax:¬ (((n+m:Nat):Int)>IntKind.i64.max/\(False\/eb=0)):=by rintro⟨_,h|h⟩;exact h;omega
 have hold':=hold w1 rfl;have hnew':=hnew w1 rfl;rcases hd'n with⟨e2,rfl⟩|rfl
 all_goals
  simp only[Builtin.append_,List.getElem?_toArray,JlW,List.getElem?_cons_succ,JlG,run_underlying hd,run_underlying hd',JlE,AY w hi,his,JlH,Jmb,if_false,hlen];rw[if_neg (by omega)];simp only[JlG,run_typeInfo w hi,JlE,hib];rw[if_neg hmax];simp only[JlG,run_typeInfo w hi,JlE,hib];rw[if_neg hcap];simp only[JlG,JlH,JlE,run_choose,hq,Jmb,if_false,hcut];show Result.andThen ((typeInfo elem).run P w1) _=_;simp only[run_typeInfo w1 hi,JlE,run_askRoom,hold',Bool.not_false,if_true,hnew',BH w1 hi hz,newRow,JlG,run_newObj,JlH];rfl
theorem DL {sT xT elem:TypeId} {d':TypeDesc} {i:TypeInfo} {esz:Nat} (hd:P.underlying sT=some (.slice elem)) (hd':P.underlying xT=some d') (hd'n:(∃ e2,d'=.slice e2)\/d'=.string) (hi:P.info? elem=some i) (his:i.size=esz)
  {base:Option Addr} {n cap m:Nat} {xv:Value} {ty:TypeId} {new:Array Value} (hfit:n+m<=cap) (hlen:(Builtin.lenOf xv).run P w=.ok m w) (hnew:(Builtin.firstCells esz m xv).run P w=.ok new w) :
  (Builtin.append_ #[sT,xT] ty #[.slice base n cap,xv]).run P w=match base with
   | some a=>((storeCells (a.add (n*esz)) new.toList).run P w).andThen λ _ w'=>.ok (.slice base (n+m) cap) w'
   | none=>.ok (.slice base (n+m) cap) w:=by
 rcases hd'n with⟨e2,rfl⟩|rfl
 all_goals
  simp only[Builtin.append_,List.getElem?_toArray,JlW,List.getElem?_cons_succ,JlG,run_underlying hd,run_underlying hd',JlE,AY w hi,his,JlH,Jmb,if_false,hlen];rw[if_pos hfit];cases base with
  | none=>simp only[Bool.not_false,if_true,JlG,hnew,JlE,JlH]
  | some a=>simp only[Bool.not_false,if_true,JlG,hnew,JlE,JlH]
theorem ER.append {esz:Nat} {es ys:List (List D)} {cs ds:Array Value} {rest:Array Value} (h:ER F esz es cs 0) (hs:cs.size=es.length*esz) (h':ER F esz ys ds 0) (hs':ds.size=ys.length*esz):ER F esz (es++ys) (cs++ds++rest) 0:=by
 refine⟨λ e he=>?_,by simp[Jmc];omega,λ i e hi j x hx=>?_⟩
 ·rcases List.mem_append.1 he with he|he
  ·exact h.1 e he
  ·exact h'.1 e he
 ·rw[List.getElem?_append]at hi;by_cases hil:i<es.length
  ·rw[if_pos hil]at hi;obtain⟨v,hv,hd⟩:=h.2.2 i e hi j x hx;refine⟨v,?_,hd⟩;have:=Av hv;rw[Array.append_assoc,Array.getElem?_append_left this];exact hv
  ·rw[if_neg hil]at hi;obtain⟨v,hv,hd⟩:=h'.2.2 _ e hi j x hx;refine⟨v,?_,hd⟩;have hlt:=Av hv;have e1:i*esz=es.length*esz+(i-es.length)*esz:=by rw[← Jmc];congr 1;omega
   rw[Array.getElem?_append_left (by simp;omega),Array.getElem?_append_right (by omega),← hv];congr 1;omega
theorem ER.put {esz:Nat} {es ys:List (List D)} {cs ds:Array Value} {o:Nat} (h:ER F esz es cs o) (h':ER F esz ys ds 0) (hs':ds.size=ys.length*esz) (hr:o+(es.length+ys.length)*esz<=cs.size) :
  ER F esz (es++ys) (BX cs (o+es.length*esz) ds.toList) o:=by
 rw[Jmc]at hr;have hput:∀ n,(BX cs (o+es.length*esz) ds.toList)[n]?=if o+es.length*esz<=n/\n<o+es.length*esz+ys.length*esz then ds[n-(o+es.length*esz)]? else cs[n]? := λ n=>by
  have:=F3 ds.toList (o+es.length*esz) cs n (by simp[hs'];omega);rw[this];simp[hs']
 refine⟨λ e he=>?_,by rw[BF];simp[Jmc];omega,λ i e hi j x hx=>?_⟩
 ·rcases List.mem_append.1 he with he|he
  ·exact h.1 e he
  ·exact h'.1 e he
 ·rw[hput];rw[List.getElem?_append]at hi;have hjl:=Af hx;by_cases hil:i<es.length
  ·rw[if_pos hil]at hi;rw[h.1 e (Jl1 hi)]at hjl;obtain⟨v,hv,hd⟩:=h.2.2 i e hi j x hx;refine⟨v,?_,hd⟩;have:(i+1)*esz<=es.length*esz:=JlI _ hil;rw[Jmc,Nat.one_mul]at this;rw[if_neg (by omega)];exact hv
  ·rw[if_neg hil]at hi;rw[h'.1 e (Jl1 hi)]at hjl;obtain⟨v,hv,hd⟩:=h'.2.2 _ e hi j x hx;refine⟨v,?_,hd⟩;have e1:i*esz=es.length*esz+(i-es.length)*esz:=by rw[← Jmc];congr 1;omega
   have hil':=Af hi;have:((i-es.length)+1)*esz<=ys.length*esz:=JlI _ hil';rw[Jmc,Nat.one_mul]at this;rw[if_pos (by omega),← hv];congr 1;omega
theorem UD (hS:Sim N H0 F0 F ρ O w.heap) {n0:Nat} {O':List (Option Ob)} (hfresh:ρ n0=none) (hl:O.length<=O'.length) (hdom:n0<O'.length) {sT xT elem ty:TypeId} {d':TypeDesc} {i:TypeInfo} {z:Value} {esz eb:Nat} (hd:P.underlying sT=some (.slice elem)) (hd':P.underlying xT=some d') (hd'n:(∃ e2,d'=.slice e2)\/d'=.string) (hi:P.info? elem=some i) (his:i.size=esz) (hib:i.bytes=eb) (hz:i.zero=some z) (hzs:z.cells.size=esz)
  (hc1:1<=esz) (hc2:1<=eb) (hc3:eb<=1000000) {k n:Nat} {es:List (List AV)} {ys:List (List D)} {sv xv:Value} {new:Array Value} (hobk:obA O k=some (.narr esz es)) (hkn:k≠n0) (hO':∀ j ob,j≠n0->obA O' j=some ob->obA O j=some ob/\j≠k) (hnew:obA O' n0=some (.narr esz (es.take n++ys.map λ e=>e.map toN))) (hsr:Ak F ρ (.osl k esz 0 n) sv) (hn:n<=es.length) (hsm:(n+ys.length)*eb<=70368744177664)
  (hrun:∀ w':World,w'.heap=w.heap->(Builtin.lenOf xv).run P w'=.ok ys.length w'/\(Builtin.firstCells esz ys.length xv).run P w'=.ok new w') (hern:ER F esz ys new 0) (hnews:new.size=ys.length*esz) :
  ∃ v w' ρ',(Builtin.append_ #[sT,xT] ty #[sv,xv]).run P w=.ok v w'/\Sim N H0 F0 F ρ' O' w'.heap/\RLe ρ ρ'/\(∀ j,j≠n0->ρ' j=ρ j)/\Ak F ρ' (.osl n0 esz 0 (n+ys.length)) v/\Mu w w':=by
 obtain⟨σ,hσ⟩:=hS.inn;have hkO:obA O' k=none:=by
  cases ho:obA O' k with
  | none=>rfl
  | some ob=>exact absurd rfl (hO' k ob hkn ho).2
 have hne0:∀ j L,ρ j=some L->j≠n0:=λ j L hj e=>by rw[e,hfresh]at hj;cases hj
 have hS1:Sim N H0 F0 F ρ O' w.heap:=hS.table hl λ j L ob hj ho=>(hO' j ob (hne0 j L hj) ho).1;have hσ1:Inn N F ρ O' w.heap σ:=⟨hσ.new,λ a c M j L ob hM hj ho=>hσ.obj a c M j L ob hM hj (hO' j ob (hne0 j L hj) ho).1,hσ.sep,λ j L ob0 sz es' hj ho=>hσ.rep j L ob0 sz es' hj (hO' j _ (hne0 j L hj) ho).1⟩;have hσ2:Inn N F ρ O' w.heap (mvS σ k n0):=hσ1.move hkO hfresh;have hlen:(es.take n).length=n:=by simp;omega
 have grow:∀ (base:Option Addr) (cap:Nat) (old:Array Value),sv=.slice base n cap->cap<n+ys.length ->
   (∀ w',w'.heap=w.heap->(Builtin.firstCells esz n (.slice base n cap)).run P w'=.ok old w')->GR (λ c=>PK F ρ w.heap (σ k c)) esz (es.take n) old 0->old.size=n*esz ->
   ∃ v w' ρ',(Builtin.append_ #[sT,xT] ty #[sv,xv]).run P w=.ok v w'/\Sim N H0 F0 F ρ' O' w'.heap/\RLe ρ ρ'/\(∀ j,j≠n0->ρ' j=ρ j)/\Ak F ρ' (.osl n0 esz 0 (n+ys.length)) v/\Mu w w':=by
  intro base cap old hsv hg hold hero holds;obtain⟨nc,w',hnc,hr,hw',hmu⟩:=JF (P:=P) (w:=w) (ty:=ty) hd hd' hd'n hi his hib hz hg hc2 hc3 hsm (hrun w rfl).1 hold (λ w' hw'=>(hrun w' hw').2);have hcs:=GR.append (R':=λ c=>PK F ρ w.heap (σ k (n*esz+c))) (rest:=Builtin.zeroCells z.cells (nc-(n+ys.length))) hero (by rw[hlen];exact holds) (hern.toN) (by simpa using hnews) (λ c a v h=>by rw[hlen];exact h);generalize hcc:old++new++Builtin.zeroCells z.cells (nc-(n+ys.length))=cc at hcs hw';have hccs:cc.size=nc*esz:=by
   rw[← hcc];simp only[Array.size_append,holds,hnews,Builtin.zeroCells,Array.size_map,Array.size_range,hzs];rw[← Jmc,← Jmc];congr 1;omega
  refine⟨.slice (some ⟨w.heap.size,0,none⟩) (n+ys.length) nc,w',upR ρ n0 ⟨w.heap.size,0,cc.size⟩,by rw[hsv];exact hr,?_,Dp hfresh,λ j hj=>Bj hj,?_,hmu⟩
  ·rw[hw'];refine hS1.push' hfresh hnew rfl ?_ ⟨_,hσ2.push hS1 hfresh rfl λ ob0 sz' es' ho hr0 i e j isz xs hie hje o1 v hb hv=>?_⟩
   ·refine⟨hcs.1,by simpa using hcs.2.1,cc,elem,(0,0),by simp,rfl,PJ _,λ i e hie j a hja=>?_⟩;obtain⟨v,hv,hcell⟩:=hcs.2.2 i e hie j a hja;exact⟨v,hv,λ ho=>(hcell.1 ho).mono (FLe.refl _) (Dp hfresh)⟩
   ·rw[hnew]at ho;cases ho;cases hr0;simp only at hb;rw[Array.getElem?_push_size]at hb;cases hb;obtain⟨v',hv',hcell⟩:=hcs.2.2 i e hie j _ hje;simp only[E8]at hv;rw[hv']at hv;cases hv;rw[Xv];exact(hcell.2 isz xs rfl).mono (FLe.refl _) λ M hM=>Cy (hσ.new _ _ _ hM).2.1
  ·have:=Ak.osl (F:=F) (ρ:=upR ρ n0 ⟨w.heap.size,0,cc.size⟩) n0 esz 0 (n+ys.length) nc ⟨w.heap.size,0,cc.size⟩ (AP _ _ _) hnc (by simp[hccs]) hc1;simpa using this
 cases sv with
 | slice base nn cap=>
  cases hsr with
  | osl _ _ _ _ cap L hL hcap hroom hz1=>
   obtain⟨⟨g1,g2,cs,t0,fr,g3,g4,g5,g6⟩,gN,gF⟩:=hS.obj k L _ hL hobk;have hin:L.base+n*esz<=cs.size:=by
    have:n*esz<=es.length*esz:=JlI _ hn;omega
   have her:GR (λ c=>PK F ρ w.heap (σ k c)) esz (es.take n) cs L.base:=by
    refine⟨λ e he=>g1 e (List.mem_of_mem_take he),by rw[hlen];exact hin,λ i e hie j a hja=>?_⟩;have hil:=Af hie;rw[hlen]at hil;rw[Jmj hil]at hie;obtain⟨v,hv,hd⟩:=g6 i e hie j a hja;exact⟨v,hv,hd,λ isz xs ha=>by subst ha;exact hσ.narr k L esz es hL hobk i e j isz xs hie hja cs t0 fr v g3 hv⟩
   simp only[Nat.zero_mul,Nat.add_zero]at *;by_cases hfit:n+ys.length<=cap
   ·have hr:=DL (P:=P) (w:=w) (ty:=ty) (base:=some ⟨L.b,L.base,none⟩) hd hd' hd'n hi his hfit (hrun w rfl).1 (hrun w rfl).2;have hspace:L.base+(n+ys.length)*esz<=cs.size:=by
     have:(n+ys.length)*esz<=(0+cap)*esz:=JlI _ (by omega);omega
    have hst:=CI P L.b (L.base+n*esz) t0 fr new.toList 0 cs w g3 (by simp[hnews];rw[Jmc]at hspace;omega) (by rw[g4];exact g5) (hern.ones hnews);simp only[BP,hst,JlE,Nat.add_zero]at hr;have hput:=GR.put (R':=λ c=>PK F ρ w.heap (σ k (n*esz+c))) her (hern.toN) (by simpa using hnews) (by rw[hlen,JlU];exact hspace) (λ c a v h=>by rw[hlen];exact h);rw[hlen]at hput;have hLb:=hS.loc k L hL;refine⟨.slice (some ⟨L.b,L.base,none⟩) (n+ys.length) cap,{ w with heap:=w.heap.setIfInBounds L.b (.cells (BX cs (L.base+n*esz) new.toList) t0 fr) },upR ρ n0 ⟨L.b,L.base,L.size⟩,hr,?_,Dp hfresh,λ j hj=>Bj hj,?_,Mu.set g3⟩
    ·have hne:∀ M c,σ k c=some M->(w.heap.setIfInBounds L.b (.cells (BX cs (L.base+n*esz) new.toList) t0 fr))[M.b]?=w.heap[M.b]? := λ M c hM=>by
      rw[Cj,if_neg];intro hh;exact hσ.obj k c M k L _ hM hL hobk hh.1
     refine hS.rewrite' (k':=n0) (L':=⟨L.b,L.base,L.size⟩) (O':=O') hL hobk (Dp hfresh) rfl (λ j ob' hj ho=>hO' j ob' hj ho) hl hdom (λ ob' ho=>?_) ⟨mvS σ k n0,?_⟩
     ·rw[hnew]at ho;cases ho;refine⟨hput.1,by have:=hput.2.1;rw[BF,g4]at this;exact this,_,t0,fr,by rw[Cj,if_pos ⟨rfl,hLb⟩],by rw[BF];exact g4,g5,λ i e hie j a hja=>?_⟩;obtain⟨v,hv,hcell⟩:=hput.2.2 i e hie j a hja;exact⟨v,hv,λ ho=>(hcell.1 ho).mono (FLe.refl _) (Dp hfresh)⟩
     ·refine⟨λ j c M hM=>?_,λ j c M j' L1 ob1 hM hj' ho'=>?_,hσ2.sep,λ j L1 ob0 sz' es' hj ho hr0 i e m isz xs hie hme o1 v hb hv=>?_⟩
      ·obtain⟨q1,q2,q3⟩:=hσ2.new j c M hM;exact⟨q1,by simpa using q2,q3⟩
      ·have hgen:∃ j0,σ j0 c=some M:=by
        unfold mvS at hM;split at hM
        ·exact⟨_,hM⟩
        ·split at hM
         ·cases hM
         ·exact⟨_,hM⟩
       obtain⟨j0,hj0⟩:=hgen;by_cases e:j'=n0
       ·subst e;rw[AP]at hj';cases hj';exact hσ.obj j0 c M k L _ hj0 hL hobk
       ·rw[Bj e]at hj';exact hσ.obj j0 c M j' L1 ob1 hj0 hj' (hO' j' ob1 e ho').1
      ·by_cases e':j=n0
       ·subst e';rw[AP]at hj;cases hj;rw[hnew]at ho;cases ho;cases hr0;simp only at hb;rw[Cj,if_pos ⟨rfl,hLb⟩]at hb;cases hb;obtain⟨v',hv',hcell⟩:=hput.2.2 i e hie m _ hme;simp only[E8]at hv;rw[hv']at hv;cases hv;rw[Xv];exact(hcell.2 isz xs rfl).mono (FLe.refl _) λ M hM=>hne M _ hM
       ·rw[Bj e']at hj;obtain⟨ho1,hjk⟩:=hO' j _ e' ho;have hbl:L1.b≠L.b:=hS.sep j k L1 L _ _ hj hL ho1 hobk hjk;rw[Cj,if_neg (λ hh=>hbl hh.1.symm)]at hb;have hmv:mvS σ k n0 j (i*sz'+m)=σ j (i*sz'+m):=by
         unfold mvS;rw[if_neg e',if_neg hjk]
        rw[hmv];refine(hσ.rep j L1 ob0 sz' es' hj ho1 hr0 i e m isz xs hie hme o1 v hb hv).mono (FLe.refl _) λ M hM=>?_;rw[Cj,if_neg];intro hh;exact hσ.obj j _ M k L _ hM hL hobk hh.1
    ·have:=Ak.osl (F:=F) (ρ:=upR ρ n0 ⟨L.b,L.base,L.size⟩) n0 esz 0 (n+ys.length) cap ⟨L.b,L.base,L.size⟩ (AP _ _ _) hfit (by simpa using hroom) hc1;simpa using this
   ·refine grow (some ⟨L.b,L.base,none⟩) cap (cs.extract L.base (L.base+n*esz)) rfl (by omega) (λ w' hw'=>?_) ?_ (by simp;omega)
    ·simp only[Builtin.firstCells];exact D3 (by rw[hw'];exact g3) hin
    ·have:=her.extract;rw[hlen]at this;exact this
  | osl0 _ _ _ a=>
   simp only[Jmd]at *;by_cases hm:ys=[]
   ·subst hm;have hn0:new.toList=[]:=by
     have h0:new.size=0:=by simpa using hnews
     exact List.eq_nil_of_length_eq_zero (by simpa using h0)
    have hr:=DL (P:=P) (w:=w) (ty:=ty) (base:=base) (n:=0) (cap:=0) hd hd' hd'n hi his (by simp) (hrun w rfl).1 (hrun w rfl).2;refine⟨.slice base 0 0,w,ρ,?_,hS1,RLe.refl _,λ _ _=>rfl,.osl0 _ _ _ _,Mu.refl _⟩;rw[hr];cases base with
    | none=>rfl
    | some a=>simp[hn0,storeCells]
   ·have hpos:0<ys.length:=List.length_pos_iff.2 hm;refine grow base 0 #[] rfl (by omega) (λ w' _=>?_) ⟨by simp,by simp,λ i e hie=>by simp at hie⟩ (by simp);cases base with
    | none=>rfl
    | some a=>simp[Builtin.firstCells,loadCells,loadCellsFrom]
 | _=>cases hsr
theorem PL {o:Oper} {ev:Operand->AV} {e:Eff} {args:Array Operand} {ts:Array TypeId} (hop:o.op=.call ⟨.builtin .append,args,ts⟩) (h:opA Γ ev objs o.op=some e):∃ ob,e.obs=[ob]:=by
 rw[hop]at h;simp only[opA]at h;have key:∀ {esz eb:Nat} {s:AV} {ys:List (List D)} {ob:Prop} {b:Bool},(bif b then Ct esz eb objs s ys ob else none)=some e->∃ ob,e.obs=[ob]:=by
  intro esz eb s ys ob b h;cases b with
  | false=>cases h
  | true=>
   rw[cond_true]at h;unfold Ct at h;split at h
   ·cases h;exact⟨_,rfl⟩
   ·split at h
    ·rename_i sz' es _;generalize (Nat.beq _ sz'&&(Nat.beq _ esz||Nat.beq _ 0))=b at h;cases b with
     | false=>cases h
     | true=>cases h;exact⟨_,rfl⟩
    ·rename_i sz' es _;generalize (Nat.beq _ sz'&&Nat.beq _ esz&&Nat.beq _ 0)=b at h;cases b with
     | false=>cases h
     | true=>cases h;exact⟨_,rfl⟩
    ·cases h
   ·cases h
 split at h
 ·rename_i s x t t' hargs hts;generalize ((Γ t).ok&&(Γ t').ok)=b at h;cases b with
  | false=>cases h
  | true=>
   rw[cond_true]at h;split at h
   ·exact key h
   ·exact key h
   ·cases h
 ·cases h
theorem PM (hΓ:I0 P Γ) (hS:Sim N H0 F0 F ρ O w.heap) (hO:∀ k ob,obA objs k=some ob->obA O k=some ob) {O':List (Option Ob)} (hfresh:ρ objs.length=none) (hl:O.length<=O'.length) (hdom:objs.length<O'.length) (o:Oper) {ev:Operand->AV} {ρv:Operand->Value} {e:Eff} {args:Array Operand} {ts:Array TypeId}
  (hO':∀ j ob,j≠objs.length->obA O' j=some ob->obA O j=some ob/\j ∉ e.rm) (hnew:∀ ob,e.obs=[ob]->obA O' objs.length=some ob)
  (hop:o.op=.call ⟨.builtin .append,args,ts⟩) (h:opA Γ ev objs o.op=some e) (hob:e.ob) (hev:∀ x∈o.op.operands.toList,Ak F ρ (ev x) (ρv x)) :
  e.upd=none/\∃ v w' ρ',(execOp ρv o).run P w=.ok (.value v) w'/\Sim N H0 F0 F ρ' O' w'.heap/\RLe ρ ρ'/\(∀ j,j≠objs.length->ρ' j=ρ j)/\Ak F ρ' e.v v/\Mu w w':=by
 rw[hop]at h hev;simp only[opA]at h;split at h
 ·rename_i s x t t' hargs hts;have ha:args=#[s,x]:=by rw[← Array.toArray_toList (xs:=args),hargs]
  have ht:ts=#[t,t']:=by rw[← Array.toArray_toList (xs:=ts),hts]
  subst ha;subst ht;cases hok:(Γ t).ok&&(Γ t').ok with
  | false=>rw[hok]at h;cases h
  | true=>
   rw[hok,cond_true]at h;simp only[Jl0]at hok;obtain⟨d,hd,_,hk⟩:=(hΓ t hok.1).desc;obtain⟨d',hd',_,hk'⟩:=(hΓ t' hok.2).desc;have hsr:=hev s (by simp[Op.operands,Call.operands]);have hxr:=hev x (by simp[Op.operands,Call.operands]);have hexec:∀ r,(Builtin.append_ #[t,t'] o.type #[ρv s,ρv x]).run P w=r->(execOp ρv o).run P w=r.andThen λ v w'=>.ok (.value v) w':=by
    intro r hr;simp only[execOp,hop,resolve,invoke,builtin,JlG,JlH,JlE,List.map_toArray,JlV,List.map_nil,hr]
   have main:∀ (esz eb:Nat) (ez:List D) (ys:List (List D)) (ob:Prop),(Γ t).kind=.slice esz eb ez->((∃ e2,d'=.slice e2)\/d'=.string)->FY objs (ev x)=some (ys,ob) ->
     (bif decide (1<=esz)&&decide (1<=eb)&&decide (eb<=1000000)then Ct esz eb objs (ev s) ys ob else none)=some e ->
     e.upd=none/\∃ v w' ρ',(execOp ρv o).run P w=.ok (.value v) w'/\Sim N H0 F0 F ρ' O' w'.heap/\RLe ρ ρ'/\(∀ j,j≠objs.length->ρ' j=ρ j)/\Ak F ρ' e.v v/\Mu w w':=by
    intro esz eb ez ys ob hkind hd'n hel h;rw[hkind]at hk;obtain⟨elem,i,z,rfl,h1,h2,h3,h4,h5,h6,h7⟩:=hk;cases hc:(decide (1<=esz)&&decide (1<=eb)&&decide (eb<=1000000))with
    | false=>rw[hc]at h;cases h
    | true=>
     rw[hc,cond_true]at h;simp only[Jl0,decide_eq_true_eq]at hc;obtain⟨⟨hc1,hc2⟩,hc3⟩:=hc;have hne0:∀ j L,ρ j=some L->j≠objs.length:=λ j L hj e=>by rw[e,hfresh]at hj;cases hj
     have hS1:Sim N H0 F0 F ρ O' w.heap:=hS.table hl λ j L ob hj ho=>(hO' j ob (hne0 j L hj) ho).1;have grow:∀ (es0:List (List D)) (base:Option Addr) (cap:Nat) (old:Array Value),obA O' objs.length=some (.arr esz (es0++ys))->ρv s=.slice base es0.length cap->cap<es0.length+ys.length->(es0.length+ys.length)*eb<=70368744177664->ob->(∀ e∈ys,e.length=esz) ->
       (∀ w',w'.heap=w.heap->(Builtin.firstCells esz es0.length (.slice base es0.length cap)).run P w'=.ok old w')->ER F esz es0 old 0->old.size=es0.length*esz ->
       ∃ v w' ρ',(execOp ρv o).run P w=.ok (.value v) w'/\Sim N H0 F0 F ρ' O' w'.heap/\RLe ρ ρ'/\(∀ j,j≠objs.length->ρ' j=ρ j)/\Ak F ρ' (.osl objs.length esz 0 (es0.length+ys.length)) v/\Mu w w':=by
      intro es0 base cap old hnew1 hsv hg hsm hob hys hold hero holds;obtain⟨new,hrun,hern,hnews⟩:=F4 (P:=P) hc1 hS hO hel hob hxr hys;obtain⟨nc,w',hnc,hr,hw',hmu⟩:=JF (P:=P) (w:=w) (ty:=o.type) hd hd' hd'n h1 h2 h3 h4 hg hc2 hc3 hsm (hrun w rfl).1 hold (λ w' hw'=>(hrun w' hw').2);have hcs:=ER.append (rest:=Builtin.zeroCells z.cells (nc-(es0.length+ys.length))) hero holds hern hnews;have hz:z.cells.size=esz:=by have:=congrArg List.length h5;simp at this;omega
      refine⟨.slice (some ⟨w.heap.size,0,none⟩) (es0.length+ys.length) nc,w',upR ρ objs.length ⟨w.heap.size,0,(old++new++Builtin.zeroCells z.cells (nc-(es0.length+ys.length))).size⟩,?_,?_,Dp hfresh,λ j hj=>Bj hj,?_,hmu⟩
      ·rw[hsv]at hexec;rw[hexec _ hr];rfl
      ·rw[hw'];exact Sim.push hS1 hfresh hnew1 rfl (Po hcs (PJ _)) rfl
      ·have:=Ak.osl (F:=F) (ρ:=upR ρ objs.length ⟨w.heap.size,0,(old++new++Builtin.zeroCells z.cells (nc-(es0.length+ys.length))).size⟩) objs.length esz 0 (es0.length+ys.length) nc ⟨w.heap.size,0,_⟩ (AP _ _ _) hnc (by
        simp only[Jmd,Array.size_append,holds,hnews,Builtin.zeroCells,Array.size_map,Array.size_range,hz];rw[← Jmc,← Jmc];exact Nat.le_of_eq (by congr 1;omega)) hc1
       simpa using this
     have hlen0:ob->(∀ e∈ys,e.length=esz)->(Builtin.lenOf (ρv x)).run P w=.ok ys.length w:=λ hob hys=>by
      obtain⟨new,hrun,_⟩:=F4 (P:=P) hc1 hS hO hel hob hxr hys;exact(hrun w rfl).1
     unfold Ct at h;split at h
     ·
      rename_i hsn;cases h;obtain⟨hys,hsm,hobx⟩:=hob;rw[hsn]at hsr;refine⟨rfl,?_⟩;by_cases hm:ys=[]
      ·subst hm;obtain⟨new,hrun,hern,hnews⟩:=F4 (P:=P) hc1 hS hO hel hobx hxr hys;have hr:=DL (P:=P) (w:=w) (ty:=o.type) (base:=none) (n:=0) (cap:=0) hd hd' hd'n h1 h2 (by simp) (hrun w rfl).1 (hrun w rfl).2;refine⟨.slice none 0 0,w,ρ,?_,hS1,RLe.refl _,λ _ _=>rfl,.osl0 _ _ _ _,Mu.refl _⟩;rw[hsr.nil]at hexec;rw[hexec _ hr];rfl
      ·have hpos:0<ys.length:=List.length_pos_iff.2 hm;have:=grow [] none 0 #[] (by simpa using hnew _ rfl) hsr.nil (by simpa using hpos) (by simpa using hsm) hobx hys (λ _ _=>rfl) (ER.empty _) (by simp);simpa using this
     ·rename_i k sz lo n hsn;rw[hsn]at hsr;split at h
      ·rename_i sz' es hobk;cases hb:Nat.beq sz sz'&&(Nat.beq sz esz||Nat.beq sz 0)with
       | false=>rw[hb]at h;cases h
       | true=>
        rw[hb,cond_true]at h;simp only[Jl0,Jmi]at hb;obtain⟨hb1,hb2⟩:=hb;have hb1:=Jl6 hb1;subst hb1;cases h;obtain⟨hlo,hys,hsm,hobx⟩:=hob;refine⟨rfl,?_⟩;have hlen:((es.drop lo).take n).length=n:=by simp;omega
        cases hsv:ρv s with
        | slice base nn cap=>
         rw[hsv]at hsr;cases hsr with
         | osl _ _ _ _ cap L hL hcap hroom hz1=>
          have hse:sz=esz:=by
           rcases hb2 with h|h
           ·exact Jl6 h
           ·have:=Jl6 h;omega
          subst hse;obtain⟨⟨g1,g2,cs,t0,fr,g3,g4,g5,g6⟩,gN,gF⟩:=hS.obj k L _ hL (hO _ _ hobk);have hin:L.base+lo*sz+n*sz<=cs.size:=by
           have:(lo+n)*sz<=es.length*sz:=JlI _ hlo;rw[Jmc]at this;omega
          have her:ER F sz ((es.drop lo).take n) cs (L.base+lo*sz):=by
           refine⟨λ e he=>g1 e (List.mem_of_mem_drop (List.mem_of_mem_take he)),by rw[hlen];exact hin,λ i e hi j x hx=>?_⟩;have hil:=Af hi;rw[hlen]at hil;rw[Jmj hil,JlS]at hi;obtain⟨v,hv,hd⟩:=g6 _ e hi j x hx;exact⟨v,by rw[← hv,Jmc];congr 1;omega,hd⟩
          by_cases hfit:n+ys.length<=cap
          ·
           obtain⟨new,hrun,hern,hnews⟩:=F4 (P:=P) hc1 hS hO hel hobx hxr hys;have hr:=DL (P:=P) (w:=w) (ty:=o.type) (base:=some ⟨L.b,L.base+lo*sz,none⟩) hd hd' hd'n h1 h2 hfit (hrun w rfl).1 (hrun w rfl).2;have hspace:L.base+lo*sz+(n+ys.length)*sz<=cs.size:=by
            have:(lo+(n+ys.length))*sz<=(lo+cap)*sz:=JlI _ (by omega);rw[Jmc]at this;omega
           have hst:=CI P L.b (L.base+lo*sz+n*sz) t0 fr new.toList 0 cs w g3 (by simp[hnews];rw[Jmc]at hspace;omega) (by rw[g4];exact g5) (hern.ones hnews);simp only[BP,hst,JlE,Nat.add_zero]at hr;refine⟨.slice (some ⟨L.b,L.base+lo*sz,none⟩) (n+ys.length) cap,{ w with heap:=w.heap.setIfInBounds L.b (.cells (BX cs (L.base+lo*sz+n*sz) new.toList) t0 fr) },upR ρ objs.length ⟨L.b,L.base+lo*sz,L.size⟩,?_,?_,Dp hfresh,λ j hj=>Bj hj,?_,Mu.set g3⟩
           ·rw[hsv]at hexec;rw[hexec _ hr];rfl
           ·refine hS.rewrite (k':=objs.length) (L':=⟨L.b,L.base+lo*sz,L.size⟩) hL (hO _ _ hobk) (Dp hfresh) rfl (λ j ob' hj ho=>⟨(hO' j ob' hj ho).1,λ e=>(hO' j ob' hj ho).2 (by simp[e])⟩) hl hdom ?_ (λ ob' ho=>by
             rw[hnew _ rfl]at ho;cases ho;rfl)
            ·intro ob' ho;rw[hnew _ rfl]at ho;cases ho;have hput:=ER.put (cs:=cs) her hern hnews (by rw[hlen];exact hspace);rw[hlen]at hput;have hLb:=hS.loc k L hL;refine⟨hput.1,by have:=hput.2.1;rw[BF,g4]at this;exact this,_,t0,fr,by rw[Cj,if_pos ⟨rfl,hLb⟩],by rw[BF];exact g4,g5,hput.2.2⟩
           ·have:=Ak.osl (F:=F) (ρ:=upR ρ objs.length ⟨L.b,L.base+lo*sz,L.size⟩) objs.length sz 0 (n+ys.length) cap ⟨L.b,L.base+lo*sz,L.size⟩ (AP _ _ _) hfit (by
             simp only[Jmd];rw[Jmc]at hroom;omega) hc1
            simpa using this
          ·
           have hload:∀ w':World,w'.heap=w.heap->(Builtin.firstCells sz n (.slice (some ⟨L.b,L.base+lo*sz,none⟩) n cap)).run P w'=.ok (cs.extract (L.base+lo*sz) (L.base+lo*sz+n*sz)) w':=λ w' hw'=>by
            simp only[Builtin.firstCells];exact D3 (by rw[hw'];exact g3) hin
           have hex:=her.extract;rw[hlen]at hex;have:=grow ((es.drop lo).take n) (some ⟨L.b,L.base+lo*sz,none⟩) cap (cs.extract (L.base+lo*sz) (L.base+lo*sz+n*sz)) (hnew _ rfl) (by rw[hlen];exact hsv) (by rw[hlen];omega) (by rw[hlen];exact hsm) hobx hys (by rw[hlen];exact hload) hex (by rw[hlen];simp;omega);rw[hlen]at this;simpa using this
         | osl0 _ _ _ a=>
          simp only[Jmd];by_cases hm:ys=[]
          ·subst hm;obtain⟨new,hrun,hern,hnews⟩:=F4 (P:=P) hc1 hS hO hel hobx hxr hys;have hn0:new.toList=[]:=by
            have h0:new.size=0:=by simpa using hnews
            exact List.eq_nil_of_length_eq_zero (by simpa using h0)
           have hr:=DL (P:=P) (w:=w) (ty:=o.type) (base:=base) (n:=0) (cap:=0) hd hd' hd'n h1 h2 (by simp) (hrun w rfl).1 (hrun w rfl).2;have hr':(Builtin.append_ #[t,t'] o.type #[.slice base 0 0,ρv x]).run P w=.ok (.slice base 0 0) w:=by
            rw[hr];cases base with
            | none=>rfl
            | some a=>simp[hn0,storeCells]
           refine⟨.slice base 0 0,w,ρ,?_,hS1,RLe.refl _,λ _ _=>rfl,.osl0 _ _ _ _,Mu.refl _⟩;rw[hsv]at hexec;rw[hexec _ hr'];rfl
          ·have hpos:0<ys.length:=List.length_pos_iff.2 hm;have:=grow [] base 0 #[] (by simpa using hnew _ rfl) hsv (by simpa using hpos) (by simpa using hsm) hobx hys (λ w' _=>by
            cases base with
            | none=>rfl
            | some a=>simp[Builtin.firstCells,loadCells,loadCellsFrom]) (ER.empty _) (by simp)
           simpa using this
        | _=>rw[hsv]at hsr;cases hsr
      ·rename_i sz' es hobk;cases hb:Nat.beq sz sz'&&Nat.beq sz esz&&Nat.beq lo 0 with
       | false=>rw[hb]at h;cases h
       | true=>
        rw[hb,cond_true]at h;simp only[Jl0]at hb;obtain⟨⟨hb1,hb2⟩,hb3⟩:=hb;have hb1:=Jl6 hb1;have hb2:=Jl6 hb2;have hb3:=Jl6 hb3;subst hb1;subst hb2;subst hb3;cases h;obtain⟨hn,hys,hsm,hobx⟩:=hob;refine⟨rfl,?_⟩;obtain⟨new,hrun,hern,hnews⟩:=F4 (P:=P) hc1 hS hO hel hobx hxr hys;have hzs:z.cells.size=sz:=by have:=congrArg List.length h5;simp at this;omega
        obtain⟨v,w',ρ',hr,hs',hle,hke,hv⟩:=UD (P:=P) (ty:=o.type) hS hfresh hl hdom hd hd' hd'n h1 h2 h3 h4 hzs hc1 hc2 hc3 (hO _ _ hobk) (by have:=A6 hobk;omega) (λ j ob hj ho=>⟨(hO' j ob hj ho).1,λ e=>(hO' j ob hj ho).2 (by simp[e])⟩) (hnew _ rfl) hsr hn hsm hrun hern hnews;exact⟨v,w',ρ',by rw[hexec _ hr];rfl,hs',hle,hke,hv⟩
      ·cases h
     ·cases h
   split at h
   ·rename_i esz eb ez a b c ys ob hk1 hk2 hel;refine main esz eb ez ys ob hk1 ?_ hel h;rw[hk2]at hk';obtain⟨e2,i,z,rfl,_⟩:=hk';exact .inl ⟨e2,rfl⟩
   ·rename_i esz eb ez ys ob hk1 hk2 hel;refine main esz eb ez ys ob hk1 ?_ hel h;rw[hk2]at hk';exact .inr hk'
   ·cases h
 ·cases h
theorem S3 (hΓ:I0 P Γ) (hS:Sim N H0 F0 F ρ objs w.heap) (o:Oper) {ev:Operand->AV} {ρv:Operand->Value} {e:Eff} {args:Array Operand} {ts:Array TypeId}
  (hop:o.op=.call ⟨.builtin .append,args,ts⟩) (h:opA Γ ev objs o.op=some e) (hob:e.ob) (hev:∀ x∈o.op.operands.toList,Ak F ρ (ev x) (ρv x)) :
  e.upd=none/\∃ v w' ρ',(execOp ρv o).run P w=.ok (.value v) w'/\Sim N H0 F0 F ρ' (rmA objs e.rm++e.obs.map some) w'.heap/\RLe ρ ρ'/\Ak F ρ' e.v v/\Mu w w':=by
 have hfresh:ρ objs.length=none:=by
  cases hρ:ρ objs.length with
  | none=>rfl
  | some L=>have:=hS.dom _ _ hρ;omega
 have hone:∃ ob,e.obs=[ob]:=PL hop h;obtain⟨ob,hone⟩:=hone;obtain⟨h1,v,w',ρ',g1,g2,g3,_,g4,g5⟩:=PM hΓ hS (λ _ _ h=>h) (O':=rmA objs e.rm++e.obs.map some) hfresh (by simp[BL]) (by rw[hone];simp[BL]) o (λ j ob' hj ho=>by
  rw[AM,BL]at ho;by_cases hjl:j<objs.length
  ·rw[if_pos hjl,DW]at ho;split at ho
   ·cases ho
   ·rename_i hjk;exact⟨ho,hjk⟩
  ·rw[if_neg hjl]at ho;have:=A6 ho;rw[hone]at this;simp at this;omega) (λ ob' ho=>by rw[AM,BL,if_neg (by omega),ho];simp[obA]) hop h hob hev
 exact⟨h1,v,w',ρ',g1,g2,g3,g4,g5⟩
end Go.AI
end
section
namespace Go.AI
variable {P:Program} {Γ:Nat->Ty} {F:Nat->Option Obj} {ρ:Nat->Option Loc} {N:Nat->Prop} {H0 F0:Nat->Option Obj} {O objs:List (Option Ob)} {w:World}
theorem Kj (vs:List D):∀ (cells:List D) (o:Nat),(Gm cells o vs).length=cells.length:=by
 induction vs with
 | nil=>intro cells o;rfl
 | cons v vs ih=>intro cells o;simp[Gm,ih]
theorem UE (vs:List D):∀ (o:Nat) (cur:List D) (i:Nat),o+vs.length<=cur.length->(Gm cur o vs)[i]?=if o<=i/\i<o+vs.length then vs[i-o]? else cur[i]? := by
 induction vs with
 | nil=>intro o cur i _;simp[Gm];intro h h';omega
 | cons v vs ih=>
  intro o cur i h;simp only[List.length_cons]at h⊢;rw[Gm,ih (o+1) _ i (by simp;omega)];by_cases hi:i=o
  ·subst hi;rw[if_neg (by omega),if_pos (by omega)];simp[show i<cur.length by omega]
  ·by_cases hr:o<=i/\i<o+(vs.length+1)
   ·rw[if_pos (by omega),if_pos hr];rw[show i-o=(i-(o+1))+1 by omega];simp
   ·rw[if_neg (by omega),if_neg hr,Jmf (by omega)]
theorem CR.ones {l:List AV} {vs:List Value} (h:CR F ρ l vs) (hs:l.all CG=true):∀ v∈vs,v.oneCell'=true:=by
 intro v hv;obtain⟨n,hn⟩:=List.getElem?_of_mem hv;have hl:=Af hn;rw[← h.1]at hl;exact(Sf (h.2 n _ v (JlZ hl) hn) (JlJ.1 hs _ (JlL hl))).1
theorem UF (hΓ:I0 P Γ) (hS:Sim N H0 F0 F ρ objs w.heap) (o:Oper) {ev:Operand->AV} {ρv:Operand->Value} {e:Eff} {t:TypeId} {a v:Operand}
  (hop:o.op=.store t a v) (h:opA Γ ev objs o.op=some e) (hob:e.ob) (hev:∀ x∈o.op.operands.toList,Ak F ρ (ev x) (ρv x)) :
  e.obs=[]/\e.v=.top/\∃ w' F',(execOp ρv o).run P w=.ok .skip w'/\FLe F F'/\Sim N H0 F0 F' ρ (BG (rmA objs e.rm) e.upd) w'.heap/\Mu w w':=by
 rw[hop]at h hev;simp only[opA]at h;cases hok:(Γ t).ok with
 | false=>rw[hok]at h;cases h
 | true=>
  rw[hok,cond_true]at h;have har:=hev a (by simp[Op.operands]);have hvr:=hev v (by simp[Op.operands]);obtain⟨i,z,hi,his,_,_⟩:=(hΓ t hok).info;have hexec:∀ w',(Instr.storeAt t (ρv a) (ρv v)).run P w=.ok () w'->(execOp ρv o).run P w=.ok .skip w':=by
   intro w' hr;simp only[execOp,hop,JlG,hr,JlE,JlH]
  unfold EO at h;split at h
  ·rename_i k off hav;rw[hav]at har;split at h
   ·rename_i cells hobk;cases hc:(Bz (ev v)&&(Ar (ev v)).all CG)with
    | false=>rw[hc]at h;cases h
    | true=>
     rw[hc,cond_true]at h;simp only[Jl0]at hc;cases h;obtain⟨ho1,ho2⟩:=hob;refine⟨rfl,rfl,?_⟩;have hcr:=F5 hvr hc.1;cases hav':ρv a with
     | pointer p=>
      rw[hav']at har;cases har with
      | ptr _ _ L hL=>
       obtain⟨⟨g1,g2,cs,t0,fr,g3,g4,g5,g6⟩,gN,gF⟩:=hS.obj k L _ hL hobk;have hsz:(ρv v).cells.size=(Γ t).size:=by have:=hcr.1;simp at this;omega
       have hst:=CI P L.b (L.base+off) t0 fr (ρv v).cells.toList 0 cs w g3 (by simp[hsz];omega) (by rw[g4];exact g5) (hcr.ones hc.2);refine⟨{ w with heap:=w.heap.setIfInBounds L.b (.cells (BX cs (L.base+off+0) (ρv v).cells.toList) t0 fr) },F,hexec _ ?_,FLe.refl _,?_,Mu.set g3⟩
       ·rw[hav'];simp only[Instr.storeAt,Instr.sureAddr,JlG,JlH,JlE,storeVar,AY w hi,his];rw[if_neg (by omega)];exact hst
       ·have:=hS.rewrite (k':=k) (L':=L) (x:=.cells (BX cs (L.base+off+0) (ρv v).cells.toList) t0 fr) (O':=BG (rmA objs []) (some (k,.box (splice cells off (Ar (ev v)))))) hL hobk (by rw[BQ hL];exact RLe.refl _) rfl (λ j ob' hj ho=>by
          simp only[rmA,BG,BT]at ho;rw[if_neg (by intro hh;exact hj hh.1)]at ho;exact⟨ho,hj⟩) (by simp[rmA,BG]) (by simp[rmA,BG];exact A6 hobk) (λ ob' ho=>by
          simp only[rmA,BG,BT]at ho;rw[if_pos ⟨trivial,A6 hobk⟩]at ho;cases ho;rw[BQ hL,g1];have hcc:CR F ρ cells cs.toList:=⟨by simp;omega,λ i a v ha hv=>g6 i a v ha (by simpa using hv)⟩;have hsp:=hcc.splice (o:=off) hcr (by omega);refine⟨g1,by rw[Gn];exact g2,BX cs (0+off+0) (ρv v).cells.toList,t0,fr,by rw[Cj,if_pos ⟨rfl,hS.loc k L hL⟩],by rw[BF];exact g4,g5,λ i a v ha hv=>?_⟩;refine hsp.2 i a v ha ?_;simpa using hv) (λ ob' ho=>by
          simp only[rmA,BG,BT]at ho;rw[if_pos ⟨trivial,A6 hobk⟩]at ho;cases ho;rfl)
        rw[BQ hL]at this;exact this
     | _=>rw[hav']at har;cases har
   ·cases h
  ·rename_i k sz i0 off hav;rw[hav]at har;split at h
   ·rename_i sz' es hobk;cases hc:(Bz (ev v)&&(Ar (ev v)).all CG)with
    | false=>rw[hc]at h;cases h
    | true=>
     rw[hc,cond_true]at h;simp only[Jl0]at hc;cases h;obtain⟨hsz,ho1,ho2,ho3⟩:=hob;subst hsz;refine⟨rfl,rfl,?_⟩;have hcr:=F5 hvr hc.1;cases hav':ρv a with
     | pointer p=>
      rw[hav']at har;cases har with
      | eptr _ _ _ _ L hL=>
       obtain⟨⟨g1,g2,cs,t0,fr,g3,g4,g5,g6⟩,gN,gF⟩:=hS.obj k L _ hL hobk;obtain⟨σ,hσ⟩:=hS.inn;have hvsz:(ρv v).cells.size=(Γ t).size:=by have:=hcr.1;simp at this;omega
       have hrow:(i0+1)*sz<=es.length*sz:=JlI _ ho2;rw[Jmc,Nat.one_mul]at hrow;have hst:=CI P L.b (L.base+i0*sz+off) t0 fr (ρv v).cells.toList 0 cs w g3 (by simp[hvsz];omega) (by rw[g4];exact g5) (hcr.ones hc.2);refine⟨{ w with heap:=w.heap.setIfInBounds L.b (.cells (BX cs (L.base+i0*sz+off+0) (ρv v).cells.toList) t0 fr) },F,hexec _ ?_,FLe.refl _,?_,Mu.set g3⟩
       ·rw[hav'];simp only[Instr.storeAt,Instr.sureAddr,JlG,JlH,JlE,storeVar,AY w hi,his];rw[if_neg (by omega)];exact hst
       ·have hei:es[i0]?=some es[i0]:=JlZ ho2;have hel:(es[i0]).length=sz:=g1 _ (JlL ho2);have hput:∀ n,(BX cs (L.base+i0*sz+off+0) (ρv v).cells.toList)[n]?=if L.base+i0*sz+off<=n/\n<L.base+i0*sz+off+(Γ t).size then(ρv v).cells.toList[n-(L.base+i0*sz+off)]? else cs[n]? := λ n=>by
         have:=F3 (ρv v).cells.toList (L.base+i0*sz+off+0) cs n (by simp[hvsz];omega);rw[this];simp[hvsz]
        have hcell:∀ (a:Nat) (e:List AV) (b:Nat) (y:AV),(es.set i0 (splice es[i0] off (Ar (ev v))))[a]?=some e->e[b]?=some y ->
          (∃ u,(BX cs (L.base+i0*sz+off+0) (ρv v).cells.toList)[L.base+a*sz+b]?=some u/\Ak F ρ y u/\CG y=true) \/
          (∃ e0,es[a]?=some e0/\e0[b]?=some y/\(BX cs (L.base+i0*sz+off+0) (ρv v).cells.toList)[L.base+a*sz+b]?=cs[L.base+a*sz+b]?):=by
         intro a e b y ha hb;rw[hput];rw[List.getElem?_set]at ha;by_cases hai:i0=a
         ·subst hai;simp only[if_true,ho2]at ha;cases ha;have hbl:=Af hb;rw[Gn,hel]at hbl;rw[Mo _ _ _ _ (by rw[ho1,hel];omega),ho1]at hb;by_cases hbr:off<=b/\b<off+(Γ t).size
          ·rw[if_pos hbr]at hb;rw[if_pos (by omega)];have hvl:b-off<(ρv v).cells.toList.length:=by simp[hvsz];omega
           rw[show L.base+i0*sz+b-(L.base+i0*sz+off)=b-off by omega];exact .inl ⟨_,JlZ hvl,hcr.2 _ y _ hb (JlZ hvl),JlJ.1 hc.2 y (Jl1 hb)⟩
          ·rw[if_neg hbr]at hb;rw[if_neg (by omega)];exact .inr ⟨_,hei,hb,rfl⟩
         ·rw[if_neg hai]at ha;have hbl:=Af hb;rw[g1 e (Jl1 ha)]at hbl;rw[if_neg]
          ·exact .inr ⟨e,ha,hb,rfl⟩
          ·intro hh;rcases Nat.lt_or_gt_of_ne hai with hlt|hgt
           ·have:(i0+1)*sz<=a*sz:=JlI _ hlt;rw[Jmc,Nat.one_mul]at this;omega
           ·have:(a+1)*sz<=i0*sz:=JlI _ hgt;rw[Jmc,Nat.one_mul]at this;omega
        have hLb:=hS.loc k L hL;have hO:∀ j ob',j≠k->obA (BG (rmA objs []) (some (k,.narr sz (es.set i0 (splice (es[i0]?.getD []) off (Ar (ev v))))))) j=some ob'->obA objs j=some ob'/\j≠k:=λ j ob' hj ho=>by
         simp only[rmA,BG,BT]at ho;rw[if_neg (by intro hh;exact hj hh.1)]at ho;exact⟨ho,hj⟩
        have hat:obA (BG (rmA objs []) (some (k,.narr sz (es.set i0 (splice (es[i0]?.getD []) off (Ar (ev v))))))) k=some (.narr sz (es.set i0 (splice es[i0] off (Ar (ev v))))):=by
         simp only[rmA,BG,BT];rw[if_pos ⟨trivial,A6 hobk⟩,hei,JlK]
        have:=hS.rewrite' (k':=k) (L':=L) (x:=.cells (BX cs (L.base+i0*sz+off+0) (ρv v).cells.toList) t0 fr) (O':=BG (rmA objs []) (some (k,.narr sz (es.set i0 (splice (es[i0]?.getD []) off (Ar (ev v))))))) hL hobk (by rw[BQ hL];exact RLe.refl _) rfl hO (by simp[rmA,BG]) (by simp[rmA,BG];exact A6 hobk) (λ ob' ho=>by
          rw[hat]at ho;cases ho;rw[BQ hL];refine⟨λ e he=>?_,by simpa using g2,BX cs (L.base+i0*sz+off+0) (ρv v).cells.toList,t0,fr,by rw[Cj,if_pos ⟨rfl,hLb⟩],by rw[BF];exact g4,g5,λ a e ha b y hb=>?_⟩
          ·rcases List.mem_or_eq_of_mem_set he with he|he
           ·exact g1 e he
           ·rw[he,Gn];exact hel
          ·rcases hcell a e b y ha hb with⟨u,hu,hr,_⟩|⟨e0,he0,hb0,hsame⟩
           ·exact⟨u,hu,λ _=>hr⟩
           ·rw[hsame];exact g6 a e0 he0 b y hb0) ⟨σ,hσ.rewrite hS hL hobk rfl hO λ ob0 sz' es' ho hr0 a e b isz xs ha hb o1 u hbl hu=>by
          rw[hat]at ho;cases ho;cases hr0;rw[Cj,if_pos ⟨rfl,hLb⟩]at hbl;cases hbl;rcases hcell a e b _ ha hb with⟨_,_,_,hsol⟩|⟨e0,he0,hb0,hsame⟩
          ·cases hsol
          ·simp only[E8]at hu;rw[hsame]at hu;refine(hσ.narr k L sz es hL hobk a e0 b isz xs he0 hb0 cs t0 fr u g3 hu).mono (FLe.refl _) λ M hM=>?_;rw[Cj,if_neg];intro hh;exact hσ.obj k _ M k L _ hM hL hobk hh.1⟩
        rw[BQ hL]at this;exact this
     | _=>rw[hav']at har;cases har
   ·rename_i sz' es r hobk hexp;cases hc:(Bz (ev v)&&(Ar (ev v)).all CG&&!r.ks.contains k)with
    | false=>rw[hc]at h;cases h
    | true=>
     rw[hc,cond_true]at h;simp only[Jl0]at hc;obtain⟨⟨hc1,hc2⟩,hc3⟩:=hc;have hkn:k ∉ r.ks:=by simpa using hc3
     cases h;obtain⟨hsz,ho1,ho2,ho3,ho4⟩:=hob;subst hsz;refine⟨rfl,rfl,?_⟩;have hcr:=F5 hvr hc1;have hal:=Gt _ _ hexp;have hS1:=hS.freeze r.ks hal;have hFle:=Fy hS r.ks;obtain⟨hx1,hx2⟩:=Fh hS (λ _ _ h=>h) hFle _ r _ (λ k L hk hL=>Lg hk hL) hexp ho4 hcr;cases hav':ρv a with
     | pointer p=>
      rw[hav']at har;cases har with
      | eptr _ _ _ _ L hL=>
       have hobk1:obA (rmA objs r.ks) k=some (.arr sz es):=by rw[DW,if_neg hkn];exact hobk
       obtain⟨⟨g1,g2,cs,t0,fr,g3,g4,g5,g6⟩,gN,gF⟩:=hS1.obj k L _ hL hobk1;have hvsz:(ρv v).cells.size=(Γ t).size:=by simp at hx1;omega
       have hrow:(i0+1)*sz<=es.length*sz:=JlI _ ho2;rw[Jmc,Nat.one_mul]at hrow;have hst:=CI P L.b (L.base+i0*sz+off) t0 fr (ρv v).cells.toList 0 cs w g3 (by simp[hvsz];omega) (by rw[g4];exact g5) (hcr.ones hc2);refine⟨{ w with heap:=w.heap.setIfInBounds L.b (.cells (BX cs (L.base+i0*sz+off+0) (ρv v).cells.toList) t0 fr) },HS F ρ w.heap r.ks,hexec _ ?_,hFle,?_,Mu.set g3⟩
       ·rw[hav'];simp only[Instr.storeAt,Instr.sureAddr,JlG,JlH,JlE,storeVar,AY w hi,his];rw[if_neg (by omega)];exact hst
       ·have hei:es[i0]?=some es[i0]:=JlZ ho2;have hel:(es[i0]).length=sz:=g1 _ (JlL ho2);have:=hS1.rewrite (k':=k) (L':=L) (x:=.cells (BX cs (L.base+i0*sz+off+0) (ρv v).cells.toList) t0 fr) (O':=BG (rmA objs r.ks) (some (k,.arr sz (es.set i0 (Gm (es[i0]?.getD []) off r.x))))) hL hobk1 (by rw[BQ hL];exact RLe.refl _) rfl (λ j ob' hj ho=>by
          simp only[BG,BT]at ho;rw[if_neg (by intro hh;exact hj hh.1)]at ho;exact⟨ho,hj⟩) (by simp[BG]) (by simp[BG];exact A6 hobk1) (λ ob' ho=>by
          simp only[BG,BT]at ho;rw[if_pos ⟨trivial,A6 hobk1⟩]at ho;cases ho;rw[BQ hL,hei,JlK];have hput:∀ n,(BX cs (L.base+i0*sz+off+0) (ρv v).cells.toList)[n]?=if L.base+i0*sz+off<=n/\n<L.base+i0*sz+off+(Γ t).size then(ρv v).cells.toList[n-(L.base+i0*sz+off)]? else cs[n]? := λ n=>by
           have:=F3 (ρv v).cells.toList (L.base+i0*sz+off+0) cs n (by simp[hvsz];omega);rw[this];simp[hvsz]
          refine⟨λ e he=>?_,by simpa using g2,BX cs (L.base+i0*sz+off+0) (ρv v).cells.toList,t0,fr,by rw[Cj,if_pos ⟨rfl,hS.loc k L hL⟩],by rw[BF];exact g4,g5,λ a e ha b y hb=>?_⟩
          ·rcases List.mem_or_eq_of_mem_set he with he|he
           ·exact g1 e he
           ·rw[he,Kj];exact hel
          ·rw[hput];rw[List.getElem?_set]at ha;by_cases hai:i0=a
           ·subst hai;simp only[if_true,ho2]at ha;cases ha;have hbl:=Af hb;rw[Kj,hel]at hbl;rw[UE _ _ _ _ (by rw[ho1,hel];omega),ho1]at hb;by_cases hbr:off<=b/\b<off+(Γ t).size
            ·rw[if_pos hbr]at hb;rw[if_pos (by omega)];have hvl:b-off<(ρv v).cells.toList.length:=by simp[hvsz];omega
             rw[show L.base+i0*sz+b-(L.base+i0*sz+off)=b-off by omega];exact⟨_,JlZ hvl,hx2 _ y _ hb (JlZ hvl)⟩
            ·rw[if_neg hbr]at hb;rw[if_neg (by omega)];exact g6 i0 _ hei b y hb
           ·rw[if_neg hai]at ha;have hbl:=Af hb;rw[g1 e (Jl1 ha)]at hbl;rw[if_neg]
            ·exact g6 a e ha b y hb
            ·intro hh;rcases Nat.lt_or_gt_of_ne hai with hlt|hgt
             ·have:(i0+1)*sz<=a*sz:=JlI _ hlt;rw[Jmc,Nat.one_mul]at this;omega
             ·have:(a+1)*sz<=i0*sz:=JlI _ hgt;rw[Jmc,Nat.one_mul]at this;omega) (λ ob' ho=>by
          simp only[BG,BT]at ho;rw[if_pos ⟨trivial,A6 hobk1⟩]at ho;cases ho;rfl)
        rw[BQ hL]at this;exact this
     | _=>rw[hav']at har;cases har
   ·cases h
  ·cases h
theorem Si {agg:Bool} {v:AV} {r:Rd (List D)} (he:kvA objs agg v=some r):∀ k∈r.ks,∃ ob,obA objs k=some ob:=by
 unfold kvA at he;split at he
 ·cases agg with
  | false=>cases he
  | true=>exact Gt _ _ he
 ·cases agg with
  | true=>cases he
  | false=>exact Gt _ _ he
theorem PN (hΓ:I0 P Γ) (hS:Sim N H0 F0 F ρ objs w.heap) (o:Oper) {ev:Operand->AV} {ρv:Operand->Value} {e:Eff} {t:TypeId} {m key v:Operand}
  (hok:(Γ t).ok=true) (h:G8 (Γ t).kind objs (ev m) (ev key) (ev v)=some e) (hob:e.ob) (hm:Ak F ρ (ev m) (ρv m)) (hk:Ak F ρ (ev key) (ρv key)) (hv:Ak F ρ (ev v) (ρv v))
  (hexec:∀ w',(Instr.mapUpdate t (ρv m) (ρv key) (ρv v)).run P w=.ok () w'->(execOp ρv o).run P w=.ok .skip w') :
  e.obs=[]/\e.v=.top/\∃ w' F',(execOp ρv o).run P w=.ok .skip w'/\FLe F F'/\Sim N H0 F0 F' ρ (BG (rmA objs e.rm) e.upd) w'.heap/\Mu w w':=by
 obtain⟨d,hd,_,hkd⟩:=(hΓ t hok).desc;unfold G8 at h;split at h
 ·rename_i ks ka va vz k hkind hmv;rw[hkind]at hkd;obtain⟨kt,et,i,z,rfl,hkf,hi,hz,hp,hz1,hz2⟩:=hkd;split at h
  ·rename_i ka' va' ents r s hobk hkv hvv;cases hc:(r.ks.isEmpty&&(ka==ka')&&(va==va'))with
   | false=>rw[hc]at h;cases h
   | true=>
    rw[hc,cond_true]at h;simp only[Jl0,beq_iff_eq]at hc;obtain⟨⟨hc1,rfl⟩,rfl⟩:=hc;have hks:r.ks=[]:=by simpa using hc1
    cases h;obtain⟨ho1,ho2,ho3,ho4,_⟩:=hob;refine⟨rfl,rfl,?_⟩;have hal:=Si hvv;have hS1:=hS.freeze s.ks hal;have hFle:=Fy hS s.ks;have hkv':=Ip hS (λ _ _ h=>h) hFle (λ k L hk=>by rw[hks]at hk;cases hk) hkv ho1 hk;have hvv':=Ip hS (λ _ _ h=>h) hFle (λ k L hk hL=>Lg hk hL) hvv ho2 hv;rw[hmv]at hm;cases hmx:ρv m with
    | map b=>
     rw[hmx]at hm;cases hm with
     | mp _ L hL=>
      have hobk1:obA (rmA objs s.ks) k=some (.map ka va ents):=by rw[DW,if_neg ho4];exact hobk
      obtain⟨⟨g0,es,clock,g1,gb,g2,g3⟩,_⟩:=hS1.obj k L _ hL hobk1;obtain⟨es',clock',hr,q0,q1,q2⟩:=Xs (P:=P) (w:=w) (t:=t) (λ _ c x=>KV (HS F ρ w.heap s.ks) va c x) hd hkf g1 gb g2 g3 hkv' (λ _=>hvv') ho3;refine⟨_,HS F ρ w.heap s.ks,hexec _ (by rw[hmx];exact hr),hFle,?_,Jlt⟩;have:=hS1.rewrite (k':=k) (L':=L) (x:=.map es' clock') (O':=BG (rmA objs s.ks) (some (k,.map ka va (JX ks r.x s.x ents)))) hL hobk1 (by rw[BQ hL];exact RLe.refl _) rfl (λ j ob' hj ho=>by
        simp only[BG,BT]at ho;rw[if_neg (by intro hh;exact hj hh.1)]at ho;exact⟨ho,hj⟩) (by simp[BG]) (by simp[BG];exact A6 hobk1) (λ ob' ho=>by
        simp only[BG,BT]at ho;rw[if_pos ⟨trivial,A6 hobk1⟩]at ho;cases ho;exact⟨g0,es',clock',by rw[Cj,if_pos ⟨rfl,hS.loc k L hL⟩],q0,q1,q2⟩) (λ ob' ho=>by
        simp only[BG,BT]at ho;rw[if_pos ⟨trivial,A6 hobk1⟩]at ho;cases ho;rfl)
      rw[BQ hL]at this;exact this
    | _=>rw[hmx]at hm;cases hm
  ·rename_i _ ka' dv ents r hobk hkv;cases hc:(r.ks.isEmpty&&(ka==ka')&&!va&&CG (ev v))with
   | false=>rw[hc]at h;cases h
   | true=>
    rw[hc,cond_true]at h;simp only[Jl0,beq_iff_eq,Bool.not_eq_true']at hc;obtain⟨⟨⟨hc1,rfl⟩,rfl⟩,hsol⟩:=hc;have hks:r.ks=[]:=by simpa using hc1
    cases h;obtain⟨ho1,ho3⟩:=hob;refine⟨rfl,rfl,?_⟩;have hkv':=Ip hS (λ _ _ h=>h) (FLe.refl F) (λ k L hk=>by rw[hks]at hk;cases hk) hkv ho1 hk;rw[hmv]at hm;cases hmx:ρv m with
    | map b=>
     rw[hmx]at hm;cases hm with
     | mp _ L hL=>
      obtain⟨⟨g0,gd,es,clock,g1,gb,g2,g3⟩,_⟩:=hS.obj k L _ hL hobk;obtain⟨σ,hσ⟩:=hS.inn;have hLb:=hS.loc k L hL;obtain⟨es',clock',hr,q0,q1,q2⟩:=Xs (P:=P) (w:=w) (t:=t) (λ i a x=>(JE a=false->Ak F ρ a x)/\∀ isz xs,a=.own isz xs->Fx F w.heap (σ k i) isz xs x) hd hkf g1 gb g2 (λ i p q hp hq=>⟨(g3 i p q hp hq).1,(g3 i p q hp hq).2,λ isz xs ha=>by
       have:=hσ.rep k L _ 1 _ hL hobk rfl i [p.2] 0 isz xs (by rw[Jl3,hp];rfl) (by rw[ha];rfl) _ q.val g1 (by simp only[E8,g0];rw[show 0+i*1+0=i by omega,hq];rfl);rwa[show i*1+0=i by omega]at this⟩) hkv' (λ _=>⟨λ _=>hv,λ isz xs ha=>by rw[ha]at hsol;cases hsol⟩) ho3
      have hat:∀ ob',obA (BG (rmA objs []) (some (k,.nmp ka dv (JX ks r.x (ev v) ents)))) k=some ob'->ob'=.nmp ka dv (JX ks r.x (ev v) ents):=λ ob' ho=>by
       simp only[BG,BT,rmA]at ho;rw[if_pos ⟨trivial,A6 hobk⟩]at ho;cases ho;rfl
      have hO:∀ j ob',j≠k->obA (BG (rmA objs []) (some (k,.nmp ka dv (JX ks r.x (ev v) ents)))) j=some ob'->obA objs j=some ob'/\j≠k:=λ j ob' hj ho=>by
       simp only[BG,BT,rmA]at ho;rw[if_neg (by intro hh;exact hj hh.1)]at ho;exact⟨ho,hj⟩
      refine⟨_,F,hexec _ (by rw[hmx];exact hr),FLe.refl F,?_,Jlt⟩;have:=hS.rewrite' (k':=k) (L':=L) (x:=.map es' clock') (O':=BG (rmA objs []) (some (k,.nmp ka dv (JX ks r.x (ev v) ents)))) hL hobk (by rw[BQ hL];exact RLe.refl _) rfl hO (by simp[BG,rmA]) (by simp[BG,rmA];exact A6 hobk) (λ ob' ho=>by
        rw[hat ob' ho,BQ hL];exact⟨g0,gd,es',clock',by rw[Cj,if_pos ⟨rfl,hLb⟩],q0,q1,λ i p q hp hq=>⟨(q2 i p q hp hq).1,(q2 i p q hp hq).2.1⟩⟩) ⟨σ,hσ.rewrite hS hL hobk rfl hO λ ob0 sz' es0 ho hr0 a e b isz xs ha hb o1 u hbl hu=>by
        rw[hat ob0 ho]at hr0;cases hr0;rw[Cj,if_pos ⟨rfl,hLb⟩]at hbl;cases hbl;simp only[Jl3,Jl2]at ha;obtain⟨p,hp,rfl⟩:=ha;cases b with
        | succ b=>simp at hb
        | zero=>
         simp only[JlW,Jl9]at hb;simp only[E8,g0,Jl2]at hu;obtain⟨q,hq,rfl⟩:=hu;rw[show 0+a*1+0=a by omega]at hq;rw[show a*1+0=a by omega];refine((q2 a p q hp hq).2.2 isz xs hb).mono (FLe.refl _) λ M hM=>?_;rw[Cj,if_neg];intro hh;exact hσ.obj k _ M k L _ hM hL hobk hh.1⟩
      rw[BQ hL]at this;exact this
    | _=>rw[hmx]at hm;cases hm
  ·cases h
 ·cases h
def Yo:Op->Bool
 | .store _ _ _ | .mapUpdate _ _ _ _ | .insert _ _ _ _=>true
 | _=>false
theorem UG (hΓ:I0 P Γ) (hS:Sim N H0 F0 F ρ objs w.heap) (o:Oper) {ev:Operand->AV} {ρv:Operand->Value} {e:Eff}
  (hop:Yo o.op=true) (h:opA Γ ev objs o.op=some e) (hob:e.ob) (hev:∀ x∈o.op.operands.toList,Ak F ρ (ev x) (ρv x)) :
  e.obs=[]/\e.v=.top/\∃ w' F',(execOp ρv o).run P w=.ok .skip w'/\FLe F F'/\Sim N H0 F0 F' ρ (BG (rmA objs e.rm) e.upd) w'.heap/\Mu w w':=by
 cases hx:o.op with
 | store t a v=>exact UF hΓ hS o hx h hob hev
 | mapUpdate t m key v=>
  rw[hx]at h hev;simp only[opA]at h;cases hok:(Γ t).ok with
  | false=>rw[hok]at h;cases h
  | true=>
   rw[hok,cond_true]at h;exact PN hΓ hS o hok h hob (hev m (by simp[Op.operands])) (hev key (by simp[Op.operands])) (hev v (by simp[Op.operands])) λ w' hr=>by simp only[execOp,hx,JlG,hr,JlE,JlH]
 | insert t m key v=>
  rw[hx]at h hev;simp only[opA]at h;cases hok:(Γ t).ok with
  | false=>rw[hok]at h;cases h
  | true=>
   rw[hok,cond_true]at h;exact PN hΓ hS o hok h hob (hev m (by simp[Op.operands])) (hev key (by simp[Op.operands])) (hev v (by simp[Op.operands])) λ w' hr=>by simp only[execOp,hx,JlG,hr,JlE,JlH]
 | _=>rw[hx]at hop;cases hop
end Go.AI
end
