/- Part 4 of 7 of the proof: lemmas about the model and the program's functions, with no condition beyond those that each states. -/
import Derived.Test.YtjaogfjfamffnaaGreatLC
section
namespace Go.AI
structure GRule where
 Print:(List UInt8)
 Cells:(List Int)
 Left:Int
 Right:Int
 From:Int
 To:Int
 deriving DecidableEq,Inhabited
structure GTable where
 Modes:Int
 Accept:Int
 Rules:(List GRule)
 deriving DecidableEq,Inhabited
structure GState where
 Mode:Int
 Last:Int
 Need:Int
 deriving DecidableEq,Inhabited
structure GArc where
 Print:(List UInt8)
 Cells:Int
 To:Int
 deriving DecidableEq,Inhabited
structure GGraph where
 Arcs:(List (List GArc))
 Accepts:(List Bool)
 deriving DecidableEq,Inhabited
structure GMemo where
 Text:(List UInt8)
 Costs:(List (List Int))
 Least:(List Int)
 deriving DecidableEq,Inhabited
structure GSplice where
 At:Int
 Cut:Int
 Put:(List UInt8)
 deriving DecidableEq,Inhabited
structure GColumn where
 States:(List Int)
 Costs:(List Int)
 deriving DecidableEq,Inhabited
structure GTranslateArc where
 Rule:Int
 To:Int
 deriving DecidableEq,Inhabited
structure GWriter where
 T:GTable
 S:(List UInt8)
 States:(List GState)
 Arcs:(List (List GTranslateArc))
 Columns:(List GColumn)
 Last:Int
 deriving DecidableEq,Inhabited
structure GWriting where
 Cells:(List Int)
 Path:(List Int)
 deriving DecidableEq,Inhabited
structure Arr2 (α:Type) where
 a0:α
 a1:α
 deriving DecidableEq,Inhabited
structure GRawRule where
 P:(List Int)
 C:(List Int)
 L:Int
 R:Int
 W:(Arr2 Int)
 deriving DecidableEq,Inhabited
structure GRaw where
 Base:Int
 Drop:Int
 More:(List GRawRule)
 deriving DecidableEq,Inhabited
structure GPoint where
 S:(List UInt8)
 I:Int
 State:GState
 L:(List GState)
 deriving DecidableEq,Inhabited
structure GSixdotref07Raw where
 At:Int
 Cut:Int
 L:(List Int)
 deriving DecidableEq,Inhabited
structure GResult where
 W:GWriting
 At:Int
 E:Int
 deriving DecidableEq,Inhabited
def FL7_simple_L1 (_:Nat) (a:GTable) (b:Int):Option ((GTable×Int)⊕GTable):=
 if decide (b<3)=true then
  (idx ([[97],[98],[97,98]]) b).bind λ c=>
  (idx [1,3,7] b).bind λ d=>
  (app 64 a.Rules ([({ Print:=c,Cells:=[d],Left:=63,Right:=63,From:=0,To:=0 }:GRule)])).bind λ e=>
  some (.inl (({ Modes:=a.Modes,Accept:=a.Accept,Rules:=e }:GTable),(iadd .i64 b 1)))
 else
  some (.inr a)
def FL7_simple (n:Nat) :Option GTable:=
 (whl (λ (x:(GTable×Int))=>FL7_simple_L1 n x.1 x.2) n (({ Modes:=1,Accept:=1,Rules:=([]:List GRule) }:GTable),0)).bind λ a=>
 some a
def FTb_isCharacter (_:Nat) (a:Int):Option Bool:=
 some ((decide (32<=iand .u8 a 127))&&(decide (iand .u8 a 127<=126)))
def FTb_Text_L1 (n:Nat) (b:(List UInt8)) (a:Int):Option (Int⊕(Unit⊕(Int×Int))):=
 if decide (a<((b.length:Nat):Int))=true then
  (sidx b a).bind λ c=>
  (FTb_isCharacter n c).bind λ d=>
  if (!d)=true then
   some (.inr (.inr (a,60)))
  else
   some (.inl (iadd .i64 a 1))
 else
  some (.inr (.inl ()))
def FTb_Text (n:Nat) (a:(List UInt8)):Option (Int×Int):=
 (whl (λ (x:Int)=>FTb_Text_L1 n a x) n 0).bind λ b=>
 match b with
 | Sum.inl _=>
  some (((a.length:Nat):Int),0)
 | Sum.inr c=>
  some c
def FAu_Start (_:Nat) :Option GState:=
 some ({ Mode:=0,Last:=0,Need:=63 }:GState)
def FAu_has (_:Nat) (b:Int) (a:Int):Option Bool:=
 (if ((decide (0<=a))&&(decide (a<8)))=true then guardB (decide (0<=a)) else some default).bind λ _=>
 some (((decide (0<=a))&&(decide (a<8)))&&((iand .u8 (ishr .u8 b a) 1)==1))
def FTb_Class (_:Nat) (a:Int):Option Int:=
 if ((decide (97<=iand .u8 a 127))&&(decide (iand .u8 a 127<=122)))=true then
  some 1
 else
  if ((decide (65<=iand .u8 a 127))&&(decide (iand .u8 a 127<=90)))=true then
   some 2
  else
   if ((decide (48<=iand .u8 a 127))&&(decide (iand .u8 a 127<=57)))=true then
    some 3
   else
    if ((iand .u8 a 127)==32)=true then
     some 4
    else
     some 5
def FAu_Step (n:Nat) (d:GTable) (a:GState) (c:Int):Option (GState×Bool):=
 if ((decide (c<0))||(decide (c>=((d.Rules.length:Nat):Int))))=true then
  some (({ Mode:=0,Last:=0,Need:=0 }:GState),false)
 else
  (idx d.Rules c).bind λ b=>
  (if (!(b.From != a.Mode))=true then FAu_has n b.Left a.Last else some default).bind λ e=>
  if ((b.From != a.Mode)||(!e))=true then
   some (({ Mode:=0,Last:=0,Need:=0 }:GState),false)
  else
   if (b.Print==[])=true then
    if ((iand .u8 a.Need b.Right)==0)=true then
     some (({ Mode:=0,Last:=0,Need:=0 }:GState),false)
    else
     some (({ Mode:=b.To,Last:=a.Last,Need:=iand .u8 a.Need b.Right }:GState),true)
   else
    (sidx b.Print 0).bind λ f=>
    (FTb_Class n f).bind λ g=>
    (FAu_has n a.Need g).bind λ h=>
    if (!h)=true then
     some (({ Mode:=0,Last:=0,Need:=0 }:GState),false)
    else
     (sidx b.Print (isub .i64 ((b.Print.length:Nat):Int) 1)).bind λ i=>
     (FTb_Class n i).bind λ j=>
     some (({ Mode:=b.To,Last:=j,Need:=b.Right }:GState),true)
def FAu_explore_J1 (_:Nat) (d:Int) (a:(List GState)) (c:(List (List Int))) (b:(List (GState×Int))):Option (((List GState)×(List (List Int))×(List (GState×Int))×Int)⊕((List GState)×(List (List Int))×(List (GState×Int)))):=
 some (.inl (a,c,b,(iadd .i64 d 1)))
def FAu_explore_J2 (n:Nat) (e:Int) (f:Int) (b:(List GState)) (a:(List (List Int))) (c:(List (GState×Int))) (d:Int):Option (((List GState)×(List (List Int))×(List (GState×Int))×Int)⊕((List GState)×(List (List Int))×(List (GState×Int)))):=
 (idx a d).bind λ g=>
 (app 8 g [e]).bind λ h=>
 FAu_explore_J1 n f b (List.set a d.toNat h) c
def FAu_explore_L2 (n:Nat) (f:GTable) (e:Int) (a:(List GState)) (c:(List (List Int))) (b:(List (GState×Int))) (d:Int):Option (((List GState)×(List (List Int))×(List (GState×Int))×Int)⊕((List GState)×(List (List Int))×(List (GState×Int)))):=
 if decide (d<((f.Rules.length:Nat):Int))=true then
  (idx a e).bind λ h=>
  (FAu_Step n f h d).bind λ g=>
  if (!g.2)=true then
   FAu_explore_J1 n d a c b
  else
   if (!(Option.isSome (mget g.1 b)))=true then
    (app 24 a [g.1]).bind λ i=>
    (app 24 c [([]:(List Int))]).bind λ j=>
    FAu_explore_J2 n e d i j (mput g.1 ((a.length:Nat):Int) b) ((a.length:Nat):Int)
   else
    FAu_explore_J2 n e d a c b (Option.getD (mget g.1 b) 0)
 else
  some (.inr (a,c,b))
def FAu_explore_L1 (n:Nat) (e:GTable) (a:(List GState)) (b:(List (List Int))) (c:(List (GState×Int))) (d:Int):Option (((List GState)×(List (List Int))×(List (GState×Int))×Int)⊕((List GState)×(List (List Int)))):=
 if decide (d<((a.length:Nat):Int))=true then
  (whl (λ (x:((List GState)×(List (List Int))×(List (GState×Int))×Int))=>FAu_explore_L2 n e d x.1 x.2.1 x.2.2.1 x.2.2.2) n (a,b,c,0)).bind λ f=>
  some (.inl (f.1,f.2.1,f.2.2,(iadd .i64 d 1)))
 else
  some (.inr (a,b))
def FAu_explore (n:Nat) (a:GTable):Option ((List GState)×(List (List Int))):=
 (FAu_Start n).bind λ b=>
 (whl (λ (x:((List GState)×(List (List Int))×(List (GState×Int))×Int))=>FAu_explore_L1 n a x.1 x.2.1 x.2.2.1 x.2.2.2) n ([b],([[]]:List (List Int)),(mput b 0 []),0)).bind λ c=>
 some (c.1,c.2)
def FAu_States (n:Nat) (a:GTable):Option (List GState):=
 (FAu_explore n a).bind λ b=>
 some b.1
def FAu_Accepts (n:Nat) (b:GTable) (a:GState):Option Bool:=
 (if decide (a.Mode<b.Modes)=true then FAu_has n b.Accept a.Mode else some default).bind λ d=>
 (if ((decide (a.Mode<b.Modes))&&d)=true then FAu_has n a.Need 0 else some default).bind λ c=>
 some (((decide (a.Mode<b.Modes))&&d)&&c)
def FSl_HasPrefix (_:Nat) (b:(List UInt8)) (a:(List UInt8)):Option Bool:=
 (if decide (((b.length:Nat):Int)>=((a.length:Nat):Int))=true then sub b 0 ((a.length:Nat):Int) else some default).bind λ c=>
 some ((decide (((b.length:Nat):Int)>=((a.length:Nat):Int)))&&(c==a))
def FSt_HasPrefix (n:Nat) (a:(List UInt8)) (b:(List UInt8)):Option Bool:=
 (FSl_HasPrefix n a b).bind λ c=>
 some c
def FRv_newGraph_L1 (_:Nat) (_:GTable) (c:(List GState)) (a:(List (GState×Int))) (b:Int):Option (((List (GState×Int))×Int)⊕(List (GState×Int))):=
 if decide (b<((c.length:Nat):Int))=true then
  (idx c b).bind λ d=>
  some (.inl ((mput d b a),(iadd .i64 b 1)))
 else
  some (.inr a)
def FRv_newGraph_J1 (_:Nat) (a:Int) (b:GGraph):Option ((GGraph×Int)⊕GGraph):=
 some (.inl (b,(iadd .i64 a 1)))
def FRv_newGraph_L3 (n:Nat) (c:GTable) (_:(List GState)) (j:(List (GState×Int))) (d:Int) (g:GState) (a:GGraph) (b:Int):Option ((GGraph×Int)⊕GGraph):=
 if decide (b<((c.Rules.length:Nat):Int))=true then
  (idx c.Rules b).bind λ e=>
  (FAu_Step n c g b).bind λ f=>
  if f.2=true then
   (idx a.Arcs d).bind λ h=>
   (app 32 h [({ Print:=e.Print,Cells:=((e.Cells.length:Nat):Int),To:=(Option.getD (mget f.1 j) 0) }:GArc)]).bind λ i=>
   FRv_newGraph_J1 n b ({ Arcs:=List.set a.Arcs d.toNat i,Accepts:=a.Accepts }:GGraph)
  else
   FRv_newGraph_J1 n b a
 else
  some (.inr a)
def FRv_newGraph_L2 (n:Nat) (d:GTable) (c:(List GState)) (h:(List (GState×Int))) (b:GGraph) (a:Int):Option ((GGraph×Int)⊕GGraph):=
 if decide (a<((c.length:Nat):Int))=true then
  (idx c a).bind λ e=>
  (FAu_Accepts n d e).bind λ f=>
  (idx b.Accepts a).bind λ _=>
  (put b.Accepts a f).bind λ g=>
  (whl (λ (x:(GGraph×Int))=>FRv_newGraph_L3 n d c h a e x.1 x.2) n (({ Arcs:=b.Arcs,Accepts:=g }:GGraph),0)).bind λ i=>
  some (.inl (i,(iadd .i64 a 1)))
 else
  some (.inr b)
def FRv_newGraph (n:Nat) (b:GTable):Option GGraph:=
 (FAu_States n b).bind λ a=>
 (whl (λ (x:((List (GState×Int))×Int))=>FRv_newGraph_L1 n b a x.1 x.2) n ([],0)).bind λ e=>
 (mkl 24 ((a.length:Nat):Int) ([]:(List GArc))).bind λ f=>
 (mkl 1 ((a.length:Nat):Int) (false:Bool)).bind λ c=>
 (whl (λ (x:(GGraph×Int))=>FRv_newGraph_L2 n b a e x.1 x.2) n (({ Arcs:=f,Accepts:=c }:GGraph),0)).bind λ d=>
 some d
def FRv_graph_emptyx_L1 (_:Nat) (d:(List UInt8)) (b:GGraph) (_:(List Int)) (e:(List Int)) (c:(List (Nat×Nat))) (a:Int):Option (((List (Nat×Nat))×Int)⊕(List (Nat×Nat))):=
 if decide (a<iadd .i64 ((d.length:Nat):Int) 1)=true then
  (cut3 (e.length) (imul .i64 a ((b.Arcs.length:Nat):Int)) (imul .i64 (iadd .i64 a 1) ((b.Arcs.length:Nat):Int)) (imul .i64 (iadd .i64 a 1) ((b.Arcs.length:Nat):Int))).bind λ _=>
  (idx c a).bind λ _=>
  (put c a ((0+Int.toNat (imul .i64 a ((b.Arcs.length:Nat):Int)),Int.toNat (imul .i64 (iadd .i64 a 1) ((b.Arcs.length:Nat):Int))-Int.toNat (imul .i64 a ((b.Arcs.length:Nat):Int))):Nat×Nat)).bind λ f=>
  some (.inl (f,(iadd .i64 a 1)))
 else
  some (.inr c)
def FRv_graph_emptyx (n:Nat) (a:(List UInt8)) (b:GGraph):Option ((List (Nat×Nat))×(List Int)×(List Int)):=
 (mkl 24 (iadd .i64 ((a.length:Nat):Int) 1) ([]:(List Int))).bind λ e=>
 (mkl 8 (iadd .i64 ((a.length:Nat):Int) 1) (0:Int)).bind λ c=>
 (mkl 8 (imul .i64 ((b.Arcs.length:Nat):Int) (iadd .i64 ((a.length:Nat):Int) 1)) (0:Int)).bind λ d=>
 (whl (λ (x:((List (Nat×Nat))×Int))=>FRv_graph_emptyx_L1 n a b c d x.1 x.2) n ((List.replicate (e.length) ((0,0):Nat×Nat)),0)).bind λ f=>
 some (f,c,d)
def FRv_graph_columns (_:Nat) (_:(List UInt8)) (_:GGraph) (_:(List (Nat×Nat))) (_:(List Int)) (_:(List Int)):Option Unit:=
 some ()
def FRv_suffixx (_:Nat) (_:(List UInt8)) (a:Int) (b:Int) (c:(List (Nat×Nat))) (e:(List Int)) (d:(List Int)):Option Int:=
 (idx c a).bind λ f=>
 (ixP d f b).bind λ g=>
 if decide (g<0)=true then
  some (-1)
 else
  (idx e a).bind λ h=>
  (idx c a).bind λ i=>
  (ixP d i b).bind λ j=>
  some (iadd .i64 h j)
def FRv_graph_columns_1_1 (_:Nat) (d:Int) (b:Int) (e:Int) (a:(Nat×Nat)) (c:(List Int)):Option ((List Int)×Bool):=
 (if (!(decide (b<0)))=true then ixP c a d else some default).bind λ f=>
 (if ((!(decide (b<0)))&&(decide (f>=0)))=true then ixP c a d else some default).bind λ g=>
 if ((decide (b<0))||((decide (f>=0))&&(decide (g<=iadd .i64 b e))))=true then
  some (c,false)
 else
  (ixP c a d).bind λ _=>
  (put c ((a.1+Int.toNat d:Nat):Int) (iadd .i64 b e)).bind λ h=>
  some (h,true)
def FRv_reduce_J1 (_:Nat) (b:Int) (a:Int):Option ((Int×Int)⊕Int):=
 some (.inl (a,(iadd .i64 b 1)))
def FRv_reduce_L1 (n:Nat) (d:(Nat×Nat)) (e:(List Int)) (a:Int) (b:Int):Option ((Int×Int)⊕Int):=
 if decide (b<((d.2:Nat):Int))=true then
  (ixP e d b).bind λ c=>
  if ((decide (c>=0))&&((decide (a<0))||(decide (c<a))))=true then
   FRv_reduce_J1 n b c
  else
   FRv_reduce_J1 n b a
 else
  some (.inr a)
def FRv_reduce_J2 (_:Nat) (b:Int) (a:(List Int)):Option (((List Int)×Int)⊕(List Int)):=
 some (.inl (a,(iadd .i64 b 1)))
def FRv_reduce_L2 (n:Nat) (c:(Nat×Nat)) (e:Int) (a:(List Int)) (b:Int):Option (((List Int)×Int)⊕(List Int)):=
 if decide (b<((c.2:Nat):Int))=true then
  (ixP a c b).bind λ d=>
  if decide (d>=0)=true then
   (ixP a c b).bind λ _=>
   (put a ((c.1+Int.toNat b:Nat):Int) (isub .i64 d e)).bind λ f=>
   FRv_reduce_J2 n b f
  else
   FRv_reduce_J2 n b a
 else
  some (.inr a)
def FRv_reduce (n:Nat) (a:(Nat×Nat)) (b:(List Int)):Option ((List Int)×Int):=
 (whl (λ (x:(Int×Int))=>FRv_reduce_L1 n a b x.1 x.2) n ((-1),0)).bind λ c=>
 (whl (λ (x:((List Int)×Int))=>FRv_reduce_L2 n a c x.1 x.2) n (b,0)).bind λ d=>
 some (d,c)
def FRv_graph_columns_1_J1 (_:Nat) (b:Int) (a:(List Int)):Option (((List Int)×Int)⊕(List Int)):=
 some (.inl (a,(iadd .i64 b 1)))
def FRv_graph_columns_1_L1 (n:Nat) (f:Int) (c:(List UInt8)) (g:GGraph) (_:(List (Nat×Nat))) (_:(List Int)) (d:(Nat×Nat)) (a:(List Int)) (b:Int):Option (((List Int)×Int)⊕(List Int)):=
 if decide (b<((d.2:Nat):Int))=true then
  (ixP a d b).bind λ _=>
  (put a ((d.1+Int.toNat b:Nat):Int) (-1)).bind λ e=>
  (if (f==((c.length:Nat):Int))=true then idx g.Accepts b else some default).bind λ h=>
  if ((f==((c.length:Nat):Int))&&h)=true then
   (ixP e d b).bind λ _=>
   (put e ((d.1+Int.toNat b:Nat):Int) 0).bind λ i=>
   FRv_graph_columns_1_J1 n b i
  else
   FRv_graph_columns_1_J1 n b e
 else
  some (.inr a)
def FRv_graph_columns_1_J2 (_:Nat) (b:Int) (a:(List Int)):Option (((List Int)×Int)⊕(List Int)):=
 some (.inl (a,(iadd .i64 b 1)))
def FRv_graph_columns_1_L3 (n:Nat) (e:Int) (b:(List UInt8)) (_:GGraph) (h:(List (Nat×Nat))) (i:(List Int)) (j:(Nat×Nat)) (f:Int) (g:(List GArc)) (a:(List Int)) (d:Int):Option (((List Int)×Int)⊕(List Int)):=
 if decide (d<((g.length:Nat):Int))=true then
  (idx g d).bind λ c=>
  (if (!(c.Print==[]))=true then sub b e ((b.length:Nat):Int) else some default).bind λ o=>
  (if (!(c.Print==[]))=true then FSt_HasPrefix n o c.Print else some default).bind λ k=>
  if ((!(c.Print==[]))&&k)=true then
   (FRv_suffixx n b (iadd .i64 e ((c.Print.length:Nat):Int)) c.To h i a).bind λ l=>
   (FRv_graph_columns_1_1 n f l c.Cells j a).bind λ m=>
   FRv_graph_columns_1_J2 n d m.1
  else
   FRv_graph_columns_1_J2 n d a
 else
  some (.inr a)
def FRv_graph_columns_1_L2 (n:Nat) (e:Int) (c:(List UInt8)) (d:GGraph) (f:(List (Nat×Nat))) (g:(List Int)) (h:(Nat×Nat)) (a:(List Int)) (b:Int):Option (((List Int)×Int)⊕(List Int)):=
 if decide (b<((d.Arcs.length:Nat):Int))=true then
  (idx d.Arcs b).bind λ i=>
  (whl (λ (x:((List Int)×Int))=>FRv_graph_columns_1_L3 n e c d f g h b i x.1 x.2) n (a,0)).bind λ j=>
  some (.inl (j,(iadd .i64 b 1)))
 else
  some (.inr a)
def FRv_graph_columns_1_J3 (_:Nat) (c:Int) (a:(List Int)) (b:Bool):Option (((List Int)×Bool×Int)⊕((List Int)×Bool)):=
 some (.inl (a,b,(iadd .i64 c 1)))
def FRv_graph_columns_1_L6 (n:Nat) (_:(List UInt8)) (_:GGraph) (_:(List (Nat×Nat))) (_:(List Int)) (f:(Nat×Nat)) (g:Int) (h:(List GArc)) (a:(List Int)) (b:Bool) (c:Int):Option (((List Int)×Bool×Int)⊕((List Int)×Bool)):=
 if decide (c<((h.length:Nat):Int))=true then
  (idx h c).bind λ d=>
  (if (d.Print==[])=true then ixP a f d.To else some default).bind λ i=>
  if (d.Print==[])=true then
   (FRv_graph_columns_1_1 n g i d.Cells f a).bind λ e=>
   if ((d.Print==[])&&e.2)=true then
    FRv_graph_columns_1_J3 n c e.1 true
   else
    FRv_graph_columns_1_J3 n c e.1 b
  else
   if ((d.Print==[])&&false)=true then
    FRv_graph_columns_1_J3 n c a true
   else
    FRv_graph_columns_1_J3 n c a b
 else
  some (.inr (a,b))
def FRv_graph_columns_1_L5 (n:Nat) (d:(List UInt8)) (e:GGraph) (g:(List (Nat×Nat))) (h:(List Int)) (i:(Nat×Nat)) (a:(List Int)) (b:Bool) (c:Int):Option (((List Int)×Bool×Int)⊕((List Int)×Bool)):=
 if decide (c<((e.Arcs.length:Nat):Int))=true then
  (idx e.Arcs c).bind λ j=>
  (whl (λ (x:((List Int)×Bool×Int))=>FRv_graph_columns_1_L6 n d e g h i c j x.1 x.2.1 x.2.2) n (a,b,0)).bind λ f=>
  some (.inl (f.1,f.2,(iadd .i64 c 1)))
 else
  some (.inr (a,b))
def FRv_graph_columns_1_L4 (n:Nat) (c:(List UInt8)) (e:GGraph) (f:(List (Nat×Nat))) (g:(List Int)) (h:(Nat×Nat)) (a:(List Int)) (b:Bool):Option (((List Int)×Bool)⊕(List Int)):=
 if b=true then
  (whl (λ (x:((List Int)×Bool×Int))=>FRv_graph_columns_1_L5 n c e f g h x.1 x.2.1 x.2.2) n (a,false,0)).bind λ d=>
  some (.inl (d.1,d.2))
 else
  some (.inr a)
def FRv_graph_columns_1 (n:Nat) (d:Int) (a:(List UInt8)) (e:GGraph) (b:(List (Nat×Nat))) (f:(List Int)) (h:(List Int)):Option ((List Int)×Int):=
 (idx b d).bind λ c=>
 (whl (λ (x:((List Int)×Int))=>FRv_graph_columns_1_L1 n d a e b f c x.1 x.2) n (h,0)).bind λ i=>
 (whl (λ (x:((List Int)×Int))=>FRv_graph_columns_1_L2 n d a e b f c x.1 x.2) n (i,0)).bind λ j=>
 (whl (λ (x:((List Int)×Bool))=>FRv_graph_columns_1_L4 n a e b f c x.1 x.2) n (j,true)).bind λ k=>
 (FRv_reduce n c k).bind λ g=>
 some (g.1,g.2)
def FRv_Start_L1 (n:Nat) (e:(List UInt8)) (f:GGraph) (g:((List (Nat×Nat))×(List Int)×(List Int))) (b:(List Int)) (c:(List Int)) (a:Int):Option (((List Int)×(List Int)×Int)⊕((List Int)×(List Int))):=
 if decide (a>=0)=true then
  (FRv_graph_columns_1 n a e f g.1 b c).bind λ d=>
  (idx b a).bind λ _=>
  (put b a d.2).bind λ h=>
  some (.inl (h,d.1,(isub .i64 a 1)))
 else
  some (.inr (b,c))
def FRv_Start (n:Nat) (f:GTable) (b:(List UInt8)):Option (GMemo×Int):=
 (FTb_Text n b).bind λ e=>
 if (e.2 != 0)=true then
  some (({ Text:=[],Costs:=[],Least:=[] }:GMemo),e.2)
 else
  (FRv_newGraph n f).bind λ c=>
  (FRv_graph_emptyx n b c).bind λ a=>
  (FRv_graph_columns n b c a.1 a.2.1 a.2.2).bind λ _=>
  (whl (λ (x:((List Int)×(List Int)×Int))=>FRv_Start_L1 n b c a x.1 x.2.1 x.2.2) n (a.2.1,a.2.2,((b.length:Nat):Int))).bind λ d=>
  (cutG d.2 a.1).bind λ _=>
  some (({ Text:=b,Costs:=cutL d.2 a.1,Least:=d.1 }:GMemo),0)
def FRv_graph_hasx_L1 (_:Nat) (b:GMemo) (c:GGraph) (a:Int):Option (Int⊕(Unit⊕Bool)):=
 if decide (a<((b.Costs.length:Nat):Int))=true then
  (idx b.Costs a).bind λ d=>
  if (((d.length:Nat):Int) != ((c.Arcs.length:Nat):Int))=true then
   some (.inr (.inr false))
  else
   some (.inl (iadd .i64 a 1))
 else
  some (.inr (.inl ()))
def FRv_graph_hasx (n:Nat) (a:GMemo) (b:GGraph):Option Bool:=
 if ((((a.Costs.length:Nat):Int) != (iadd .i64 ((a.Text.length:Nat):Int) 1))||(((a.Least.length:Nat):Int) != (iadd .i64 ((a.Text.length:Nat):Int) 1)))=true then
  some false
 else
  (whl (λ (x:Int)=>FRv_graph_hasx_L1 n a b x) n 0).bind λ c=>
  match c with
  | Sum.inl _=>
   some true
  | Sum.inr d=>
   some d
def FSl_Equal_int_intx_L1 (_:Nat) (b:(List Int)) (c:(Nat×Nat)) (d:(List Int)) (a:Int):Option (Int⊕(Unit⊕Bool)):=
 if decide (a<((b.length:Nat):Int))=true then
  (idx b a).bind λ e=>
  (ixP d c a).bind λ f=>
  if (e != f)=true then
   some (.inr (.inr false))
  else
   some (.inl (iadd .i64 a 1))
 else
  some (.inr (.inl ()))
def FSl_Equal_int_intx (n:Nat) (a:(List Int)) (b:(Nat×Nat)) (c:(List Int)):Option Bool:=
 if (((a.length:Nat):Int) != ((b.2:Nat):Int))=true then
  some false
 else
  (whl (λ (x:Int)=>FSl_Equal_int_intx_L1 n a b c x) n 0).bind λ d=>
  match d with
  | Sum.inl _=>
   some true
  | Sum.inr e=>
   some e
def FRv_settledx_J1 (_:Nat) (c:Int) (a:Int) (b:Bool):Option ((Int×Bool×Int)⊕(Int⊕(Int×Bool))):=
 some (.inl (a,b,(iadd .i64 c 1)))
def FRv_settledx_L1 (n:Nat) (d:GMemo) (_:(List UInt8)) (i:Int) (j:(List (Nat×Nat))) (e:(List Int)) (k:(List Int)) (a:Int) (c:Bool) (b:Int):Option ((Int×Bool×Int)⊕(Int⊕(Int×Bool))):=
 if decide (b<=iadd .i64 i 3)=true then
  (idx d.Costs b).bind λ l=>
  (idx j b).bind λ m=>
  (FSl_Equal_int_intx n l m k).bind λ o=>
  if (!o)=true then
   some (.inr (.inr (0,false)))
  else
   (idx d.Least b).bind λ f=>
   (if (!(decide (f<0)))=true then idx e b else some default).bind λ p=>
   if ((decide (f<0))||(decide (p<0)))=true then
    FRv_settledx_J1 n b a c
   else
    (idx e b).bind λ g=>
    (idx d.Least b).bind λ h=>
    if (c&&((isub .i64 g h) != a))=true then
     some (.inr (.inr (0,false)))
    else
     FRv_settledx_J1 n b (isub .i64 g h) true
 else
  some (.inr (.inl a))
def FRv_settledx (n:Nat) (c:GMemo) (a:(List UInt8)) (b:Int) (d:(List (Nat×Nat))) (e:(List Int)) (f:(List Int)):Option (Int×Bool):=
 (whl (λ (x:(Int×Bool×Int))=>FRv_settledx_L1 n c a b d e f x.1 x.2.1 x.2.2) n (0,false,b)).bind λ g=>
 match g with
 | Sum.inl h=>
  some (h,true)
 | Sum.inr i=>
  some i
def FRv_Change_L1 (_:Nat) (e:GMemo) (c:GSplice) (l:(List UInt8)) (_:GGraph) (g:((List (Nat×Nat))×(List Int)×(List Int))) (a:(List Int)) (d:(List Int)) (b:Int):Option (((List Int)×(List Int)×Int)⊕((List Int)×(List Int))):=
 if decide (b<=((l.length:Nat):Int))=true then
  (idx g.1 b).bind λ f=>
  (idx e.Costs (iadd .i64 (isub .i64 b ((c.Put.length:Nat):Int)) c.Cut)).bind λ h=>
  (cpyG d h f.1 f.2).bind λ i=>
  (idx e.Least (iadd .i64 (isub .i64 b ((c.Put.length:Nat):Int)) c.Cut)).bind λ j=>
  (idx a b).bind λ _=>
  (put a b j).bind λ k=>
  some (.inl (k,i,(iadd .i64 b 1)))
 else
  some (.inr (a,d))
def FRv_Change_J1 (_:Nat) (b:Int) (d:Int) (a:(List Int)) (c:(List Int)):Option (((List Int)×(List Int)×Int×Int)⊕((List Int)×(List Int)×Int×Int×Int)):=
 some (.inl (a,c,(iadd .i64 b 1),(isub .i64 d 1)))
def FRv_Change_L2 (n:Nat) (i:GMemo) (j:GSplice) (l:(List UInt8)) (k:GGraph) (g:((List (Nat×Nat))×(List Int)×(List Int))) (a:(List Int)) (f:(List Int)) (b:Int) (c:Int):Option (((List Int)×(List Int)×Int×Int)⊕((List Int)×(List Int)×Int×Int×Int)):=
 if decide (c>=0)=true then
  (FRv_graph_columns_1 n c l k g.1 a f).bind λ d=>
  (idx a c).bind λ _=>
  (put a c d.2).bind λ e=>
  if decide (iadd .i64 c 3>j.At)=true then
   FRv_Change_J1 n b c e d.1
  else
   (FRv_settledx n i l c g.1 e d.1).bind λ h=>
   if h.2=true then
    some (.inr (e,d.1,(iadd .i64 b 1),c,h.1))
   else
    FRv_Change_J1 n b c e d.1
 else
  some (.inr (a,f,b,0,0))
def FRv_Change_J2 (_:Nat) (b:Int) (a:(List Int)) (c:(List Int)):Option (((List Int)×(List Int)×Int)⊕((List Int)×(List Int))):=
 some (.inl (a,c,(iadd .i64 b 1)))
def FRv_Change_L3 (n:Nat) (e:GMemo) (_:(List UInt8)) (i:((List (Nat×Nat))×(List Int)×(List Int))) (f:((List Int)×(List Int)×Int×Int×Int)) (b:(List Int)) (d:(List Int)) (a:Int):Option (((List Int)×(List Int)×Int)⊕((List Int)×(List Int))):=
 if decide (a<f.2.2.2.1)=true then
  (idx i.1 a).bind λ g=>
  (idx e.Costs a).bind λ j=>
  (cpyG d j g.1 g.2).bind λ h=>
  (idx e.Least a).bind λ k=>
  (idx b a).bind λ _=>
  (put b a k).bind λ c=>
  (idx e.Least a).bind λ l=>
  if decide (l>=0)=true then
   (idx c a).bind λ m=>
   (idx c a).bind λ _=>
   (put c a (iadd .i64 m f.2.2.2.2)).bind λ o=>
   FRv_Change_J2 n a o h
  else
   FRv_Change_J2 n a c h
 else
  some (.inr (b,d))
def FRv_Change (n:Nat) (j:GTable) (b:GMemo) (a:GSplice):Option (GMemo×Int×Int):=
 if ((((decide (a.At<0))||(decide (a.Cut<0)))||(decide (a.At>((b.Text.length:Nat):Int))))||(decide (a.Cut>isub .i64 ((b.Text.length:Nat):Int) a.At)))=true then
  some (({ Text:=[],Costs:=[],Least:=[] }:GMemo),0,1)
 else
  (sub b.Text 0 a.At).bind λ l=>
  (cat l a.Put).bind λ m=>
  (sub b.Text (iadd .i64 a.At a.Cut) ((b.Text.length:Nat):Int)).bind λ o=>
  (cat m o).bind λ g=>
  (FTb_Text n g).bind λ i=>
  if (i.2 != 0)=true then
   some (({ Text:=[],Costs:=[],Least:=[] }:GMemo),0,i.2)
  else
   (FRv_newGraph n j).bind λ d=>
   (FRv_graph_hasx n b d).bind λ k=>
   if (!k)=true then
    some (({ Text:=[],Costs:=[],Least:=[] }:GMemo),0,1)
   else
    (FRv_graph_emptyx n g d).bind λ c=>
    (whl (λ (x:((List Int)×(List Int)×Int))=>FRv_Change_L1 n b a g d c x.1 x.2.1 x.2.2) n (c.2.1,c.2.2,(iadd .i64 a.At ((a.Put.length:Nat):Int)))).bind λ e=>
    (FRv_graph_columns n g d c.1 e.1 e.2).bind λ _=>
    (whl (λ (x:((List Int)×(List Int)×Int×Int))=>FRv_Change_L2 n b a g d c x.1 x.2.1 x.2.2.1 x.2.2.2) n (e.1,e.2,0,(isub .i64 (iadd .i64 a.At ((a.Put.length:Nat):Int)) 1))).bind λ f=>
    (whl (λ (x:((List Int)×(List Int)×Int))=>FRv_Change_L3 n b g c f x.1 x.2.1 x.2.2) n (f.1,f.2.1,0)).bind λ h=>
    (cutG h.2 c.1).bind λ _=>
    some (({ Text:=g,Costs:=cutL h.2 c.1,Least:=h.1 }:GMemo),f.2.2.1,0)
def FTb_hasSpace_L1 (n:Nat) (b:(List UInt8)) (a:Int):Option (Int⊕(Unit⊕Bool)):=
 if decide (a<((b.length:Nat):Int))=true then
  (sidx b a).bind λ d=>
  (FTb_Class n d).bind λ c=>
  if (c==4)=true then
   some (.inr (.inr true))
  else
   some (.inl (iadd .i64 a 1))
 else
  some (.inr (.inl ()))
def FTb_hasSpace (n:Nat) (a:(List UInt8)):Option Bool:=
 (whl (λ (x:Int)=>FTb_hasSpace_L1 n a x) n 0).bind λ b=>
 match b with
 | Sum.inl _=>
  some false
 | Sum.inr c=>
  some c
def FCe_Valid (_:Nat) (a:Int):Option Bool:=
 some (decide (a<64))
def FTb_sound_L1 (n:Nat) (c:GRule) (a:Int):Option (Int⊕(Unit⊕Bool)):=
 if decide (a<((c.Cells.length:Nat):Int))=true then
  (idx c.Cells a).bind λ b=>
  (FCe_Valid n b).bind λ d=>
  if (((!d)||(b==63))||(b==0))=true then
   some (.inr (.inr false))
  else
   some (.inl (iadd .i64 a 1))
 else
  some (.inr (.inl ()))
def FTb_sound (n:Nat) (a:GRule) (b:Int):Option Bool:=
 if (((decide (((a.Print.length:Nat):Int)>4))||(decide (((a.Cells.length:Nat):Int)<1)))||(decide (((a.Cells.length:Nat):Int)>4)))=true then
  some false
 else
  (FTb_Text n a.Print).bind λ c=>
  if (c.2 != 0)=true then
   some false
  else
   if ((((decide (a.Left<1))||(decide (a.Left>63)))||(decide (a.Right<1)))||(decide (a.Right>63)))=true then
    some false
   else
    if ((((decide (a.From<0))||(decide (a.From>=b)))||(decide (a.To<0)))||(decide (a.To>=b)))=true then
     some false
    else
     (FTb_hasSpace n a.Print).bind λ d=>
     if d=true then
      (if ((((a.Print.length:Nat):Int)==1)&&(((a.Cells.length:Nat):Int)==1))=true then idx a.Cells 0 else some default).bind λ e=>
      some (((((a.Print.length:Nat):Int)==1)&&(((a.Cells.length:Nat):Int)==1))&&(e==0))
     else
      (whl (λ (x:Int)=>FTb_sound_L1 n a x) n 0).bind λ f=>
      match f with
      | Sum.inl _=>
       some true
      | Sum.inr g=>
       some g
def FApi_Cell_L1 (_:Nat) (b:(List Int)) (c:(List Int)) (a:Int):Option (Int⊕(Unit⊕Bool)):=
 if decide (a<((b.length:Nat):Int))=true then
  (idx b a).bind λ d=>
  (idx c a).bind λ e=>
  if (d != e)=true then
   some (.inr (.inr false))
  else
   some (.inl (iadd .i64 a 1))
 else
  some (.inr (.inl ()))
def FApi_Cell (n:Nat) (a:(List Int)) (b:(List Int)):Option Bool:=
 if (((a.length:Nat):Int) != ((b.length:Nat):Int))=true then
  some false
 else
  (whl (λ (x:Int)=>FApi_Cell_L1 n a b x) n 0).bind λ c=>
  match c with
  | Sum.inl _=>
   some true
  | Sum.inr d=>
   some d
def FTb_equal (n:Nat) (a:GRule) (b:GRule):Option Bool:=
 (if (((((a.From==b.From)&&(a.To==b.To))&&(a.Left==b.Left))&&(a.Right==b.Right))&&(a.Print==b.Print))=true then FApi_Cell n a.Cells b.Cells else some default).bind λ c=>
 some ((((((a.From==b.From)&&(a.To==b.To))&&(a.Left==b.Left))&&(a.Right==b.Right))&&(a.Print==b.Print))&&c)
def FTb_Check_L2 (n:Nat) (_:GTable) (b:Int) (d:GRule) (c:(List GRule)) (a:Int):Option (Int⊕(Unit⊕(Int×Int))):=
 if decide (a<((c.length:Nat):Int))=true then
  (idx c a).bind λ e=>
  (FTb_equal n e d).bind λ f=>
  if f=true then
   some (.inr (.inr (b,20)))
  else
   some (.inl (iadd .i64 a 1))
 else
  some (.inr (.inl ()))
def FTb_Check_L1 (n:Nat) (b:GTable) (a:Int):Option (Int⊕(Unit⊕(Int×Int))):=
 if decide (a<((b.Rules.length:Nat):Int))=true then
  (idx b.Rules a).bind λ c=>
  (FTb_sound n c b.Modes).bind λ d=>
  if (!d)=true then
   some (.inr (.inr (a,20)))
  else
   (sub b.Rules 0 a).bind λ e=>
   (whl (λ (x:Int)=>FTb_Check_L2 n b a c e x) n 0).bind λ f=>
   match f with
   | Sum.inl _=>
    some (.inl (iadd .i64 a 1))
   | Sum.inr g=>
    some (.inr (.inr g))
 else
  some (.inr (.inl ()))
def FTb_Check (n:Nat) (a:GTable):Option (Int×Int):=
 if ((decide (a.Modes<1))||(decide (a.Modes>8)))=true then
  some ((-1),1)
 else
  (if (!(a.Accept==0))=true then guardB (decide (0<=a.Modes)) else some default).bind λ _=>
  if ((a.Accept==0)||(decide (IntKind.i64.wrap a.Accept>=ishl .i64 1 a.Modes)))=true then
   some ((-1),1)
  else
   if ((decide (((a.Rules.length:Nat):Int)<1))||(decide (((a.Rules.length:Nat):Int)>64)))=true then
    some ((-1),1)
   else
    (whl (λ (x:Int)=>FTb_Check_L1 n a x) n 0).bind λ b=>
    match b with
    | Sum.inl _=>
     some (0,0)
    | Sum.inr c=>
     some c
def FTb_Valid (n:Nat) (a:GTable):Option Bool:=
 (FTb_Check n a).bind λ b=>
 some (b.2==0)
def FCmp_isNaN_int (_:Nat) (a:Int):Option Bool:=
 some (a != a)
def FCmp_Less_int (n:Nat) (a:Int) (b:Int):Option Bool:=
 (FCmp_isNaN_int n a).bind λ c=>
 (if c=true then FCmp_isNaN_int n b else some default).bind λ d=>
 some ((c&&(!d))||(decide (a<b)))
def FSl_isNaN_int (_:Nat) (a:Int):Option Bool:=
 some (a != a)
def FSl_BinarySearch_int_int_L1 (n:Nat) (c:(List Int)) (d:Int) (a:Int) (b:Int):Option ((Int×Int)⊕Int):=
 if decide (a<b)=true then
  (idx c (IntKind.i64.wrap (ishr .u64 (IntKind.u64.wrap (iadd .i64 a b)) 1))).bind λ e=>
  (FCmp_Less_int n e d).bind λ f=>
  if f=true then
   some (.inl ((iadd .i64 (IntKind.i64.wrap (ishr .u64 (IntKind.u64.wrap (iadd .i64 a b)) 1)) 1),b))
  else
   some (.inl (a,(IntKind.i64.wrap (ishr .u64 (IntKind.u64.wrap (iadd .i64 a b)) 1))))
 else
  some (.inr a)
def FSl_BinarySearch_int_int (n:Nat) (a:(List Int)) (c:Int):Option (Int×Bool):=
 (whl (λ (x:(Int×Int))=>FSl_BinarySearch_int_int_L1 n a c x.1 x.2) n (0,((a.length:Nat):Int))).bind λ b=>
 (if decide (b<((a.length:Nat):Int))=true then idx a b else some default).bind λ d=>
 (if ((decide (b<((a.length:Nat):Int)))&&!(d==c))=true then idx a b else some default).bind λ f=>
 (if ((decide (b<((a.length:Nat):Int)))&&!(d==c))=true then FSl_isNaN_int n f else some default).bind λ e=>
 (if (((decide (b<((a.length:Nat):Int)))&&!(d==c))&&e)=true then FSl_isNaN_int n c else some default).bind λ g=>
 some (b,((decide (b<((a.length:Nat):Int)))&&((d==c)||(e&&g))))
def FTr_column_find (n:Nat) (a:GColumn) (c:Int):Option Int:=
 (FSl_BinarySearch_int_int n a.States c).bind λ b=>
 if (!b.2)=true then
  some (-1)
 else
  (idx a.Costs b.1).bind λ d=>
  some d
def FTr_newWriter_L1 (_:Nat) (_:GTable) (_:(List UInt8)) (c:(List GState)) (_:(List GColumn)) (a:(List (GState×Int))) (b:Int):Option (((List (GState×Int))×Int)⊕(List (GState×Int))):=
 if decide (b<((c.length:Nat):Int))=true then
  (idx c b).bind λ d=>
  some (.inl ((mput d b a),(iadd .i64 b 1)))
 else
  some (.inr a)
def FTr_newWriter_J1 (_:Nat) (a:Int) (b:GWriter):Option ((GWriter×Int)⊕GWriter):=
 some (.inl (b,(iadd .i64 a 1)))
def FTr_newWriter_L3 (n:Nat) (d:GTable) (_:(List GState)) (f:(List (GState×Int))) (c:Int) (g:GState) (a:GWriter) (b:Int):Option ((GWriter×Int)⊕GWriter):=
 if decide (b<((d.Rules.length:Nat):Int))=true then
  (FAu_Step n d g b).bind λ e=>
  if e.2=true then
   (idx a.Arcs c).bind λ h=>
   (app 16 h [({ Rule:=b,To:=(Option.getD (mget e.1 f) 0) }:GTranslateArc)]).bind λ i=>
   FTr_newWriter_J1 n b ({ T:=a.T,S:=a.S,States:=a.States,Arcs:=List.set a.Arcs c.toNat i,Columns:=a.Columns,Last:=a.Last }:GWriter)
  else
   FTr_newWriter_J1 n b a
 else
  some (.inr a)
def FTr_newWriter_L2 (n:Nat) (d:GTable) (b:(List GState)) (e:(List (GState×Int))) (c:GWriter) (a:Int):Option ((GWriter×Int)⊕GWriter):=
 if decide (a<((b.length:Nat):Int))=true then
  (idx b a).bind λ f=>
  (whl (λ (x:(GWriter×Int))=>FTr_newWriter_L3 n d b e a f x.1 x.2) n (c,0)).bind λ g=>
  some (.inl (g,(iadd .i64 a 1)))
 else
  some (.inr c)
def FTr_newWriter (n:Nat) (a:GTable) (c:(List UInt8)):Option GWriter:=
 (FAu_States n a).bind λ b=>
 (mkl 48 (iadd .i64 ((c.length:Nat):Int) 1) (⟨[],[]⟩:GColumn)).bind λ d=>
 (whl (λ (x:((List (GState×Int))×Int))=>FTr_newWriter_L1 n a c b d x.1 x.2) n ([],0)).bind λ e=>
 (mkl 24 ((b.length:Nat):Int) ([]:(List GTranslateArc))).bind λ f=>
 (whl (λ (x:(GWriter×Int))=>FTr_newWriter_L2 n a b e x.1 x.2) n (({ T:=a,S:=c,States:=b,Arcs:=f,Columns:=d,Last:=0 }:GWriter),0)).bind λ g=>
 some g
def FTr_writer_reach_1 (_:Nat) (b:Int) (c:Int) (a:GWriter) (e:(List (List Bool))):Option (GWriter×(List (List Bool))):=
 (idx e (irem b 5)).bind λ d=>
 (guardB (decide (0<=irem b 5/\irem b 5<((5:Nat):Int)))).bind λ _=>
 (idx d c).bind λ g=>
 if (!g)=true then
  (idx d c).bind λ _=>
  (put d c true).bind λ h=>
  (idx a.Columns b).bind λ f=>
  (app 8 f.States [c]).bind λ i=>
  some (({ T:=a.T,S:=a.S,States:=a.States,Arcs:=a.Arcs,Columns:=List.set a.Columns b.toNat ({ States:=i,Costs:=f.Costs }:GColumn),Last:=a.Last }:GWriter),(List.set e (Int.toNat (irem b 5)) h))
 else
  some (a,(List.set e (Int.toNat (irem b 5)) d))
def FTr_writer_printsx (n:Nat) (b:Int) (d:Int) (a:GWriter):Option (Int×Bool):=
 (idx a.T.Rules d).bind λ c=>
 (sub a.S b ((a.S.length:Nat):Int)).bind λ f=>
 (FSt_HasPrefix n f c.Print).bind λ e=>
 some ((iadd .i64 b ((c.Print.length:Nat):Int)),e)
def FSort (_:Nat) (a:(List Int)):Option (List Int):=
 sortI a
def FTr_writer_reach_L1 (_:Nat) (c:GWriter) (a:(List (List Bool))) (b:Int):Option (((List (List Bool))×Int)⊕(List (List Bool))):=
 if decide (b<5)=true then
  (idx a b).bind λ _=>
  (mkl 1 ((c.States.length:Nat):Int) (false:Bool)).bind λ d=>
  (guardB (decide (0<=b/\b<((5:Nat):Int)))).bind λ _=>
  some (.inl ((List.set a b.toNat d),(iadd .i64 b 1)))
 else
  some (.inr a)
def FTr_writer_reach_J3 (_:Nat) (b:Int) (c:GWriter) (a:(List (List Bool))):Option ((GWriter×(List (List Bool))×Int)⊕(GWriter×(List (List Bool)))):=
 some (.inl (c,a,(iadd .i64 b 1)))
def FTr_writer_reach_L4 (n:Nat) (_:(GWriter×(List (List Bool)))) (d:Int) (_:Int) (_:Int) (e:(List GTranslateArc)) (b:GWriter) (a:(List (List Bool))) (c:Int):Option ((GWriter×(List (List Bool))×Int)⊕(GWriter×(List (List Bool)))):=
 if decide (c<((e.length:Nat):Int))=true then
  (idx e c).bind λ f=>
  (FTr_writer_printsx n d f.Rule b).bind λ g=>
  if g.2=true then
   (FTr_writer_reach_1 n g.1 f.To b a).bind λ h=>
   FTr_writer_reach_J3 n c h.1 h.2
  else
   FTr_writer_reach_J3 n c b a
 else
  some (.inr (b,a))
def FTr_writer_reach_J2 (n:Nat) (g:(GWriter×(List (List Bool)))) (c:Int) (a:Int) (b:(List (List Bool))) (d:Int) (h:Int) (e:GWriter):Option ((GWriter×(List (List Bool))×Int)⊕(GWriter×(List (List Bool)))):=
 (idx e.Arcs h).bind λ i=>
 (whl (λ (x:(GWriter×(List (List Bool))×Int))=>FTr_writer_reach_L4 n g c a d i x.1 x.2.1 x.2.2) n (e,b,0)).bind λ f=>
 some (.inl (f.1,f.2,(iadd .i64 d 1)))
def FTr_writer_reach_L3 (n:Nat) (i:(GWriter×(List (List Bool)))) (b:Int) (c:Int) (a:GWriter) (d:(List (List Bool))) (f:Int):Option ((GWriter×(List (List Bool))×Int)⊕(GWriter×(List (List Bool)))):=
 (idx a.Columns b).bind λ e=>
 if decide (f<((e.States.length:Nat):Int))=true then
  (idx (List.set a.Columns b.toNat e) b).bind λ g=>
  (idx g.States f).bind λ h=>
  (idx a.States h).bind λ j=>
  (guardB (decide (0<=c))).bind λ _=>
  if ((iand .u8 (ishr .u8 j.Need c) 1)==1)=true then
   FTr_writer_reach_J2 n i b c d f h ({ T:=a.T,S:=a.S,States:=a.States,Arcs:=a.Arcs,Columns:=List.set (List.set a.Columns b.toNat e) b.toNat g,Last:=b }:GWriter)
  else
   FTr_writer_reach_J2 n i b c d f h ({ T:=a.T,S:=a.S,States:=a.States,Arcs:=a.Arcs,Columns:=List.set (List.set a.Columns b.toNat e) b.toNat g,Last:=a.Last }:GWriter)
 else
  some (.inr (({ T:=a.T,S:=a.S,States:=a.States,Arcs:=a.Arcs,Columns:=List.set a.Columns b.toNat e,Last:=a.Last }:GWriter),d))
def FTr_writer_reach_J1 (n:Nat) (h:(GWriter×(List (List Bool)))) (i:GWriter) (c:(List (List Bool))) (a:Int) (d:Int):Option ((GWriter×(List (List Bool))×Int)⊕GWriter):=
 (whl (λ (x:(GWriter×(List (List Bool))×Int))=>FTr_writer_reach_L3 n h a d x.1 x.2.1 x.2.2) n (i,c,0)).bind λ b=>
 (idx b.1.Columns a).bind λ e=>
 (FSort n e.States).bind λ f=>
 (guardB (decide (List.length e.States=List.length f))).bind λ _=>
 (idx b.2 (irem a 5)).bind λ g=>
 (guardB (decide (0<=irem a 5/\irem a 5<((5:Nat):Int)))).bind λ _=>
 some (.inl (({ T:=b.1.T,S:=b.1.S,States:=b.1.States,Arcs:=b.1.Arcs,Columns:=List.set b.1.Columns a.toNat ({ States:=f,Costs:=e.Costs }:GColumn),Last:=b.1.Last }:GWriter),(List.set b.2 (Int.toNat (irem a 5)) (List.replicate (g.length) (false:Bool))),(iadd .i64 a 1)))
def FTr_writer_reach_L2 (n:Nat) (d:(GWriter×(List (List Bool)))) (c:GWriter) (a:(List (List Bool))) (b:Int):Option ((GWriter×(List (List Bool))×Int)⊕GWriter):=
 if decide (b<((d.1.Columns.length:Nat):Int))=true then
  if decide (b<((c.S.length:Nat):Int))=true then
   (sidx c.S b).bind λ f=>
   (FTb_Class n f).bind λ e=>
   FTr_writer_reach_J1 n d c a b e
  else
   FTr_writer_reach_J1 n d c a b 0
 else
  some (.inr c)
def FTr_writer_reach (n:Nat) (b:GWriter):Option GWriter:=
 (whl (λ (x:((List (List Bool))×Int))=>FTr_writer_reach_L1 n b x.1 x.2) n (([[],[],[],[],[]]:List (List Bool)),0)).bind λ c=>
 (FTr_writer_reach_1 n 0 0 b c).bind λ a=>
 (whl (λ (x:(GWriter×(List (List Bool))×Int))=>FTr_writer_reach_L2 n a x.1 x.2.1 x.2.2) n (a.1,a.2,0)).bind λ d=>
 some d
def FTr_writer_price_1_J1 (_:Nat) (b:Int) (c:GWriter) (a:Bool):Option ((GWriter×Bool×Int)⊕(GWriter×Bool)):=
 some (.inl (c,a,(iadd .i64 b 1)))
def FTr_writer_price_1_L1 (n:Nat) (j:Int) (r:Bool) (b:Int) (f:Int) (k:(List GTranslateArc)) (a:GWriter) (c:Bool) (d:Int):Option ((GWriter×Bool×Int)⊕(GWriter×Bool)):=
 if decide (d<((k.length:Nat):Int))=true then
  (idx k d).bind λ g=>
  (FTr_writer_printsx n f g.Rule a).bind λ o=>
  if ((!o.2)||(!((o.1==f)==r)))=true then
   FTr_writer_price_1_J1 n d a c
  else
   (idx a.Columns o.1).bind λ p=>
   (FTr_column_find n p g.To).bind λ h=>
   (idx a.T.Rules g.Rule).bind λ l=>
   (idx a.Columns b).bind λ e=>
   (if decide (h>=0)=true then idx e.Costs j else some default).bind λ m=>
   (if ((decide (h>=0))&&!(decide (m<0)))=true then idx e.Costs j else some default).bind λ q=>
   if ((decide (h>=0))&&((decide (m<0))||(decide (iadd .i64 h ((l.Cells.length:Nat):Int)<q))))=true then
    (idx (List.set a.Columns b.toNat e) b).bind λ i=>
    (idx i.Costs j).bind λ _=>
    (put i.Costs j (iadd .i64 h ((l.Cells.length:Nat):Int))).bind λ s=>
    FTr_writer_price_1_J1 n d ({ T:=a.T,S:=a.S,States:=a.States,Arcs:=a.Arcs,Columns:=List.set (List.set a.Columns b.toNat e) b.toNat ({ States:=i.States,Costs:=s }:GColumn),Last:=a.Last }:GWriter) true
   else
    FTr_writer_price_1_J1 n d ({ T:=a.T,S:=a.S,States:=a.States,Arcs:=a.Arcs,Columns:=List.set a.Columns b.toNat e,Last:=a.Last }:GWriter) c
 else
  some (.inr (a,c))
def FTr_writer_price_1 (n:Nat) (e:Int) (i:Bool) (b:Int) (d:Int) (a:GWriter):Option (GWriter×Bool):=
 (idx a.Columns b).bind λ c=>
 (idx c.States e).bind λ f=>
 (idx a.Arcs f).bind λ g=>
 (whl (λ (x:(GWriter×Bool×Int))=>FTr_writer_price_1_L1 n e i b d g x.1 x.2.1 x.2.2) n (({ T:=a.T,S:=a.S,States:=a.States,Arcs:=a.Arcs,Columns:=List.set a.Columns b.toNat c,Last:=a.Last }:GWriter),false,0)).bind λ h=>
 some (h.1,h.2)
def FTr_writer_price_J1 (_:Nat) (a:Int) (b:(List Int)):Option (((List Int)×Int)⊕GWriter):=
 some (.inl (b,(iadd .i64 a 1)))
def FTr_writer_price_L2 (n:Nat) (b:GWriter) (a:Int) (e:GColumn) (h:(List Int)) (d:GColumn) (f:(List Int)) (c:Int):Option (((List Int)×Int)⊕GWriter):=
 if decide (c<((d.States.length:Nat):Int))=true then
  (idx d.States c).bind λ i=>
  (idx (List.set b.Columns a.toNat ({ States:=e.States,Costs:=h }:GColumn)) a).bind λ _=>
  (idx f c).bind λ _=>
  (put f c (-1)).bind λ g=>
  (if (a==((b.S.length:Nat):Int))=true then idx b.States i else some default).bind λ j=>
  (if (a==((b.S.length:Nat):Int))=true then FAu_Accepts n b.T j else some default).bind λ k=>
  if ((a==((b.S.length:Nat):Int))&&k)=true then
   (idx g c).bind λ _=>
   (put g c 0).bind λ l=>
   FTr_writer_price_J1 n c l
  else
   FTr_writer_price_J1 n c g
 else
  some (.inr ({ T:=b.T,S:=b.S,States:=b.States,Arcs:=b.Arcs,Columns:=List.set (List.set b.Columns a.toNat ({ States:=e.States,Costs:=h }:GColumn)) a.toNat ({ States:=d.States,Costs:=f }:GColumn),Last:=b.Last }:GWriter))
def FTr_writer_price_L3 (n:Nat) (a:Int) (d:GColumn) (c:GWriter) (b:Int):Option ((GWriter×Int)⊕GWriter):=
 if decide (b<((d.States.length:Nat):Int))=true then
  (FTr_writer_price_1 n b false a a c).bind λ e=>
  some (.inl (e.1,(iadd .i64 b 1)))
 else
  some (.inr c)
def FTr_writer_price_L5 (n:Nat) (b:Int) (e:GColumn) (d:GWriter) (a:Bool) (c:Int):Option ((GWriter×Bool×Int)⊕(GWriter×Bool)):=
 if decide (c<((e.States.length:Nat):Int))=true then
  (FTr_writer_price_1 n c true b b d).bind λ f=>
  some (.inl (f.1,(f.2||a),(iadd .i64 c 1)))
 else
  some (.inr (d,a))
def FTr_writer_price_L4 (n:Nat) (a:Int) (b:GWriter):Option (GWriter⊕GWriter):=
 (idx b.Columns a).bind λ c=>
 (whl (λ (x:(GWriter×Bool×Int))=>FTr_writer_price_L5 n a c x.1 x.2.1 x.2.2) n (({ T:=b.T,S:=b.S,States:=b.States,Arcs:=b.Arcs,Columns:=List.set b.Columns a.toNat c,Last:=b.Last }:GWriter),false,0)).bind λ d=>
 if (!d.2)=true then
  some (.inr d.1)
 else
  some (.inl d.1)
def FTr_writer_price_L1 (n:Nat) (b:GWriter) (a:Int):Option ((GWriter×Int)⊕GWriter):=
 if decide (a>=0)=true then
  (idx b.Columns a).bind λ _=>
  (idx b.Columns a).bind λ d=>
  (mkl 8 ((d.States.length:Nat):Int) (0:Int)).bind λ g=>
  (idx (List.set b.Columns a.toNat ({ States:=d.States,Costs:=g }:GColumn)) a).bind λ e=>
  (whl (λ (x:((List Int)×Int))=>FTr_writer_price_L2 n b a d g e x.1 x.2) n (e.Costs,0)).bind λ c=>
  (idx c.Columns a).bind λ f=>
  (whl (λ (x:(GWriter×Int))=>FTr_writer_price_L3 n a f x.1 x.2) n (({ T:=c.T,S:=c.S,States:=c.States,Arcs:=c.Arcs,Columns:=List.set c.Columns a.toNat f,Last:=c.Last }:GWriter),0)).bind λ h=>
  (whl (λ (x:GWriter)=>FTr_writer_price_L4 n a x) n h).bind λ i=>
  some (.inl (i,(isub .i64 a 1)))
 else
  some (.inr b)
def FTr_writer_price (n:Nat) (a:GWriter):Option GWriter:=
 (whl (λ (x:(GWriter×Int))=>FTr_writer_price_L1 n x.1 x.2) n (a,((a.S.length:Nat):Int))).bind λ b=>
 some b
def FTr_writer_writingx_J1 (_:Nat) (a:Int):Option (Int⊕((GWriting×Int×Int×Int)⊕Unit)):=
 some (.inl (iadd .i64 a 1))
def FTr_writer_writingx_L2 (n:Nat) (h:GWriter) (a:GWriting) (e:Int) (c:Int) (g:(List GTranslateArc)) (d:Int):Option (Int⊕((GWriting×Int×Int×Int)⊕Unit)):=
 if decide (d<((g.length:Nat):Int))=true then
  (idx g d).bind λ b=>
  (FTr_writer_printsx n e b.Rule h).bind λ i=>
  if (!i.2)=true then
   FTr_writer_writingx_J1 n d
  else
   (idx h.T.Rules b.Rule).bind λ f=>
   (idx h.Columns i.1).bind λ j=>
   (FTr_column_find n j b.To).bind λ k=>
   if ((decide (k<0))||(k != (isub .i64 c ((f.Cells.length:Nat):Int))))=true then
    FTr_writer_writingx_J1 n d
   else
    (app 1 a.Cells f.Cells).bind λ l=>
    (app 8 a.Path [b.Rule]).bind λ m=>
    some (.inr (.inl (({ Cells:=l,Path:=m }:GWriting),i.1,b.To,(isub .i64 c ((f.Cells.length:Nat):Int)))))
 else
  some (.inr (.inr ()))
def FTr_writer_writingx_L1 (n:Nat) (f:GWriter) (a:GWriting) (c:Int) (d:Int) (b:Int):Option ((GWriting×Int×Int×Int)⊕GWriting):=
 if decide (b>0)=true then
  (idx f.Arcs d).bind λ g=>
  (whl (λ (x:Int)=>FTr_writer_writingx_L2 n f a c b g x) n 0).bind λ h=>
  match h with
  | Sum.inl e=>
   some (.inl (e.1,e.2.1,e.2.2.1,e.2.2.2))
  | Sum.inr _=>
   some (.inr a)
 else
  some (.inr a)
def FTr_writer_writingx (n:Nat) (a:GWriter):Option GWriting:=
 (idx a.Columns 0).bind λ b=>
 (FTr_column_find n b 0).bind λ c=>
 (whl (λ (x:(GWriting×Int×Int×Int))=>FTr_writer_writingx_L1 n a x.1 x.2.1 x.2.2.1 x.2.2.2) n (({ Cells:=([]:List Int),Path:=([]:List Int) }:GWriting),0,0,c)).bind λ d=>
 some d
def FTr_Write (n:Nat) (e:GTable) (c:(List UInt8)):Option (GWriting×Int×Int):=
 (FTb_Text n c).bind λ d=>
 if (d.2 != 0)=true then
  some (({ Cells:=[],Path:=[] }:GWriting),d.1,d.2)
 else
  (FTb_Valid n e).bind λ g=>
  if (!g)=true then
   some (({ Cells:=[],Path:=[] }:GWriting),0,61)
  else
   (FTr_newWriter n e c).bind λ h=>
   (FTr_writer_reach n h).bind λ i=>
   (FTr_writer_price n i).bind λ a=>
   (idx a.Columns 0).bind λ b=>
   (idx b.Costs 0).bind λ f=>
   if decide (f<0)=true then
    some (({ Cells:=[],Path:=[] }:GWriting),a.Last,61)
   else
    (FTr_writer_writingx n ({ T:=a.T,S:=a.S,States:=a.States,Arcs:=a.Arcs,Columns:=List.set a.Columns (Int.toNat 0) b,Last:=a.Last }:GWriter)).bind λ j=>
    some (j,((c.length:Nat):Int),0)
def FRv_Result (n:Nat) (b:GTable) (c:GMemo):Option (GWriting×Int):=
 (FTr_Write n b c.Text).bind λ a=>
 if (a.2.2 != 0)=true then
  some (({ Cells:=[],Path:=[] }:GWriting),61)
 else
  some (a.1,0)
def FR6_Ints_L1 (_:Nat) (b:(List Int)) (e:(List Int)) (a:Int):Option (Int⊕(Unit⊕Bool)):=
 if decide (a<((b.length:Nat):Int))=true then
  (idx b a).bind λ c=>
  (idx e a).bind λ d=>
  if (c != d)=true then
   some (.inr (.inr false))
  else
   some (.inl (iadd .i64 a 1))
 else
  some (.inr (.inl ()))
def FR6_Ints (n:Nat) (a:(List Int)) (b:(List Int)):Option Bool:=
 if (((a.length:Nat):Int) != ((b.length:Nat):Int))=true then
  some false
 else
  (whl (λ (x:Int)=>FR6_Ints_L1 n a b x) n 0).bind λ c=>
  match c with
  | Sum.inl _=>
   some true
  | Sum.inr d=>
   some d
def FR2_SameCells_L1 (_:Nat) (b:(List Int)) (e:(List Int)) (a:Int):Option (Int⊕(Unit⊕Bool)):=
 if decide (a<((b.length:Nat):Int))=true then
  (idx b a).bind λ c=>
  (idx e a).bind λ d=>
  if (c != d)=true then
   some (.inr (.inr false))
  else
   some (.inl (iadd .i64 a 1))
 else
  some (.inr (.inl ()))
def FR2_SameCells (n:Nat) (a:(List Int)) (b:(List Int)):Option Bool:=
 if (((a.length:Nat):Int) != ((b.length:Nat):Int))=true then
  some false
 else
  (whl (λ (x:Int)=>FR2_SameCells_L1 n a b x) n 0).bind λ c=>
  match c with
  | Sum.inl _=>
   some true
  | Sum.inr d=>
   some d
def FR6_Same (n:Nat) (a:GWriting) (b:GWriting):Option Bool:=
 (FR2_SameCells n a.Cells b.Cells).bind λ c=>
 (if c=true then FR6_Ints n a.Path b.Path else some default).bind λ d=>
 some (c&&d)
def FL7_sanity (n:Nat) :Option Bool:=
 (FL7_simple n).bind λ c=>
 (FRv_Start n c [97,97,98]).bind λ b=>
 (FRv_Start n c [97,9]).bind λ f=>
 (FRv_Change n c b.1 ({ At:=0,Cut:=1,Put:=[98] }:GSplice)).bind λ a=>
 (FRv_Change n c b.1 ({ At:=2,Cut:=2,Put:=[] }:GSplice)).bind λ g=>
 (FRv_Change n c b.1 ({ At:=3,Cut:=0,Put:=[10] }:GSplice)).bind λ h=>
 (FRv_Result n c b.1).bind λ e=>
 (FRv_Start n c [99]).bind λ d=>
 (FRv_Result n c d.1).bind λ i=>
 (if ((((((((b.2==0)&&(f.2==60))&&(a.2.2==0))&&(g.2.2==1))&&(h.2.2==60))&&(e.2==0))&&(d.2==0))&&(i.2==61))=true then FR6_Ints n b.1.Least [2,1,1,0] else some default).bind λ j=>
 (if (((((((((((b.2==0)&&(f.2==60))&&(a.2.2==0))&&(g.2.2==1))&&(h.2.2==60))&&(e.2==0))&&(d.2==0))&&(i.2==61))&&j)&&(a.2.1==1))&&(a.1.Text==[98,97,98]))=true then FR6_Ints n a.1.Least [2,1,1,0] else some default).bind λ k=>
 (if ((((((((((((b.2==0)&&(f.2==60))&&(a.2.2==0))&&(g.2.2==1))&&(h.2.2==60))&&(e.2==0))&&(d.2==0))&&(i.2==61))&&j)&&(a.2.1==1))&&(a.1.Text==[98,97,98]))&&k)=true then FR6_Same n e.1 ({ Cells:=[1,7],Path:=[0,2] }:GWriting) else some default).bind λ l=>
 (if (((((((((((((b.2==0)&&(f.2==60))&&(a.2.2==0))&&(g.2.2==1))&&(h.2.2==60))&&(e.2==0))&&(d.2==0))&&(i.2==61))&&j)&&(a.2.1==1))&&(a.1.Text==[98,97,98]))&&k)&&l)=true then FR6_Ints n d.1.Least [(-1),0] else some default).bind λ m=>
 some ((((((((((((((b.2==0)&&(f.2==60))&&(a.2.2==0))&&(g.2.2==1))&&(h.2.2==60))&&(e.2==0))&&(d.2==0))&&(i.2==61))&&j)&&(a.2.1==1))&&(a.1.Text==[98,97,98]))&&k)&&l)&&m)
def FR2_simple (_:Nat) (b:(List UInt8)) (c:(List Int)) (a:(Arr2 Int)):Option GRule:=
 some ({ Print:=b,Cells:=c,Left:=63,Right:=63,From:=a.a0,To:=a.a1 }:GRule)
def FR2_letters (n:Nat) :Option (List GRule):=
 (FR2_simple n [97] [1] ({ a0:=0,a1:=0 }:(Arr2 Int))).bind λ a=>
 (FR2_simple n [98] [3] ({ a0:=0,a1:=0 }:(Arr2 Int))).bind λ b=>
 (FR2_simple n [99] [9] ({ a0:=0,a1:=0 }:(Arr2 Int))).bind λ c=>
 (FR2_simple n [32] [0] ({ a0:=0,a1:=0 }:(Arr2 Int))).bind λ d=>
 some [a,b,c,d]
def FR2_indicator (n:Nat) (c:Int) (b:Int) (d:(Arr2 Int)):Option GRule:=
 (FR2_simple n [] [c] d).bind λ a=>
 (guardB (decide (0<=b))).bind λ _=>
 some ({ Print:=a.Print,Cells:=a.Cells,Left:=a.Left,Right:=ishl .u8 1 b,From:=a.From,To:=a.To }:GRule)
def FR2_Base_J1 (_:Nat) (a:(List GRule)):Option GTable:=
 some ({ Modes:=1,Accept:=1,Rules:=a }:GTable)
def FR2_Base (n:Nat) (d:Int):Option GTable:=
 (FR2_letters n).bind λ a=>
 if ((irem d 8)==1)=true then
  (FR2_indicator n 60 3 ({ a0:=0,a1:=1 }:(Arr2 Int))).bind λ t=>
  (FR2_simple n [49] [1] ({ a0:=1,a1:=1 }:(Arr2 Int))).bind λ u=>
  (FR2_simple n [50] [3] ({ a0:=1,a1:=1 }:(Arr2 Int))).bind λ v=>
  (FR2_simple n [32] [0] ({ a0:=1,a1:=0 }:(Arr2 Int))).bind λ w=>
  (app 64 a [t,u,v,w]).bind λ x=>
  some ({ Modes:=2,Accept:=3,Rules:=x }:GTable)
 else
  if ((irem d 8)==2)=true then
   (FR2_indicator n 32 2 ({ a0:=0,a1:=1 }:(Arr2 Int))).bind λ e=>
   (FR2_simple n [65] [1] ({ a0:=1,a1:=0 }:(Arr2 Int))).bind λ f=>
   (FR2_simple n [66] [3] ({ a0:=1,a1:=0 }:(Arr2 Int))).bind λ g=>
   (app 64 a [e,f,g]).bind λ y=>
   some ({ Modes:=2,Accept:=1,Rules:=y }:GTable)
  else
   if ((irem d 8)==3)=true then
    (FR2_simple n [97,98] [7] ({ a0:=0,a1:=0 }:(Arr2 Int))).bind λ h=>
    (FR2_simple n [97,98,99] [15] ({ a0:=0,a1:=0 }:(Arr2 Int))).bind λ i=>
    (FR2_simple n [99,97] [4,4] ({ a0:=0,a1:=0 }:(Arr2 Int))).bind λ j=>
    (app 64 a [h,i,j]).bind λ z=>
    FR2_Base_J1 n z
   else
    if ((irem d 8)==4)=true then
     (FR2_simple n [45] [1,3] ({ a0:=0,a1:=0 }:(Arr2 Int))).bind λ k=>
     (app 64 a [k]).bind λ A=>
     FR2_Base_J1 n A
    else
     if ((irem d 8)==5)=true then
      (FR2_simple n [98] [44] ({ a0:=0,a1:=0 }:(Arr2 Int))).bind λ b=>
      (FR2_simple n [99,97,98] [44] ({ a0:=0,a1:=0 }:(Arr2 Int))).bind λ c=>
      (FR2_simple n [45] [36] ({ a0:=0,a1:=0 }:(Arr2 Int))).bind λ l=>
      (app 64 a [({ Print:=b.Print,Cells:=b.Cells,Left:=17,Right:=b.Right,From:=b.From,To:=b.To }:GRule),({ Print:=c.Print,Cells:=c.Cells,Left:=2,Right:=c.Right,From:=c.From,To:=c.To }:GRule),l]).bind λ B=>
      FR2_Base_J1 n B
     else
      if ((irem d 8)==6)=true then
       (FR2_indicator n 40 1 ({ a0:=0,a1:=1 }:(Arr2 Int))).bind λ m=>
       (FR2_simple n [225] [1] ({ a0:=1,a1:=0 }:(Arr2 Int))).bind λ o=>
       (FR2_simple n [226] [3] ({ a0:=1,a1:=0 }:(Arr2 Int))).bind λ p=>
       (app 64 a [m,o,p]).bind λ C=>
       some ({ Modes:=2,Accept:=1,Rules:=C }:GTable)
      else
       if ((irem d 8)==7)=true then
        (FR2_simple n [45] [1,5] ({ a0:=0,a1:=0 }:(Arr2 Int))).bind λ q=>
        (FR2_simple n [49] [5,5] ({ a0:=0,a1:=0 }:(Arr2 Int))).bind λ r=>
        (FR2_simple n [50] [5,9] ({ a0:=0,a1:=0 }:(Arr2 Int))).bind λ s=>
        (app 64 a [q,r,s]).bind λ E=>
        FR2_Base_J1 n E
       else
        FR2_Base_J1 n a
def FR2_Rule_L1 (_:Nat) (d:GRawRule) (a:GRule) (b:Int):Option ((GRule×Int)⊕GRule):=
 if ((decide (b<((d.P.length:Nat):Int)))&&(decide (b<3)))=true then
  (idx d.P b).bind λ c=>
  (sub [97,98,99,65,66,49,50,45,46] (IntKind.i64.wrap (irem c 9)) (iadd .i64 (IntKind.i64.wrap (irem c 9)) 1)).bind λ f=>
  (cat a.Print f).bind λ e=>
  some (.inl (({ Print:=e,Cells:=a.Cells,Left:=a.Left,Right:=a.Right,From:=a.From,To:=a.To }:GRule),(iadd .i64 b 1)))
 else
  some (.inr a)
def FR2_Rule_L2 (_:Nat) (c:GRawRule) (a:GRule) (b:Int):Option ((GRule×Int)⊕GRule):=
 if ((decide (b<((c.C.length:Nat):Int)))&&(decide (b<2)))=true then
  (idx c.C b).bind λ d=>
  (idx [1,3,9,5,7,32,44,60] (irem d 8)).bind λ e=>
  (app 1 a.Cells [e]).bind λ f=>
  some (.inl (({ Print:=a.Print,Cells:=f,Left:=a.Left,Right:=a.Right,From:=a.From,To:=a.To }:GRule),(iadd .i64 b 1)))
 else
  some (.inr a)
def FR2_Rule (n:Nat) (a:GRawRule) (c:Int):Option GRule:=
 (idx [63,63,2,8,17,62,4,1] (irem a.L 8)).bind λ d=>
 (idx [63,63,2,8,17,62,4,1] (irem a.R 8)).bind λ e=>
 (guardB (!(c==0))).bind λ _=>
 (guardB (!(c==0))).bind λ _=>
 (whl (λ (x:(GRule×Int))=>FR2_Rule_L1 n a x.1 x.2) n (({ Print:=[],Cells:=([]:List Int),Left:=d,Right:=e,From:=irem (IntKind.i64.wrap a.W.a0) c,To:=irem (IntKind.i64.wrap a.W.a1) c }:GRule),0)).bind λ b=>
 (idx [1,3,9,5,7,32,44,60] (irem (iquo .u8 a.L 8) 8)).bind λ f=>
 (whl (λ (x:(GRule×Int))=>FR2_Rule_L2 n a x.1 x.2) n (({ Print:=b.Print,Cells:=[f],Left:=b.Left,Right:=b.Right,From:=b.From,To:=b.To }:GRule),0)).bind λ g=>
 some g
def FR2_Character (_:Nat) (a:Int):Option Bool:=
 some ((decide (iand .u8 a 127>=32))&&(decide (iand .u8 a 127<=126)))
def FR2_Text_L1 (n:Nat) (b:(List UInt8)) (a:Int):Option (Int⊕(Unit⊕(Int×Int))):=
 if decide (a<((b.length:Nat):Int))=true then
  (sidx b a).bind λ d=>
  (FR2_Character n d).bind λ c=>
  if (!c)=true then
   some (.inr (.inr (a,60)))
  else
   some (.inl (iadd .i64 a 1))
 else
  some (.inr (.inl ()))
def FR2_Text (n:Nat) (a:(List UInt8)):Option (Int×Int):=
 (whl (λ (x:Int)=>FR2_Text_L1 n a x) n 0).bind λ b=>
 match b with
 | Sum.inl _=>
  some (((a.length:Nat):Int),0)
 | Sum.inr c=>
  some c
def FR2_IsText (n:Nat) (b:(List UInt8)):Option Bool:=
 (FR2_Text n b).bind λ a=>
 some (a.2==0)
def FR2_Space (_:Nat) (a:Int):Option Bool:=
 some ((iand .u8 a 127)==32)
def FR2_Sound_L1 (n:Nat) (c:GRule) (a:Bool) (b:Int):Option ((Bool×Int)⊕Bool):=
 if decide (b<((c.Print.length:Nat):Int))=true then
  (if (!a)=true then sidx c.Print b else some default).bind λ e=>
  (if (!a)=true then FR2_Space n e else some default).bind λ d=>
  some (.inl ((a||d),(iadd .i64 b 1)))
 else
  some (.inr a)
def FR2_Sound_L2 (_:Nat) (c:GRule) (_:Bool) (a:Bool) (b:Int):Option ((Bool×Int)⊕(Bool⊕Bool)):=
 if decide (b<((c.Cells.length:Nat):Int))=true then
  (idx c.Cells b).bind λ d=>
  if decide (d>=63)=true then
   some (.inr (.inr false))
  else
   (if (!a)=true then idx c.Cells b else some default).bind λ e=>
   some (.inl ((a||(e==0)),(iadd .i64 b 1)))
 else
  some (.inr (.inl a))
def FR2_Sound (n:Nat) (a:GRule) (b:Int):Option Bool:=
 (FR2_IsText n a.Print).bind λ c=>
 if ((((!c)||(decide (((a.Print.length:Nat):Int)>4)))||(decide (((a.Cells.length:Nat):Int)<1)))||(decide (((a.Cells.length:Nat):Int)>4)))=true then
  some false
 else
  if ((((((((decide (a.Left<1))||(decide (a.Left>63)))||(decide (a.Right<1)))||(decide (a.Right>63)))||(decide (a.From<0)))||(decide (a.From>=b)))||(decide (a.To<0)))||(decide (a.To>=b)))=true then
   some false
  else
   (whl (λ (x:(Bool×Int))=>FR2_Sound_L1 n a x.1 x.2) n (false,0)).bind λ d=>
   (whl (λ (x:(Bool×Int))=>FR2_Sound_L2 n a d x.1 x.2) n (false,0)).bind λ f=>
   match f with
   | Sum.inl e=>
    if (!d)=true then
     some (!e)
    else
     some (((((a.Print.length:Nat):Int)==1)&&(((a.Cells.length:Nat):Int)==1))&&e)
   | Sum.inr g=>
    some g
def FR2_SameRule (n:Nat) (a:GRule) (b:GRule):Option Bool:=
 (if (a.Print==b.Print)=true then FR2_SameCells n a.Cells b.Cells else some default).bind λ c=>
 some ((((((a.Print==b.Print)&&c)&&(a.Left==b.Left))&&(a.Right==b.Right))&&(a.From==b.From))&&(a.To==b.To))
def FR2_Check_L2 (n:Nat) (c:GTable) (a:Int) (b:Int):Option (Int⊕(Unit⊕(Int×Int))):=
 if decide (b<a)=true then
  (idx c.Rules b).bind λ d=>
  (idx c.Rules a).bind λ e=>
  (FR2_SameRule n d e).bind λ f=>
  if f=true then
   some (.inr (.inr (a,20)))
  else
   some (.inl (iadd .i64 b 1))
 else
  some (.inr (.inl ()))
def FR2_Check_L1 (n:Nat) (b:GTable) (a:Int):Option (Int⊕(Unit⊕(Int×Int))):=
 if decide (a<((b.Rules.length:Nat):Int))=true then
  (idx b.Rules a).bind λ c=>
  (FR2_Sound n c b.Modes).bind λ d=>
  if (!d)=true then
   some (.inr (.inr (a,20)))
  else
   (whl (λ (x:Int)=>FR2_Check_L2 n b a x) n 0).bind λ e=>
   match e with
   | Sum.inl _=>
    some (.inl (iadd .i64 a 1))
   | Sum.inr f=>
    some (.inr (.inr f))
 else
  some (.inr (.inl ()))
def FR2_Check (n:Nat) (a:GTable):Option (Int×Int):=
 (if (!(((decide (a.Modes<1))||(decide (a.Modes>8)))||(a.Accept==0)))=true then guardB (decide (0<=a.Modes)) else some default).bind λ _=>
 if ((((((decide (a.Modes<1))||(decide (a.Modes>8)))||(a.Accept==0))||(decide (IntKind.i64.wrap a.Accept>=ishl .i64 1 a.Modes)))||(decide (((a.Rules.length:Nat):Int)<1)))||(decide (((a.Rules.length:Nat):Int)>64)))=true then
  some ((-1),1)
 else
  (whl (λ (x:Int)=>FR2_Check_L1 n a x) n 0).bind λ b=>
  match b with
  | Sum.inl _=>
   some (0,0)
  | Sum.inr c=>
   some c
def FR2_Valid (n:Nat) (b:GTable):Option Bool:=
 (FR2_Check n b).bind λ a=>
 some (a.2==0)
def FR2_Made_J1 (_:Nat) (a:Int) (b:GTable):Option ((GTable×Int)⊕GTable):=
 some (.inl (b,(iadd .i64 a 1)))
def FR2_Made_L1 (n:Nat) (e:GRaw) (c:GTable) (b:GTable) (a:Int):Option ((GTable×Int)⊕GTable):=
 if decide (a<((c.Rules.length:Nat):Int))=true then
  (guardB (decide (0<=a))).bind λ _=>
  if ((iand .u8 (ishr .u8 e.Drop a) 1)==0)=true then
   (idx c.Rules a).bind λ d=>
   (app 64 b.Rules [d]).bind λ f=>
   FR2_Made_J1 n a ({ Modes:=b.Modes,Accept:=b.Accept,Rules:=f }:GTable)
  else
   FR2_Made_J1 n a b
 else
  some (.inr b)
def FR2_Made_J2 (_:Nat) (a:Int) (b:GTable):Option ((GTable×Int)⊕GTable):=
 some (.inl (b,(iadd .i64 a 1)))
def FR2_Made_L2 (n:Nat) (d:GRaw) (_:GTable) (a:GTable) (b:Int):Option ((GTable×Int)⊕GTable):=
 if ((decide (b<((d.More.length:Nat):Int)))&&(decide (b<2)))=true then
  (idx d.More b).bind λ e=>
  (FR2_Rule n e a.Modes).bind λ f=>
  (app 64 a.Rules [f]).bind λ c=>
  (FR2_Valid n ({ Modes:=a.Modes,Accept:=a.Accept,Rules:=c }:GTable)).bind λ g=>
  if (!g)=true then
   (sub c 0 (isub .i64 ((c.length:Nat):Int) 1)).bind λ h=>
   FR2_Made_J2 n b ({ Modes:=a.Modes,Accept:=a.Accept,Rules:=h }:GTable)
  else
   FR2_Made_J2 n b ({ Modes:=a.Modes,Accept:=a.Accept,Rules:=c }:GTable)
 else
  some (.inr a)
def FR2_Made_J3 (_:Nat) (a:GTable):Option GTable:=
 some a
def FR2_Made (n:Nat) (c:GRaw):Option GTable:=
 (FR2_Base n c.Base).bind λ a=>
 (whl (λ (x:(GTable×Int))=>FR2_Made_L1 n c a x.1 x.2) n (({ Modes:=a.Modes,Accept:=a.Accept,Rules:=([]:List GRule) }:GTable),0)).bind λ d=>
 (whl (λ (x:(GTable×Int))=>FR2_Made_L2 n c a x.1 x.2) n (d,0)).bind λ b=>
 if (((b.Rules.length:Nat):Int)==0)=true then
  FR2_Made_J3 n ({ Modes:=b.Modes,Accept:=b.Accept,Rules:=a.Rules }:GTable)
 else
  FR2_Made_J3 n b
def FR2_Spelled_J1 (_:Nat) (b:Int) (a:(List UInt8)):Option (((List UInt8)×Int)⊕(List UInt8)):=
 some (.inl (a,(iadd .i64 b 1)))
def FR2_Spelled_L1 (n:Nat) (c:GTable) (e:(List Int)) (a:(List UInt8)) (b:Int):Option (((List UInt8)×Int)⊕(List UInt8)):=
 if (((decide (b<((e.length:Nat):Int)))&&(decide (b<12)))&&(decide (((c.Rules.length:Nat):Int)>0)))=true then
  (idx e b).bind λ f=>
  (guardB (!(((c.Rules.length:Nat):Int)==0))).bind λ _=>
  (idx c.Rules (irem (IntKind.i64.wrap f) ((c.Rules.length:Nat):Int))).bind λ d=>
  if decide (iadd .i64 ((a.length:Nat):Int) ((d.Print.length:Nat):Int)<=12)=true then
   (cat a d.Print).bind λ g=>
   FR2_Spelled_J1 n b g
  else
   FR2_Spelled_J1 n b a
 else
  some (.inr a)
def FR2_Spelled (n:Nat) (b:GTable) (c:(List Int)):Option (List UInt8):=
 (whl (λ (x:((List UInt8)×Int))=>FR2_Spelled_L1 n b c x.1 x.2) n ([],0)).bind λ a=>
 some a
def FR3_Start (_:Nat) :Option GState:=
 some ({ Mode:=0,Last:=0,Need:=63 }:GState)
def FR3_Bit (_:Nat) (b:Int) (a:Int):Option Bool:=
 (if ((decide (a>=0))&&(decide (a<8)))=true then guardB (decide (0<=a)) else some default).bind λ _=>
 some (((decide (a>=0))&&(decide (a<8)))&&((iand .u8 (ishr .u8 b a) 1)==1))
def FR2_Class (_:Nat) (a:Int):Option Int:=
 if ((decide (iand .u8 a 127>=97))&&(decide (iand .u8 a 127<=122)))=true then
  some 1
 else
  if ((decide (iand .u8 a 127>=65))&&(decide (iand .u8 a 127<=90)))=true then
   some 2
  else
   if ((decide (iand .u8 a 127>=48))&&(decide (iand .u8 a 127<=57)))=true then
    some 3
   else
    if ((iand .u8 a 127)==32)=true then
     some 4
    else
     some 5
def FR3_Step (n:Nat) (d:GTable) (b:GState) (c:Int):Option (GState×Bool):=
 if ((decide (c<0))||(decide (c>=((d.Rules.length:Nat):Int))))=true then
  some (({ Mode:=0,Last:=0,Need:=0 }:GState),false)
 else
  (idx d.Rules c).bind λ a=>
  (if (!(a.From != b.Mode))=true then FR3_Bit n a.Left b.Last else some default).bind λ e=>
  if ((a.From != b.Mode)||(!e))=true then
   some (({ Mode:=0,Last:=0,Need:=0 }:GState),false)
  else
   if ((((a.Print.length:Nat):Int)==0)&&((iand .u8 b.Need a.Right)==0))=true then
    some (({ Mode:=0,Last:=0,Need:=0 }:GState),false)
   else
    if (((a.Print.length:Nat):Int)==0)=true then
     some (({ Mode:=a.To,Last:=b.Last,Need:=iand .u8 b.Need a.Right }:GState),true)
    else
     (sidx a.Print 0).bind λ i=>
     (FR2_Class n i).bind λ f=>
     (FR3_Bit n b.Need f).bind λ g=>
     if (!g)=true then
      some (({ Mode:=0,Last:=0,Need:=0 }:GState),false)
     else
      (sidx a.Print (isub .i64 ((a.Print.length:Nat):Int) 1)).bind λ j=>
      (FR2_Class n j).bind λ h=>
      some (({ Mode:=a.To,Last:=h,Need:=a.Right }:GState),true)
def FR3_Index_L1 (_:Nat) (d:(List GState)) (c:GState) (a:Int):Option (Int⊕(Unit⊕Int)):=
 if decide (a<((d.length:Nat):Int))=true then
  (idx d a).bind λ b=>
  if ((b.Mode==c.Mode)&&((b.Last==c.Last)&&((b.Need==c.Need)&&true)))=true then
   some (.inr (.inr a))
  else
   some (.inl (iadd .i64 a 1))
 else
  some (.inr (.inl ()))
def FR3_Index (n:Nat) (c:(List GState)) (d:GState):Option Int:=
 (whl (λ (x:Int)=>FR3_Index_L1 n c d x) n 0).bind λ a=>
 match a with
 | Sum.inl _=>
  some (-1)
 | Sum.inr b=>
  some b
def FR3_States_J1 (_:Nat) (b:Int) (a:(List GState)):Option (((List GState)×Int)⊕(List GState)):=
 some (.inl (a,(iadd .i64 b 1)))
def FR3_States_L2 (n:Nat) (d:GTable) (e:Int) (a:(List GState)) (c:Int):Option (((List GState)×Int)⊕(List GState)):=
 if decide (c<((d.Rules.length:Nat):Int))=true then
  (idx a e).bind λ f=>
  (FR3_Step n d f c).bind λ b=>
  (if b.2=true then FR3_Index n a b.1 else some default).bind λ g=>
  if (b.2&&(decide (g<0)))=true then
   (app 24 a [b.1]).bind λ h=>
   FR3_States_J1 n c h
  else
   FR3_States_J1 n c a
 else
  some (.inr a)
def FR3_States_L1 (n:Nat) (d:GTable) (a:(List GState)) (b:Int):Option (((List GState)×Int)⊕(List GState)):=
 if decide (b<((a.length:Nat):Int))=true then
  (whl (λ (x:((List GState)×Int))=>FR3_States_L2 n d b x.1 x.2) n (a,0)).bind λ c=>
  some (.inl (c,(iadd .i64 b 1)))
 else
  some (.inr a)
def FR3_States (n:Nat) (c:GTable):Option (List GState):=
 (FR3_Start n).bind λ a=>
 (whl (λ (x:((List GState)×Int))=>FR3_States_L1 n c x.1 x.2) n ([a],0)).bind λ b=>
 some b
def FR3_Accepts (n:Nat) (b:GTable) (a:GState):Option Bool:=
 (if ((decide (a.Mode>=0))&&(decide (a.Mode<b.Modes)))=true then FR3_Bit n b.Accept a.Mode else some default).bind λ c=>
 (if (((decide (a.Mode>=0))&&(decide (a.Mode<b.Modes)))&&c)=true then FR3_Bit n a.Need 0 else some default).bind λ d=>
 some ((((decide (a.Mode>=0))&&(decide (a.Mode<b.Modes)))&&c)&&d)
def FR6_Begins (_:Nat) (c:(List UInt8)) (a:Int) (b:(List UInt8)):Option Bool:=
 (if decide (iadd .i64 a ((b.length:Nat):Int)<=((c.length:Nat):Int))=true then sub c a (iadd .i64 a ((b.length:Nat):Int)) else some default).bind λ d=>
 some ((decide (iadd .i64 a ((b.length:Nat):Int)<=((c.length:Nat):Int)))&&(d==b))
def FR6_After (n:Nat) (c:GTable) (b:GPoint) (d:Int) (l:(List (List Int))):Option Int:=
 (FR3_Step n c b.State d).bind λ a=>
 (if (!(!a.2))=true then idx c.Rules d else some default).bind λ f=>
 (if (!(!a.2))=true then FR6_Begins n b.S b.I f.Print else some default).bind λ g=>
 if ((!a.2)||(!g))=true then
  some (-1)
 else
  (idx c.Rules d).bind λ h=>
  (idx l (iadd .i64 b.I ((h.Print.length:Nat):Int))).bind λ i=>
  (FR3_Index n b.L a.1).bind λ j=>
  (idx i j).bind λ e=>
  if decide (e<0)=true then
   some (-1)
  else
   (idx c.Rules d).bind λ k=>
   some (iadd .i64 e ((k.Cells.length:Nat):Int))
def FR6_least (_:Nat) (a:Int) (b:Int):Option Int:=
 if ((decide (a<0))||((decide (b>=0))&&(decide (b<a))))=true then
  some b
 else
  some a
def FR6_Suffixes_J1 (_:Nat) (b:Int) (a:(List (List Int))):Option (((List (List Int))×Int)⊕(List (List Int))):=
 some (.inl (a,(iadd .i64 b 1)))
def FR6_Suffixes_L2 (n:Nat) (k:GTable) (g:(List UInt8)) (d:(List GState)) (a:Int) (b:(List (List Int))) (c:Int):Option (((List (List Int))×Int)⊕(List (List Int))):=
 if decide (c<((d.length:Nat):Int))=true then
  (idx b a).bind λ e=>
  (idx e c).bind λ _=>
  (put e c (-1)).bind λ h=>
  (if (a==((g.length:Nat):Int))=true then idx d c else some default).bind λ i=>
  (if (a==((g.length:Nat):Int))=true then FR3_Accepts n k i else some default).bind λ j=>
  if ((a==((g.length:Nat):Int))&&j)=true then
   (idx (List.set b a.toNat h) a).bind λ f=>
   (idx f c).bind λ _=>
   (put f c 0).bind λ l=>
   FR6_Suffixes_J1 n c (List.set (List.set b a.toNat h) a.toNat l)
  else
   FR6_Suffixes_J1 n c (List.set b a.toNat h)
 else
  some (.inr b)
def FR6_Suffixes_J2 (_:Nat) (c:Int) (b:(List (List Int))) (a:Bool):Option (((List (List Int))×Bool×Int)⊕((List (List Int))×Bool)):=
 some (.inl (b,a,(iadd .i64 c 1)))
def FR6_Suffixes_L5 (n:Nat) (i:GTable) (o:(List UInt8)) (g:(List GState)) (b:Int) (e:Int) (a:(List (List Int))) (d:Bool) (f:Int):Option (((List (List Int))×Bool×Int)⊕((List (List Int))×Bool)):=
 if decide (f<((i.Rules.length:Nat):Int))=true then
  (idx g e).bind λ j=>
  (FR6_After n i ({ S:=o,I:=b,State:=j,L:=g }:GPoint) f a).bind λ c=>
  (if decide (c>=0)=true then idx a b else some default).bind λ _=>
  (if decide (c>=0)=true then idx (List.getD a b.toNat []) e else some default).bind λ k=>
  (if decide (c>=0)=true then FR6_least n k c else some default).bind λ l=>
  (if decide (c>=0)=true then idx a b else some default).bind λ _=>
  (if decide (c>=0)=true then idx (List.getD a b.toNat []) e else some default).bind λ m=>
  if ((decide (c>=0))&&(l != m))=true then
   (idx (List.set a b.toNat (List.getD a b.toNat [])) b).bind λ h=>
   (idx h e).bind λ _=>
   (put h e c).bind λ p=>
   FR6_Suffixes_J2 n f (List.set (List.set a b.toNat (List.getD a b.toNat [])) b.toNat p) true
  else
   FR6_Suffixes_J2 n f (List.set a b.toNat (List.getD a b.toNat [])) d
 else
  some (.inr (a,d))
def FR6_Suffixes_L4 (n:Nat) (g:GTable) (h:(List UInt8)) (c:(List GState)) (f:Int) (b:(List (List Int))) (a:Bool) (e:Int):Option (((List (List Int))×Bool×Int)⊕((List (List Int))×Bool)):=
 if decide (e<((c.length:Nat):Int))=true then
  (whl (λ (x:((List (List Int))×Bool×Int))=>FR6_Suffixes_L5 n g h c f e x.1 x.2.1 x.2.2) n (b,a,0)).bind λ d=>
  some (.inl (d.1,d.2,(iadd .i64 e 1)))
 else
  some (.inr (b,a))
def FR6_Suffixes_L3 (n:Nat) (f:GTable) (g:(List UInt8)) (d:(List GState)) (e:Int) (b:(List (List Int))) (a:Bool):Option (((List (List Int))×Bool)⊕(List (List Int))):=
 if a=true then
  (whl (λ (x:((List (List Int))×Bool×Int))=>FR6_Suffixes_L4 n f g d e x.1 x.2.1 x.2.2) n (b,false,0)).bind λ c=>
  some (.inl (c.1,c.2))
 else
  some (.inr b)
def FR6_Suffixes_L1 (n:Nat) (d:GTable) (e:(List UInt8)) (c:(List GState)) (b:(List (List Int))) (a:Int):Option (((List (List Int))×Int)⊕(List (List Int))):=
 if decide (a>=0)=true then
  (idx b a).bind λ _=>
  (mkl 8 ((c.length:Nat):Int) (0:Int)).bind λ h=>
  (whl (λ (x:((List (List Int))×Int))=>FR6_Suffixes_L2 n d e c a x.1 x.2) n ((List.set b a.toNat h),0)).bind λ f=>
  (whl (λ (x:((List (List Int))×Bool))=>FR6_Suffixes_L3 n d e c a x.1 x.2) n (f,true)).bind λ g=>
  some (.inl (g,(isub .i64 a 1)))
 else
  some (.inr b)
def FR6_Suffixes (n:Nat) (b:GTable) (a:(List UInt8)):Option (List (List Int)):=
 (FR3_States n b).bind λ c=>
 (mkl 24 (iadd .i64 ((a.length:Nat):Int) 1) ([]:(List Int))).bind λ e=>
 (whl (λ (x:((List (List Int))×Int))=>FR6_Suffixes_L1 n b a c x.1 x.2) n (e,((a.length:Nat):Int))).bind λ d=>
 some d
def FR7_Memo_J1 (_:Nat) (b:Int) (a:Int):Option ((Int×Int)⊕Int):=
 some (.inl (a,(iadd .i64 b 1)))
def FR7_Memo_L2 (n:Nat) (b:(List (List Int))) (_:GMemo) (c:Int) (a:Int) (d:Int):Option ((Int×Int)⊕Int):=
 (idx b c).bind λ f=>
 if decide (d<((f.length:Nat):Int))=true then
  (idx b c).bind λ g=>
  (idx g d).bind λ e=>
  (if ((decide (e>=0))&&!(decide (a<0)))=true then idx b c else some default).bind λ h=>
  (if ((decide (e>=0))&&!(decide (a<0)))=true then idx h d else some default).bind λ i=>
  if ((decide (e>=0))&&((decide (a<0))||(decide (i<a))))=true then
   (idx b c).bind λ j=>
   (idx j d).bind λ k=>
   FR7_Memo_J1 n d k
  else
   FR7_Memo_J1 n d a
 else
  some (.inr a)
def FR7_Memo_J2 (_:Nat) (b:Int) (a:(List Int)):Option (((List Int)×Int)⊕(List Int)):=
 some (.inl (a,(iadd .i64 b 1)))
def FR7_Memo_L3 (n:Nat) (b:(List (List Int))) (_:GMemo) (c:Int) (e:Int) (a:(List Int)) (d:Int):Option (((List Int)×Int)⊕(List Int)):=
 (idx b c).bind λ f=>
 if decide (d<((f.length:Nat):Int))=true then
  (idx b c).bind λ g=>
  (idx g d).bind λ h=>
  if decide (h<0)=true then
   (app 8 a [(-1)]).bind λ k=>
   FR7_Memo_J2 n d k
  else
   (idx b c).bind λ i=>
   (idx i d).bind λ j=>
   (app 8 a [isub .i64 j e]).bind λ l=>
   FR7_Memo_J2 n d l
 else
  some (.inr a)
def FR7_Memo_L1 (n:Nat) (c:(List (List Int))) (a:GMemo) (b:Int):Option ((GMemo×Int)⊕GMemo):=
 if decide (b<((c.length:Nat):Int))=true then
  (whl (λ (x:(Int×Int))=>FR7_Memo_L2 n c a b x.1 x.2) n ((-1),0)).bind λ d=>
  (whl (λ (x:((List Int)×Int))=>FR7_Memo_L3 n c a b d x.1 x.2) n (([]:List Int),0)).bind λ e=>
  (app 24 a.Costs [e]).bind λ f=>
  (app 8 a.Least [d]).bind λ g=>
  some (.inl (({ Text:=a.Text,Costs:=f,Least:=g }:GMemo),(iadd .i64 b 1)))
 else
  some (.inr a)
def FR7_Memo (n:Nat) (d:GTable) (a:(List UInt8)):Option GMemo:=
 (FR6_Suffixes n d a).bind λ b=>
 (whl (λ (x:(GMemo×Int))=>FR7_Memo_L1 n b x.1 x.2) n (({ Text:=a,Costs:=([]:List (List Int)),Least:=([]:List Int) }:GMemo),0)).bind λ c=>
 some c
def FR7_Made_J1 (_:Nat) (a:GSplice):Option GSplice:=
 some a
def FR7_Made (n:Nat) (d:GTable) (a:(List UInt8)) (b:GSixdotref07Raw):Option GSplice:=
 (guardB (!((iadd .i64 ((a.length:Nat):Int) 1)==0))).bind λ _=>
 (sub b.L 0 (if 3<((b.L.length:Nat):Int) then 3 else ((b.L.length:Nat):Int))).bind λ e=>
 (guardB (!((iadd .i64 (if 5<isub .i64 ((a.length:Nat):Int) (irem (IntKind.i64.wrap b.At) (iadd .i64 ((a.length:Nat):Int) 1)) then 5 else isub .i64 ((a.length:Nat):Int) (irem (IntKind.i64.wrap b.At) (iadd .i64 ((a.length:Nat):Int) 1))) 1)==0))).bind λ _=>
 (FR2_Spelled n d e).bind λ c=>
 if decide (iadd .i64 ((a.length:Nat):Int) ((c.length:Nat):Int)>40)=true then
  FR7_Made_J1 n ({ At:=irem (IntKind.i64.wrap b.At) (iadd .i64 ((a.length:Nat):Int) 1),Cut:=irem (IntKind.i64.wrap b.Cut) (iadd .i64 (if 5<isub .i64 ((a.length:Nat):Int) (irem (IntKind.i64.wrap b.At) (iadd .i64 ((a.length:Nat):Int) 1)) then 5 else isub .i64 ((a.length:Nat):Int) (irem (IntKind.i64.wrap b.At) (iadd .i64 ((a.length:Nat):Int) 1))) 1),Put:=[] }:GSplice)
 else
  FR7_Made_J1 n ({ At:=irem (IntKind.i64.wrap b.At) (iadd .i64 ((a.length:Nat):Int) 1),Cut:=irem (IntKind.i64.wrap b.Cut) (iadd .i64 (if 5<isub .i64 ((a.length:Nat):Int) (irem (IntKind.i64.wrap b.At) (iadd .i64 ((a.length:Nat):Int) 1)) then 5 else isub .i64 ((a.length:Nat):Int) (irem (IntKind.i64.wrap b.At) (iadd .i64 ((a.length:Nat):Int) 1))) 1),Put:=c }:GSplice)
def FR7_Spliced (_:Nat) (b:(List UInt8)) (a:GSplice):Option (List UInt8):=
 (sub b 0 a.At).bind λ c=>
 (cat c a.Put).bind λ d=>
 (sub b (iadd .i64 a.At a.Cut) ((b.length:Nat):Int)).bind λ e=>
 (cat d e).bind λ f=>
 some f
def FR7_Same_L1 (n:Nat) (b:GMemo) (f:GMemo) (a:Int):Option (Int⊕(Unit⊕Bool)):=
 if decide (a<((b.Costs.length:Nat):Int))=true then
  (idx b.Costs a).bind λ c=>
  (idx f.Costs a).bind λ d=>
  (FR6_Ints n c d).bind λ e=>
  if (!e)=true then
   some (.inr (.inr false))
  else
   some (.inl (iadd .i64 a 1))
 else
  some (.inr (.inl ()))
def FR7_Same (n:Nat) (a:GMemo) (b:GMemo):Option Bool:=
 (if (!((!(a.Text==b.Text))||(((a.Costs.length:Nat):Int) != ((b.Costs.length:Nat):Int))))=true then FR6_Ints n a.Least b.Least else some default).bind λ c=>
 if (((!(a.Text==b.Text))||(((a.Costs.length:Nat):Int) != ((b.Costs.length:Nat):Int)))||(!c))=true then
  some false
 else
  (whl (λ (x:Int)=>FR7_Same_L1 n a b x) n 0).bind λ d=>
  match d with
  | Sum.inl _=>
   some true
  | Sum.inr e=>
   some e
def FR6_Reached_L1 (_:Nat) (_:GTable) (d:(List UInt8)) (c:(List GState)) (b:(List (List Bool))) (a:Int):Option (((List (List Bool))×Int)⊕(List (List Bool))):=
 if decide (a<=((d.length:Nat):Int))=true then
  (idx b a).bind λ _=>
  (mkl 1 ((c.length:Nat):Int) (false:Bool)).bind λ e=>
  some (.inl ((List.set b a.toNat e),(iadd .i64 a 1)))
 else
  some (.inr b)
def FR6_Reached_J1 (_:Nat) (c:Int) (b:(List (List Bool))) (a:Bool):Option (((List (List Bool))×Bool×Int)⊕((List (List Bool))×Bool)):=
 some (.inl (b,a,(iadd .i64 c 1)))
def FR6_Reached_L5 (n:Nat) (h:GTable) (s:(List UInt8)) (i:(List GState)) (_:Int) (a:Int) (l:Int) (b:(List (List Bool))) (d:Bool) (f:Int):Option (((List (List Bool))×Bool×Int)⊕((List (List Bool))×Bool)):=
 (if decide (f<((h.Rules.length:Nat):Int))=true then idx b a else some default).bind λ _=>
 (if decide (f<((h.Rules.length:Nat):Int))=true then idx (List.getD b a.toNat []) l else some default).bind λ m=>
 if ((decide (f<((h.Rules.length:Nat):Int)))&&m)=true then
  (idx i l).bind λ o=>
  (FR3_Step n h o f).bind λ e=>
  (idx h.Rules f).bind λ c=>
  (if e.2=true then idx h.Rules f else some default).bind λ p=>
  (if e.2=true then FR6_Begins n s a p.Print else some default).bind λ g=>
  (if (e.2&&g)=true then idx (List.set b a.toNat (List.getD b a.toNat [])) (iadd .i64 a ((c.Print.length:Nat):Int)) else some default).bind λ _=>
  (if (e.2&&g)=true then FR3_Index n i e.1 else some default).bind λ q=>
  (if (e.2&&g)=true then idx (List.getD (List.set b a.toNat (List.getD b a.toNat [])) (Int.toNat (iadd .i64 a ((c.Print.length:Nat):Int))) []) q else some default).bind λ r=>
  if ((e.2&&g)&&(!r))=true then
   (idx (List.set (List.set b a.toNat (List.getD b a.toNat [])) (Int.toNat (iadd .i64 a ((c.Print.length:Nat):Int))) (List.getD (List.set b a.toNat (List.getD b a.toNat [])) (Int.toNat (iadd .i64 a ((c.Print.length:Nat):Int))) [])) (iadd .i64 a ((c.Print.length:Nat):Int))).bind λ j=>
   (FR3_Index n i e.1).bind λ k=>
   (idx j k).bind λ _=>
   (put j k true).bind λ t=>
   FR6_Reached_J1 n f (List.set (List.set (List.set b a.toNat (List.getD b a.toNat [])) (Int.toNat (iadd .i64 a ((c.Print.length:Nat):Int))) (List.getD (List.set b a.toNat (List.getD b a.toNat [])) (Int.toNat (iadd .i64 a ((c.Print.length:Nat):Int))) [])) (Int.toNat (iadd .i64 a ((c.Print.length:Nat):Int))) t) true
  else
   FR6_Reached_J1 n f (List.set (List.set b a.toNat (List.getD b a.toNat [])) (Int.toNat (iadd .i64 a ((c.Print.length:Nat):Int))) (List.getD (List.set b a.toNat (List.getD b a.toNat [])) (Int.toNat (iadd .i64 a ((c.Print.length:Nat):Int))) [])) d
 else
  some (.inr ((List.set b a.toNat (List.getD b a.toNat [])),d))
end Go.AI
end
section
namespace Go.AI
def FR6_Reached_L4 (n:Nat) (h:GTable) (i:(List UInt8)) (c:(List GState)) (b:Int) (g:Int) (d:(List (List Bool))) (a:Bool) (f:Int):Option (((List (List Bool))×Bool×Int)⊕((List (List Bool))×Bool)):=
 if decide (f<((c.length:Nat):Int))=true then
  (whl (λ (x:((List (List Bool))×Bool×Int))=>FR6_Reached_L5 n h i c b g f x.1 x.2.1 x.2.2) n (d,a,0)).bind λ e=>
  some (.inl (e.1,e.2,(iadd .i64 f 1)))
 else
  some (.inr (d,a))
def FR6_Reached_L3 (n:Nat) (g:GTable) (h:(List UInt8)) (e:(List GState)) (b:Int) (f:Int) (c:(List (List Bool))) (a:Bool):Option (((List (List Bool))×Bool)⊕(List (List Bool))):=
 if a=true then
  (whl (λ (x:((List (List Bool))×Bool×Int))=>FR6_Reached_L4 n g h e b f x.1 x.2.1 x.2.2) n (c,false,0)).bind λ d=>
  some (.inl (d.1,d.2))
 else
  some (.inr c)
def FR6_Reached_J3 (_:Nat) (c:Int) (b:(List (List Bool))) (a:Int):Option (((List (List Bool))×Int×Int)⊕((List (List Bool))×Int)):=
 some (.inl (b,a,(iadd .i64 c 1)))
def FR6_Reached_L6 (n:Nat) (_:GTable) (_:(List UInt8)) (h:(List GState)) (c:Int) (e:Int) (a:(List (List Bool))) (d:Int) (b:Int):Option (((List (List Bool))×Int×Int)⊕((List (List Bool))×Int)):=
 if decide (b<((h.length:Nat):Int))=true then
  (idx a c).bind λ f=>
  (idx f b).bind λ g=>
  (if g=true then idx h b else some default).bind λ i=>
  (if g=true then FR3_Bit n i.Need e else some default).bind λ j=>
  if (g&&j)=true then
   FR6_Reached_J3 n b (List.set a c.toNat f) c
  else
   FR6_Reached_J3 n b (List.set a c.toNat f) d
 else
  some (.inr (a,d))
def FR6_Reached_J2 (n:Nat) (g:GTable) (h:(List UInt8)) (e:(List GState)) (b:Int) (c:Int) (f:(List (List Bool))) (a:Int):Option (((List (List Bool))×Int×Int)⊕Int):=
 (whl (λ (x:((List (List Bool))×Int×Int))=>FR6_Reached_L6 n g h e c a x.1 x.2.1 x.2.2) n (f,b,0)).bind λ d=>
 some (.inl (d.1,d.2,(iadd .i64 c 1)))
def FR6_Reached_L2 (n:Nat) (f:GTable) (c:(List UInt8)) (d:(List GState)) (g:(List (List Bool))) (a:Int) (b:Int):Option (((List (List Bool))×Int×Int)⊕Int):=
 if decide (b<=((c.length:Nat):Int))=true then
  (whl (λ (x:((List (List Bool))×Bool))=>FR6_Reached_L3 n f c d a b x.1 x.2) n (g,true)).bind λ e=>
  if decide (b<((c.length:Nat):Int))=true then
   (sidx c b).bind λ i=>
   (FR2_Class n i).bind λ h=>
   FR6_Reached_J2 n f c d a b e h
  else
   FR6_Reached_J2 n f c d a b e 0
 else
  some (.inr a)
def FR6_Reached (n:Nat) (d:GTable) (e:(List UInt8)):Option Int:=
 (FR3_States n d).bind λ a=>
 (mkl 24 (iadd .i64 ((e.length:Nat):Int) 1) ([]:(List Bool))).bind λ g=>
 (whl (λ (x:((List (List Bool))×Int))=>FR6_Reached_L1 n d e a x.1 x.2) n (g,0)).bind λ b=>
 (idx b 0).bind λ c=>
 (idx c 0).bind λ _=>
 (put c 0 true).bind λ h=>
 (whl (λ (x:((List (List Bool))×Int×Int))=>FR6_Reached_L2 n d e a x.1 x.2.1 x.2.2) n ((List.set b (Int.toNat 0) h),0,0)).bind λ f=>
 some f
def FR6_Write_L2 (n:Nat) (e:GTable) (b:(List (List Int))) (_:(List GState)) (_:GResult) (f:GPoint) (c:Int) (a:Int):Option (Int⊕Int):=
 (FR6_After n e f a b).bind λ d=>
 if (d != c)=true then
  some (.inl (iadd .i64 a 1))
 else
  some (.inr a)
def FR6_Write_L1 (n:Nat) (f:GTable) (d:(List (List Int))) (e:(List GState)) (a:GResult) (b:GPoint):Option ((GResult×GPoint)⊕GResult):=
 (idx d b.I).bind λ g=>
 (FR3_Index n e b.State).bind λ h=>
 (idx g h).bind λ i=>
 if decide (i>0)=true then
  (idx d b.I).bind λ j=>
  (FR3_Index n e b.State).bind λ k=>
  (idx j k).bind λ l=>
  (whl (λ (x:Int)=>FR6_Write_L2 n f d e a b l x) n 0).bind λ c=>
  (app 8 a.W.Path [c]).bind λ q=>
  (idx f.Rules c).bind λ m=>
  (app 1 a.W.Cells m.Cells).bind λ r=>
  (FR3_Step n f b.State c).bind λ o=>
  (idx f.Rules c).bind λ p=>
  some (.inl (({ W:=({ Cells:=r,Path:=q }:GWriting),At:=a.At,E:=a.E }:GResult),({ S:=b.S,I:=iadd .i64 b.I ((p.Print.length:Nat):Int),State:=o.1,L:=b.L }:GPoint)))
 else
  some (.inr a)
def FR6_Write (n:Nat) (c:GTable) (a:(List UInt8)):Option GResult:=
 (FR2_Text n a).bind λ b=>
 if (b.2 != 0)=true then
  some ({ W:=({ Cells:=[],Path:=[] }:GWriting),At:=b.1,E:=b.2 }:GResult)
 else
  (FR6_Suffixes n c a).bind λ d=>
  (idx d 0).bind λ f=>
  (idx f 0).bind λ g=>
  if decide (g<0)=true then
   (FR6_Reached n c a).bind λ h=>
   some ({ W:=({ Cells:=[],Path:=[] }:GWriting),At:=h,E:=61 }:GResult)
  else
   (FR3_States n c).bind λ e=>
   (FR3_Start n).bind λ i=>
   (whl (λ (x:(GResult×GPoint))=>FR6_Write_L1 n c d e x.1 x.2) n (({ W:=({ Cells:=([]:List Int),Path:=([]:List Int) }:GWriting),At:=((a.length:Nat):Int),E:=0 }:GResult),({ S:=a,I:=0,State:=i,L:=e }:GPoint))).bind λ j=>
   some j
def FL7_ReviseScripts_L1 (n:Nat) (g:(List GSixdotref07Raw)) (_:Bool) (c:GTable) (h:GMemo) (f:(List UInt8)) (b:Int):Option ((GMemo×(List UInt8)×Int)⊕((GMemo×(List UInt8))⊕Bool)):=
 if ((decide (b<((g.length:Nat):Int)))&&(decide (b<5)))=true then
  (idx g b).bind λ i=>
  (FR7_Made n c f i).bind λ d=>
  (FR7_Spliced n f d).bind λ e=>
  (FRv_Change n c h d).bind λ a=>
  (if (!(a.2.2 != 0))=true then FR7_Memo n c e else some default).bind λ j=>
  (if (!(a.2.2 != 0))=true then FR7_Same n a.1 j else some default).bind λ k=>
  if ((a.2.2 != 0)||(!k))=true then
   some (.inr (.inr false))
  else
   some (.inl (a.1,e,(iadd .i64 b 1)))
 else
  some (.inr (.inl (h,f)))
def FL7_ReviseScripts (n:Nat) (k:GRaw) (l:(List Int)) (m:(List GSixdotref07Raw)):Option Bool:=
 (FL7_sanity n).bind λ c=>
 (FR2_Made n k).bind λ b=>
 (FR2_Spelled n b l).bind λ e=>
 (FRv_Start n b e).bind λ f=>
 if (f.2 != 0)=true then
  some false
 else
  (whl (λ (x:(GMemo×(List UInt8)×Int))=>FL7_ReviseScripts_L1 n m c b x.1 x.2.1 x.2.2) n (f.1,e,0)).bind λ h=>
  match h with
  | Sum.inl g=>
   (FRv_Result n b g.1).bind λ a=>
   (FR6_Write n b g.2).bind λ d=>
   (if ((c&&((a.2==0)==(d.E==0)))&&((a.2==0)||(a.2==61)))=true then FR6_Same n a.1 d.W else some default).bind λ i=>
   some (((c&&((a.2==0)==(d.E==0)))&&((a.2==0)||(a.2==61)))&&i)
  | Sum.inr j=>
   some j
end Go.AI
end
