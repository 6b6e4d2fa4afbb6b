/- Part 4 of 7 of the proof: lemmas about the model and the program's functions, with no condition beyond those that each states. -/
import Derived.Test.YtjaogfjfamffnaaGreatLC
section
namespace Go.AI
structure AC where
 Print:(List UInt8)
 Cells:(List Int)
 Left:Int
 Right:Int
 From:Int
 To:Int
 deriving DecidableEq,Inhabited
structure Ad where
 Modes:Int
 Accept:Int
 Rules:(List AC)
 deriving DecidableEq,Inhabited
structure Ab where
 Mode:Int
 Last:Int
 Need:Int
 deriving DecidableEq,Inhabited
structure ON where
 Print:(List UInt8)
 Cells:Int
 To:Int
 deriving DecidableEq,Inhabited
structure AP where
 Arcs:(List (List ON))
 Accepts:(List Bool)
 deriving DecidableEq,Inhabited
structure A5 where
 Text:(List UInt8)
 Costs:(List (List Int))
 Least:(List Int)
 deriving DecidableEq,Inhabited
structure C5 where
 At:Int
 Cut:Int
 Put:(List UInt8)
 deriving DecidableEq,Inhabited
structure AG where
 States:(List Int)
 Costs:(List Int)
 deriving DecidableEq,Inhabited
structure AE where
 Rule:Int
 To:Int
 deriving DecidableEq,Inhabited
structure Ae where
 T:Ad
 S:(List UInt8)
 States:(List Ab)
 Arcs:(List (List AE))
 Columns:(List AG)
 Last:Int
 deriving DecidableEq,Inhabited
structure AJ where
 Cells:(List Int)
 Path:(List Int)
 deriving DecidableEq,Inhabited
structure GE (α:Type) where
 a0:α
 a1:α
 deriving DecidableEq,Inhabited
structure DY where
 P:(List Int)
 C:(List Int)
 L:Int
 R:Int
 W:(GE Int)
 deriving DecidableEq,Inhabited
structure NY where
 Base:Int
 Drop:Int
 More:(List DY)
 deriving DecidableEq,Inhabited
structure FB where
 S:(List UInt8)
 I:Int
 State:Ab
 L:(List Ab)
 deriving DecidableEq,Inhabited
structure BB where
 At:Int
 Cut:Int
 L:(List Int)
 deriving DecidableEq,Inhabited
structure CL where
 W:AJ
 At:Int
 E:Int
 deriving DecidableEq,Inhabited
def HE (_:Nat) (a:Ad) (b:Int):Option ((Ad×Int)⊕Ad):=
 if decide (b<3)=true then
  (idx ([[97],[98],[97,98]]) b).bind λ c=>
  (idx [1,3,7] b).bind λ d=>
  (app 64 a.Rules ([({ Print:=c,Cells:=[d],Left:=63,Right:=63,From:=0,To:=0 }:AC)])).bind λ e=>
  some (.inl (({ Modes:=a.Modes,Accept:=a.Accept,Rules:=e }:Ad),(An .i64 b 1)))
 else
  some (.inr a)
def Ls (n:Nat) :Option Ad:=
 (whl (λ (x:(Ad×Int))=>HE n x.1 x.2) n (({ Modes:=1,Accept:=1,Rules:=([]:List AC) }:Ad),0)).bind λ a=>
 some a
def Ep (_:Nat) (a:Int):Option Bool:=
 some ((decide (32<=CW .u8 a 127))&&(decide (CW .u8 a 127<=126)))
def Gl (n:Nat) (b:(List UInt8)) (a:Int):Option (Int⊕(Unit⊕(Int×Int))):=
 if decide (a<((b.length:Nat):Int))=true then
  (NW b a).bind λ c=>
  (Ep n c).bind λ d=>
  if (!d)=true then
   some (.inr (.inr (a,60)))
  else
   some (.inl (An .i64 a 1))
 else
  some (.inr (.inl ()))
def GL (n:Nat) (a:(List UInt8)):Option (Int×Int):=
 (whl (λ (x:Int)=>Gl n a x) n 0).bind λ b=>
 match b with
 | Sum.inl _=>
  some (((a.length:Nat):Int),0)
 | Sum.inr c=>
  some c
def Ky (_:Nat) :Option Ab:=
 some ({ Mode:=0,Last:=0,Need:=63 }:Ab)
def Im (_:Nat) (b:Int) (a:Int):Option Bool:=
 (if ((decide (0<=a))&&(decide (a<8)))=true then Bu (decide (0<=a)) else some default).bind λ _=>
 some (((decide (0<=a))&&(decide (a<8)))&&((CW .u8 (Tt .u8 b a) 1)==1))
def Ff (_:Nat) (a:Int):Option Int:=
 if ((decide (97<=CW .u8 a 127))&&(decide (CW .u8 a 127<=122)))=true then
  some 1
 else
  if ((decide (65<=CW .u8 a 127))&&(decide (CW .u8 a 127<=90)))=true then
   some 2
  else
   if ((decide (48<=CW .u8 a 127))&&(decide (CW .u8 a 127<=57)))=true then
    some 3
   else
    if ((CW .u8 a 127)==32)=true then
     some 4
    else
     some 5
def HN (n:Nat) (d:Ad) (a:Ab) (c:Int):Option (Ab×Bool):=
 if ((decide (c<0))||(decide (c>=((d.Rules.length:Nat):Int))))=true then
  some (({ Mode:=0,Last:=0,Need:=0 }:Ab),false)
 else
  (idx d.Rules c).bind λ b=>
  (if (!(b.From != a.Mode))=true then Im n b.Left a.Last else some default).bind λ e=>
  if ((b.From != a.Mode)||(!e))=true then
   some (({ Mode:=0,Last:=0,Need:=0 }:Ab),false)
  else
   if (b.Print==[])=true then
    if ((CW .u8 a.Need b.Right)==0)=true then
     some (({ Mode:=0,Last:=0,Need:=0 }:Ab),false)
    else
     some (({ Mode:=b.To,Last:=a.Last,Need:=CW .u8 a.Need b.Right }:Ab),true)
   else
    (NW b.Print 0).bind λ f=>
    (Ff n f).bind λ g=>
    (Im n a.Need g).bind λ h=>
    if (!h)=true then
     some (({ Mode:=0,Last:=0,Need:=0 }:Ab),false)
    else
     (NW b.Print (DL .i64 ((b.Print.length:Nat):Int) 1)).bind λ i=>
     (Ff n i).bind λ j=>
     some (({ Mode:=b.To,Last:=j,Need:=b.Right }:Ab),true)
def C1 (_:Nat) (d:Int) (a:(List Ab)) (c:(List (List Int))) (b:(List (Ab×Int))):Option (((List Ab)×(List (List Int))×(List (Ab×Int))×Int)⊕((List Ab)×(List (List Int))×(List (Ab×Int)))):=
 some (.inl (a,c,b,(An .i64 d 1)))
def Dr (n:Nat) (e:Int) (f:Int) (b:(List Ab)) (a:(List (List Int))) (c:(List (Ab×Int))) (d:Int):Option (((List Ab)×(List (List Int))×(List (Ab×Int))×Int)⊕((List Ab)×(List (List Int))×(List (Ab×Int)))):=
 (idx a d).bind λ g=>
 (app 8 g [e]).bind λ h=>
 C1 n f b (List.set a d.toNat h) c
def BR (n:Nat) (f:Ad) (e:Int) (a:(List Ab)) (c:(List (List Int))) (b:(List (Ab×Int))) (d:Int):Option (((List Ab)×(List (List Int))×(List (Ab×Int))×Int)⊕((List Ab)×(List (List Int))×(List (Ab×Int)))):=
 if decide (d<((f.Rules.length:Nat):Int))=true then
  (idx a e).bind λ h=>
  (HN n f h d).bind λ g=>
  if (!g.2)=true then
   C1 n d a c b
  else
   if (!(Option.isSome (G0 g.1 b)))=true then
    (app 24 a [g.1]).bind λ i=>
    (app 24 c [([]:(List Int))]).bind λ j=>
    Dr n e d i j (MU g.1 ((a.length:Nat):Int) b) ((a.length:Nat):Int)
   else
    Dr n e d a c b (Option.getD (G0 g.1 b) 0)
 else
  some (.inr (a,c,b))
def C2 (n:Nat) (e:Ad) (a:(List Ab)) (b:(List (List Int))) (c:(List (Ab×Int))) (d:Int):Option (((List Ab)×(List (List Int))×(List (Ab×Int))×Int)⊕((List Ab)×(List (List Int)))):=
 if decide (d<((a.length:Nat):Int))=true then
  (whl (λ (x:((List Ab)×(List (List Int))×(List (Ab×Int))×Int))=>BR n e d x.1 x.2.1 x.2.2.1 x.2.2.2) n (a,b,c,0)).bind λ f=>
  some (.inl (f.1,f.2.1,f.2.2,(An .i64 d 1)))
 else
  some (.inr (a,b))
def Gm (n:Nat) (a:Ad):Option ((List Ab)×(List (List Int))):=
 (Ky n).bind λ b=>
 (whl (λ (x:((List Ab)×(List (List Int))×(List (Ab×Int))×Int))=>C2 n a x.1 x.2.1 x.2.2.1 x.2.2.2) n ([b],([[]]:List (List Int)),(MU b 0 []),0)).bind λ c=>
 some (c.1,c.2)
def Hr (n:Nat) (a:Ad):Option (List Ab):=
 (Gm n a).bind λ b=>
 some b.1
def EW (n:Nat) (b:Ad) (a:Ab):Option Bool:=
 (if decide (a.Mode<b.Modes)=true then Im n b.Accept a.Mode else some default).bind λ d=>
 (if ((decide (a.Mode<b.Modes))&&d)=true then Im n a.Need 0 else some default).bind λ c=>
 some (((decide (a.Mode<b.Modes))&&d)&&c)
def Ey (_:Nat) (b:(List UInt8)) (a:(List UInt8)):Option Bool:=
 (if decide (((b.length:Nat):Int)>=((a.length:Nat):Int))=true then sub b 0 ((a.length:Nat):Int) else some default).bind λ c=>
 some ((decide (((b.length:Nat):Int)>=((a.length:Nat):Int)))&&(c==a))
def DN (n:Nat) (a:(List UInt8)) (b:(List UInt8)):Option Bool:=
 (Ey n a b).bind λ c=>
 some c
def CE (_:Nat) (_:Ad) (c:(List Ab)) (a:(List (Ab×Int))) (b:Int):Option (((List (Ab×Int))×Int)⊕(List (Ab×Int))):=
 if decide (b<((c.length:Nat):Int))=true then
  (idx c b).bind λ d=>
  some (.inl ((MU d b a),(An .i64 b 1)))
 else
  some (.inr a)
def C7 (_:Nat) (a:Int) (b:AP):Option ((AP×Int)⊕AP):=
 some (.inl (b,(An .i64 a 1)))
def CF (n:Nat) (c:Ad) (_:(List Ab)) (j:(List (Ab×Int))) (d:Int) (g:Ab) (a:AP) (b:Int):Option ((AP×Int)⊕AP):=
 if decide (b<((c.Rules.length:Nat):Int))=true then
  (idx c.Rules b).bind λ e=>
  (HN n c g b).bind λ f=>
  if f.2=true then
   (idx a.Arcs d).bind λ h=>
   (app 32 h [({ Print:=e.Print,Cells:=((e.Cells.length:Nat):Int),To:=(Option.getD (G0 f.1 j) 0) }:ON)]).bind λ i=>
   C7 n b ({ Arcs:=List.set a.Arcs d.toNat i,Accepts:=a.Accepts }:AP)
  else
   C7 n b a
 else
  some (.inr a)
def C8 (n:Nat) (d:Ad) (c:(List Ab)) (h:(List (Ab×Int))) (b:AP) (a:Int):Option ((AP×Int)⊕AP):=
 if decide (a<((c.length:Nat):Int))=true then
  (idx c a).bind λ e=>
  (EW n d e).bind λ f=>
  (idx b.Accepts a).bind λ _=>
  (put b.Accepts a f).bind λ g=>
  (whl (λ (x:(AP×Int))=>CF n d c h a e x.1 x.2) n (({ Arcs:=b.Arcs,Accepts:=g }:AP),0)).bind λ i=>
  some (.inl (i,(An .i64 a 1)))
 else
  some (.inr b)
def Eg (n:Nat) (b:Ad):Option AP:=
 (Hr n b).bind λ a=>
 (whl (λ (x:((List (Ab×Int))×Int))=>CE n b a x.1 x.2) n ([],0)).bind λ e=>
 (mkl 24 ((a.length:Nat):Int) ([]:(List ON))).bind λ f=>
 (mkl 1 ((a.length:Nat):Int) (false:Bool)).bind λ c=>
 (whl (λ (x:(AP×Int))=>C8 n b a e x.1 x.2) n (({ Arcs:=f,Accepts:=c }:AP),0)).bind λ d=>
 some d
def B2 (_:Nat) (d:(List UInt8)) (b:AP) (_:(List Int)) (e:(List Int)) (c:(List (Nat×Nat))) (a:Int):Option (((List (Nat×Nat))×Int)⊕(List (Nat×Nat))):=
 if decide (a<An .i64 ((d.length:Nat):Int) 1)=true then
  (JcR (e.length) (Ln .i64 a ((b.Arcs.length:Nat):Int)) (Ln .i64 (An .i64 a 1) ((b.Arcs.length:Nat):Int)) (Ln .i64 (An .i64 a 1) ((b.Arcs.length:Nat):Int))).bind λ _=>
  (idx c a).bind λ _=>
  (put c a ((0+Int.toNat (Ln .i64 a ((b.Arcs.length:Nat):Int)),Int.toNat (Ln .i64 (An .i64 a 1) ((b.Arcs.length:Nat):Int))-Int.toNat (Ln .i64 a ((b.Arcs.length:Nat):Int))):Nat×Nat)).bind λ f=>
  some (.inl (f,(An .i64 a 1)))
 else
  some (.inr c)
def CO (n:Nat) (a:(List UInt8)) (b:AP):Option ((List (Nat×Nat))×(List Int)×(List Int)):=
 (mkl 24 (An .i64 ((a.length:Nat):Int) 1) ([]:(List Int))).bind λ e=>
 (mkl 8 (An .i64 ((a.length:Nat):Int) 1) (0:Int)).bind λ c=>
 (mkl 8 (Ln .i64 ((b.Arcs.length:Nat):Int) (An .i64 ((a.length:Nat):Int) 1)) (0:Int)).bind λ d=>
 (whl (λ (x:((List (Nat×Nat))×Int))=>B2 n a b c d x.1 x.2) n ((List.replicate (e.length) ((0,0):Nat×Nat)),0)).bind λ f=>
 some (f,c,d)
def DG (_:Nat) (_:(List UInt8)) (_:AP) (_:(List (Nat×Nat))) (_:(List Int)) (_:(List Int)):Option Unit:=
 some ()
def Gn (_:Nat) (_:(List UInt8)) (a:Int) (b:Int) (c:(List (Nat×Nat))) (e:(List Int)) (d:(List Int)):Option Int:=
 (idx c a).bind λ f=>
 (ixP d f b).bind λ g=>
 if decide (g<0)=true then
  some (-1)
 else
  (idx e a).bind λ h=>
  (idx c a).bind λ i=>
  (ixP d i b).bind λ j=>
  some (An .i64 h j)
def BJ (_:Nat) (d:Int) (b:Int) (e:Int) (a:(Nat×Nat)) (c:(List Int)):Option ((List Int)×Bool):=
 (if (!(decide (b<0)))=true then ixP c a d else some default).bind λ f=>
 (if ((!(decide (b<0)))&&(decide (f>=0)))=true then ixP c a d else some default).bind λ g=>
 if ((decide (b<0))||((decide (f>=0))&&(decide (g<=An .i64 b e))))=true then
  some (c,false)
 else
  (ixP c a d).bind λ _=>
  (put c ((a.1+Int.toNat d:Nat):Int) (An .i64 b e)).bind λ h=>
  some (h,true)
def DO (_:Nat) (b:Int) (a:Int):Option ((Int×Int)⊕Int):=
 some (.inl (a,(An .i64 b 1)))
def Di (n:Nat) (d:(Nat×Nat)) (e:(List Int)) (a:Int) (b:Int):Option ((Int×Int)⊕Int):=
 if decide (b<((d.2:Nat):Int))=true then
  (ixP e d b).bind λ c=>
  if ((decide (c>=0))&&((decide (a<0))||(decide (c<a))))=true then
   DO n b c
  else
   DO n b a
 else
  some (.inr a)
def DP (_:Nat) (b:Int) (a:(List Int)):Option (((List Int)×Int)⊕(List Int)):=
 some (.inl (a,(An .i64 b 1)))
def Dj (n:Nat) (c:(Nat×Nat)) (e:Int) (a:(List Int)) (b:Int):Option (((List Int)×Int)⊕(List Int)):=
 if decide (b<((c.2:Nat):Int))=true then
  (ixP a c b).bind λ d=>
  if decide (d>=0)=true then
   (ixP a c b).bind λ _=>
   (put a ((c.1+Int.toNat b:Nat):Int) (DL .i64 d e)).bind λ f=>
   DP n b f
  else
   DP n b a
 else
  some (.inr a)
def IP (n:Nat) (a:(Nat×Nat)) (b:(List Int)):Option ((List Int)×Int):=
 (whl (λ (x:(Int×Int))=>Di n a b x.1 x.2) n ((-1),0)).bind λ c=>
 (whl (λ (x:((List Int)×Int))=>Dj n a c x.1 x.2) n (b,0)).bind λ d=>
 some (d,c)
def Bv (_:Nat) (b:Int) (a:(List Int)):Option (((List Int)×Int)⊕(List Int)):=
 some (.inl (a,(An .i64 b 1)))
def Bf (n:Nat) (f:Int) (c:(List UInt8)) (g:AP) (_:(List (Nat×Nat))) (_:(List Int)) (d:(Nat×Nat)) (a:(List Int)) (b:Int):Option (((List Int)×Int)⊕(List Int)):=
 if decide (b<((d.2:Nat):Int))=true then
  (ixP a d b).bind λ _=>
  (put a ((d.1+Int.toNat b:Nat):Int) (-1)).bind λ e=>
  (if (f==((c.length:Nat):Int))=true then idx g.Accepts b else some default).bind λ h=>
  if ((f==((c.length:Nat):Int))&&h)=true then
   (ixP e d b).bind λ _=>
   (put e ((d.1+Int.toNat b:Nat):Int) 0).bind λ i=>
   Bv n b i
  else
   Bv n b e
 else
  some (.inr a)
def Bw (_:Nat) (b:Int) (a:(List Int)):Option (((List Int)×Int)⊕(List Int)):=
 some (.inl (a,(An .i64 b 1)))
def Bg (n:Nat) (e:Int) (b:(List UInt8)) (_:AP) (h:(List (Nat×Nat))) (i:(List Int)) (j:(Nat×Nat)) (f:Int) (g:(List ON)) (a:(List Int)) (d:Int):Option (((List Int)×Int)⊕(List Int)):=
 if decide (d<((g.length:Nat):Int))=true then
  (idx g d).bind λ c=>
  (if (!(c.Print==[]))=true then sub b e ((b.length:Nat):Int) else some default).bind λ o=>
  (if (!(c.Print==[]))=true then DN n o c.Print else some default).bind λ k=>
  if ((!(c.Print==[]))&&k)=true then
   (Gn n b (An .i64 e ((c.Print.length:Nat):Int)) c.To h i a).bind λ l=>
   (BJ n f l c.Cells j a).bind λ m=>
   Bw n d m.1
  else
   Bw n d a
 else
  some (.inr a)
def Bh (n:Nat) (e:Int) (c:(List UInt8)) (d:AP) (f:(List (Nat×Nat))) (g:(List Int)) (h:(Nat×Nat)) (a:(List Int)) (b:Int):Option (((List Int)×Int)⊕(List Int)):=
 if decide (b<((d.Arcs.length:Nat):Int))=true then
  (idx d.Arcs b).bind λ i=>
  (whl (λ (x:((List Int)×Int))=>Bg n e c d f g h b i x.1 x.2) n (a,0)).bind λ j=>
  some (.inl (j,(An .i64 b 1)))
 else
  some (.inr a)
def A9 (_:Nat) (c:Int) (a:(List Int)) (b:Bool):Option (((List Int)×Bool×Int)⊕((List Int)×Bool)):=
 some (.inl (a,b,(An .i64 c 1)))
def Bi (n:Nat) (_:(List UInt8)) (_:AP) (_:(List (Nat×Nat))) (_:(List Int)) (f:(Nat×Nat)) (g:Int) (h:(List ON)) (a:(List Int)) (b:Bool) (c:Int):Option (((List Int)×Bool×Int)⊕((List Int)×Bool)):=
 if decide (c<((h.length:Nat):Int))=true then
  (idx h c).bind λ d=>
  (if (d.Print==[])=true then ixP a f d.To else some default).bind λ i=>
  if (d.Print==[])=true then
   (BJ n g i d.Cells f a).bind λ e=>
   if ((d.Print==[])&&e.2)=true then
    A9 n c e.1 true
   else
    A9 n c e.1 b
  else
   if ((d.Print==[])&&false)=true then
    A9 n c a true
   else
    A9 n c a b
 else
  some (.inr (a,b))
def Bj (n:Nat) (d:(List UInt8)) (e:AP) (g:(List (Nat×Nat))) (h:(List Int)) (i:(Nat×Nat)) (a:(List Int)) (b:Bool) (c:Int):Option (((List Int)×Bool×Int)⊕((List Int)×Bool)):=
 if decide (c<((e.Arcs.length:Nat):Int))=true then
  (idx e.Arcs c).bind λ j=>
  (whl (λ (x:((List Int)×Bool×Int))=>Bi n d e g h i c j x.1 x.2.1 x.2.2) n (a,b,0)).bind λ f=>
  some (.inl (f.1,f.2,(An .i64 c 1)))
 else
  some (.inr (a,b))
def Bx (n:Nat) (c:(List UInt8)) (e:AP) (f:(List (Nat×Nat))) (g:(List Int)) (h:(Nat×Nat)) (a:(List Int)) (b:Bool):Option (((List Int)×Bool)⊕(List Int)):=
 if b=true then
  (whl (λ (x:((List Int)×Bool×Int))=>Bj n c e f g h x.1 x.2.1 x.2.2) n (a,false,0)).bind λ d=>
  some (.inl (d.1,d.2))
 else
  some (.inr a)
def B3 (n:Nat) (d:Int) (a:(List UInt8)) (e:AP) (b:(List (Nat×Nat))) (f:(List Int)) (h:(List Int)):Option ((List Int)×Int):=
 (idx b d).bind λ c=>
 (whl (λ (x:((List Int)×Int))=>Bf n d a e b f c x.1 x.2) n (h,0)).bind λ i=>
 (whl (λ (x:((List Int)×Int))=>Bh n d a e b f c x.1 x.2) n (i,0)).bind λ j=>
 (whl (λ (x:((List Int)×Bool))=>Bx n a e b f c x.1 x.2) n (j,true)).bind λ k=>
 (IP n c k).bind λ g=>
 some (g.1,g.2)
def Fg (n:Nat) (e:(List UInt8)) (f:AP) (g:((List (Nat×Nat))×(List Int)×(List Int))) (b:(List Int)) (c:(List Int)) (a:Int):Option (((List Int)×(List Int)×Int)⊕((List Int)×(List Int))):=
 if decide (a>=0)=true then
  (B3 n a e f g.1 b c).bind λ d=>
  (idx b a).bind λ _=>
  (put b a d.2).bind λ h=>
  some (.inl (h,d.1,(DL .i64 a 1)))
 else
  some (.inr (b,c))
def Fh (n:Nat) (f:Ad) (b:(List UInt8)):Option (A5×Int):=
 (GL n b).bind λ e=>
 if (e.2 != 0)=true then
  some (({ Text:=[],Costs:=[],Least:=[] }:A5),e.2)
 else
  (Eg n f).bind λ c=>
  (CO n b c).bind λ a=>
  (DG n b c a.1 a.2.1 a.2.2).bind λ _=>
  (whl (λ (x:((List Int)×(List Int)×Int))=>Fg n b c a x.1 x.2.1 x.2.2) n (a.2.1,a.2.2,((b.length:Nat):Int))).bind λ d=>
  (Ja0 d.2 a.1).bind λ _=>
  some (({ Text:=b,Costs:=QL d.2 a.1,Least:=d.1 }:A5),0)
def Cw (_:Nat) (b:A5) (c:AP) (a:Int):Option (Int⊕(Unit⊕Bool)):=
 if decide (a<((b.Costs.length:Nat):Int))=true then
  (idx b.Costs a).bind λ d=>
  if (((d.length:Nat):Int) != ((c.Arcs.length:Nat):Int))=true then
   some (.inr (.inr false))
  else
   some (.inl (An .i64 a 1))
 else
  some (.inr (.inl ()))
def DZ (n:Nat) (a:A5) (b:AP):Option Bool:=
 if ((((a.Costs.length:Nat):Int) != (An .i64 ((a.Text.length:Nat):Int) 1))||(((a.Least.length:Nat):Int) != (An .i64 ((a.Text.length:Nat):Int) 1)))=true then
  some false
 else
  (whl (λ (x:Int)=>Cw n a b x) n 0).bind λ c=>
  match c with
  | Sum.inl _=>
   some true
  | Sum.inr d=>
   some d
def BK (_:Nat) (b:(List Int)) (c:(Nat×Nat)) (d:(List Int)) (a:Int):Option (Int⊕(Unit⊕Bool)):=
 if decide (a<((b.length:Nat):Int))=true then
  (idx b a).bind λ e=>
  (ixP d c a).bind λ f=>
  if (e != f)=true then
   some (.inr (.inr false))
  else
   some (.inl (An .i64 a 1))
 else
  some (.inr (.inl ()))
def CP (n:Nat) (a:(List Int)) (b:(Nat×Nat)) (c:(List Int)):Option Bool:=
 if (((a.length:Nat):Int) != ((b.2:Nat):Int))=true then
  some false
 else
  (whl (λ (x:Int)=>BK n a b c x) n 0).bind λ d=>
  match d with
  | Sum.inl _=>
   some true
  | Sum.inr e=>
   some e
def C9 (_:Nat) (c:Int) (a:Int) (b:Bool):Option ((Int×Bool×Int)⊕(Int⊕(Int×Bool))):=
 some (.inl (a,b,(An .i64 c 1)))
def Da (n:Nat) (d:A5) (_:(List UInt8)) (i:Int) (j:(List (Nat×Nat))) (e:(List Int)) (k:(List Int)) (a:Int) (c:Bool) (b:Int):Option ((Int×Bool×Int)⊕(Int⊕(Int×Bool))):=
 if decide (b<=An .i64 i 3)=true then
  (idx d.Costs b).bind λ l=>
  (idx j b).bind λ m=>
  (CP n l m k).bind λ o=>
  if (!o)=true then
   some (.inr (.inr (0,false)))
  else
   (idx d.Least b).bind λ f=>
   (if (!(decide (f<0)))=true then idx e b else some default).bind λ p=>
   if ((decide (f<0))||(decide (p<0)))=true then
    C9 n b a c
   else
    (idx e b).bind λ g=>
    (idx d.Least b).bind λ h=>
    if (c&&((DL .i64 g h) != a))=true then
     some (.inr (.inr (0,false)))
    else
     C9 n b (DL .i64 g h) true
 else
  some (.inr (.inl a))
def Fi (n:Nat) (c:A5) (a:(List UInt8)) (b:Int) (d:(List (Nat×Nat))) (e:(List Int)) (f:(List Int)):Option (Int×Bool):=
 (whl (λ (x:(Int×Bool×Int))=>Da n c a b d e f x.1 x.2.1 x.2.2) n (0,false,b)).bind λ g=>
 match g with
 | Sum.inl h=>
  some (h,true)
 | Sum.inr i=>
  some i
def Dk (_:Nat) (e:A5) (c:C5) (l:(List UInt8)) (_:AP) (g:((List (Nat×Nat))×(List Int)×(List Int))) (a:(List Int)) (d:(List Int)) (b:Int):Option (((List Int)×(List Int)×Int)⊕((List Int)×(List Int))):=
 if decide (b<=((l.length:Nat):Int))=true then
  (idx g.1 b).bind λ f=>
  (idx e.Costs (An .i64 (DL .i64 b ((c.Put.length:Nat):Int)) c.Cut)).bind λ h=>
  (JaZ d h f.1 f.2).bind λ i=>
  (idx e.Least (An .i64 (DL .i64 b ((c.Put.length:Nat):Int)) c.Cut)).bind λ j=>
  (idx a b).bind λ _=>
  (put a b j).bind λ k=>
  some (.inl (k,i,(An .i64 b 1)))
 else
  some (.inr (a,d))
def DQ (_:Nat) (b:Int) (d:Int) (a:(List Int)) (c:(List Int)):Option (((List Int)×(List Int)×Int×Int)⊕((List Int)×(List Int)×Int×Int×Int)):=
 some (.inl (a,c,(An .i64 b 1),(DL .i64 d 1)))
def DR (n:Nat) (i:A5) (j:C5) (l:(List UInt8)) (k:AP) (g:((List (Nat×Nat))×(List Int)×(List Int))) (a:(List Int)) (f:(List Int)) (b:Int) (c:Int):Option (((List Int)×(List Int)×Int×Int)⊕((List Int)×(List Int)×Int×Int×Int)):=
 if decide (c>=0)=true then
  (B3 n c l k g.1 a f).bind λ d=>
  (idx a c).bind λ _=>
  (put a c d.2).bind λ e=>
  if decide (An .i64 c 3>j.At)=true then
   DQ n b c e d.1
  else
   (Fi n i l c g.1 e d.1).bind λ h=>
   if h.2=true then
    some (.inr (e,d.1,(An .i64 b 1),c,h.1))
   else
    DQ n b c e d.1
 else
  some (.inr (a,f,b,0,0))
def DS (_:Nat) (b:Int) (a:(List Int)) (c:(List Int)):Option (((List Int)×(List Int)×Int)⊕((List Int)×(List Int))):=
 some (.inl (a,c,(An .i64 b 1)))
def Dl (n:Nat) (e:A5) (_:(List UInt8)) (i:((List (Nat×Nat))×(List Int)×(List Int))) (f:((List Int)×(List Int)×Int×Int×Int)) (b:(List Int)) (d:(List Int)) (a:Int):Option (((List Int)×(List Int)×Int)⊕((List Int)×(List Int))):=
 if decide (a<f.2.2.2.1)=true then
  (idx i.1 a).bind λ g=>
  (idx e.Costs a).bind λ j=>
  (JaZ d j g.1 g.2).bind λ h=>
  (idx e.Least a).bind λ k=>
  (idx b a).bind λ _=>
  (put b a k).bind λ c=>
  (idx e.Least a).bind λ l=>
  if decide (l>=0)=true then
   (idx c a).bind λ m=>
   (idx c a).bind λ _=>
   (put c a (An .i64 m f.2.2.2.2)).bind λ o=>
   DS n a o h
  else
   DS n a c h
 else
  some (.inr (b,d))
def Eh (n:Nat) (j:Ad) (b:A5) (a:C5):Option (A5×Int×Int):=
 if ((((decide (a.At<0))||(decide (a.Cut<0)))||(decide (a.At>((b.Text.length:Nat):Int))))||(decide (a.Cut>DL .i64 ((b.Text.length:Nat):Int) a.At)))=true then
  some (({ Text:=[],Costs:=[],Least:=[] }:A5),0,1)
 else
  (sub b.Text 0 a.At).bind λ l=>
  (cat l a.Put).bind λ m=>
  (sub b.Text (An .i64 a.At a.Cut) ((b.Text.length:Nat):Int)).bind λ o=>
  (cat m o).bind λ g=>
  (GL n g).bind λ i=>
  if (i.2 != 0)=true then
   some (({ Text:=[],Costs:=[],Least:=[] }:A5),0,i.2)
  else
   (Eg n j).bind λ d=>
   (DZ n b d).bind λ k=>
   if (!k)=true then
    some (({ Text:=[],Costs:=[],Least:=[] }:A5),0,1)
   else
    (CO n g d).bind λ c=>
    (whl (λ (x:((List Int)×(List Int)×Int))=>Dk n b a g d c x.1 x.2.1 x.2.2) n (c.2.1,c.2.2,(An .i64 a.At ((a.Put.length:Nat):Int)))).bind λ e=>
    (DG n g d c.1 e.1 e.2).bind λ _=>
    (whl (λ (x:((List Int)×(List Int)×Int×Int))=>DR n b a g d c x.1 x.2.1 x.2.2.1 x.2.2.2) n (e.1,e.2,0,(DL .i64 (An .i64 a.At ((a.Put.length:Nat):Int)) 1))).bind λ f=>
    (whl (λ (x:((List Int)×(List Int)×Int))=>Dl n b g c f x.1 x.2.1 x.2.2) n (f.1,f.2.1,0)).bind λ h=>
    (Ja0 h.2 c.1).bind λ _=>
    some (({ Text:=g,Costs:=QL h.2 c.1,Least:=h.1 }:A5),f.2.2.1,0)
def Dy (n:Nat) (b:(List UInt8)) (a:Int):Option (Int⊕(Unit⊕Bool)):=
 if decide (a<((b.length:Nat):Int))=true then
  (NW b a).bind λ d=>
  (Ff n d).bind λ c=>
  if (c==4)=true then
   some (.inr (.inr true))
  else
   some (.inl (An .i64 a 1))
 else
  some (.inr (.inl ()))
def Fj (n:Nat) (a:(List UInt8)):Option Bool:=
 (whl (λ (x:Int)=>Dy n a x) n 0).bind λ b=>
 match b with
 | Sum.inl _=>
  some false
 | Sum.inr c=>
  some c
def Kz (_:Nat) (a:Int):Option Bool:=
 some (decide (a<64))
def Fk (n:Nat) (c:AC) (a:Int):Option (Int⊕(Unit⊕Bool)):=
 if decide (a<((c.Cells.length:Nat):Int))=true then
  (idx c.Cells a).bind λ b=>
  (Kz n b).bind λ d=>
  if (((!d)||(b==63))||(b==0))=true then
   some (.inr (.inr false))
  else
   some (.inl (An .i64 a 1))
 else
  some (.inr (.inl ()))
def Iz (n:Nat) (a:AC) (b:Int):Option Bool:=
 if (((decide (((a.Print.length:Nat):Int)>4))||(decide (((a.Cells.length:Nat):Int)<1)))||(decide (((a.Cells.length:Nat):Int)>4)))=true then
  some false
 else
  (GL n a.Print).bind λ c=>
  if (c.2 != 0)=true then
   some false
  else
   if ((((decide (a.Left<1))||(decide (a.Left>63)))||(decide (a.Right<1)))||(decide (a.Right>63)))=true then
    some false
   else
    if ((((decide (a.From<0))||(decide (a.From>=b)))||(decide (a.To<0)))||(decide (a.To>=b)))=true then
     some false
    else
     (Fj n a.Print).bind λ d=>
     if d=true then
      (if ((((a.Print.length:Nat):Int)==1)&&(((a.Cells.length:Nat):Int)==1))=true then idx a.Cells 0 else some default).bind λ e=>
      some (((((a.Print.length:Nat):Int)==1)&&(((a.Cells.length:Nat):Int)==1))&&(e==0))
     else
      (whl (λ (x:Int)=>Fk n a x) n 0).bind λ f=>
      match f with
      | Sum.inl _=>
       some true
      | Sum.inr g=>
       some g
def Fl (_:Nat) (b:(List Int)) (c:(List Int)) (a:Int):Option (Int⊕(Unit⊕Bool)):=
 if decide (a<((b.length:Nat):Int))=true then
  (idx b a).bind λ d=>
  (idx c a).bind λ e=>
  if (d != e)=true then
   some (.inr (.inr false))
  else
   some (.inl (An .i64 a 1))
 else
  some (.inr (.inl ()))
def IA (n:Nat) (a:(List Int)) (b:(List Int)):Option Bool:=
 if (((a.length:Nat):Int) != ((b.length:Nat):Int))=true then
  some false
 else
  (whl (λ (x:Int)=>Fl n a b x) n 0).bind λ c=>
  match c with
  | Sum.inl _=>
   some true
  | Sum.inr d=>
   some d
def IB (n:Nat) (a:AC) (b:AC):Option Bool:=
 (if (((((a.From==b.From)&&(a.To==b.To))&&(a.Left==b.Left))&&(a.Right==b.Right))&&(a.Print==b.Print))=true then IA n a.Cells b.Cells else some default).bind λ c=>
 some ((((((a.From==b.From)&&(a.To==b.To))&&(a.Left==b.Left))&&(a.Right==b.Right))&&(a.Print==b.Print))&&c)
def Ei (n:Nat) (_:Ad) (b:Int) (d:AC) (c:(List AC)) (a:Int):Option (Int⊕(Unit⊕(Int×Int))):=
 if decide (a<((c.length:Nat):Int))=true then
  (idx c a).bind λ e=>
  (IB n e d).bind λ f=>
  if f=true then
   some (.inr (.inr (b,20)))
  else
   some (.inl (An .i64 a 1))
 else
  some (.inr (.inl ()))
def Ej (n:Nat) (b:Ad) (a:Int):Option (Int⊕(Unit⊕(Int×Int))):=
 if decide (a<((b.Rules.length:Nat):Int))=true then
  (idx b.Rules a).bind λ c=>
  (Iz n c b.Modes).bind λ d=>
  if (!d)=true then
   some (.inr (.inr (a,20)))
  else
   (sub b.Rules 0 a).bind λ e=>
   (whl (λ (x:Int)=>Ei n b a c e x) n 0).bind λ f=>
   match f with
   | Sum.inl _=>
    some (.inl (An .i64 a 1))
   | Sum.inr g=>
    some (.inr (.inr g))
 else
  some (.inr (.inl ()))
def IC (n:Nat) (a:Ad):Option (Int×Int):=
 if ((decide (a.Modes<1))||(decide (a.Modes>8)))=true then
  some ((-1),1)
 else
  (if (!(a.Accept==0))=true then Bu (decide (0<=a.Modes)) else some default).bind λ _=>
  if ((a.Accept==0)||(decide (IntKind.i64.wrap a.Accept>=Ts .i64 1 a.Modes)))=true then
   some ((-1),1)
  else
   if ((decide (((a.Rules.length:Nat):Int)<1))||(decide (((a.Rules.length:Nat):Int)>64)))=true then
    some ((-1),1)
   else
    (whl (λ (x:Int)=>Ej n a x) n 0).bind λ b=>
    match b with
    | Sum.inl _=>
     some (0,0)
    | Sum.inr c=>
     some c
def Hs (n:Nat) (a:Ad):Option Bool:=
 (IC n a).bind λ b=>
 some (b.2==0)
def D0 (_:Nat) (a:Int):Option Bool:=
 some (a != a)
def Ez (n:Nat) (a:Int) (b:Int):Option Bool:=
 (D0 n a).bind λ c=>
 (if c=true then D0 n b else some default).bind λ d=>
 some ((c&&(!d))||(decide (a<b)))
def FF (_:Nat) (a:Int):Option Bool:=
 some (a != a)
def Bl (n:Nat) (c:(List Int)) (d:Int) (a:Int) (b:Int):Option ((Int×Int)⊕Int):=
 if decide (a<b)=true then
  (idx c (IntKind.i64.wrap (Tt .u64 (IntKind.u64.wrap (An .i64 a b)) 1))).bind λ e=>
  (Ez n e d).bind λ f=>
  if f=true then
   some (.inl ((An .i64 (IntKind.i64.wrap (Tt .u64 (IntKind.u64.wrap (An .i64 a b)) 1)) 1),b))
  else
   some (.inl (a,(IntKind.i64.wrap (Tt .u64 (IntKind.u64.wrap (An .i64 a b)) 1))))
 else
  some (.inr a)
def BC (n:Nat) (a:(List Int)) (c:Int):Option (Int×Bool):=
 (whl (λ (x:(Int×Int))=>Bl n a c x.1 x.2) n (0,((a.length:Nat):Int))).bind λ b=>
 (if decide (b<((a.length:Nat):Int))=true then idx a b else some default).bind λ d=>
 (if ((decide (b<((a.length:Nat):Int)))&&!(d==c))=true then idx a b else some default).bind λ f=>
 (if ((decide (b<((a.length:Nat):Int)))&&!(d==c))=true then FF n f else some default).bind λ e=>
 (if (((decide (b<((a.length:Nat):Int)))&&!(d==c))&&e)=true then FF n c else some default).bind λ g=>
 some (b,((decide (b<((a.length:Nat):Int)))&&((d==c)||(e&&g))))
def BT (n:Nat) (a:AG) (c:Int):Option Int:=
 (BC n a.States c).bind λ b=>
 if (!b.2)=true then
  some (-1)
 else
  (idx a.Costs b.1).bind λ d=>
  some d
def Cn (_:Nat) (_:Ad) (_:(List UInt8)) (c:(List Ab)) (_:(List AG)) (a:(List (Ab×Int))) (b:Int):Option (((List (Ab×Int))×Int)⊕(List (Ab×Int))):=
 if decide (b<((c.length:Nat):Int))=true then
  (idx c b).bind λ d=>
  some (.inl ((MU d b a),(An .i64 b 1)))
 else
  some (.inr a)
def CQ (_:Nat) (a:Int) (b:Ae):Option ((Ae×Int)⊕Ae):=
 some (.inl (b,(An .i64 a 1)))
def Co (n:Nat) (d:Ad) (_:(List Ab)) (f:(List (Ab×Int))) (c:Int) (g:Ab) (a:Ae) (b:Int):Option ((Ae×Int)⊕Ae):=
 if decide (b<((d.Rules.length:Nat):Int))=true then
  (HN n d g b).bind λ e=>
  if e.2=true then
   (idx a.Arcs c).bind λ h=>
   (app 16 h [({ Rule:=b,To:=(Option.getD (G0 e.1 f) 0) }:AE)]).bind λ i=>
   CQ n b ({ T:=a.T,S:=a.S,States:=a.States,Arcs:=List.set a.Arcs c.toNat i,Columns:=a.Columns,Last:=a.Last }:Ae)
  else
   CQ n b a
 else
  some (.inr a)
def CS (n:Nat) (d:Ad) (b:(List Ab)) (e:(List (Ab×Int))) (c:Ae) (a:Int):Option ((Ae×Int)⊕Ae):=
 if decide (a<((b.length:Nat):Int))=true then
  (idx b a).bind λ f=>
  (whl (λ (x:(Ae×Int))=>Co n d b e a f x.1 x.2) n (c,0)).bind λ g=>
  some (.inl (g,(An .i64 a 1)))
 else
  some (.inr c)
def EA (n:Nat) (a:Ad) (c:(List UInt8)):Option Ae:=
 (Hr n a).bind λ b=>
 (mkl 48 (An .i64 ((c.length:Nat):Int) 1) (⟨[],[]⟩:AG)).bind λ d=>
 (whl (λ (x:((List (Ab×Int))×Int))=>Cn n a c b d x.1 x.2) n ([],0)).bind λ e=>
 (mkl 24 ((b.length:Nat):Int) ([]:(List AE))).bind λ f=>
 (whl (λ (x:(Ae×Int))=>CS n a b e x.1 x.2) n (({ T:=a,S:=c,States:=b,Arcs:=f,Columns:=d,Last:=0 }:Ae),0)).bind λ g=>
 some g
def Ck (_:Nat) (b:Int) (c:Int) (a:Ae) (e:(List (List Bool))):Option (Ae×(List (List Bool))):=
 (idx e (Bd b 5)).bind λ d=>
 (Bu (decide (0<=Bd b 5/\Bd b 5<((5:Nat):Int)))).bind λ _=>
 (idx d c).bind λ g=>
 if (!g)=true then
  (idx d c).bind λ _=>
  (put d c true).bind λ h=>
  (idx a.Columns b).bind λ f=>
  (app 8 f.States [c]).bind λ i=>
  some (({ T:=a.T,S:=a.S,States:=a.States,Arcs:=a.Arcs,Columns:=List.set a.Columns b.toNat ({ States:=i,Costs:=f.Costs }:AG),Last:=a.Last }:Ae),(List.set e (Int.toNat (Bd b 5)) h))
 else
  some (a,(List.set e (Int.toNat (Bd b 5)) d))
def BS (n:Nat) (b:Int) (d:Int) (a:Ae):Option (Int×Bool):=
 (idx a.T.Rules d).bind λ c=>
 (sub a.S b ((a.S.length:Nat):Int)).bind λ f=>
 (DN n f c.Print).bind λ e=>
 some ((An .i64 b ((c.Print.length:Nat):Int)),e)
def Vz (_:Nat) (a:(List Int)):Option (List Int):=
 ZX a
def B4 (_:Nat) (c:Ae) (a:(List (List Bool))) (b:Int):Option (((List (List Bool))×Int)⊕(List (List Bool))):=
 if decide (b<5)=true then
  (idx a b).bind λ _=>
  (mkl 1 ((c.States.length:Nat):Int) (false:Bool)).bind λ d=>
  (Bu (decide (0<=b/\b<((5:Nat):Int)))).bind λ _=>
  some (.inl ((List.set a b.toNat d),(An .i64 b 1)))
 else
  some (.inr a)
def B5 (_:Nat) (b:Int) (c:Ae) (a:(List (List Bool))):Option ((Ae×(List (List Bool))×Int)⊕(Ae×(List (List Bool)))):=
 some (.inl (c,a,(An .i64 b 1)))
def BD (n:Nat) (_:(Ae×(List (List Bool)))) (d:Int) (_:Int) (_:Int) (e:(List AE)) (b:Ae) (a:(List (List Bool))) (c:Int):Option ((Ae×(List (List Bool))×Int)⊕(Ae×(List (List Bool)))):=
 if decide (c<((e.length:Nat):Int))=true then
  (idx e c).bind λ f=>
  (BS n d f.Rule b).bind λ g=>
  if g.2=true then
   (Ck n g.1 f.To b a).bind λ h=>
   B5 n c h.1 h.2
  else
   B5 n c b a
 else
  some (.inr (b,a))
def B6 (n:Nat) (g:(Ae×(List (List Bool)))) (c:Int) (a:Int) (b:(List (List Bool))) (d:Int) (h:Int) (e:Ae):Option ((Ae×(List (List Bool))×Int)⊕(Ae×(List (List Bool)))):=
 (idx e.Arcs h).bind λ i=>
 (whl (λ (x:(Ae×(List (List Bool))×Int))=>BD n g c a d i x.1 x.2.1 x.2.2) n (e,b,0)).bind λ f=>
 some (.inl (f.1,f.2,(An .i64 d 1)))
def B7 (n:Nat) (i:(Ae×(List (List Bool)))) (b:Int) (c:Int) (a:Ae) (d:(List (List Bool))) (f:Int):Option ((Ae×(List (List Bool))×Int)⊕(Ae×(List (List Bool)))):=
 (idx a.Columns b).bind λ e=>
 if decide (f<((e.States.length:Nat):Int))=true then
  (idx (List.set a.Columns b.toNat e) b).bind λ g=>
  (idx g.States f).bind λ h=>
  (idx a.States h).bind λ j=>
  (Bu (decide (0<=c))).bind λ _=>
  if ((CW .u8 (Tt .u8 j.Need c) 1)==1)=true then
   B6 n i b c d f h ({ T:=a.T,S:=a.S,States:=a.States,Arcs:=a.Arcs,Columns:=List.set (List.set a.Columns b.toNat e) b.toNat g,Last:=b }:Ae)
  else
   B6 n i b c d f h ({ T:=a.T,S:=a.S,States:=a.States,Arcs:=a.Arcs,Columns:=List.set (List.set a.Columns b.toNat e) b.toNat g,Last:=a.Last }:Ae)
 else
  some (.inr (({ T:=a.T,S:=a.S,States:=a.States,Arcs:=a.Arcs,Columns:=List.set a.Columns b.toNat e,Last:=a.Last }:Ae),d))
def BE (n:Nat) (h:(Ae×(List (List Bool)))) (i:Ae) (c:(List (List Bool))) (a:Int) (d:Int):Option ((Ae×(List (List Bool))×Int)⊕Ae):=
 (whl (λ (x:(Ae×(List (List Bool))×Int))=>B7 n h a d x.1 x.2.1 x.2.2) n (i,c,0)).bind λ b=>
 (idx b.1.Columns a).bind λ e=>
 (Vz n e.States).bind λ f=>
 (Bu (decide (List.length e.States=List.length f))).bind λ _=>
 (idx b.2 (Bd a 5)).bind λ g=>
 (Bu (decide (0<=Bd a 5/\Bd a 5<((5:Nat):Int)))).bind λ _=>
 some (.inl (({ T:=b.1.T,S:=b.1.S,States:=b.1.States,Arcs:=b.1.Arcs,Columns:=List.set b.1.Columns a.toNat ({ States:=f,Costs:=e.Costs }:AG),Last:=b.1.Last }:Ae),(List.set b.2 (Int.toNat (Bd a 5)) (List.replicate (g.length) (false:Bool))),(An .i64 a 1)))
def B8 (n:Nat) (d:(Ae×(List (List Bool)))) (c:Ae) (a:(List (List Bool))) (b:Int):Option ((Ae×(List (List Bool))×Int)⊕Ae):=
 if decide (b<((d.1.Columns.length:Nat):Int))=true then
  if decide (b<((c.S.length:Nat):Int))=true then
   (NW c.S b).bind λ f=>
   (Ff n f).bind λ e=>
   BE n d c a b e
  else
   BE n d c a b 0
 else
  some (.inr c)
def Dn (n:Nat) (b:Ae):Option Ae:=
 (whl (λ (x:((List (List Bool))×Int))=>B4 n b x.1 x.2) n (([[],[],[],[],[]]:List (List Bool)),0)).bind λ c=>
 (Ck n 0 0 b c).bind λ a=>
 (whl (λ (x:(Ae×(List (List Bool))×Int))=>B8 n a x.1 x.2.1 x.2.2) n (a.1,a.2,0)).bind λ d=>
 some d
def Bp (_:Nat) (b:Int) (c:Ae) (a:Bool):Option ((Ae×Bool×Int)⊕(Ae×Bool)):=
 some (.inl (c,a,(An .i64 b 1)))
def Bq (n:Nat) (j:Int) (r:Bool) (b:Int) (f:Int) (k:(List AE)) (a:Ae) (c:Bool) (d:Int):Option ((Ae×Bool×Int)⊕(Ae×Bool)):=
 if decide (d<((k.length:Nat):Int))=true then
  (idx k d).bind λ g=>
  (BS n f g.Rule a).bind λ o=>
  if ((!o.2)||(!((o.1==f)==r)))=true then
   Bp n d a c
  else
   (idx a.Columns o.1).bind λ p=>
   (BT n p g.To).bind λ h=>
   (idx a.T.Rules g.Rule).bind λ l=>
   (idx a.Columns b).bind λ e=>
   (if decide (h>=0)=true then idx e.Costs j else some default).bind λ m=>
   (if ((decide (h>=0))&&!(decide (m<0)))=true then idx e.Costs j else some default).bind λ q=>
   if ((decide (h>=0))&&((decide (m<0))||(decide (An .i64 h ((l.Cells.length:Nat):Int)<q))))=true then
    (idx (List.set a.Columns b.toNat e) b).bind λ i=>
    (idx i.Costs j).bind λ _=>
    (put i.Costs j (An .i64 h ((l.Cells.length:Nat):Int))).bind λ s=>
    Bp n d ({ T:=a.T,S:=a.S,States:=a.States,Arcs:=a.Arcs,Columns:=List.set (List.set a.Columns b.toNat e) b.toNat ({ States:=i.States,Costs:=s }:AG),Last:=a.Last }:Ae) true
   else
    Bp n d ({ T:=a.T,S:=a.S,States:=a.States,Arcs:=a.Arcs,Columns:=List.set a.Columns b.toNat e,Last:=a.Last }:Ae) c
 else
  some (.inr (a,c))
def Cl (n:Nat) (e:Int) (i:Bool) (b:Int) (d:Int) (a:Ae):Option (Ae×Bool):=
 (idx a.Columns b).bind λ c=>
 (idx c.States e).bind λ f=>
 (idx a.Arcs f).bind λ g=>
 (whl (λ (x:(Ae×Bool×Int))=>Bq n e i b d g x.1 x.2.1 x.2.2) n (({ T:=a.T,S:=a.S,States:=a.States,Arcs:=a.Arcs,Columns:=List.set a.Columns b.toNat c,Last:=a.Last }:Ae),false,0)).bind λ h=>
 some (h.1,h.2)
def B9 (_:Nat) (a:Int) (b:(List Int)):Option (((List Int)×Int)⊕Ae):=
 some (.inl (b,(An .i64 a 1)))
def BF (n:Nat) (b:Ae) (a:Int) (e:AG) (h:(List Int)) (d:AG) (f:(List Int)) (c:Int):Option (((List Int)×Int)⊕Ae):=
 if decide (c<((d.States.length:Nat):Int))=true then
  (idx d.States c).bind λ i=>
  (idx (List.set b.Columns a.toNat ({ States:=e.States,Costs:=h }:AG)) a).bind λ _=>
  (idx f c).bind λ _=>
  (put f c (-1)).bind λ g=>
  (if (a==((b.S.length:Nat):Int))=true then idx b.States i else some default).bind λ j=>
  (if (a==((b.S.length:Nat):Int))=true then EW n b.T j else some default).bind λ k=>
  if ((a==((b.S.length:Nat):Int))&&k)=true then
   (idx g c).bind λ _=>
   (put g c 0).bind λ l=>
   B9 n c l
  else
   B9 n c g
 else
  some (.inr ({ T:=b.T,S:=b.S,States:=b.States,Arcs:=b.Arcs,Columns:=List.set (List.set b.Columns a.toNat ({ States:=e.States,Costs:=h }:AG)) a.toNat ({ States:=d.States,Costs:=f }:AG),Last:=b.Last }:Ae))
def BG (n:Nat) (a:Int) (d:AG) (c:Ae) (b:Int):Option ((Ae×Int)⊕Ae):=
 if decide (b<((d.States.length:Nat):Int))=true then
  (Cl n b false a a c).bind λ e=>
  some (.inl (e.1,(An .i64 b 1)))
 else
  some (.inr c)
def BH (n:Nat) (b:Int) (e:AG) (d:Ae) (a:Bool) (c:Int):Option ((Ae×Bool×Int)⊕(Ae×Bool)):=
 if decide (c<((e.States.length:Nat):Int))=true then
  (Cl n c true b b d).bind λ f=>
  some (.inl (f.1,(f.2||a),(An .i64 c 1)))
 else
  some (.inr (d,a))
def Ca (n:Nat) (a:Int) (b:Ae):Option (Ae⊕Ae):=
 (idx b.Columns a).bind λ c=>
 (whl (λ (x:(Ae×Bool×Int))=>BH n a c x.1 x.2.1 x.2.2) n (({ T:=b.T,S:=b.S,States:=b.States,Arcs:=b.Arcs,Columns:=List.set b.Columns a.toNat c,Last:=b.Last }:Ae),false,0)).bind λ d=>
 if (!d.2)=true then
  some (.inr d.1)
 else
  some (.inl d.1)
def CA (n:Nat) (b:Ae) (a:Int):Option ((Ae×Int)⊕Ae):=
 if decide (a>=0)=true then
  (idx b.Columns a).bind λ _=>
  (idx b.Columns a).bind λ d=>
  (mkl 8 ((d.States.length:Nat):Int) (0:Int)).bind λ g=>
  (idx (List.set b.Columns a.toNat ({ States:=d.States,Costs:=g }:AG)) a).bind λ e=>
  (whl (λ (x:((List Int)×Int))=>BF n b a d g e x.1 x.2) n (e.Costs,0)).bind λ c=>
  (idx c.Columns a).bind λ f=>
  (whl (λ (x:(Ae×Int))=>BG n a f x.1 x.2) n (({ T:=c.T,S:=c.S,States:=c.States,Arcs:=c.Arcs,Columns:=List.set c.Columns a.toNat f,Last:=c.Last }:Ae),0)).bind λ h=>
  (whl (λ (x:Ae)=>Ca n a x) n h).bind λ i=>
  some (.inl (i,(DL .i64 a 1)))
 else
  some (.inr b)
def Do (n:Nat) (a:Ae):Option Ae:=
 (whl (λ (x:(Ae×Int))=>CA n x.1 x.2) n (a,((a.S.length:Nat):Int))).bind λ b=>
 some b
def By (_:Nat) (a:Int):Option (Int⊕((AJ×Int×Int×Int)⊕Unit)):=
 some (.inl (An .i64 a 1))
def Bz (n:Nat) (h:Ae) (a:AJ) (e:Int) (c:Int) (g:(List AE)) (d:Int):Option (Int⊕((AJ×Int×Int×Int)⊕Unit)):=
 if decide (d<((g.length:Nat):Int))=true then
  (idx g d).bind λ b=>
  (BS n e b.Rule h).bind λ i=>
  if (!i.2)=true then
   By n d
  else
   (idx h.T.Rules b.Rule).bind λ f=>
   (idx h.Columns i.1).bind λ j=>
   (BT n j b.To).bind λ k=>
   if ((decide (k<0))||(k != (DL .i64 c ((f.Cells.length:Nat):Int))))=true then
    By n d
   else
    (app 1 a.Cells f.Cells).bind λ l=>
    (app 8 a.Path [b.Rule]).bind λ m=>
    some (.inr (.inl (({ Cells:=l,Path:=m }:AJ),i.1,b.To,(DL .i64 c ((f.Cells.length:Nat):Int)))))
 else
  some (.inr (.inr ()))
def BX (n:Nat) (f:Ae) (a:AJ) (c:Int) (d:Int) (b:Int):Option ((AJ×Int×Int×Int)⊕AJ):=
 if decide (b>0)=true then
  (idx f.Arcs d).bind λ g=>
  (whl (λ (x:Int)=>Bz n f a c b g x) n 0).bind λ h=>
  match h with
  | Sum.inl e=>
   some (.inl (e.1,e.2.1,e.2.2.1,e.2.2.2))
  | Sum.inr _=>
   some (.inr a)
 else
  some (.inr a)
def CB (n:Nat) (a:Ae):Option AJ:=
 (idx a.Columns 0).bind λ b=>
 (BT n b 0).bind λ c=>
 (whl (λ (x:(AJ×Int×Int×Int))=>BX n a x.1 x.2.1 x.2.2.1 x.2.2.2) n (({ Cells:=([]:List Int),Path:=([]:List Int) }:AJ),0,0,c)).bind λ d=>
 some d
def ID (n:Nat) (e:Ad) (c:(List UInt8)):Option (AJ×Int×Int):=
 (GL n c).bind λ d=>
 if (d.2 != 0)=true then
  some (({ Cells:=[],Path:=[] }:AJ),d.1,d.2)
 else
  (Hs n e).bind λ g=>
  if (!g)=true then
   some (({ Cells:=[],Path:=[] }:AJ),0,61)
  else
   (EA n e c).bind λ h=>
   (Dn n h).bind λ i=>
   (Do n i).bind λ a=>
   (idx a.Columns 0).bind λ b=>
   (idx b.Costs 0).bind λ f=>
   if decide (f<0)=true then
    some (({ Cells:=[],Path:=[] }:AJ),a.Last,61)
   else
    (CB n ({ T:=a.T,S:=a.S,States:=a.States,Arcs:=a.Arcs,Columns:=List.set a.Columns (Int.toNat 0) b,Last:=a.Last }:Ae)).bind λ j=>
    some (j,((c.length:Nat):Int),0)
def EX (n:Nat) (b:Ad) (c:A5):Option (AJ×Int):=
 (ID n b c.Text).bind λ a=>
 if (a.2.2 != 0)=true then
  some (({ Cells:=[],Path:=[] }:AJ),61)
 else
  some (a.1,0)
def Gp (_:Nat) (b:(List Int)) (e:(List Int)) (a:Int):Option (Int⊕(Unit⊕Bool)):=
 if decide (a<((b.length:Nat):Int))=true then
  (idx b a).bind λ c=>
  (idx e a).bind λ d=>
  if (c != d)=true then
   some (.inr (.inr false))
  else
   some (.inl (An .i64 a 1))
 else
  some (.inr (.inl ()))
def EY (n:Nat) (a:(List Int)) (b:(List Int)):Option Bool:=
 if (((a.length:Nat):Int) != ((b.length:Nat):Int))=true then
  some false
 else
  (whl (λ (x:Int)=>Gp n a b x) n 0).bind λ c=>
  match c with
  | Sum.inl _=>
   some true
  | Sum.inr d=>
   some d
def Dp (_:Nat) (b:(List Int)) (e:(List Int)) (a:Int):Option (Int⊕(Unit⊕Bool)):=
 if decide (a<((b.length:Nat):Int))=true then
  (idx b a).bind λ c=>
  (idx e a).bind λ d=>
  if (c != d)=true then
   some (.inr (.inr false))
  else
   some (.inl (An .i64 a 1))
 else
  some (.inr (.inl ()))
def DT (n:Nat) (a:(List Int)) (b:(List Int)):Option Bool:=
 if (((a.length:Nat):Int) != ((b.length:Nat):Int))=true then
  some false
 else
  (whl (λ (x:Int)=>Dp n a b x) n 0).bind λ c=>
  match c with
  | Sum.inl _=>
   some true
  | Sum.inr d=>
   some d
def IQ (n:Nat) (a:AJ) (b:AJ):Option Bool:=
 (DT n a.Cells b.Cells).bind λ c=>
 (if c=true then EY n a.Path b.Path else some default).bind λ d=>
 some (c&&d)
def IR (n:Nat) :Option Bool:=
 (Ls n).bind λ c=>
 (Fh n c [97,97,98]).bind λ b=>
 (Fh n c [97,9]).bind λ f=>
 (Eh n c b.1 ({ At:=0,Cut:=1,Put:=[98] }:C5)).bind λ a=>
 (Eh n c b.1 ({ At:=2,Cut:=2,Put:=[] }:C5)).bind λ g=>
 (Eh n c b.1 ({ At:=3,Cut:=0,Put:=[10] }:C5)).bind λ h=>
 (EX n c b.1).bind λ e=>
 (Fh n c [99]).bind λ d=>
 (EX n c d.1).bind λ i=>
 (if ((((((((b.2==0)&&(f.2==60))&&(a.2.2==0))&&(g.2.2==1))&&(h.2.2==60))&&(e.2==0))&&(d.2==0))&&(i.2==61))=true then EY n b.1.Least [2,1,1,0] else some default).bind λ j=>
 (if (((((((((((b.2==0)&&(f.2==60))&&(a.2.2==0))&&(g.2.2==1))&&(h.2.2==60))&&(e.2==0))&&(d.2==0))&&(i.2==61))&&j)&&(a.2.1==1))&&(a.1.Text==[98,97,98]))=true then EY n a.1.Least [2,1,1,0] else some default).bind λ k=>
 (if ((((((((((((b.2==0)&&(f.2==60))&&(a.2.2==0))&&(g.2.2==1))&&(h.2.2==60))&&(e.2==0))&&(d.2==0))&&(i.2==61))&&j)&&(a.2.1==1))&&(a.1.Text==[98,97,98]))&&k)=true then IQ n e.1 ({ Cells:=[1,7],Path:=[0,2] }:AJ) else some default).bind λ l=>
 (if (((((((((((((b.2==0)&&(f.2==60))&&(a.2.2==0))&&(g.2.2==1))&&(h.2.2==60))&&(e.2==0))&&(d.2==0))&&(i.2==61))&&j)&&(a.2.1==1))&&(a.1.Text==[98,97,98]))&&k)&&l)=true then EY n d.1.Least [(-1),0] else some default).bind λ m=>
 some ((((((((((((((b.2==0)&&(f.2==60))&&(a.2.2==0))&&(g.2.2==1))&&(h.2.2==60))&&(e.2==0))&&(d.2==0))&&(i.2==61))&&j)&&(a.2.1==1))&&(a.1.Text==[98,97,98]))&&k)&&l)&&m)
def Bc (_:Nat) (b:(List UInt8)) (c:(List Int)) (a:(GE Int)):Option AC:=
 some ({ Print:=b,Cells:=c,Left:=63,Right:=63,From:=a.a0,To:=a.a1 }:AC)
def RV (n:Nat) :Option (List AC):=
 (Bc n [97] [1] ({ a0:=0,a1:=0 }:(GE Int))).bind λ a=>
 (Bc n [98] [3] ({ a0:=0,a1:=0 }:(GE Int))).bind λ b=>
 (Bc n [99] [9] ({ a0:=0,a1:=0 }:(GE Int))).bind λ c=>
 (Bc n [32] [0] ({ a0:=0,a1:=0 }:(GE Int))).bind λ d=>
 some [a,b,c,d]
def HF (n:Nat) (c:Int) (b:Int) (d:(GE Int)):Option AC:=
 (Bc n [] [c] d).bind λ a=>
 (Bu (decide (0<=b))).bind λ _=>
 some ({ Print:=a.Print,Cells:=a.Cells,Left:=a.Left,Right:=Ts .u8 1 b,From:=a.From,To:=a.To }:AC)
def Gq (_:Nat) (a:(List AC)):Option Ad:=
 some ({ Modes:=1,Accept:=1,Rules:=a }:Ad)
def KA (n:Nat) (d:Int):Option Ad:=
 (RV n).bind λ a=>
 if ((Bd d 8)==1)=true then
  (HF n 60 3 ({ a0:=0,a1:=1 }:(GE Int))).bind λ t=>
  (Bc n [49] [1] ({ a0:=1,a1:=1 }:(GE Int))).bind λ u=>
  (Bc n [50] [3] ({ a0:=1,a1:=1 }:(GE Int))).bind λ v=>
  (Bc n [32] [0] ({ a0:=1,a1:=0 }:(GE Int))).bind λ w=>
  (app 64 a [t,u,v,w]).bind λ x=>
  some ({ Modes:=2,Accept:=3,Rules:=x }:Ad)
 else
  if ((Bd d 8)==2)=true then
   (HF n 32 2 ({ a0:=0,a1:=1 }:(GE Int))).bind λ e=>
   (Bc n [65] [1] ({ a0:=1,a1:=0 }:(GE Int))).bind λ f=>
   (Bc n [66] [3] ({ a0:=1,a1:=0 }:(GE Int))).bind λ g=>
   (app 64 a [e,f,g]).bind λ y=>
   some ({ Modes:=2,Accept:=1,Rules:=y }:Ad)
  else
   if ((Bd d 8)==3)=true then
    (Bc n [97,98] [7] ({ a0:=0,a1:=0 }:(GE Int))).bind λ h=>
    (Bc n [97,98,99] [15] ({ a0:=0,a1:=0 }:(GE Int))).bind λ i=>
    (Bc n [99,97] [4,4] ({ a0:=0,a1:=0 }:(GE Int))).bind λ j=>
    (app 64 a [h,i,j]).bind λ z=>
    Gq n z
   else
    if ((Bd d 8)==4)=true then
     (Bc n [45] [1,3] ({ a0:=0,a1:=0 }:(GE Int))).bind λ k=>
     (app 64 a [k]).bind λ A=>
     Gq n A
    else
     if ((Bd d 8)==5)=true then
      (Bc n [98] [44] ({ a0:=0,a1:=0 }:(GE Int))).bind λ b=>
      (Bc n [99,97,98] [44] ({ a0:=0,a1:=0 }:(GE Int))).bind λ c=>
      (Bc n [45] [36] ({ a0:=0,a1:=0 }:(GE Int))).bind λ l=>
      (app 64 a [({ Print:=b.Print,Cells:=b.Cells,Left:=17,Right:=b.Right,From:=b.From,To:=b.To }:AC),({ Print:=c.Print,Cells:=c.Cells,Left:=2,Right:=c.Right,From:=c.From,To:=c.To }:AC),l]).bind λ B=>
      Gq n B
     else
      if ((Bd d 8)==6)=true then
       (HF n 40 1 ({ a0:=0,a1:=1 }:(GE Int))).bind λ m=>
       (Bc n [225] [1] ({ a0:=1,a1:=0 }:(GE Int))).bind λ o=>
       (Bc n [226] [3] ({ a0:=1,a1:=0 }:(GE Int))).bind λ p=>
       (app 64 a [m,o,p]).bind λ C=>
       some ({ Modes:=2,Accept:=1,Rules:=C }:Ad)
      else
       if ((Bd d 8)==7)=true then
        (Bc n [45] [1,5] ({ a0:=0,a1:=0 }:(GE Int))).bind λ q=>
        (Bc n [49] [5,5] ({ a0:=0,a1:=0 }:(GE Int))).bind λ r=>
        (Bc n [50] [5,9] ({ a0:=0,a1:=0 }:(GE Int))).bind λ s=>
        (app 64 a [q,r,s]).bind λ E=>
        Gq n E
       else
        Gq n a
def Gr (_:Nat) (d:DY) (a:AC) (b:Int):Option ((AC×Int)⊕AC):=
 if ((decide (b<((d.P.length:Nat):Int)))&&(decide (b<3)))=true then
  (idx d.P b).bind λ c=>
  (sub [97,98,99,65,66,49,50,45,46] (IntKind.i64.wrap (Bd c 9)) (An .i64 (IntKind.i64.wrap (Bd c 9)) 1)).bind λ f=>
  (cat a.Print f).bind λ e=>
  some (.inl (({ Print:=e,Cells:=a.Cells,Left:=a.Left,Right:=a.Right,From:=a.From,To:=a.To }:AC),(An .i64 b 1)))
 else
  some (.inr a)
def Gs (_:Nat) (c:DY) (a:AC) (b:Int):Option ((AC×Int)⊕AC):=
 if ((decide (b<((c.C.length:Nat):Int)))&&(decide (b<2)))=true then
  (idx c.C b).bind λ d=>
  (idx [1,3,9,5,7,32,44,60] (Bd d 8)).bind λ e=>
  (app 1 a.Cells [e]).bind λ f=>
  some (.inl (({ Print:=a.Print,Cells:=f,Left:=a.Left,Right:=a.Right,From:=a.From,To:=a.To }:AC),(An .i64 b 1)))
 else
  some (.inr a)
def PK (n:Nat) (a:DY) (c:Int):Option AC:=
 (idx [63,63,2,8,17,62,4,1] (Bd a.L 8)).bind λ d=>
 (idx [63,63,2,8,17,62,4,1] (Bd a.R 8)).bind λ e=>
 (Bu (!(c==0))).bind λ _=>
 (Bu (!(c==0))).bind λ _=>
 (whl (λ (x:(AC×Int))=>Gr n a x.1 x.2) n (({ Print:=[],Cells:=([]:List Int),Left:=d,Right:=e,From:=Bd (IntKind.i64.wrap a.W.a0) c,To:=Bd (IntKind.i64.wrap a.W.a1) c }:AC),0)).bind λ b=>
 (idx [1,3,9,5,7,32,44,60] (Bd (JfD .u8 a.L 8) 8)).bind λ f=>
 (whl (λ (x:(AC×Int))=>Gs n a x.1 x.2) n (({ Print:=b.Print,Cells:=[f],Left:=b.Left,Right:=b.Right,From:=b.From,To:=b.To }:AC),0)).bind λ g=>
 some g
def J3 (_:Nat) (a:Int):Option Bool:=
 some ((decide (CW .u8 a 127>=32))&&(decide (CW .u8 a 127<=126)))
def Jx (n:Nat) (b:(List UInt8)) (a:Int):Option (Int⊕(Unit⊕(Int×Int))):=
 if decide (a<((b.length:Nat):Int))=true then
  (NW b a).bind λ d=>
  (J3 n d).bind λ c=>
  if (!c)=true then
   some (.inr (.inr (a,60)))
  else
   some (.inl (An .i64 a 1))
 else
  some (.inr (.inl ()))
def M5 (n:Nat) (a:(List UInt8)):Option (Int×Int):=
 (whl (λ (x:Int)=>Jx n a x) n 0).bind λ b=>
 match b with
 | Sum.inl _=>
  some (((a.length:Nat):Int),0)
 | Sum.inr c=>
  some c
def Lt (n:Nat) (b:(List UInt8)):Option Bool:=
 (M5 n b).bind λ a=>
 some (a.2==0)
def QP (_:Nat) (a:Int):Option Bool:=
 some ((CW .u8 a 127)==32)
def Fm (n:Nat) (c:AC) (a:Bool) (b:Int):Option ((Bool×Int)⊕Bool):=
 if decide (b<((c.Print.length:Nat):Int))=true then
  (if (!a)=true then NW c.Print b else some default).bind λ e=>
  (if (!a)=true then QP n e else some default).bind λ d=>
  some (.inl ((a||d),(An .i64 b 1)))
 else
  some (.inr a)
def Ek (_:Nat) (c:AC) (_:Bool) (a:Bool) (b:Int):Option ((Bool×Int)⊕(Bool⊕Bool)):=
 if decide (b<((c.Cells.length:Nat):Int))=true then
  (idx c.Cells b).bind λ d=>
  if decide (d>=63)=true then
   some (.inr (.inr false))
  else
   (if (!a)=true then idx c.Cells b else some default).bind λ e=>
   some (.inl ((a||(e==0)),(An .i64 b 1)))
 else
  some (.inr (.inl a))
def NI (n:Nat) (a:AC) (b:Int):Option Bool:=
 (Lt n a.Print).bind λ c=>
 if ((((!c)||(decide (((a.Print.length:Nat):Int)>4)))||(decide (((a.Cells.length:Nat):Int)<1)))||(decide (((a.Cells.length:Nat):Int)>4)))=true then
  some false
 else
  if ((((((((decide (a.Left<1))||(decide (a.Left>63)))||(decide (a.Right<1)))||(decide (a.Right>63)))||(decide (a.From<0)))||(decide (a.From>=b)))||(decide (a.To<0)))||(decide (a.To>=b)))=true then
   some false
  else
   (whl (λ (x:(Bool×Int))=>Fm n a x.1 x.2) n (false,0)).bind λ d=>
   (whl (λ (x:(Bool×Int))=>Ek n a d x.1 x.2) n (false,0)).bind λ f=>
   match f with
   | Sum.inl e=>
    if (!d)=true then
     some (!e)
    else
     some (((((a.Print.length:Nat):Int)==1)&&(((a.Cells.length:Nat):Int)==1))&&e)
   | Sum.inr g=>
    some g
def Io (n:Nat) (a:AC) (b:AC):Option Bool:=
 (if (a.Print==b.Print)=true then DT n a.Cells b.Cells else some default).bind λ c=>
 some ((((((a.Print==b.Print)&&c)&&(a.Left==b.Left))&&(a.Right==b.Right))&&(a.From==b.From))&&(a.To==b.To))
def GM (n:Nat) (c:Ad) (a:Int) (b:Int):Option (Int⊕(Unit⊕(Int×Int))):=
 if decide (b<a)=true then
  (idx c.Rules b).bind λ d=>
  (idx c.Rules a).bind λ e=>
  (Io n d e).bind λ f=>
  if f=true then
   some (.inr (.inr (a,20)))
  else
   some (.inl (An .i64 b 1))
 else
  some (.inr (.inl ()))
def GN (n:Nat) (b:Ad) (a:Int):Option (Int⊕(Unit⊕(Int×Int))):=
 if decide (a<((b.Rules.length:Nat):Int))=true then
  (idx b.Rules a).bind λ c=>
  (NI n c b.Modes).bind λ d=>
  if (!d)=true then
   some (.inr (.inr (a,20)))
  else
   (whl (λ (x:Int)=>GM n b a x) n 0).bind λ e=>
   match e with
   | Sum.inl _=>
    some (.inl (An .i64 a 1))
   | Sum.inr f=>
    some (.inr (.inr f))
 else
  some (.inr (.inl ()))
def NJ (n:Nat) (a:Ad):Option (Int×Int):=
 (if (!(((decide (a.Modes<1))||(decide (a.Modes>8)))||(a.Accept==0)))=true then Bu (decide (0<=a.Modes)) else some default).bind λ _=>
 if ((((((decide (a.Modes<1))||(decide (a.Modes>8)))||(a.Accept==0))||(decide (IntKind.i64.wrap a.Accept>=Ts .i64 1 a.Modes)))||(decide (((a.Rules.length:Nat):Int)<1)))||(decide (((a.Rules.length:Nat):Int)>64)))=true then
  some ((-1),1)
 else
  (whl (λ (x:Int)=>GN n a x) n 0).bind λ b=>
  match b with
  | Sum.inl _=>
   some (0,0)
  | Sum.inr c=>
   some c
def QQ (n:Nat) (b:Ad):Option Bool:=
 (NJ n b).bind λ a=>
 some (a.2==0)
def HO (_:Nat) (a:Int) (b:Ad):Option ((Ad×Int)⊕Ad):=
 some (.inl (b,(An .i64 a 1)))
def Gt (n:Nat) (e:NY) (c:Ad) (b:Ad) (a:Int):Option ((Ad×Int)⊕Ad):=
 if decide (a<((c.Rules.length:Nat):Int))=true then
  (Bu (decide (0<=a))).bind λ _=>
  if ((CW .u8 (Tt .u8 e.Drop a) 1)==0)=true then
   (idx c.Rules a).bind λ d=>
   (app 64 b.Rules [d]).bind λ f=>
   HO n a ({ Modes:=b.Modes,Accept:=b.Accept,Rules:=f }:Ad)
  else
   HO n a b
 else
  some (.inr b)
def HP (_:Nat) (a:Int) (b:Ad):Option ((Ad×Int)⊕Ad):=
 some (.inl (b,(An .i64 a 1)))
def Gu (n:Nat) (d:NY) (_:Ad) (a:Ad) (b:Int):Option ((Ad×Int)⊕Ad):=
 if ((decide (b<((d.More.length:Nat):Int)))&&(decide (b<2)))=true then
  (idx d.More b).bind λ e=>
  (PK n e a.Modes).bind λ f=>
  (app 64 a.Rules [f]).bind λ c=>
  (QQ n ({ Modes:=a.Modes,Accept:=a.Accept,Rules:=c }:Ad)).bind λ g=>
  if (!g)=true then
   (sub c 0 (DL .i64 ((c.length:Nat):Int) 1)).bind λ h=>
   HP n b ({ Modes:=a.Modes,Accept:=a.Accept,Rules:=h }:Ad)
  else
   HP n b ({ Modes:=a.Modes,Accept:=a.Accept,Rules:=c }:Ad)
 else
  some (.inr a)
def HQ (_:Nat) (a:Ad):Option Ad:=
 some a
def KB (n:Nat) (c:NY):Option Ad:=
 (KA n c.Base).bind λ a=>
 (whl (λ (x:(Ad×Int))=>Gt n c a x.1 x.2) n (({ Modes:=a.Modes,Accept:=a.Accept,Rules:=([]:List AC) }:Ad),0)).bind λ d=>
 (whl (λ (x:(Ad×Int))=>Gu n c a x.1 x.2) n (d,0)).bind λ b=>
 if (((b.Rules.length:Nat):Int)==0)=true then
  HQ n ({ Modes:=b.Modes,Accept:=b.Accept,Rules:=a.Rules }:Ad)
 else
  HQ n b
def EZ (_:Nat) (b:Int) (a:(List UInt8)):Option (((List UInt8)×Int)⊕(List UInt8)):=
 some (.inl (a,(An .i64 b 1)))
def E0 (n:Nat) (c:Ad) (e:(List Int)) (a:(List UInt8)) (b:Int):Option (((List UInt8)×Int)⊕(List UInt8)):=
 if (((decide (b<((e.length:Nat):Int)))&&(decide (b<12)))&&(decide (((c.Rules.length:Nat):Int)>0)))=true then
  (idx e b).bind λ f=>
  (Bu (!(((c.Rules.length:Nat):Int)==0))).bind λ _=>
  (idx c.Rules (Bd (IntKind.i64.wrap f) ((c.Rules.length:Nat):Int))).bind λ d=>
  if decide (An .i64 ((a.length:Nat):Int) ((d.Print.length:Nat):Int)<=12)=true then
   (cat a d.Print).bind λ g=>
   EZ n b g
  else
   EZ n b a
 else
  some (.inr a)
def HR (n:Nat) (b:Ad) (c:(List Int)):Option (List UInt8):=
 (whl (λ (x:((List UInt8)×Int))=>E0 n b c x.1 x.2) n ([],0)).bind λ a=>
 some a
def QR (_:Nat) :Option Ab:=
 some ({ Mode:=0,Last:=0,Need:=63 }:Ab)
def Jy (_:Nat) (b:Int) (a:Int):Option Bool:=
 (if ((decide (a>=0))&&(decide (a<8)))=true then Bu (decide (0<=a)) else some default).bind λ _=>
 some (((decide (a>=0))&&(decide (a<8)))&&((CW .u8 (Tt .u8 b a) 1)==1))
def IE (_:Nat) (a:Int):Option Int:=
 if ((decide (CW .u8 a 127>=97))&&(decide (CW .u8 a 127<=122)))=true then
  some 1
 else
  if ((decide (CW .u8 a 127>=65))&&(decide (CW .u8 a 127<=90)))=true then
   some 2
  else
   if ((decide (CW .u8 a 127>=48))&&(decide (CW .u8 a 127<=57)))=true then
    some 3
   else
    if ((CW .u8 a 127)==32)=true then
     some 4
    else
     some 5
def IS (n:Nat) (d:Ad) (b:Ab) (c:Int):Option (Ab×Bool):=
 if ((decide (c<0))||(decide (c>=((d.Rules.length:Nat):Int))))=true then
  some (({ Mode:=0,Last:=0,Need:=0 }:Ab),false)
 else
  (idx d.Rules c).bind λ a=>
  (if (!(a.From != b.Mode))=true then Jy n a.Left b.Last else some default).bind λ e=>
  if ((a.From != b.Mode)||(!e))=true then
   some (({ Mode:=0,Last:=0,Need:=0 }:Ab),false)
  else
   if ((((a.Print.length:Nat):Int)==0)&&((CW .u8 b.Need a.Right)==0))=true then
    some (({ Mode:=0,Last:=0,Need:=0 }:Ab),false)
   else
    if (((a.Print.length:Nat):Int)==0)=true then
     some (({ Mode:=a.To,Last:=b.Last,Need:=CW .u8 b.Need a.Right }:Ab),true)
    else
     (NW a.Print 0).bind λ i=>
     (IE n i).bind λ f=>
     (Jy n b.Need f).bind λ g=>
     if (!g)=true then
      some (({ Mode:=0,Last:=0,Need:=0 }:Ab),false)
     else
      (NW a.Print (DL .i64 ((a.Print.length:Nat):Int) 1)).bind λ j=>
      (IE n j).bind λ h=>
      some (({ Mode:=a.To,Last:=h,Need:=a.Right }:Ab),true)
def El (_:Nat) (d:(List Ab)) (c:Ab) (a:Int):Option (Int⊕(Unit⊕Int)):=
 if decide (a<((d.length:Nat):Int))=true then
  (idx d a).bind λ b=>
  if ((b.Mode==c.Mode)&&((b.Last==c.Last)&&((b.Need==c.Need)&&true)))=true then
   some (.inr (.inr a))
  else
   some (.inl (An .i64 a 1))
 else
  some (.inr (.inl ()))
def Gv (n:Nat) (c:(List Ab)) (d:Ab):Option Int:=
 (whl (λ (x:Int)=>El n c d x) n 0).bind λ a=>
 match a with
 | Sum.inl _=>
  some (-1)
 | Sum.inr b=>
  some b
def FG (_:Nat) (b:Int) (a:(List Ab)):Option (((List Ab)×Int)⊕(List Ab)):=
 some (.inl (a,(An .i64 b 1)))
def EB (n:Nat) (d:Ad) (e:Int) (a:(List Ab)) (c:Int):Option (((List Ab)×Int)⊕(List Ab)):=
 if decide (c<((d.Rules.length:Nat):Int))=true then
  (idx a e).bind λ f=>
  (IS n d f c).bind λ b=>
  (if b.2=true then Gv n a b.1 else some default).bind λ g=>
  if (b.2&&(decide (g<0)))=true then
   (app 24 a [b.1]).bind λ h=>
   FG n c h
  else
   FG n c a
 else
  some (.inr a)
def FH (n:Nat) (d:Ad) (a:(List Ab)) (b:Int):Option (((List Ab)×Int)⊕(List Ab)):=
 if decide (b<((a.length:Nat):Int))=true then
  (whl (λ (x:((List Ab)×Int))=>EB n d b x.1 x.2) n (a,0)).bind λ c=>
  some (.inl (c,(An .i64 b 1)))
 else
  some (.inr a)
def Ht (n:Nat) (c:Ad):Option (List Ab):=
 (QR n).bind λ a=>
 (whl (λ (x:((List Ab)×Int))=>FH n c x.1 x.2) n ([a],0)).bind λ b=>
 some b
def Jz (n:Nat) (b:Ad) (a:Ab):Option Bool:=
 (if ((decide (a.Mode>=0))&&(decide (a.Mode<b.Modes)))=true then Jy n b.Accept a.Mode else some default).bind λ c=>
 (if (((decide (a.Mode>=0))&&(decide (a.Mode<b.Modes)))&&c)=true then Jy n a.Need 0 else some default).bind λ d=>
 some ((((decide (a.Mode>=0))&&(decide (a.Mode<b.Modes)))&&c)&&d)
def IT (_:Nat) (c:(List UInt8)) (a:Int) (b:(List UInt8)):Option Bool:=
 (if decide (An .i64 a ((b.length:Nat):Int)<=((c.length:Nat):Int))=true then sub c a (An .i64 a ((b.length:Nat):Int)) else some default).bind λ d=>
 some ((decide (An .i64 a ((b.length:Nat):Int)<=((c.length:Nat):Int)))&&(d==b))
def Hu (n:Nat) (c:Ad) (b:FB) (d:Int) (l:(List (List Int))):Option Int:=
 (IS n c b.State d).bind λ a=>
 (if (!(!a.2))=true then idx c.Rules d else some default).bind λ f=>
 (if (!(!a.2))=true then IT n b.S b.I f.Print else some default).bind λ g=>
 if ((!a.2)||(!g))=true then
  some (-1)
 else
  (idx c.Rules d).bind λ h=>
  (idx l (An .i64 b.I ((h.Print.length:Nat):Int))).bind λ i=>
  (Gv n b.L a.1).bind λ j=>
  (idx i j).bind λ e=>
  if decide (e<0)=true then
   some (-1)
  else
   (idx c.Rules d).bind λ k=>
   some (An .i64 e ((k.Cells.length:Nat):Int))
def NK (_:Nat) (a:Int) (b:Int):Option Int:=
 if ((decide (a<0))||((decide (b>=0))&&(decide (b<a))))=true then
  some b
 else
  some a
def Er (_:Nat) (b:Int) (a:(List (List Int))):Option (((List (List Int))×Int)⊕(List (List Int))):=
 some (.inl (a,(An .i64 b 1)))
def Dz (n:Nat) (k:Ad) (g:(List UInt8)) (d:(List Ab)) (a:Int) (b:(List (List Int))) (c:Int):Option (((List (List Int))×Int)⊕(List (List Int))):=
 if decide (c<((d.length:Nat):Int))=true then
  (idx b a).bind λ e=>
  (idx e c).bind λ _=>
  (put e c (-1)).bind λ h=>
  (if (a==((g.length:Nat):Int))=true then idx d c else some default).bind λ i=>
  (if (a==((g.length:Nat):Int))=true then Jz n k i else some default).bind λ j=>
  if ((a==((g.length:Nat):Int))&&j)=true then
   (idx (List.set b a.toNat h) a).bind λ f=>
   (idx f c).bind λ _=>
   (put f c 0).bind λ l=>
   Er n c (List.set (List.set b a.toNat h) a.toNat l)
  else
   Er n c (List.set b a.toNat h)
 else
  some (.inr b)
def Es (_:Nat) (c:Int) (b:(List (List Int))) (a:Bool):Option (((List (List Int))×Bool×Int)⊕((List (List Int))×Bool)):=
 some (.inl (b,a,(An .i64 c 1)))
def DA (n:Nat) (i:Ad) (o:(List UInt8)) (g:(List Ab)) (b:Int) (e:Int) (a:(List (List Int))) (d:Bool) (f:Int):Option (((List (List Int))×Bool×Int)⊕((List (List Int))×Bool)):=
 if decide (f<((i.Rules.length:Nat):Int))=true then
  (idx g e).bind λ j=>
  (Hu n i ({ S:=o,I:=b,State:=j,L:=g }:FB) f a).bind λ c=>
  (if decide (c>=0)=true then idx a b else some default).bind λ _=>
  (if decide (c>=0)=true then idx (List.getD a b.toNat []) e else some default).bind λ k=>
  (if decide (c>=0)=true then NK n k c else some default).bind λ l=>
  (if decide (c>=0)=true then idx a b else some default).bind λ _=>
  (if decide (c>=0)=true then idx (List.getD a b.toNat []) e else some default).bind λ m=>
  if ((decide (c>=0))&&(l != m))=true then
   (idx (List.set a b.toNat (List.getD a b.toNat [])) b).bind λ h=>
   (idx h e).bind λ _=>
   (put h e c).bind λ p=>
   Es n f (List.set (List.set a b.toNat (List.getD a b.toNat [])) b.toNat p) true
  else
   Es n f (List.set a b.toNat (List.getD a b.toNat [])) d
 else
  some (.inr (a,d))
def DB (n:Nat) (g:Ad) (h:(List UInt8)) (c:(List Ab)) (f:Int) (b:(List (List Int))) (a:Bool) (e:Int):Option (((List (List Int))×Bool×Int)⊕((List (List Int))×Bool)):=
 if decide (e<((c.length:Nat):Int))=true then
  (whl (λ (x:((List (List Int))×Bool×Int))=>DA n g h c f e x.1 x.2.1 x.2.2) n (b,a,0)).bind λ d=>
  some (.inl (d.1,d.2,(An .i64 e 1)))
 else
  some (.inr (b,a))
def Et (n:Nat) (f:Ad) (g:(List UInt8)) (d:(List Ab)) (e:Int) (b:(List (List Int))) (a:Bool):Option (((List (List Int))×Bool)⊕(List (List Int))):=
 if a=true then
  (whl (λ (x:((List (List Int))×Bool×Int))=>DB n f g d e x.1 x.2.1 x.2.2) n (b,false,0)).bind λ c=>
  some (.inl (c.1,c.2))
 else
  some (.inr b)
def F4 (n:Nat) (d:Ad) (e:(List UInt8)) (c:(List Ab)) (b:(List (List Int))) (a:Int):Option (((List (List Int))×Int)⊕(List (List Int))):=
 if decide (a>=0)=true then
  (idx b a).bind λ _=>
  (mkl 8 ((c.length:Nat):Int) (0:Int)).bind λ h=>
  (whl (λ (x:((List (List Int))×Int))=>Dz n d e c a x.1 x.2) n ((List.set b a.toNat h),0)).bind λ f=>
  (whl (λ (x:((List (List Int))×Bool))=>Et n d e c a x.1 x.2) n (f,true)).bind λ g=>
  some (.inl (g,(DL .i64 a 1)))
 else
  some (.inr b)
def GO (n:Nat) (b:Ad) (a:(List UInt8)):Option (List (List Int)):=
 (Ht n b).bind λ c=>
 (mkl 24 (An .i64 ((a.length:Nat):Int) 1) ([]:(List Int))).bind λ e=>
 (whl (λ (x:((List (List Int))×Int))=>F4 n b a c x.1 x.2) n (e,((a.length:Nat):Int))).bind λ d=>
 some d
def HS (_:Nat) (b:Int) (a:Int):Option ((Int×Int)⊕Int):=
 some (.inl (a,(An .i64 b 1)))
def Gw (n:Nat) (b:(List (List Int))) (_:A5) (c:Int) (a:Int) (d:Int):Option ((Int×Int)⊕Int):=
 (idx b c).bind λ f=>
 if decide (d<((f.length:Nat):Int))=true then
  (idx b c).bind λ g=>
  (idx g d).bind λ e=>
  (if ((decide (e>=0))&&!(decide (a<0)))=true then idx b c else some default).bind λ h=>
  (if ((decide (e>=0))&&!(decide (a<0)))=true then idx h d else some default).bind λ i=>
  if ((decide (e>=0))&&((decide (a<0))||(decide (i<a))))=true then
   (idx b c).bind λ j=>
   (idx j d).bind λ k=>
   HS n d k
  else
   HS n d a
 else
  some (.inr a)
def HT (_:Nat) (b:Int) (a:(List Int)):Option (((List Int)×Int)⊕(List Int)):=
 some (.inl (a,(An .i64 b 1)))
def Gx (n:Nat) (b:(List (List Int))) (_:A5) (c:Int) (e:Int) (a:(List Int)) (d:Int):Option (((List Int)×Int)⊕(List Int)):=
 (idx b c).bind λ f=>
 if decide (d<((f.length:Nat):Int))=true then
  (idx b c).bind λ g=>
  (idx g d).bind λ h=>
  if decide (h<0)=true then
   (app 8 a [(-1)]).bind λ k=>
   HT n d k
  else
   (idx b c).bind λ i=>
   (idx i d).bind λ j=>
   (app 8 a [DL .i64 j e]).bind λ l=>
   HT n d l
 else
  some (.inr a)
def HU (n:Nat) (c:(List (List Int))) (a:A5) (b:Int):Option ((A5×Int)⊕A5):=
 if decide (b<((c.length:Nat):Int))=true then
  (whl (λ (x:(Int×Int))=>Gw n c a b x.1 x.2) n ((-1),0)).bind λ d=>
  (whl (λ (x:((List Int)×Int))=>Gx n c a b d x.1 x.2) n (([]:List Int),0)).bind λ e=>
  (app 24 a.Costs [e]).bind λ f=>
  (app 8 a.Least [d]).bind λ g=>
  some (.inl (({ Text:=a.Text,Costs:=f,Least:=g }:A5),(An .i64 b 1)))
 else
  some (.inr a)
def PL (n:Nat) (d:Ad) (a:(List UInt8)):Option A5:=
 (GO n d a).bind λ b=>
 (whl (λ (x:(A5×Int))=>HU n b x.1 x.2) n (({ Text:=a,Costs:=([]:List (List Int)),Least:=([]:List Int) }:A5),0)).bind λ c=>
 some c
def JA (_:Nat) (a:C5):Option C5:=
 some a
def PM (n:Nat) (d:Ad) (a:(List UInt8)) (b:BB):Option C5:=
 (Bu (!((An .i64 ((a.length:Nat):Int) 1)==0))).bind λ _=>
 (sub b.L 0 (if 3<((b.L.length:Nat):Int) then 3 else ((b.L.length:Nat):Int))).bind λ e=>
 (Bu (!((An .i64 (if 5<DL .i64 ((a.length:Nat):Int) (Bd (IntKind.i64.wrap b.At) (An .i64 ((a.length:Nat):Int) 1)) then 5 else DL .i64 ((a.length:Nat):Int) (Bd (IntKind.i64.wrap b.At) (An .i64 ((a.length:Nat):Int) 1))) 1)==0))).bind λ _=>
 (HR n d e).bind λ c=>
 if decide (An .i64 ((a.length:Nat):Int) ((c.length:Nat):Int)>40)=true then
  JA n ({ At:=Bd (IntKind.i64.wrap b.At) (An .i64 ((a.length:Nat):Int) 1),Cut:=Bd (IntKind.i64.wrap b.Cut) (An .i64 (if 5<DL .i64 ((a.length:Nat):Int) (Bd (IntKind.i64.wrap b.At) (An .i64 ((a.length:Nat):Int) 1)) then 5 else DL .i64 ((a.length:Nat):Int) (Bd (IntKind.i64.wrap b.At) (An .i64 ((a.length:Nat):Int) 1))) 1),Put:=[] }:C5)
 else
  JA n ({ At:=Bd (IntKind.i64.wrap b.At) (An .i64 ((a.length:Nat):Int) 1),Cut:=Bd (IntKind.i64.wrap b.Cut) (An .i64 (if 5<DL .i64 ((a.length:Nat):Int) (Bd (IntKind.i64.wrap b.At) (An .i64 ((a.length:Nat):Int) 1)) then 5 else DL .i64 ((a.length:Nat):Int) (Bd (IntKind.i64.wrap b.At) (An .i64 ((a.length:Nat):Int) 1))) 1),Put:=c }:C5)
def JB (_:Nat) (b:(List UInt8)) (a:C5):Option (List UInt8):=
 (sub b 0 a.At).bind λ c=>
 (cat c a.Put).bind λ d=>
 (sub b (An .i64 a.At a.Cut) ((b.length:Nat):Int)).bind λ e=>
 (cat d e).bind λ f=>
 some f
def HV (n:Nat) (b:A5) (f:A5) (a:Int):Option (Int⊕(Unit⊕Bool)):=
 if decide (a<((b.Costs.length:Nat):Int))=true then
  (idx b.Costs a).bind λ c=>
  (idx f.Costs a).bind λ d=>
  (EY n c d).bind λ e=>
  if (!e)=true then
   some (.inr (.inr false))
  else
   some (.inl (An .i64 a 1))
 else
  some (.inr (.inl ()))
def M6 (n:Nat) (a:A5) (b:A5):Option Bool:=
 (if (!((!(a.Text==b.Text))||(((a.Costs.length:Nat):Int) != ((b.Costs.length:Nat):Int))))=true then EY n a.Least b.Least else some default).bind λ c=>
 if (((!(a.Text==b.Text))||(((a.Costs.length:Nat):Int) != ((b.Costs.length:Nat):Int)))||(!c))=true then
  some false
 else
  (whl (λ (x:Int)=>HV n a b x) n 0).bind λ d=>
  match d with
  | Sum.inl _=>
   some true
  | Sum.inr e=>
   some e
def E1 (_:Nat) (_:Ad) (d:(List UInt8)) (c:(List Ab)) (b:(List (List Bool))) (a:Int):Option (((List (List Bool))×Int)⊕(List (List Bool))):=
 if decide (a<=((d.length:Nat):Int))=true then
  (idx b a).bind λ _=>
  (mkl 1 ((c.length:Nat):Int) (false:Bool)).bind λ e=>
  some (.inl ((List.set b a.toNat e),(An .i64 a 1)))
 else
  some (.inr b)
def E2 (_:Nat) (c:Int) (b:(List (List Bool))) (a:Bool):Option (((List (List Bool))×Bool×Int)⊕((List (List Bool))×Bool)):=
 some (.inl (b,a,(An .i64 c 1)))
def D1 (n:Nat) (h:Ad) (s:(List UInt8)) (i:(List Ab)) (_:Int) (a:Int) (l:Int) (b:(List (List Bool))) (d:Bool) (f:Int):Option (((List (List Bool))×Bool×Int)⊕((List (List Bool))×Bool)):=
 (if decide (f<((h.Rules.length:Nat):Int))=true then idx b a else some default).bind λ _=>
 (if decide (f<((h.Rules.length:Nat):Int))=true then idx (List.getD b a.toNat []) l else some default).bind λ m=>
 if ((decide (f<((h.Rules.length:Nat):Int)))&&m)=true then
  (idx i l).bind λ o=>
  (IS n h o f).bind λ e=>
  (idx h.Rules f).bind λ c=>
  (if e.2=true then idx h.Rules f else some default).bind λ p=>
  (if e.2=true then IT n s a p.Print else some default).bind λ g=>
  (if (e.2&&g)=true then idx (List.set b a.toNat (List.getD b a.toNat [])) (An .i64 a ((c.Print.length:Nat):Int)) else some default).bind λ _=>
  (if (e.2&&g)=true then Gv n i e.1 else some default).bind λ q=>
  (if (e.2&&g)=true then idx (List.getD (List.set b a.toNat (List.getD b a.toNat [])) (Int.toNat (An .i64 a ((c.Print.length:Nat):Int))) []) q else some default).bind λ r=>
  if ((e.2&&g)&&(!r))=true then
   (idx (List.set (List.set b a.toNat (List.getD b a.toNat [])) (Int.toNat (An .i64 a ((c.Print.length:Nat):Int))) (List.getD (List.set b a.toNat (List.getD b a.toNat [])) (Int.toNat (An .i64 a ((c.Print.length:Nat):Int))) [])) (An .i64 a ((c.Print.length:Nat):Int))).bind λ j=>
   (Gv n i e.1).bind λ k=>
   (idx j k).bind λ _=>
   (put j k true).bind λ t=>
   E2 n f (List.set (List.set (List.set b a.toNat (List.getD b a.toNat [])) (Int.toNat (An .i64 a ((c.Print.length:Nat):Int))) (List.getD (List.set b a.toNat (List.getD b a.toNat [])) (Int.toNat (An .i64 a ((c.Print.length:Nat):Int))) [])) (Int.toNat (An .i64 a ((c.Print.length:Nat):Int))) t) true
  else
   E2 n f (List.set (List.set b a.toNat (List.getD b a.toNat [])) (Int.toNat (An .i64 a ((c.Print.length:Nat):Int))) (List.getD (List.set b a.toNat (List.getD b a.toNat [])) (Int.toNat (An .i64 a ((c.Print.length:Nat):Int))) [])) d
 else
  some (.inr ((List.set b a.toNat (List.getD b a.toNat [])),d))
end Go.AI
end
section
namespace Go.AI
def D2 (n:Nat) (h:Ad) (i:(List UInt8)) (c:(List Ab)) (b:Int) (g:Int) (d:(List (List Bool))) (a:Bool) (f:Int):Option (((List (List Bool))×Bool×Int)⊕((List (List Bool))×Bool)):=
 if decide (f<((c.length:Nat):Int))=true then
  (whl (λ (x:((List (List Bool))×Bool×Int))=>D1 n h i c b g f x.1 x.2.1 x.2.2) n (d,a,0)).bind λ e=>
  some (.inl (e.1,e.2,(An .i64 f 1)))
 else
  some (.inr (d,a))
def E3 (n:Nat) (g:Ad) (h:(List UInt8)) (e:(List Ab)) (b:Int) (f:Int) (c:(List (List Bool))) (a:Bool):Option (((List (List Bool))×Bool)⊕(List (List Bool))):=
 if a=true then
  (whl (λ (x:((List (List Bool))×Bool×Int))=>D2 n g h e b f x.1 x.2.1 x.2.2) n (c,false,0)).bind λ d=>
  some (.inl (d.1,d.2))
 else
  some (.inr c)
def E4 (_:Nat) (c:Int) (b:(List (List Bool))) (a:Int):Option (((List (List Bool))×Int×Int)⊕((List (List Bool))×Int)):=
 some (.inl (b,a,(An .i64 c 1)))
def D3 (n:Nat) (_:Ad) (_:(List UInt8)) (h:(List Ab)) (c:Int) (e:Int) (a:(List (List Bool))) (d:Int) (b:Int):Option (((List (List Bool))×Int×Int)⊕((List (List Bool))×Int)):=
 if decide (b<((h.length:Nat):Int))=true then
  (idx a c).bind λ f=>
  (idx f b).bind λ g=>
  (if g=true then idx h b else some default).bind λ i=>
  (if g=true then Jy n i.Need e else some default).bind λ j=>
  if (g&&j)=true then
   E4 n b (List.set a c.toNat f) c
  else
   E4 n b (List.set a c.toNat f) d
 else
  some (.inr (a,d))
def E5 (n:Nat) (g:Ad) (h:(List UInt8)) (e:(List Ab)) (b:Int) (c:Int) (f:(List (List Bool))) (a:Int):Option (((List (List Bool))×Int×Int)⊕Int):=
 (whl (λ (x:((List (List Bool))×Int×Int))=>D3 n g h e c a x.1 x.2.1 x.2.2) n (f,b,0)).bind λ d=>
 some (.inl (d.1,d.2,(An .i64 c 1)))
def E6 (n:Nat) (f:Ad) (c:(List UInt8)) (d:(List Ab)) (g:(List (List Bool))) (a:Int) (b:Int):Option (((List (List Bool))×Int×Int)⊕Int):=
 if decide (b<=((c.length:Nat):Int))=true then
  (whl (λ (x:((List (List Bool))×Bool))=>E3 n f c d a b x.1 x.2) n (g,true)).bind λ e=>
  if decide (b<((c.length:Nat):Int))=true then
   (NW c b).bind λ i=>
   (IE n i).bind λ h=>
   E5 n f c d a b e h
  else
   E5 n f c d a b e 0
 else
  some (.inr a)
def JC (n:Nat) (d:Ad) (e:(List UInt8)):Option Int:=
 (Ht n d).bind λ a=>
 (mkl 24 (An .i64 ((e.length:Nat):Int) 1) ([]:(List Bool))).bind λ g=>
 (whl (λ (x:((List (List Bool))×Int))=>E1 n d e a x.1 x.2) n (g,0)).bind λ b=>
 (idx b 0).bind λ c=>
 (idx c 0).bind λ _=>
 (put c 0 true).bind λ h=>
 (whl (λ (x:((List (List Bool))×Int×Int))=>E6 n d e a x.1 x.2.1 x.2.2) n ((List.set b (Int.toNat 0) h),0,0)).bind λ f=>
 some f
def Fn (n:Nat) (e:Ad) (b:(List (List Int))) (_:(List Ab)) (_:CL) (f:FB) (c:Int) (a:Int):Option (Int⊕Int):=
 (Hu n e f a b).bind λ d=>
 if (d != c)=true then
  some (.inl (An .i64 a 1))
 else
  some (.inr a)
def Ip (n:Nat) (f:Ad) (d:(List (List Int))) (e:(List Ab)) (a:CL) (b:FB):Option ((CL×FB)⊕CL):=
 (idx d b.I).bind λ g=>
 (Gv n e b.State).bind λ h=>
 (idx g h).bind λ i=>
 if decide (i>0)=true then
  (idx d b.I).bind λ j=>
  (Gv n e b.State).bind λ k=>
  (idx j k).bind λ l=>
  (whl (λ (x:Int)=>Fn n f d e a b l x) n 0).bind λ c=>
  (app 8 a.W.Path [c]).bind λ q=>
  (idx f.Rules c).bind λ m=>
  (app 1 a.W.Cells m.Cells).bind λ r=>
  (IS n f b.State c).bind λ o=>
  (idx f.Rules c).bind λ p=>
  some (.inl (({ W:=({ Cells:=r,Path:=q }:AJ),At:=a.At,E:=a.E }:CL),({ S:=b.S,I:=An .i64 b.I ((p.Print.length:Nat):Int),State:=o.1,L:=b.L }:FB)))
 else
  some (.inr a)
def NL (n:Nat) (c:Ad) (a:(List UInt8)):Option CL:=
 (M5 n a).bind λ b=>
 if (b.2 != 0)=true then
  some ({ W:=({ Cells:=[],Path:=[] }:AJ),At:=b.1,E:=b.2 }:CL)
 else
  (GO n c a).bind λ d=>
  (idx d 0).bind λ f=>
  (idx f 0).bind λ g=>
  if decide (g<0)=true then
   (JC n c a).bind λ h=>
   some ({ W:=({ Cells:=[],Path:=[] }:AJ),At:=h,E:=61 }:CL)
  else
   (Ht n c).bind λ e=>
   (QR n).bind λ i=>
   (whl (λ (x:(CL×FB))=>Ip n c d e x.1 x.2) n (({ W:=({ Cells:=([]:List Int),Path:=([]:List Int) }:AJ),At:=((a.length:Nat):Int),E:=0 }:CL),({ S:=a,I:=0,State:=i,L:=e }:FB))).bind λ j=>
   some j
def DH (n:Nat) (g:(List BB)) (_:Bool) (c:Ad) (h:A5) (f:(List UInt8)) (b:Int):Option ((A5×(List UInt8)×Int)⊕((A5×(List UInt8))⊕Bool)):=
 if ((decide (b<((g.length:Nat):Int)))&&(decide (b<5)))=true then
  (idx g b).bind λ i=>
  (PM n c f i).bind λ d=>
  (JB n f d).bind λ e=>
  (Eh n c h d).bind λ a=>
  (if (!(a.2.2 != 0))=true then PL n c e else some default).bind λ j=>
  (if (!(a.2.2 != 0))=true then M6 n a.1 j else some default).bind λ k=>
  if ((a.2.2 != 0)||(!k))=true then
   some (.inr (.inr false))
  else
   some (.inl (a.1,e,(An .i64 b 1)))
 else
  some (.inr (.inl (h,f)))
def EO (n:Nat) (k:NY) (l:(List Int)) (m:(List BB)):Option Bool:=
 (IR n).bind λ c=>
 (KB n k).bind λ b=>
 (HR n b l).bind λ e=>
 (Fh n b e).bind λ f=>
 if (f.2 != 0)=true then
  some false
 else
  (whl (λ (x:(A5×(List UInt8)×Int))=>DH n m c b x.1 x.2.1 x.2.2) n (f.1,e,0)).bind λ h=>
  match h with
  | Sum.inl g=>
   (EX n b g.1).bind λ a=>
   (NL n b g.2).bind λ d=>
   (if ((c&&((a.2==0)==(d.E==0)))&&((a.2==0)||(a.2==61)))=true then IQ n a.1 d.W else some default).bind λ i=>
   some (((c&&((a.2==0)==(d.E==0)))&&((a.2==0)||(a.2==61)))&&i)
  | Sum.inr j=>
   some j
end Go.AI
end
