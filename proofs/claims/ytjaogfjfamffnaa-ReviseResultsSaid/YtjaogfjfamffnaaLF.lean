/- Part 6 of 7 of the proof: lemmas about the model and the program's functions, with no condition beyond those that each states. -/
import Derived.Test.YtjaogfjfamffnaaLE
import Derived.KernelRfl
section
namespace Go.AI
theorem lr {α:Type} {x:Option α}:Le x x:=Le.refl x
theorem Qm {n m} (_:n<=m) (a b):Le (GY n a b) (GY m a b):=.ite (.bind lr λ _=>.bind lr λ _=>.bind lr λ _=>lr) lr
theorem TV {n m} (h:n<=m):Le (KK n) (KK m):=.bind (Le.whl (λ _=>Qm h _ _) h _) λ _=>lr
theorem Oc {n m} (_:n<=m) (a):Le (DF n a) (DF m a):=lr
theorem Th {n m} (h:n<=m) (a b):Le (FE n a b) (FE m a b):=.ite (.bind lr λ _=>.bind (Oc h _) λ _=>.ite lr lr) lr
theorem Jg {n m} (h:n<=m) (a):Le (FY n a) (FY m a):=.bind (Le.whl (λ _=>Th h _ _) h _) λ y2=>by rcases y2 with _|_;exact lr;exact lr
theorem VC {n m} (_:n<=m):Le (JV n) (JV m):=lr
theorem K4 {n m} (_:n<=m) (a b):Le (HF n a b) (HF m a b):=.bind (Le.ite (lr) (lr)) λ _=>lr
theorem HM {n m} (_:n<=m) (a):Le (Er n a) (Er m a):=.ite lr (.ite lr (.ite lr (.ite lr lr)))
theorem MM {n m} (h:n<=m) (a b c):Le (Hc n a b c) (Hc m a b c):=.ite lr (.bind lr λ _=>.bind (Le.ite (K4 h _ _) (lr)) λ _=>.ite lr (.ite (.ite lr lr) (.bind lr λ _=>.bind (HM h _) λ _=>.bind (K4 h _ _) λ _=>.ite lr (.bind lr λ _=>.bind (HM h _) λ _=>lr))))
theorem Jh {n m} (_:n<=m) (a b c d):Le (Cu n a b c d) (Cu m a b c d):=lr
theorem Ji {n m} (h:n<=m) (a b c d e f):Le (CW n a b c d e f) (CW m a b c d e f):=.bind lr λ _=>.bind lr λ _=>Jh h _ _ _ _
theorem Pn {n m} (h:n<=m) (a b c d e f):Le (Bw n a b c d e f) (Bw m a b c d e f):=.ite (.bind lr λ _=>.bind (MM h _ _ _) λ _=>.ite (Jh h _ _ _ _) (.ite (.bind lr λ _=>.bind lr λ _=>Ji h _ _ _ _ _ _) (Ji h _ _ _ _ _ _))) lr
theorem Po {n m} (h:n<=m) (a b c d e):Le (Cv n a b c d e) (Cv m a b c d e):=.ite (.bind (Le.whl (λ _=>Pn h _ _ _ _ _ _) h _) λ _=>lr) lr
theorem Ti {n m} (h:n<=m) (a):Le (FF n a) (FF m a):=.bind (VC h) λ _=>.bind (Le.whl (λ _=>Po h _ _ _ _ _) h _) λ _=>lr
theorem NM {n m} (h:n<=m) (a):Le (GK n a) (GK m a):=.bind (Ti h _) λ _=>lr
theorem MN {n m} (h:n<=m) (a b):Le (Ec n a b) (Ec m a b):=.bind (Le.ite (K4 h _ _) (lr)) λ _=>.bind (Le.ite (K4 h _ _) (lr)) λ _=>lr
theorem Qn {n m} (_:n<=m) (a b):Le (ET n a b) (ET m a b):=.bind (Le.ite (lr) (lr)) λ _=>lr
theorem Ke {n m} (h:n<=m) (a b):Le (DQ n a b) (DQ m a b):=.bind (Qn h _ _) λ _=>lr
theorem Od {n m} (_:n<=m) (a b c d):Le (Fk n a b c d) (Fk m a b c d):=.ite (.bind lr λ _=>lr) lr
theorem Ij {n m} (_:n<=m) (a b):Le (DG n a b) (DG m a b):=lr
theorem Oe {n m} (h:n<=m) (a b c d e f g):Le (Fl n a b c d e f g) (Fl m a b c d e f g):=.ite (.bind lr λ _=>.bind (MM h _ _ _) λ _=>.ite (.bind lr λ _=>.bind lr λ _=>Ij h _ _) (Ij h _ _)) lr
theorem Of {n m} (h:n<=m) (a b c d e):Le (Fm n a b c d e) (Fm m a b c d e):=.ite (.bind lr λ _=>.bind (MN h _ _) λ _=>.bind lr λ _=>.bind lr λ _=>.bind (Le.whl (λ _=>Oe h _ _ _ _ _ _ _) h _) λ _=>lr) lr
theorem LM {n m} (h:n<=m) (a):Le (FZ n a) (FZ m a):=.bind (NM h _) λ _=>.bind (Le.whl (λ _=>Od h _ _ _ _) h _) λ _=>.bind lr λ _=>.bind lr λ _=>.bind (Le.whl (λ _=>Of h _ _ _ _ _) h _) λ _=>lr
theorem K5 {n m} (_:n<=m) (a b c d e f):Le (Dh n a b c d e f) (Dh m a b c d e f):=.ite (.bind lr λ _=>.bind lr λ _=>.bind lr λ _=>lr) lr
theorem HC {n m} (h:n<=m) (a b):Le (Dk n a b) (Dk m a b):=.bind lr λ _=>.bind lr λ _=>.bind lr λ _=>.bind (Le.whl (λ _=>K5 h _ _ _ _ _ _) h _) λ _=>lr
theorem Hn {n m} (_:n<=m) (a b c d e):Le (Dc n a b c d e) (Dc m a b c d e):=lr
theorem Tj {n m} (_:n<=m) (a b c d e f):Le (IV n a b c d e f) (IV m a b c d e f):=.bind lr λ _=>.bind lr λ _=>.ite lr (.bind lr λ _=>.bind lr λ _=>.bind lr λ _=>lr)
theorem Fd {n m} (_:n<=m) (a b c d e):Le (Ck n a b c d e) (Ck m a b c d e):=.bind (Le.ite (lr) (lr)) λ _=>.bind (Le.ite (lr) (lr)) λ _=>.ite lr (.bind lr λ _=>.bind lr λ _=>lr)
theorem Kf {n m} (_:n<=m) (a b):Le (EU n a b) (EU m a b):=lr
theorem Qo {n m} (h:n<=m) (a b c d):Le (GZ n a b c d) (GZ m a b c d):=.ite (.bind lr λ _=>.ite (Kf h _ _) (Kf h _ _)) lr
theorem Kg {n m} (_:n<=m) (a b):Le (EV n a b) (EV m a b):=lr
theorem Qp {n m} (h:n<=m) (a b c d):Le (G0 n a b c d) (G0 m a b c d):=.ite (.bind lr λ _=>.ite (.bind lr λ _=>.bind lr λ _=>Kg h _ _) (Kg h _ _)) lr
theorem TW {n m} (h:n<=m) (a b):Le (KL n a b) (KL m a b):=.bind (Le.whl (λ _=>Qo h _ _ _ _) h _) λ _=>.bind (Le.whl (λ _=>Qp h _ _ _ _) h _) λ _=>lr
theorem EG {n m} (_:n<=m) (a b):Le (B6 n a b) (B6 m a b):=lr
theorem IB {n m} (h:n<=m) (a b c d e f g i):Le (CG n a b c d e f g i) (CG m a b c d e f g i):=.ite (.bind lr λ _=>.bind lr λ _=>.bind (Le.ite (lr) (lr)) λ _=>.ite (.bind lr λ _=>.bind lr λ _=>EG h _ _) (EG h _ _)) lr
theorem EH {n m} (_:n<=m) (a b):Le (B7 n a b) (B7 m a b):=lr
theorem IC {n m} (h:n<=m) (a b c d e f g i j k):Le (CH n a b c d e f g i j k) (CH m a b c d e f g i j k):=.ite (.bind lr λ _=>.bind (Le.ite (lr) (lr)) λ _=>.bind (Le.ite (Ke h _ _) (lr)) λ _=>.ite (.bind (Tj h _ _ _ _ _ _) λ _=>.bind (Fd h _ _ _ _ _) λ _=>EH h _ _) (EH h _ _)) lr
theorem ID {n m} (h:n<=m) (a b c d e f g i):Le (CI n a b c d e f g i) (CI m a b c d e f g i):=.ite (.bind lr λ _=>.bind (Le.whl (λ _=>IC h _ _ _ _ _ _ _ _ _ _) h _) λ _=>lr) lr
theorem Ci {n m} (_:n<=m) (a b c):Le (Bg n a b c) (Bg m a b c):=lr
theorem IE {n m} (h:n<=m) (a b c d e f g i j k):Le (CJ n a b c d e f g i j k) (CJ m a b c d e f g i j k):=.ite (.bind lr λ _=>.bind (Le.ite (lr) (lr)) λ _=>.ite (.bind (Fd h _ _ _ _ _) λ _=>.ite (Ci h _ _ _) (Ci h _ _ _)) (.ite (Ci h _ _ _) (Ci h _ _ _))) lr
theorem IF {n m} (h:n<=m) (a b c d e f g i):Le (CK n a b c d e f g i) (CK m a b c d e f g i):=.ite (.bind lr λ _=>.bind (Le.whl (λ _=>IE h _ _ _ _ _ _ _ _ _ _) h _) λ _=>lr) lr
theorem IG {n m} (h:n<=m) (a b c d e f g):Le (CL n a b c d e f g) (CL m a b c d e f g):=.ite (.bind (Le.whl (λ _=>IF h _ _ _ _ _ _ _ _) h _) λ _=>lr) lr
theorem Ga {n m} (h:n<=m) (a b c d e f):Le (CE n a b c d e f) (CE m a b c d e f):=.bind lr λ _=>.bind (Le.whl (λ _=>IB h _ _ _ _ _ _ _ _) h _) λ _=>.bind (Le.whl (λ _=>ID h _ _ _ _ _ _ _ _) h _) λ _=>.bind (Le.whl (λ _=>IG h _ _ _ _ _ _ _) h _) λ _=>.bind (TW h _ _) λ _=>lr
theorem Ro {n m} (h:n<=m) (a b c d e f):Le (HG n a b c d e f) (HG m a b c d e f):=.ite (.bind (Ga h _ _ _ _ _ _) λ _=>.bind lr λ _=>.bind lr λ _=>lr) lr
theorem K6 {n m} (h:n<=m) (a b):Le (HQ n a b) (HQ m a b):=.bind (Jg h _) λ _=>.ite lr (.bind (LM h _) λ _=>.bind (HC h _ _) λ _=>.bind (Hn h _ _ _ _ _) λ _=>.bind (Le.whl (λ _=>Ro h _ _ _ _ _ _) h _) λ _=>.bind lr λ _=>lr)
theorem MO {n m} (_:n<=m) (a b c):Le (D4 n a b c) (D4 m a b c):=.ite (.bind lr λ _=>.ite lr lr) lr
theorem Pp {n m} (h:n<=m) (a b):Le (F3 n a b) (F3 m a b):=.ite lr (.bind (Le.whl (λ _=>MO h _ _ _) h _) λ y30=>by rcases y30 with _|_;exact lr;exact lr)
theorem JG {n m} (_:n<=m) (a b c d):Le (C0 n a b c d) (C0 m a b c d):=.ite (.bind lr λ _=>.bind lr λ _=>.ite lr lr) lr
theorem L4 {n m} (h:n<=m) (a b c):Le (Dy n a b c) (Dy m a b c):=.ite lr (.bind (Le.whl (λ _=>JG h _ _ _ _) h _) λ y33=>by rcases y33 with _|_;exact lr;exact lr)
theorem Ik {n m} (_:n<=m) (a b c):Le (DH n a b c) (DH m a b c):=lr
theorem Og {n m} (h:n<=m) (a b c d e f g i j):Le (Fn n a b c d e f g i j) (Fn m a b c d e f g i j):=.ite (.bind lr λ _=>.bind lr λ _=>.bind (L4 h _ _ _) λ _=>.ite lr (.bind lr λ _=>.bind (Le.ite (lr) (lr)) λ _=>.ite (Ik h _ _ _) (.bind lr λ _=>.bind lr λ _=>.ite lr (Ik h _ _ _)))) lr
theorem Rp {n m} (h:n<=m) (a b c d e f):Le (HH n a b c d e f) (HH m a b c d e f):=.bind (Le.whl (λ _=>Og h _ _ _ _ _ _ _ _ _) h _) λ y36=>by rcases y36 with _|_;exact lr;exact lr
theorem Qq {n m} (_:n<=m) (a b c d e f g i):Le (G1 n a b c d e f g i) (G1 m a b c d e f g i):=.ite (.bind lr λ _=>.bind lr λ _=>.bind lr λ _=>.bind lr λ _=>.bind lr λ _=>.bind lr λ _=>lr) lr
theorem Kh {n m} (_:n<=m) (a b c d):Le (EW n a b c d) (EW m a b c d):=lr
theorem Qr {n m} (h:n<=m) (a b c d e f g i j):Le (G2 n a b c d e f g i j) (G2 m a b c d e f g i j):=.ite (.bind (Ga h _ _ _ _ _ _) λ _=>.bind lr λ _=>.bind lr λ _=>.ite (Kh h _ _ _ _) (.bind (Rp h _ _ _ _ _ _) λ _=>.ite lr (Kh h _ _ _ _))) lr
theorem Ki {n m} (_:n<=m) (a b c):Le (EX n a b c) (EX m a b c):=lr
theorem Qs {n m} (h:n<=m) (a b c d e f g):Le (G3 n a b c d e f g) (G3 m a b c d e f g):=.ite (.bind lr λ _=>.bind lr λ _=>.bind lr λ _=>.bind lr λ _=>.bind lr λ _=>.bind lr λ _=>.bind lr λ _=>.ite (.bind lr λ _=>.bind lr λ _=>.bind lr λ _=>Ki h _ _ _) (Ki h _ _ _)) lr
theorem JH {n m} (h:n<=m) (a b c):Le (GL n a b c) (GL m a b c):=.ite lr (.bind lr λ _=>.bind lr λ _=>.bind lr λ _=>.bind lr λ _=>.bind (Jg h _) λ _=>.ite lr (.bind (LM h _) λ _=>.bind (Pp h _ _) λ _=>.ite lr (.bind (HC h _ _) λ _=>.bind (Le.whl (λ _=>Qq h _ _ _ _ _ _ _ _) h _) λ _=>.bind (Hn h _ _ _ _ _) λ _=>.bind (Le.whl (λ _=>Qr h _ _ _ _ _ _ _ _ _) h _) λ _=>.bind (Le.whl (λ _=>Qs h _ _ _ _ _ _ _) h _) λ _=>.bind lr λ _=>lr)))
theorem Oh {n m} (h:n<=m) (a b):Le (C4 n a b) (C4 m a b):=.ite (.bind lr λ _=>.bind (HM h _) λ _=>.ite lr lr) lr
theorem Rq {n m} (h:n<=m) (a):Le (Es n a) (Es m a):=.bind (Le.whl (λ _=>Oh h _ _) h _) λ y42=>by rcases y42 with _|_;exact lr;exact lr
theorem VD {n m} (_:n<=m) (a):Le (JW n a) (JW m a):=lr
theorem Rr {n m} (h:n<=m) (a b):Le (Et n a b) (Et m a b):=.ite (.bind lr λ _=>.bind (VD h _) λ _=>.ite lr lr) lr
theorem VE {n m} (h:n<=m) (a b):Le (HR n a b) (HR m a b):=.ite lr (.bind (Jg h _) λ _=>.ite lr (.ite lr (.ite lr (.bind (Rq h _) λ _=>.ite (.bind (Le.ite (lr) (lr)) λ _=>lr) (.bind (Le.whl (λ _=>Rr h _ _) h _) λ y45=>by rcases y45 with _|_;exact lr;exact lr)))))
theorem Rs {n m} (_:n<=m) (a b c):Le (Eu n a b c) (Eu m a b c):=.ite (.bind lr λ _=>.bind lr λ _=>.ite lr lr) lr
theorem VF {n m} (h:n<=m) (a b):Le (HS n a b) (HS m a b):=.ite lr (.bind (Le.whl (λ _=>Rs h _ _ _) h _) λ y48=>by rcases y48 with _|_;exact lr;exact lr)
theorem VG {n m} (h:n<=m) (a b):Le (HT n a b) (HT m a b):=.bind (Le.ite (VF h _ _) (lr)) λ _=>lr
theorem Rt {n m} (h:n<=m) (a b c d e):Le (Dz n a b c d e) (Dz m a b c d e):=.ite (.bind lr λ _=>.bind (VG h _ _) λ _=>.ite lr lr) lr
theorem Ru {n m} (h:n<=m) (a b):Le (DA n a b) (DA m a b):=.ite (.bind lr λ _=>.bind (VE h _ _) λ _=>.ite lr (.bind lr λ _=>.bind (Le.whl (λ _=>Rt h _ _ _ _ _) h _) λ y51=>by rcases y51 with _|_;exact lr;exact lr)) lr
theorem VH {n m} (h:n<=m) (a):Le (HU n a) (HU m a):=.ite lr (.bind (Le.ite (lr) (lr)) λ _=>.ite lr (.ite lr (.bind (Le.whl (λ _=>Ru h _ _) h _) λ y54=>by rcases y54 with _|_;exact lr;exact lr)))
theorem VI {n m} (h:n<=m) (a):Le (GM n a) (GM m a):=.bind (VH h _) λ _=>lr
theorem Jj {n m} (_:n<=m) (a):Le (Dl n a) (Dl m a):=lr
theorem Qt {n m} (h:n<=m) (a b):Le (DR n a b) (DR m a b):=.bind (Jj h _) λ _=>.bind (Le.ite (Jj h _) (lr)) λ _=>lr
theorem Kj {n m} (_:n<=m) (a):Le (EY n a) (EY m a):=lr
theorem GS {n m} (h:n<=m) (a b c d):Le (A8 n a b c d) (A8 m a b c d):=.ite (.bind lr λ _=>.bind (Qt h _ _) λ _=>.ite lr lr) lr
theorem HN {n m} (h:n<=m) (a b):Le (Bj n a b) (Bj m a b):=.bind (Le.whl (λ _=>GS h _ _ _ _) h _) λ _=>.bind (Le.ite (lr) (lr)) λ _=>.bind (Le.ite (lr) (lr)) λ _=>.bind (Le.ite (Kj h _) (lr)) λ _=>.bind (Le.ite (Kj h _) (lr)) λ _=>lr
theorem Fw {n m} (h:n<=m) (a b):Le (By n a b) (By m a b):=.bind (HN h _ _) λ _=>.ite lr (.bind lr λ _=>lr)
theorem Nn {n m} (_:n<=m) (a b c d e f):Le (BX n a b c d e f) (BX m a b c d e f):=.ite (.bind lr λ _=>lr) lr
theorem HD {n m} (_:n<=m) (a b):Le (Cl n a b) (Cl m a b):=lr
theorem No {n m} (h:n<=m) (a b c d e f g):Le (BY n a b c d e f g) (BY m a b c d e f g):=.ite (.bind (MM h _ _ _) λ _=>.ite (.bind lr λ _=>.bind lr λ _=>HD h _ _) (HD h _ _)) lr
theorem Np {n m} (h:n<=m) (a b c d e):Le (Cm n a b c d e) (Cm m a b c d e):=.ite (.bind lr λ _=>.bind (Le.whl (λ _=>No h _ _ _ _ _ _ _) h _) λ _=>lr) lr
theorem Qu {n m} (h:n<=m) (a b):Le (DS n a b) (DS m a b):=.bind (NM h _) λ _=>.bind lr λ _=>.bind (Le.whl (λ _=>Nn h _ _ _ _ _ _) h _) λ _=>.bind lr λ _=>.bind (Le.whl (λ _=>Np h _ _ _ _ _) h _) λ _=>lr
theorem Gw {n m} (_:n<=m) (a b c d):Le (BU n a b c d) (BU m a b c d):=.bind lr λ _=>.bind lr λ _=>.bind lr λ _=>.ite (.bind lr λ _=>.bind lr λ _=>.bind lr λ _=>.bind lr λ _=>lr) lr
theorem D0 {n m} (h:n<=m) (a b c):Le (Bx n a b c) (Bx m a b c):=.bind lr λ _=>.bind lr λ _=>.bind (Ke h _ _) λ _=>lr
theorem Jdh {n m} (_:n<=m) (a):Le (Ux n a) (Ux m a):=lr
theorem K7 {n m} (_:n<=m) (a b c):Le (BE n a b c) (BE m a b c):=.ite (.bind lr λ _=>.bind lr λ _=>.bind lr λ _=>lr) lr
theorem Gb {n m} (_:n<=m) (a b c):Le (BF n a b c) (BF m a b c):=lr
theorem K8 {n m} (h:n<=m) (a b c d e f g i):Le (Bk n a b c d e f g i) (Bk m a b c d e f g i):=.ite (.bind lr λ _=>.bind (D0 h _ _ _) λ _=>.ite (.bind (Gw h _ _ _ _) λ _=>Gb h _ _ _) (Gb h _ _ _)) lr
theorem Gc {n m} (h:n<=m) (a b c d e f g):Le (BG n a b c d e f g) (BG m a b c d e f g):=.bind lr λ _=>.bind (Le.whl (λ _=>K8 h _ _ _ _ _ _ _ _) h _) λ _=>lr
theorem K9 {n m} (h:n<=m) (a b c d e f):Le (BH n a b c d e f) (BH m a b c d e f):=.bind lr λ _=>.ite (.bind lr λ _=>.bind lr λ _=>.bind lr λ _=>.bind lr λ _=>.ite (Gc h _ _ _ _ _ _ _) (Gc h _ _ _ _ _ _ _)) lr
theorem Gd {n m} (h:n<=m) (a b c d e):Le (Bl n a b c d e) (Bl m a b c d e):=.bind (Le.whl (λ _=>K9 h _ _ _ _ _ _) h _) λ _=>.bind lr λ _=>.bind (Jdh h _) λ _=>.bind lr λ _=>.bind lr λ _=>.bind lr λ _=>lr
theorem La {n m} (h:n<=m) (a b c d):Le (BI n a b c d) (BI m a b c d):=.ite (.ite (.bind lr λ _=>.bind (HM h _) λ _=>Gd h _ _ _ _ _) (Gd h _ _ _ _ _)) lr
theorem Nq {n m} (h:n<=m) (a):Le (CS n a) (CS m a):=.bind (Le.whl (λ _=>K7 h _ _ _) h _) λ _=>.bind (Gw h _ _ _ _) λ _=>.bind (Le.whl (λ _=>La h _ _ _ _) h _) λ _=>lr
theorem Dg {n m} (_:n<=m) (a b c):Le (Bc n a b c) (Bc m a b c):=lr
theorem JI {n m} (h:n<=m) (a b c d e f g i):Le (Bd n a b c d e f g i) (Bd m a b c d e f g i):=.ite (.bind lr λ _=>.bind (D0 h _ _ _) λ _=>.ite (Dg h _ _ _) (.bind lr λ _=>.bind (Fw h _ _) λ _=>.bind lr λ _=>.bind lr λ _=>.bind (Le.ite (lr) (lr)) λ _=>.bind (Le.ite (lr) (lr)) λ _=>.ite (.bind lr λ _=>.bind lr λ _=>.bind lr λ _=>Dg h _ _ _) (Dg h _ _ _))) lr
theorem Gx {n m} (h:n<=m) (a b c d e):Le (BV n a b c d e) (BV m a b c d e):=.bind lr λ _=>.bind lr λ _=>.bind lr λ _=>.bind (Le.whl (λ _=>JI h _ _ _ _ _ _ _ _) h _) λ _=>lr
theorem Ge {n m} (_:n<=m) (a b):Le (BJ n a b) (BJ m a b):=lr
theorem Lc {n m} (h:n<=m) (a b c d e f g):Le (Bm n a b c d e f g) (Bm m a b c d e f g):=.ite (.bind lr λ _=>.bind lr λ _=>.bind lr λ _=>.bind lr λ _=>.bind (Le.ite (lr) (lr)) λ _=>.bind (Le.ite (MN h _ _) (lr)) λ _=>.ite (.bind lr λ _=>.bind lr λ _=>Ge h _ _) (Ge h _ _)) lr
theorem Ld {n m} (h:n<=m) (a b c d):Le (Bn n a b c d) (Bn m a b c d):=.ite (.bind (Gx h _ _ _ _ _) λ _=>lr) lr
theorem Lf {n m} (h:n<=m) (a b c d e):Le (Bo n a b c d e) (Bo m a b c d e):=.ite (.bind (Gx h _ _ _ _ _) λ _=>lr) lr
theorem Lg {n m} (h:n<=m) (a b):Le (BK n a b) (BK m a b):=.bind lr λ _=>.bind (Le.whl (λ _=>Lf h _ _ _ _ _) h _) λ _=>.ite lr lr
theorem Lh {n m} (h:n<=m) (a b):Le (B9 n a b) (B9 m a b):=.ite (.bind lr λ _=>.bind lr λ _=>.bind lr λ _=>.bind lr λ _=>.bind (Le.whl (λ _=>Lc h _ _ _ _ _ _ _) h _) λ _=>.bind lr λ _=>.bind (Le.whl (λ _=>Ld h _ _ _ _) h _) λ _=>.bind (Le.whl (λ _=>Lg h _ _) h _) λ _=>lr) lr
theorem Nr {n m} (h:n<=m) (a):Le (CT n a) (CT m a):=.bind (Le.whl (λ _=>Lh h _ _) h _) λ _=>lr
theorem EI {n m} (_:n<=m) (a):Le (Bh n a) (Bh m a):=lr
theorem IH {n m} (h:n<=m) (a b c d e f):Le (Bi n a b c d e f) (Bi m a b c d e f):=.ite (.bind lr λ _=>.bind (D0 h _ _ _) λ _=>.ite (EI h _) (.bind lr λ _=>.bind lr λ _=>.bind (Fw h _ _) λ _=>.ite (EI h _) (.bind lr λ _=>.bind lr λ _=>lr))) lr
theorem II {n m} (h:n<=m) (a b c d e):Le (BC n a b c d e) (BC m a b c d e):=.ite (.bind lr λ _=>.bind (Le.whl (λ _=>IH h _ _ _ _ _ _) h _) λ y75=>by rcases y75 with _|_;exact lr;exact lr) lr
theorem Li {n m} (h:n<=m) (a):Le (Ca n a) (Ca m a):=.bind lr λ _=>.bind (Fw h _ _) λ _=>.bind (Le.whl (λ _=>II h _ _ _ _ _) h _) λ _=>lr
theorem VJ {n m} (h:n<=m) (a b):Le (HV n a b) (HV m a b):=.bind (Jg h _) λ _=>.ite lr (.bind (VI h _) λ _=>.ite lr (.bind (Qu h _ _) λ _=>.bind (Nq h _) λ _=>.bind (Nr h _) λ _=>.bind lr λ _=>.bind lr λ _=>.ite lr (.bind (Li h _) λ _=>lr)))
theorem NN {n m} (h:n<=m) (a b):Le (Ed n a b) (Ed m a b):=.bind (VJ h _ _) λ _=>.ite lr lr
theorem Tk {n m} (_:n<=m) (a b c):Le (FG n a b c) (FG m a b c):=.ite (.bind lr λ _=>.bind lr λ _=>.ite lr lr) lr
theorem Jk {n m} (h:n<=m) (a b):Le (F4 n a b) (F4 m a b):=.ite lr (.bind (Le.whl (λ _=>Tk h _ _ _) h _) λ y79=>by rcases y79 with _|_;exact lr;exact lr)
theorem Ns {n m} (_:n<=m) (a b c):Le (CU n a b c) (CU m a b c):=.ite (.bind lr λ _=>.bind lr λ _=>.ite lr lr) lr
theorem Qv {n m} (h:n<=m) (a b):Le (Df n a b) (Df m a b):=.ite lr (.bind (Le.whl (λ _=>Ns h _ _ _) h _) λ y82=>by rcases y82 with _|_;exact lr;exact lr)
theorem Xa {n m} (h:n<=m) (a b):Le (H7 n a b) (H7 m a b):=.bind (Qv h _ _) λ _=>.bind (Le.ite (Jk h _ _) (lr)) λ _=>lr
theorem TX {n m} (h:n<=m):Le (H8 n) (H8 m):=.bind (TV h) λ _=>.bind (K6 h _ _) λ _=>.bind (K6 h _ _) λ _=>.bind (JH h _ _ _) λ _=>.bind (JH h _ _ _) λ _=>.bind (JH h _ _ _) λ _=>.bind (NN h _ _) λ _=>.bind (K6 h _ _) λ _=>.bind (NN h _ _) λ _=>.bind (Le.ite (Jk h _ _) (lr)) λ _=>.bind (Le.ite (Jk h _ _) (lr)) λ _=>.bind (Le.ite (Xa h _ _) (lr)) λ _=>.bind (Le.ite (Jk h _ _) (lr)) λ _=>lr
end Go.AI
end
section
namespace Go.AI
theorem Ye (a:Int):IntKind.i64.wrap a=if decide (a % 18446744073709551616>=9223372036854775808)=true then a % 18446744073709551616-18446744073709551616 else a % 18446744073709551616:=rfl
theorem Uy (a:Int):IntKind.u8.wrap a=a % 256:=rfl
theorem Tl {a:Int} (h:-9223372036854775808<=a) (h':a<9223372036854775808):IntKind.i64.wrap a=a:=by
 rw [Ye]
 split
 ·rename_i hc;simp at hc;omega
 ·rename_i hc;simp at hc;omega
theorem Qx {a b:Int} (h:-9223372036854775808<=a+b) (h':a+b<9223372036854775808):Ar .i64 a b=a+b:=Tl h h'
theorem Jdi {a b:Int} (h:-9223372036854775808<=a-b) (h':a-b<9223372036854775808):G9 .i64 a b=a-b:=Tl h h'
theorem JkD {a:Int} (h:0<=a) (h':a<256):IntKind.u8.wrap a=a:=by
 rw [Uy];omega
theorem Xb (a:Int):0<=IntKind.u8.wrap a/\IntKind.u8.wrap a<256:=by
 rw [Uy];omega
def GT (m k:Int):Bool:=decide (0<=k)&&decide (k<8)&&(Cp .u8 (Ss .u8 m k) 1==1)
theorem Jdj (n:Nat) (m k:Int):HF n m k=some (GT m k):=by
 unfold HF GT
 by_cases h:0<=k
 ·by_cases h':k<8<;>simp [h,h',B0]
 ·simp [h]
theorem Yf (n:Nat) (m k:Int):IY n m k=some (GT m k):=by
 unfold IY GT
 by_cases h:0<=k
 ·by_cases h':k<8<;>simp [h,h',B0]
 ·simp [h]
def Gf (b:Int):Int:=
 if (decide (97<=Cp .u8 b 127)&&decide (Cp .u8 b 127<=122))=true then 1
 else if (decide (65<=Cp .u8 b 127)&&decide (Cp .u8 b 127<=90))=true then 2
 else if (decide (48<=Cp .u8 b 127)&&decide (Cp .u8 b 127<=57))=true then 3
 else if (Cp .u8 b 127==32)=true then 4 else 5
theorem Tm (n:Nat) (b:Int):Er n b=some (Gf b):=by
 unfold Er Gf
 split
 ·rfl
 ·split
  ·rfl
  ·split
   ·rfl
   ·split<;>rfl
theorem Uz (n:Nat) (b:Int):HW n b=some (Gf b):=by
 unfold HW Gf
 simp only [ge_iff_le]
 split
 ·rfl
 ·split
  ·rfl
  ·split
   ·rfl
   ·split<;>rfl
theorem QZ (b:Int):1<=Gf b/\Gf b<=5:=by
 unfold Gf
 split
 ·omega
 ·split
  ·omega
  ·split
   ·omega
   ·split<;>omega
def Q0 (s:List UInt8) (i:Nat):Int:=(s[i]?.getD 0).toNat
theorem Lj {s:List UInt8} {i:Nat} (h:i<s.length):Nd s (i:Int)=some (Q0 s i):=by
 unfold Nd Q0
 rw [if_pos (by omega)]
 simp
def YV:Aa:=⟨0,0,0⟩
def YW (r:Az) (s:Aa):Aa×Bool:=
 if ((r.From != s.Mode)||!GT r.Left s.Last)=true then (YV,false)
 else if (r.Print==[])=true then
  (if (Cp .u8 s.Need r.Right==0)=true then (YV,false) else (⟨r.To,s.Last,Cp .u8 s.Need r.Right⟩,true))
 else if (!GT s.Need (Gf (Q0 r.Print 0)))=true then (YV,false)
 else (⟨r.To,Gf (Q0 r.Print (r.Print.length-1)),r.Right⟩,true)
def Au (t:Ad) (s:Aa) (k:Int):Aa×Bool:=
 if (decide (k<0)||decide (k>=(t.Rules.length:Int)))=true then (YV,false) else YW (t.Rules[k.toNat]?.getD default) s
def Jdk (t:Ad):Prop:=∀ r∈t.Rules,r.Print.length<9223372036854775808
theorem Tn {α:Type} [Inhabited α] {l:List α} {k:Int} (h:0<=k) (h':k<l.length):idx l k=some (l[k.toNat]?.getD default):=by
 unfold idx
 rw [if_pos h]
 have:k.toNat<l.length:=by omega
 simp [this]
theorem RG {t:Ad} (ht:Jdk t) (n:Nat) (s:Aa) (k:Int):Hc n t s k=some (Au t s k):=by
 unfold Hc Au
 by_cases hk:(decide (k<0)||decide (k>=(t.Rules.length:Int)))=true
 ·rw [if_pos hk,if_pos hk];rfl
 ·rw [if_neg hk,if_neg hk]
  simp only [JlA,decide_eq_true_eq,not_or,Int.not_lt,ge_iff_le,Int.not_le] at hk
  rw [Tn hk.1 hk.2]
  have hmem:(t.Rules[k.toNat]?.getD default)∈t.Rules:=by
   have:k.toNat<t.Rules.length:=by omega
   simp [this]
  have hlen:=ht _ hmem
  generalize t.Rules[k.toNat]?.getD default=r at hlen ⊢
  simp only [Option.bind_some,Jdj,Tm]
  unfold YW
  by_cases h1:r.From=s.Mode
  ·simp only [h1,bne_self_eq_false,Bool.not_false,if_true,Option.bind_some,Bool.false_or]
   by_cases h2:GT r.Left s.Last=true
   ·simp only [h2,Bool.not_true,Jlt,if_false]
    by_cases h3:r.Print=[]
    ·simp only [h3,beq_self_eq_true,if_true]
     split<;>rfl
    ·have h3':(r.Print==[])=false:=by simpa using h3
     have hpos:0<r.Print.length:=List.length_pos_iff.2 h3
     simp only [h3',Jlt,if_false]
     have e0:=Lj (s:=r.Print) (i:=0) hpos
     simp only [Int.natCast_zero] at e0
     rw [e0]
     have e1:G9 .i64 ((r.Print.length:Nat):Int) 1=((r.Print.length-1:Nat):Int):=by rw [Jdi (by omega) (by omega)];omega
     rw [e1,Lj (by omega)]
     simp only [Option.bind_some]
     split<;>rfl
   ·have h2:GT r.Left s.Last=false:=by simpa using h2
    simp only [h2,Bool.not_false,if_true];rfl
  ·have h1':(r.From != s.Mode)=true:=by simpa using h1
   simp only [h1',Bool.not_true,Jlt,if_false,Option.bind_some,Bool.true_or,if_true];rfl
end Go.AI
end
section
namespace Go.AI
theorem Al {α:Type} {l:List α} {i:Nat} {x:α} (h:l[i]? = some x):i<l.length:=(List.getElem?_eq_some_iff.1 h).1
theorem Pq {t:Ad} (ht:Jdk t) (n:Nat) (s:Aa) (k:Int):H9 n t s k=some (Au t s k):=by
 unfold H9 Au
 by_cases hk:(decide (k<0)||decide (k>=(t.Rules.length:Int)))=true
 ·rw [if_pos hk,if_pos hk];rfl
 ·rw [if_neg hk,if_neg hk]
  simp only [JlA,decide_eq_true_eq,not_or,Int.not_lt,ge_iff_le,Int.not_le] at hk
  rw [Tn hk.1 hk.2]
  have hmem:(t.Rules[k.toNat]?.getD default)∈t.Rules:=by
   have:k.toNat<t.Rules.length:=by omega
   simp [this]
  have hlen:=ht _ hmem
  generalize t.Rules[k.toNat]?.getD default=r at hlen ⊢
  simp only [Option.bind_some,Yf,Uz]
  unfold YW
  by_cases h1:r.From=s.Mode
  ·simp only [h1,bne_self_eq_false,Bool.not_false,if_true,Option.bind_some,Bool.false_or]
   by_cases h2:GT r.Left s.Last=true
   ·simp only [h2,Bool.not_true,Jlt,if_false]
    by_cases h3:r.Print=[]
    ·simp only [h3,List.length_nil,Int.natCast_zero,beq_self_eq_true,Bool.true_and,if_true]
     split<;>rfl
    ·have h3':(r.Print==[])=false:=by simpa using h3
     have hpos:0<r.Print.length:=List.length_pos_iff.2 h3
     have h4:(((r.Print.length:Nat):Int)==0)=false:=by simp;omega
     simp only [h3',h4,Bool.false_and,Jlt,if_false]
     have e0:=Lj (s:=r.Print) (i:=0) hpos
     simp only [Int.natCast_zero] at e0
     rw [e0]
     have e1:G9 .i64 ((r.Print.length:Nat):Int) 1=((r.Print.length-1:Nat):Int):=by rw [Jdi (by omega) (by omega)];omega
     rw [e1,Lj (by omega)]
     simp only [Option.bind_some]
     split<;>rfl
   ·have h2:GT r.Left s.Last=false:=by simpa using h2
    simp only [h2,Bool.not_false,if_true];rfl
  ·have h1':(r.From != s.Mode)=true:=by simpa using h1
   simp only [h1',Bool.not_true,Jlt,if_false,Option.bind_some,Bool.true_or,if_true];rfl
def Dp (t:Ad) (s:Aa):Bool:=decide (s.Mode<t.Modes)&&GT t.Accept s.Mode&&GT s.Need 0
theorem Yg (n:Nat) (t:Ad) (s:Aa):Ec n t s=some (Dp t s):=by
 unfold Ec Dp
 simp only [Jdj]
 by_cases h1:s.Mode<t.Modes
 ·cases h2:GT t.Accept s.Mode<;>simp [h1]
 ·simp [h1]
theorem Xc (n:Nat) (t:Ad) (s:Aa):IZ n t s=some (Dp t s):=by
 unfold IZ Dp
 simp only [Yf]
 have h0:¬ (0<=s.Mode)->GT t.Accept s.Mode=false:=λ h=>by simp [GT,h]
 by_cases h:0<=s.Mode
 ·by_cases h1:s.Mode<t.Modes
  ·cases h2:GT t.Accept s.Mode<;>simp [h,h1]
  ·simp [h1]
 ·simp [h,h0 h]
theorem eqS (a b:Aa):((a.Mode==b.Mode)&&((a.Last==b.Last)&&((a.Need==b.Need)&&true)))=decide (a=b):=by
 cases a;cases b
 simp [Bool.decide_and]
 rfl
def BW (l:List Aa) (s:Aa):Int:=match l.findIdx? (λ x=>decide (x=s)) with
 | some i=>i
 | none=>-1
theorem Kk {l:List Aa} {s:Aa} (hl:l.length<9223372036854775807):Ev (λ n=>FM n l s) (BW l s):=by
 have loop:Ev (λ n=>whl (λ x=>DC n l s x) n (0:Int)) (match l.findIdx? (λ x=>decide (x=s)) with|some i=>(.inr (i:Int):Unit⊕Int)|none=>.inl ()):=by
  refine Ev.whl (body:=λ n x=>DC n l s x) (λ k x=>∃ i:Nat,x=i/\i<=l.length/\k=l.length-i/\∀ j,j<i->∀ y,l[j]? = some y->y≠s) ?_ l.length 0 ⟨0,rfl,by omega,by omega,λ j hj=>by omega⟩
  rintro k x ⟨i,rfl,hi,rfl,hbefore⟩
  by_cases hlt:i<l.length
  ·have hg:l[i]? = some l[i]:=Jlg hlt
   have hidx:idx l (i:Int)=some l[i]:=by
    unfold idx
    rw [if_pos (by omega)]
    simp
   by_cases he:l[i]=s
   ·right
    refine Ev.all λ n=>?_
    unfold DC
    rw [if_pos (by simpa using hlt),hidx]
    simp only [Option.bind_some,eqS,he,decide_true,if_true]
    have:l.findIdx? (λ x=>decide (x=s))=some i:=by
     rw [List.findIdx?_eq_some_iff_getElem]
     refine ⟨hlt,by simpa using he,λ j hj=>?_⟩
     have hj':j<l.length:=by omega
     have:=hbefore j hj l[j] (Jlg hj')
     simpa using this
    rw [this]
   ·left
    refine ⟨((i+1:Nat):Int),l.length-(i+1),by omega,⟨i+1,rfl,by omega,rfl,λ j hj y hy=>?_⟩,Ev.all λ n=>?_⟩
    ·by_cases hji:j=i
     ·subst hji;rw [hg] at hy;cases hy;exact he
     ·exact hbefore j (by omega) y hy
    ·unfold DC
     rw [if_pos (by simpa using hlt),hidx]
     simp only [Option.bind_some,eqS,he,decide_false,Jlt,if_false]
     rw [Qx (by omega) (by omega)]
     rfl
  ·right
   have hi':i=l.length:=by omega
   subst hi'
   refine Ev.all λ n=>?_
   unfold DC
   rw [if_neg (by simp)]
   have:l.findIdx? (λ x=>decide (x=s))=none:=by
    rw [List.findIdx?_eq_none_iff]
    intro y hy
    obtain ⟨j,hj⟩:=List.mem_iff_getElem?.1 hy
    have:=hbefore j (Al hj) y hj
    simpa using this
   rw [this]
 refine (Ev.bind loop (g:=λ _ y=>match y with|Sum.inl _=>some (-1)|Sum.inr z=>some z) (z:=BW l s) ?_).congr λ n=>?_
 ·unfold BW
  cases l.findIdx? (λ x=>decide (x=s)) with
  | none=>exact Ev.const
  | some i=>exact Ev.const
 ·rfl
end Go.AI
end
section
namespace Go.AI
theorem Yh (a b:Int) (h:0<=b) (h':b<256):0<=Cp .u8 a b/\Cp .u8 a b<=b:=by
 unfold Cp
 have hb:(BitVec.ofInt 8 b).toNat=b.toNat:=by
  rw [BitVec.toNat_ofInt]
  omega
 have hle:(BitVec.ofInt 8 a &&& BitVec.ofInt 8 b).toNat<=b.toNat:=by
  rw [BitVec.toNat_and,hb];exact Nat.and_le_right
 have e:(BitVec.ofInt IntKind.u8.bits a &&& BitVec.ofInt IntKind.u8.bits b).toNat=(BitVec.ofInt 8 a &&& BitVec.ofInt 8 b).toNat:=rfl
 rw [e,JkD (by omega) (by omega)]
 omega
def Oi (r:Az):Prop:=0<=r.To/\r.To<2/\0<=r.Right/\r.Right<=63/\r.Print.length<=3
def Il (t:Ad):Prop:=t.Rules.length<=11/\∀ r∈t.Rules,Oi r
theorem Il.short {t:Ad} (h:Il t):Jdk t:=λ r hr=>by have:=(h.2 r hr).2.2.2.2;omega
def InU (s:Aa):Prop:=0<=s.Mode/\s.Mode<2/\0<=s.Last/\s.Last<=5/\0<=s.Need/\s.Need<=63
def Jjb:List Aa:=(List.range 768).map λ i=>⟨(i / 384:Nat),(i / 64 % 6:Nat),(i % 64:Nat)⟩
theorem Jdl {s:Aa} (h:InU s):s∈Jjb:=by
 obtain ⟨h1,h2,h3,h4,h5,h6⟩:=h
 obtain ⟨m,l,d⟩:=s
 simp only at h1 h2 h3 h4 h5 h6
 simp only [Jjb,List.mem_map,List.mem_range]
 refine ⟨m.toNat*384+l.toNat*64+d.toNat,by omega,?_⟩
 have e1:(m.toNat*384+l.toNat*64+d.toNat) / 384=m.toNat:=by omega
 have e2:(m.toNat*384+l.toNat*64+d.toNat) / 64 % 6=l.toNat:=by omega
 have e3:(m.toNat*384+l.toNat*64+d.toNat) % 64=d.toNat:=by omega
 rw [e1,e2,e3]
 congr 1<;>omega
theorem Jdm {l m:List Aa} (h:l.Nodup) (hs:∀ x∈l,x∈m):l.length<=m.length:=by
 induction l generalizing m with
 | nil=>simp
 | cons a l ih=>
  rw [List.nodup_cons] at h
  have ha:=hs a (by simp)
  have hlen:(m.erase a).length=m.length-1:=List.length_erase_of_mem ha
  have hpos:0<m.length:=List.length_pos_of_mem ha
  have:=ih (m:=m.erase a) h.2 λ x hx=>by
   have hne:x≠a:=λ e=>h.1 (e▸hx)
   exact (List.mem_erase_of_ne hne).2 (hs x (by simp [hx]))
  simp
  omega
theorem Jdn {l:List Aa} (h:l.Nodup) (hs:∀ x∈l,InU x):l.length<=768:=by
 have:=Jdm h λ x hx=>Jdl (hs x hx)
 simpa [Jjb] using this
theorem Jdo {t:Ad} (ht:Il t) {s:Aa} (hs:InU s) {k:Int} (h:(Au t s k).2=true):InU (Au t s k).1:=by
 unfold Au at h ⊢
 split at h
 ·cases h
 ·rename_i hk
  rw [if_neg hk]
  simp only [JlA,decide_eq_true_eq,not_or,Int.not_lt,ge_iff_le,Int.not_le] at hk
  have hmem:(t.Rules[k.toNat]?.getD default)∈t.Rules:=by
   have:k.toNat<t.Rules.length:=by omega
   simp [this]
  have hr:=ht.2 _ hmem
  generalize t.Rules[k.toNat]?.getD default=r at hr h ⊢
  obtain ⟨a1,a2,a3,a4,a5⟩:=hr
  obtain ⟨b1,b2,b3,b4,b5,b6⟩:=hs
  unfold YW at h ⊢
  split at h
  ·cases h
  ·rename_i h1
   rw [if_neg h1]
   split at h
   ·rename_i h2
    rw [if_pos h2]
    split at h
    ·cases h
    ·rename_i h3
     rw [if_neg h3]
     have:=Yh s.Need r.Right a3 (by omega)
     exact ⟨a1,a2,b3,b4,this.1,by show Cp .u8 s.Need r.Right<=63;omega⟩
   ·rename_i h2
    rw [if_neg h2]
    split at h
    ·cases h
    ·rename_i h3
     rw [if_neg h3]
     have:=QZ (Q0 r.Print (r.Print.length-1))
     exact ⟨a1,a2,by show 0<=Gf _;omega,by show Gf _<=5;omega,a3,a4⟩
def A3:Aa:=⟨0,0,63⟩
def Lk (t:Ad) (s:Aa) (st:List Aa) (k:Nat):List Aa:=if (Au t s k).2=true/\(Au t s k).1 ∉ st then st++[(Au t s k).1] else st
def Kl (t:Ad) (s:Aa) (m:Nat) (st:List Aa):List Aa:=(List.range m).foldl (Lk t s) st
theorem Km (t:Ad) (s:Aa) (m:Nat) (st:List Aa):Kl t s (m+1) st=Lk t s (Kl t s m st) m:=by
 simp [Kl,List.range_succ]
def Tp (t:Ad):Nat->Nat->List Aa->List Aa
 | 0,_,st=>st
 | f+1,i,st=>match st[i]? with
  | some s=>Tp t f (i+1) (Kl t s t.Rules.length st)
  | none=>st
def Af (t:Ad):List Aa:=Tp t 800 0 [A3]
structure Gy (t:Ad) (st:List Aa):Prop where
 nodup:st.Nodup
 inU:∀ s∈st,InU s
 first:st[0]? = some A3
 origin:∀ (j:Nat) (s:Aa),st[j]? = some s->0<j->∃ (i:Nat) (s':Aa) (k:Nat),i<j/\st[i]? = some s'/\k<t.Rules.length/\Au t s' k=(s,true)
theorem Gy.len {t:Ad} {st:List Aa} (h:Gy t st):st.length<=768:=Jdn h.nodup h.inU
theorem Gy.add {t:Ad} (ht:Il t) {st:List Aa} (h:Gy t st) {i:Nat} {s:Aa} (hi:st[i]? = some s) {k:Nat} (hk:k<t.Rules.length):Gy t (Lk t s st k):=by
 unfold Lk
 split
 ·rename_i hc
  have hil:=Al hi
  refine ⟨?_,λ x hx=>?_,?_,λ j x hj h0=>?_⟩
  ·rw [List.nodup_append]
   refine ⟨h.nodup,by simp,λ a ha b hb=>?_⟩
   simp at hb
   subst hb
   exact λ e=>hc.2 (e▸ha)
  ·simp only [List.mem_append,List.mem_singleton] at hx
   rcases hx with hx|rfl
   ·exact h.inU x hx
   ·exact Jdo ht (h.inU s (Jli hi)) hc.1
  ·rw [Jlo (by omega)];exact h.first
  ·rcases Nat.lt_or_ge j st.length with hlt|hge
   ·rw [Jlo hlt] at hj
    obtain ⟨i',s',k',a1,a2,a3,a4⟩:=h.origin j x hj h0
    exact ⟨i',s',k',a1,by rw [Jlo (by omega)];exact a2,a3,a4⟩
   ·rw [Jlz hge] at hj
    have:j-st.length=0:=by have:=Al hj;simp at this;omega
    rw [this] at hj
    simp at hj
    subst hj
    refine ⟨i,s,k,by omega,by rw [Jlo hil];exact hi,hk,?_⟩
    exact Prod.ext rfl hc.1
 ·exact h
theorem Xd (t:Ad) (s:Aa) (st:List Aa) (k:Nat):st <+: Lk t s st k:=by
 unfold Lk
 split
 ·exact List.prefix_append _ _
 ·exact List.prefix_refl _
theorem Ho (t:Ad) (s:Aa) (st:List Aa):∀ m,st <+: Kl t s m st:=by
 intro m
 induction m with
 | zero=>exact List.prefix_refl _
 | succ m ih=>rw [Km];exact ih.trans (Xd _ _ _ _)
theorem M5 {α:Type} {l m:List α} (h:l <+: m) {i:Nat} {x:α} (hi:l[i]? = some x):m[i]? = some x:=by
 obtain ⟨r,rfl⟩:=h
 rw [Jlo (Al hi)];exact hi
theorem Gy.exp {t:Ad} (ht:Il t) {st:List Aa} (h:Gy t st) {i:Nat} {s:Aa} (hi:st[i]? = some s):∀ m,m<=t.Rules.length->Gy t (Kl t s m st):=by
 intro m
 induction m with
 | zero=>intro _;exact h
 | succ m ih=>
  intro hm
  rw [Km]
  exact (ih (by omega)).add ht (M5 (Ho t s st m) hi) (by omega)
theorem Jdp (t:Ad) (s:Aa) (st:List Aa):∀ m k:Nat,k<m->(Au t s k).2=true->(Au t s k).1∈Kl t s m st:=by
 intro m
 induction m with
 | zero=>intro k hk;omega
 | succ m ih=>
  intro k hk h
  rw [Km]
  by_cases e:k=m
  ·subst e
   unfold Lk
   by_cases hc:(Au t s k).1∈Kl t s k st
   ·rw [if_neg (λ hh=>hh.2 hc)];exact hc
   ·rw [if_pos ⟨h,hc⟩];simp
  ·exact (Xd t s _ m).subset (ih k (by omega) h)
def Jjc (t:Ad) (i:Nat) (st:List Aa):Prop:=∀ (j:Nat) (s:Aa),j<i->st[j]? = some s->∀ k:Nat,k<t.Rules.length->(Au t s k).2=true->(Au t s k).1∈st
theorem Jjd {t:Ad} (ht:Il t):∀ (f i:Nat) (st:List Aa),Gy t st->Jjc t i st->768<f+i->Gy t (Tp t f i st)/\∀ i',Jjc t i' (Tp t f i st):=by
 intro f
 induction f with
 | zero=>
  intro i st h hd hf
  have:=h.len
  refine ⟨h,λ i' j s hj hs=>?_⟩
  have hs:st[j]? = some s:=hs
  exact hd j s (by have:=Al hs;omega) hs
 | succ f ih=>
  intro i st h hd hf
  simp only [Tp]
  cases hi:st[i]? with
  | none=>
   refine ⟨h,λ i' j s hj hs=>?_⟩
   have hs:st[j]? = some s:=hs
   exact hd j s (by have:=Al hs;rw [List.getElem?_eq_none_iff] at hi;omega) hs
  | some s=>
   refine ih (i+1) _ (h.exp ht hi _ (Nat.le_refl _)) (λ j x hj hx k hk hk2=>?_) (by omega)
   by_cases e:j=i
   ·subst e
    have:=M5 (Ho t s st t.Rules.length) hi
    rw [this] at hx
    cases hx
    exact Jdp t s st _ k hk hk2
   ·have hjl:j<st.length:=by have:=Al hi;omega
    have hxx:st[j]? = some st[j]:=Jlg hjl
    have:=M5 (Ho t s st t.Rules.length) hxx
    rw [this] at hx
    cases hx
    exact (Ho t s st t.Rules.length).subset (hd j _ (by omega) hxx k hk hk2)
theorem Cb {t:Ad} (ht:Il t):Gy t (Af t)/\∀ i,Jjc t i (Af t):=by
 refine Jjd ht 800 0 [A3] ⟨by simp,λ s hs=>?_,rfl,λ j s hj h0=>?_⟩ (λ j s hj=>by omega) (by omega)
 ·simp at hs;subst hs;exact ⟨by decide,by decide,by decide,by decide,by decide,by decide⟩
 ·cases j with
  | zero=>omega
  | succ j=>simp at hj
end Go.AI
end
section
namespace Go.AI
theorem Ev.whlR {σ ρ:Type} {body:Nat->σ->Option (σ⊕ρ)} {R:ρ->Prop} (I:Nat->σ->Prop) (h:∀ k x,I k x->(∃ y j,j<k/\I j y/\Ev (λ n=>body n x) (.inl y))\/∃ r,R r/\Ev (λ n=>body n x) (.inr r)):∀ (k:Nat) (x:σ),I k x->∃ r,R r/\Ev (λ n=>Go.AI.whl (body n) n x) r:=by
 have key:∀ (k:Nat) (x:σ),I k x->∃ r,R r/\∃ N c,∀ n fuel,N<=n->c<=fuel->Go.AI.whl (body n) fuel x=some r:=by
  intro k
  induction k using Nat.strongRecOn with
  | _ k ih=>
   intro x hx
   rcases h k x hx with ⟨y,j,hj,hy,N1,h1⟩|⟨r,hr,N1,h1⟩
   ·obtain ⟨r,hr,N2,c,h2⟩:=ih j hj y hy
    refine ⟨r,hr,max N1 N2,c+1,λ n fuel hn hf=>?_⟩
    cases fuel with
    | zero=>omega
    | succ fuel=>
     have e:=h1 n (by omega)
     simp only at e
     simp only [Go.AI.whl,e]
     exact h2 n fuel (by omega) (by omega)
   ·refine ⟨r,hr,N1,1,λ n fuel hn hf=>?_⟩
    cases fuel with
    | zero=>omega
    | succ fuel=>
     have e:=h1 n hn
     simp only at e
     simp only [Go.AI.whl,e]
 intro k x hx
 obtain ⟨r,hr,N,c,hh⟩:=key k x hx
 exact ⟨r,hr,max N c,λ m hm=>hh m m (by omega) (by omega)⟩
def Jl (st:List Aa) (nb:List (Aa×Int)):Prop:=∀ s,Gi s nb=(st.findIdx? λ x=>decide (x=s)).map λ i=>(i:Int)
theorem CM {st:List Aa} {s:Aa} {i:Nat} (hn:st.Nodup) (h:st[i]? = some s):(st.findIdx? λ x=>decide (x=s))=some i:=by
 have hi:=Al h
 rw [List.findIdx?_eq_some_iff_getElem]
 have he:st[i]=s:=by rw [Jlg hi] at h;exact Option.some.inj h
 refine ⟨hi,by simpa using he,λ j hj=>?_⟩
 simp only [Bool.not_eq_true,decide_eq_false_iff_not]
 intro e
 have:=(List.getElem_inj (i:=j) (j:=i) (h₀:=by omega) (h₁:=hi) hn).1 (by rw [e,he])
 omega
theorem HO {st:List Aa} {s:Aa} (h:s ∉ st):(st.findIdx? λ x=>decide (x=s))=none:=by
 rw [List.findIdx?_eq_none_iff]
 intro y hy
 simp only [decide_eq_false_iff_not]
 exact λ e=>h (e▸hy)
theorem Z6 {κ α:Type} [DecidableEq κ] (k k':κ) (v:α) (m:List (κ×α)):Gi k' (Mg k v m)=if k'=k then some v else Gi k' m:=by
 induction m with
 | nil=>simp [Mg,Gi]
 | cons p m ih=>
  simp only [Mg]
  by_cases h:k=p.1
  ·rw [if_pos h]
   simp only [Gi]
   by_cases h':k'=k
   ·simp [h']
   ·have:k'≠p.1:=λ e=>h' (e.trans h.symm)
    simp [h',this]
  ·rw [if_neg h]
   simp only [Gi]
   by_cases h':k'=p.1
   ·have:k'≠k:=λ e=>h (e▸h')
    rw [if_pos h',if_neg this,if_pos h']
   ·rw [if_neg h',if_neg h',ih]
theorem Jl.snoc {st:List Aa} {nb:List (Aa×Int)} (h:Jl st nb) (hn:st.Nodup) {p:Aa} (hp:p ∉ st):Jl (st++[p]) (Mg p (st.length:Nat) nb):=by
 intro s
 rw [Z6]
 have hnd:(st++[p]).Nodup:=by
  rw [List.nodup_append]
  exact ⟨hn,by simp,λ a ha b hb=>by simp at hb;subst hb;exact λ e=>hp (e▸ha)⟩
 by_cases e:s=p
 ·subst e
  rw [if_pos rfl,CM hnd (i:=st.length) (by simp)]
  rfl
 ·rw [if_neg e,h s]
  by_cases hs:s∈st
  ·obtain ⟨i,hi⟩:=List.mem_iff_getElem?.1 hs
   rw [CM hn hi,CM hnd (i:=i) (by rw [Jlo (Al hi)];exact hi)]
  ·rw [HO hs,HO (by simp [hs,e])]
def Im (i m j k:Nat):Prop:=j<i\/(j=i/\k<m)
structure Dq (t:Ad) (st:List Aa) (fr:List (List Int)) (i m:Nat):Prop where
 len:fr.length=st.length
 cov:∀ j s k,Im i m j k->st[j]? = some s->k<t.Rules.length->(Au t s (k:Nat)).2=true->(Au t s (k:Nat)).1∈st
 sound:∀ (n:Nat) l,fr[n]? = some l->∀ x∈l,∃ (j:Nat) (s:Aa) (k:Nat) (s':Aa),x=(j:Int)/\st[j]? = some s/\k<t.Rules.length/\st[n]? = some s'/\Au t s (k:Nat)=(s',true)
 compl:∀ (n:Nat) l,fr[n]? = some l->∀ (j:Nat) (s:Aa) (k:Nat) (s':Aa),Im i m j k->st[j]? = some s->k<t.Rules.length->st[n]? = some s'->Au t s (k:Nat)=(s',true)->(j:Int)∈l
 small:∀ (n:Nat) l,fr[n]? = some l->l.length<=i*11+m
theorem Dq.snoc {t:Ad} {st:List Aa} {fr:List (List Int)} {i m:Nat} (h:Dq t st fr i m) {p:Aa} (hp:p ∉ st) (hi:i<st.length):Dq t (st++[p]) (fr++[[]]) i m:=by
 have hget:∀ (j:Nat) s,Im i m j 0\/j<=i->(st++[p])[j]? = some s->st[j]? = some s:=λ j s hj hs=>by
  rcases Nat.lt_or_ge j st.length with hlt|hge
  ·rwa [Jlo hlt] at hs
  ·rcases hj with (h1|⟨h1,_⟩)|h1<;>omega
 have hle:∀ {j k},Im i m j k->j<=i:=λ h=>by rcases h with h|⟨h,_⟩<;>omega
 refine ⟨by simp [h.len],λ j s k ht hs hk h2=>?_,λ n l hl x hx=>?_,λ n l hl j s k s' ht hs hk hs' he=>?_,λ n l hl=>?_⟩
 ·exact List.mem_append_left _ (h.cov j s k ht (hget j s (.inr (hle ht)) hs) hk h2)
 ·rcases Nat.lt_or_ge n fr.length with hlt|hge
  ·rw [Jlo hlt] at hl
   obtain ⟨j,s,k,s',a1,a2,a3,a4,a5⟩:=h.sound n l hl x hx
   exact ⟨j,s,k,s',a1,by rw [Jlo (Al a2)];exact a2,a3,by rw [Jlo (Al a4)];exact a4,a5⟩
  ·rw [Jlz hge] at hl
   have:n-fr.length=0:=by have:=Al hl;simp at this;omega
   rw [this] at hl;simp at hl;subst hl;simp at hx
 ·have hs0:=hget j s (.inr (hle ht)) hs
  have hmem:s'∈st:=by have:=h.cov j s k ht hs0 hk (by rw [he]);rwa [he] at this
  rcases Nat.lt_or_ge n fr.length with hlt|hge
  ·rw [Jlo hlt] at hl
   rw [Jlo (by rw [← h.len];exact hlt)] at hs'
   exact h.compl n l hl j s k s' ht hs0 hk hs' he
  ·have hn:n=st.length:=by have:=Al hs';simp at this;rw [h.len] at hge;omega
   subst hn
   simp at hs'
   subst hs'
   exact absurd hmem hp
 ·rcases Nat.lt_or_ge n fr.length with hlt|hge
  ·rw [Jlo hlt] at hl;exact h.small n l hl
  ·rw [Jlz hge] at hl
   have:n-fr.length=0:=by have:=Al hl;simp at this;omega
   rw [this] at hl;simp at hl;subst hl;simp
theorem Dq.put {t:Ad} {st:List Aa} {fr:List (List Int)} {i m:Nat} (h:Dq t st fr i m) (hnd:st.Nodup) {s p:Aa} {q:Nat} {l:List Int} (hs:st[i]? = some s) (hm:m<t.Rules.length) (hst:Au t s (m:Nat)=(p,true)) (hq:st[q]? = some p) (hl:fr[q]? = some l):Dq t st (fr.set q (l++[(i:Int)])) i (m+1):=by
 have htk:∀ {j k},Im i (m+1) j k->Im i m j k\/(j=i/\k=m):=λ {j k} h=>by
  unfold Im at *
  omega
 have hql:=Al hl
 refine ⟨by simp [h.len],λ j x k ht hx hk h2=>?_,λ n l' hl' x hx=>?_,λ n l' hl' j x k x' ht hx hk hx' he=>?_,λ n l' hl'=>?_⟩
 ·rcases htk ht with ht|⟨rfl,rfl⟩
  ·exact h.cov j x k ht hx hk h2
  ·rw [hs] at hx;cases hx;rw [hst];exact Jli hq
 ·by_cases e:n=q
  ·subst e
   rw [Jls hql] at hl'
   cases hl'
   simp only [List.mem_append,List.mem_singleton] at hx
   rcases hx with hx|rfl
   ·exact h.sound n l hl x hx
   ·exact ⟨i,s,m,p,rfl,hs,hm,hq,hst⟩
  ·rw [Jlx (Ne.symm e)] at hl';exact h.sound n l' hl' x hx
 ·rcases htk ht with ht|⟨rfl,rfl⟩
  ·by_cases e:n=q
   ·subst e
    rw [Jls hql] at hl'
    cases hl'
    exact List.mem_append_left _ (h.compl n l hl j x k x' ht hx hk hx' he)
   ·rw [Jlx (Ne.symm e)] at hl';exact h.compl n l' hl' j x k x' ht hx hk hx' he
  ·rw [hs] at hx;cases hx
   rw [hst] at he;cases he
   have e:n=q:=by
    have h1:=Al hx'
    have h2:=Al hq
    rw [Jlg h1] at hx'
    rw [Jlg h2] at hq
    exact (List.getElem_inj (h₀:=h1) (h₁:=h2) hnd).1 ((Option.some.inj hx').trans (Option.some.inj hq).symm)
   subst e
   rw [Jls hql] at hl'
   cases hl'
   simp
 ·by_cases e:n=q
  ·subst e
   rw [Jls hql] at hl'
   cases hl'
   have:=h.small n l hl
   simp;omega
  ·rw [Jlx (Ne.symm e)] at hl'
   have:=h.small n l' hl'
   omega
theorem Dq.skip {t:Ad} {st:List Aa} {fr:List (List Int)} {i m:Nat} (h:Dq t st fr i m) {s:Aa} (hs:st[i]? = some s) (hst:(Au t s (m:Nat)).2=false):Dq t st fr i (m+1):=by
 have htk:∀ {j k},Im i (m+1) j k->Im i m j k\/(j=i/\k=m):=λ {j k} h=>by
  unfold Im at *
  omega
 refine ⟨h.len,λ j x k ht hx hk h2=>?_,h.sound,λ n l hl j x k x' ht hx hk hx' he=>?_,λ n l hl=>by have:=h.small n l hl;omega⟩
 ·rcases htk ht with ht|⟨rfl,rfl⟩
  ·exact h.cov j x k ht hx hk h2
  ·rw [hs] at hx;cases hx;rw [hst] at h2;cases h2
 ·rcases htk ht with ht|⟨rfl,rfl⟩
  ·exact h.compl n l hl j x k x' ht hx hk hx' he
  ·rw [hs] at hx;cases hx;rw [he] at hst;cases hst
end Go.AI
end
section
namespace Go.AI
theorem Ll {α:Type} {l:List α} {i:Nat} {x:α} (h:l[i]? = some x):idx l (i:Int)=some x:=by
 unfold idx
 rw [if_pos (by omega)]
 simpa using h
theorem VK {α:Type} {eb:Nat} {xs ys:List α} (h:(xs.length+ys.length)*eb<=70368744177664):app eb xs ys=some (xs++ys):=by
 unfold app;rw [if_pos h]
theorem Xe {t:Ad} (ht:Il t) {i m:Nat} {s:Aa} {st:List Aa} {fr:List (List Int)} {nb:List (Aa×Int)} (hF:Gy t st) (hi:st[i]? = some s) (hN:Jl st nb) (hR:Dq t st fr i m) (hm:m<t.Rules.length) :
  ∃ fr' nb',Jl (Lk t s st m) nb'/\Dq t (Lk t s st m) fr' i (m+1)/\∀ n,Bw n t (i:Int) st fr nb (m:Int)=some (.inl (Lk t s st m,fr',nb',((m+1:Nat):Int))):=by
 have hil:=Al hi
 have hlen:=hF.len
 have hrl:=ht.1
 have hinc:Ar .i64 (m:Int) 1=((m+1:Nat):Int):=by rw [Qx (by omega) (by omega)];rfl
 have hcond:decide ((m:Int)<((t.Rules.length:Nat):Int))=true:=by simpa using hm
 cases hp:(Au t s (m:Nat)).2 with
 | false=>
  have ha:Lk t s st m=st:=by unfold Lk;rw [if_neg (by rw [hp];simp)]
  refine ⟨fr,nb,by rw [ha];exact hN,by rw [ha];exact hR.skip hi hp,λ n=>?_⟩
  unfold Bw
  rw [if_pos hcond,Ll hi]
  simp only [Option.bind_some,RG ht.short,hp,Bool.not_false,if_true,Cu,hinc,ha]
 | true=>
  have hpe:Au t s (m:Nat)=((Au t s (m:Nat)).1,true):=Prod.ext rfl hp
  generalize hpp:(Au t s (m:Nat)).1=p at hpe
  by_cases hmem:p∈st
  ·have ha:Lk t s st m=st:=by unfold Lk;rw [if_neg (by rw [hpp];exact λ hh=>hh.2 hmem)]
   obtain ⟨q,hq⟩:=List.mem_iff_getElem?.1 hmem
   have hql:=Al hq
   obtain ⟨lq,hfq⟩:∃ lq,fr[q]? = some lq:=⟨_,Jlg (by rw [hR.len];exact hql)⟩
   have hsm:=hR.small q _ hfq
   have hget:Gi p nb=some (q:Int):=by rw [hN p,CM hF.nodup hq];rfl
   have hiv:i<768:=by omega
   refine ⟨fr.set q (lq++[(i:Int)]),nb,by rw [ha];exact hN,by rw [ha];exact hR.put hF.nodup hi hm hpe hq hfq,λ n=>?_⟩
   unfold Bw
   rw [if_pos hcond,Ll hi]
   simp only [Option.bind_some,RG ht.short,hpe,hget,Option.isSome_some,Bool.not_true,Jlt,if_false,Option.getD_some,CW]
   rw [Ll hfq]
   simp only [Option.bind_some]
   rw [VK (by simp;omega)]
   simp only [Option.bind_some,Cu,hinc,ha,Jlq]
  ·have ha:Lk t s st m=st++[p]:=by unfold Lk;rw [if_pos ⟨hp,by rw [hpp];exact hmem⟩,hpp]
   have hnd:(st++[p]).Nodup:=by have:=(hF.add ht hi hm).nodup;rwa [ha] at this
   have hget:Gi p nb=none:=by rw [hN p,HO hmem];rfl
   have hR':=hR.snoc hmem hil
   have hfq:(fr++[[]])[st.length]? = some ([]:List Int):=by rw [← hR.len];simp
   refine ⟨(fr++[[]]).set st.length ([]++[(i:Int)]),Mg p (st.length:Nat) nb,by rw [ha];exact hN.snoc hF.nodup hmem,by rw [ha];exact hR'.put hnd (by rw [Jlo hil];exact hi) hm hpe (by simp) hfq,λ n=>?_⟩
   unfold Bw
   rw [if_pos hcond,Ll hi]
   simp only [Option.bind_some,RG ht.short,hpe,hget,Option.isSome_none,Bool.not_false,Bool.not_true,Jlt,if_true,if_false]
   rw [VK (by simp;omega),Option.bind_some,VK (by simp [hR.len];omega),Option.bind_some]
   simp only [CW]
   rw [Ll hfq]
   simp only [Option.bind_some]
   rw [VK (by simp)]
   simp only [Option.bind_some,Cu,hinc,ha,Jlq]
theorem Dq.next {t:Ad} {st:List Aa} {fr:List (List Int)} {i:Nat} (h:Dq t st fr i t.Rules.length) (hr:t.Rules.length<=11):Dq t st fr (i+1) 0:=by
 have htk:∀ {j k},k<t.Rules.length->Im (i+1) 0 j k->Im i t.Rules.length j k:=λ {j k} hk h=>by
  unfold Im at *
  omega
 exact ⟨h.len,λ j s k ht hs hk=>h.cov j s k (htk hk ht) hs hk,h.sound,λ n l hl j s k s' ht hs hk=>h.compl n l hl j s k s' (htk hk ht) hs hk,λ n l hl=>by have:=h.small n l hl;omega⟩
theorem Jdq {t:Ad} (ht:Il t) {i:Nat} {s:Aa} {st:List Aa} {fr:List (List Int)} {nb:List (Aa×Int)} (hF:Gy t st) (hi:st[i]? = some s) (hN:Jl st nb) (hR:Dq t st fr i 0) :
  ∃ r:List Aa×List (List Int)×List (Aa×Int),(r.1=Kl t s t.Rules.length st/\Jl r.1 r.2.2/\Dq t r.1 r.2.1 (i+1) 0) /\
   Ev (λ n=>whl (λ (x:((List Aa)×(List (List Int))×(List (Aa×Int))×Int))=>Bw n t (i:Int) x.1 x.2.1 x.2.2.1 x.2.2.2) n (st,fr,nb,0)) r:=by
 refine Ev.whlR (body:=λ n x=>Bw n t (i:Int) x.1 x.2.1 x.2.2.1 x.2.2.2) (λ k x=>∃ m:Nat,m<=t.Rules.length/\k=t.Rules.length-m/\x.1=Kl t s m st/\x.2.2.2=(m:Int)/\Jl x.1 x.2.2.1/\Dq t x.1 x.2.1 i m) ?_ t.Rules.length (st,fr,nb,0) ⟨0,by omega,by omega,rfl,rfl,hN,hR⟩
 rintro k ⟨st',fr',nb',m'⟩ ⟨m,hm,rfl,h1,h2,h3,h4⟩
 simp only at h1 h2 h3 h4
 subst h1
 subst h2
 rcases Nat.lt_or_ge m t.Rules.length with hlt|hge
 ·left
  have hi':(Kl t s m st)[i]? = some s:=M5 (Ho t s st m) hi
  obtain ⟨fr2,nb2,g1,g2,g3⟩:=Xe ht (hF.exp ht hi m hm) hi' h3 h4 hlt
  exact ⟨_,t.Rules.length-(m+1),by omega,⟨m+1,hlt,rfl,(Km t s m st).symm,rfl,g1,g2⟩,Ev.all g3⟩
 ·right
  have e:m=t.Rules.length:=by omega
  subst e
  refine ⟨(Kl t s t.Rules.length st,fr',nb'),⟨rfl,h3,h4.next ht.1⟩,Ev.all λ n=>?_⟩
  unfold Bw
  rw [if_neg (by simp)]
theorem Yi {t:Ad} (ht:Il t):∃ fr,Dq t (Af t) fr (Af t).length 0/\Ev (λ n=>FF n t) (Af t,fr):=by
 have h0:Gy t [A3]:=⟨by simp,λ s hs=>by simp at hs;subst hs;exact ⟨by decide,by decide,by decide,by decide,by decide,by decide⟩,rfl,λ j s hj h0=>by cases j with|zero=>omega|succ j=>simp at hj⟩
 have loop:∃ r:List Aa×List (List Int),(r.1=Af t/\Dq t r.1 r.2 r.1.length 0) /\
   Ev (λ n=>whl (λ (x:((List Aa)×(List (List Int))×(List (Aa×Int))×Int))=>Cv n t x.1 x.2.1 x.2.2.1 x.2.2.2) n ([A3],([[]]:List (List Int)),(Mg A3 0 []),0)) r:=by
  refine Ev.whlR (body:=λ n x=>Cv n t x.1 x.2.1 x.2.2.1 x.2.2.2) (λ k x=>∃ i:Nat,i<=x.1.length/\k=800-i/\Tp t (800-i) i x.1=Af t/\x.2.2.2=(i:Int)/\Gy t x.1/\Jl x.1 x.2.2.1/\Dq t x.1 x.2.1 i 0) ?_ 800 _ ⟨0,by simp,by omega,rfl,rfl,h0,?_,?_⟩
  ·rintro k ⟨st,fr,nb,i'⟩ ⟨i,hil,rfl,hb,hi',hF,hN,hR⟩
   simp only at hil hb hi' hF hN hR
   subst hi'
   have hlen:=hF.len
   rcases Nat.lt_or_ge i st.length with hlt|hge
   ·left
    have hi:st[i]? = some st[i]:=Jlg hlt
    obtain ⟨r,⟨g1,g2,g3⟩,g4⟩:=Jdq ht hF hi hN hR
    have hexp:=hF.exp ht hi _ (Nat.le_refl _)
    refine ⟨(r.1,r.2.1,r.2.2,((i+1:Nat):Int)),800-(i+1),by omega,⟨i+1,?_,rfl,?_,rfl,by rw [g1];exact hexp,g2,g3⟩,?_⟩
    ·simp only [g1]
     have:=(Ho t st[i] st t.Rules.length).length_le
     omega
    ·simp only [g1]
     rw [← hb]
     have e:800-i=(800-(i+1))+1:=by omega
     rw [e]
     simp only [Tp,hi]
    ·refine (Ev.bind g4 (g:=λ _ y2=>some (.inl (y2.1,y2.2.1,y2.2.2,((i+1:Nat):Int)))) Ev.const).congr λ n=>?_
     unfold Cv
     rw [if_pos (by simpa using hlt)]
     have hinc:Ar .i64 (i:Int) 1=((i+1:Nat):Int):=by rw [Qx (by omega) (by omega)];rfl
     rw [hinc]
   ·right
    have e:i=st.length:=by omega
    subst e
    have hst:st=Af t:=by
     rw [← hb]
     have e:800-st.length=(800-(st.length+1))+1:=by omega
     rw [e]
     simp [Tp]
    refine ⟨(st,fr),⟨hst,hR⟩,Ev.all λ n=>?_⟩
    unfold Cv
    rw [if_neg (by simp)]
  ·intro s
   simp only [Mg,Gi]
   by_cases e:s=A3
   ·subst e;simp
   ·have:¬ A3=s:=λ h=>e h.symm
    simp [e,this]
  ·refine ⟨rfl,λ j s k ht=>?_,λ n l hl x hx=>?_,λ n l hl j s k s' ht=>?_,λ n l hl=>?_⟩
   ·unfold Im at ht;omega
   ·cases n with
    | zero=>simp at hl;subst hl;simp at hx
    | succ n=>simp at hl
   ·unfold Im at ht;omega
   ·cases n with
    | zero=>simp at hl;subst hl;simp
    | succ n=>simp at hl
 obtain ⟨⟨st,fr⟩,⟨g1,g2⟩,g3⟩:=loop
 simp only at g1 g2
 subst g1
 refine ⟨fr,g2,?_⟩
 have hs:∀ n,JV n=some A3:=λ n=>rfl
 refine (Ev.bind g3 (g:=λ _ y3=>some (y3.1,y3.2)) Ev.const).congr λ n=>?_
 unfold FF
 rw [hs,Option.bind_some]
theorem Yj {t:Ad} (ht:Il t):Ev (λ n=>GK n t) (Af t):=by
 obtain ⟨fr,_,h⟩:=Yi ht
 exact (Ev.bind h (g:=λ _ r=>some r.1) Ev.const).congr λ n=>rfl
end Go.AI
end
section
namespace Go.AI
def Tot {α:Type} (f:Nat->Option α) (P:α->Prop):Prop:=∃ z,P z/\Ev f z
def Rd2 {σ ρ:Type} (I:σ->Prop) (P:ρ->Prop):σ⊕ρ->Prop
 | .inl y=>I y
 | .inr r=>P r
variable {α β σ ρ:Type} {P R:α->Prop}
theorem Tot.ev {f:Nat->Option α} {z:α} (h:Tot f (λ x=>x=z)):Ev f z:=by obtain ⟨_,rfl,h⟩:=h;exact h
theorem Ev.tot {f:Nat->Option α} {z:α} (h:Ev f z) (hp:P z):Tot f P:=⟨z,hp,h⟩
theorem Tot.pure {z:α} (h:P z):Tot (λ _=>some z) P:=⟨z,h,Ev.const⟩
theorem Tot.mono {f:Nat->Option α} (h:Tot f R) (hp:∀ x,R x->P x):Tot f P:=by obtain ⟨z,hz,h⟩:=h;exact ⟨z,hp z hz,h⟩
theorem Tot.bind {f:Nat->Option β} {g:Nat->β->Option α} {R:β->Prop} (h:Tot f R) (k:∀ x,R x->Tot (λ n=>g n x) P):Tot (λ n=>(f n).bind (g n)) P:=by
 obtain ⟨x,hx,h⟩:=h
 obtain ⟨z,hz,h'⟩:=k x hx
 exact ⟨z,hz,Ev.bind h h'⟩
theorem Tot.bindE {f:Nat->Option β} {g:Nat->β->Option α} {x:β} (h:Ev f x) (k:Tot (λ n=>g n x) P):Tot (λ n=>(f n).bind (g n)) P:=by
 obtain ⟨z,hz,h'⟩:=k
 exact ⟨z,hz,Ev.bind h h'⟩
theorem Tot.bindC {x:Option β} {y:β} {g:Nat->β->Option α} (h:x=some y) (k:Tot (λ n=>g n y) P):Tot (λ n=>x.bind (g n)) P:=by subst h;exact k
theorem Tot.bindA {f:Nat->Option β} {y:β} {g:Nat->β->Option α} (h:∀ n,f n=some y) (k:Tot (λ n=>g n y) P):Tot (λ n=>(f n).bind (g n)) P:=Tot.bindE (Ev.all h) k
theorem Tot.ite {c:Bool} {a b:Nat->Option α} (h1:c=true->Tot a P) (h2:c=false->Tot b P):Tot (λ n=>if c=true then a n else b n) P:=by
 cases c with
 | true=>exact h1 rfl
 | false=>exact h2 rfl
theorem Tot.iteT {c:Bool} {a b:Nat->Option α} (h:c=true) (k:Tot a P):Tot (λ n=>if c=true then a n else b n) P:=by subst h;exact k
theorem Tot.iteF {c:Bool} {a b:Nat->Option α} (h:c=false) (k:Tot b P):Tot (λ n=>if c=true then a n else b n) P:=by subst h;exact k
theorem Tot.guard {c:Bool} {f:Nat->Option β} {d:β} {g:Nat->β->Option α} {R:β->Prop} (h:c=true->Tot f R) (k:∀ x,(c=true->R x)->Tot (λ n=>g n x) P):Tot (λ n=>(if c=true then f n else some d).bind (g n)) P:=by
 cases c with
 | true=>exact Tot.bind (h rfl) λ x hx=>k x λ _=>hx
 | false=>exact k d λ h=>by cases h
theorem Tot.whl {body:Nat->σ->Option (σ⊕ρ)} {P:ρ->Prop} (I:Nat->σ->Prop) (h:∀ k x,I k x->Tot (λ n=>body n x) (Rd2 (λ y=>∃ j,j<k/\I j y) P)):∀ (k:Nat) (x:σ),I k x->Tot (λ n=>Go.AI.whl (body n) n x) P:=by
 have key:∀ (k:Nat) (x:σ),I k x->∃ r,P r/\∃ N c,∀ n fuel,N<=n->c<=fuel->Go.AI.whl (body n) fuel x=some r:=by
  intro k
  induction k using Nat.strongRecOn with
  | _ k ih=>
   intro x hx
   obtain ⟨z,hz,N1,h1⟩:=h k x hx
   cases z with
   | inl y=>
    obtain ⟨j,hj,hy⟩:=hz
    obtain ⟨r,hr,N2,c,h2⟩:=ih j hj y hy
    refine ⟨r,hr,max N1 N2,c+1,λ n fuel hn hf=>?_⟩
    cases fuel with
    | zero=>omega
    | succ fuel=>
     have e:=h1 n (by omega)
     simp only at e
     simp only [Go.AI.whl,e]
     exact h2 n fuel (by omega) (by omega)
   | inr r=>
    refine ⟨r,hz,N1,1,λ n fuel hn hf=>?_⟩
    cases fuel with
    | zero=>omega
    | succ fuel=>
     have e:=h1 n hn
     simp only at e
     simp only [Go.AI.whl,e]
 intro k x hx
 obtain ⟨r,hr,N,c,hh⟩:=key k x hx
 exact ⟨r,hr,max N c,λ m hm=>hh m m (by omega) (by omega)⟩
theorem Tot.upto {body:Nat->σ->Option (σ⊕ρ)} {P:ρ->Prop} (N:Nat) (I:Nat->σ->Prop)
  (step:∀ i x,i<N->I i x->Tot (λ n=>body n x) (Rd2 (I (i+1)) P))
  (last:∀ x,I N x->Tot (λ n=>body n x) (Rd2 (λ _=>False) P)) (x:σ) (h0:I 0 x):Tot (λ n=>Go.AI.whl (body n) n x) P:=by
 refine Tot.whl (body:=body) (λ k x=>∃ i,i<=N/\k=N-i/\I i x) ?_ N x ⟨0,by omega,by omega,h0⟩
 rintro k x ⟨i,hi,rfl,hx⟩
 rcases Nat.lt_or_ge i N with hlt|hge
 ·refine (step i x hlt hx).mono λ z hz=>?_
  cases z with
  | inl y=>exact ⟨N-(i+1),by omega,i+1,by omega,rfl,hz⟩
  | inr r=>exact hz
 ·have:i=N:=by omega
  subst this
  refine (last x hx).mono λ z hz=>?_
  cases z with
  | inl y=>exact hz.elim
  | inr r=>exact hz
theorem CC {l:List α} {i:Nat} {x:α} (h:l[i]? = some x):idx l (i:Int)=some x:=by
 unfold idx
 rw [if_pos (by omega)]
 simpa using h
theorem Oj {l:List α} {i:Nat} (h:i<l.length):idx l (i:Int)=some l[i]:=CC (Jlg h)
theorem Gg {eb:Nat} {xs ys:List α} (h:(xs.length+ys.length)*eb<=70368744177664):app eb xs ys=some (xs++ys):=by
 unfold app;rw [if_pos h]
theorem Lm {l:List α} {i:Nat} {y:α} (h:i<l.length):put l (i:Int) y=some (l.set i y):=by
 unfold put;rw [if_pos (by omega),Jlq]
theorem Jdr {x y:List UInt8} (h:x.length+y.length<=9223372036854775807):cat x y=some (x++y):=by
 unfold cat;rw [if_pos h]
end Go.AI
end
section
namespace Go.AI
theorem Jfa (a:Int):IntKind.i64.wrap a=if decide (a % 18446744073709551616>=9223372036854775808)=true then a % 18446744073709551616-18446744073709551616 else a % 18446744073709551616:=rfl
theorem w64 {a:Int} (h:-9223372036854775808<=a) (h':a<9223372036854775808):IntKind.i64.wrap a=a:=by
 rw [Jfa]
 simp only [decide_eq_true_eq]
 split<;>omega
theorem MP {a b:Int} (h:-9223372036854775808<=a+b) (h':a+b<9223372036854775808):Ar .i64 a b=a+b:=w64 h h'
theorem Xf {a b:Int} (h:-9223372036854775808<=a-b) (h':a-b<9223372036854775808):G9 .i64 a b=a-b:=w64 h h'
theorem EN {i:Nat} (h:i<9223372036854775807):Ar .i64 (i:Int) 1=((i+1:Nat):Int):=by rw [MP]<;>omega
theorem Qy {a m:Int} (h:0<=a) (hm:0<m):Bv a m=a % m/\0<=Bv a m/\Bv a m<m:=by
 have e:Bv a m=a % m:=by unfold Bv;rw [Int.tmod_eq_emod_of_nonneg h]
 rw [e];exact ⟨rfl,Int.emod_nonneg _ (by omega),Int.emod_lt_of_pos _ hm⟩
variable {α β σ ρ:Type}
theorem JkE [Inhabited α] {l:List α} {i:Int} (h:0<=i) (h':i<l.length):idx l i=some (l.getD i.toNat default):=by
 unfold idx
 rw [if_pos h,Jlp,Jlg (by omega)];rfl
theorem GU [Inhabited α] {l:List α} {i:Nat} (h:i<l.length):idx l (i:Int)=some (l.getD i default):=by
 rw [JkE (by omega) (by omega),Jlq]
theorem Jds {l:List α} {a b:Int} (h:0<=a) (h1:a<=b) (h2:b<=l.length):sub l a b=some ((l.take b.toNat).drop a.toNat):=by
 unfold sub;rw [if_pos ⟨h,h1,h2⟩]
theorem VL {l:List α} {k:Nat} (h:k<=l.length):sub l 0 (k:Int)=some (l.take k):=by
 rw [Jds (by omega) (by omega) (by omega)];simp
theorem Q1 {eb:Nat} {k:Int} {z:α} (h:0<=k) (h':k.toNat*eb<=70368744177664):mkl eb k z=some (List.replicate k.toNat z):=by
 unfold mkl;rw [if_pos ⟨h,h'⟩]
theorem DU {b:Bool} (h:b=true):B0 b=some ():=by subst h;rfl
theorem Tot.gE {P:α->Prop} {c:Bool} {f:Nat->Option β} {d x:β} {g:Nat->β->Option α} (hc:c=true) (h:Ev f x) (k:Tot (λ n=>g n x) P):Tot (λ n=>(if c=true then f n else some d).bind (g n)) P:=by
 subst hc;exact Tot.bindE h k
theorem Tot.gF {P:α->Prop} {c:Bool} {f:Nat->Option β} {d:β} {g:Nat->β->Option α} (hc:c=false) (k:Tot (λ n=>g n d) P):Tot (λ n=>(if c=true then f n else some d).bind (g n)) P:=by
 subst hc;exact k
end Go.AI
end
section
namespace Go.AI
def scan {ρ:Type} (N:Nat) (stop:Nat->Option ρ):Unit⊕ρ:=match (List.range N).findSome? stop with
 | some r=>.inr r
 | none=>.inl ()
theorem Gh {ρ:Type} {body:Nat->Int->Option (Int⊕(Unit⊕ρ))} (N:Nat) (stop:Nat->Option ρ)
  (h:∀ i,i<N->Ev (λ n=>body n (i:Int)) (match stop i with|some r=>.inr (.inr r)|none=>.inl ((i+1:Nat):Int)))
  (h2:Ev (λ n=>body n (N:Int)) (.inr (.inl ()))):Ev (λ n=>whl (body n) n 0) (AI.scan N stop):=by
 have key:∀ (k i:Nat),i+k=N->(List.range N).findSome? stop=((List.range k).map (i+·)).findSome? stop->∃ M c,∀ n fuel,M<=n->c<=fuel->whl (body n) fuel (i:Int)=some (AI.scan N stop):=by
  intro k
  induction k with
  | zero=>
   intro i hi hf
   have:i=N:=by omega
   subst this
   obtain ⟨M,hM⟩:=h2
   refine ⟨M,1,λ n fuel hn hfu=>?_⟩
   obtain ⟨fuel,rfl⟩:∃ f,fuel=f+1:=⟨fuel-1,by omega⟩
   have e:=hM n hn
   simp only at e
   simp only [AI.whl,e]
   unfold AI.scan
   rw [hf];rfl
  | succ k ih=>
   intro i hi hf
   obtain ⟨M,hM⟩:=h i (by omega)
   have hs:(List.range (k+1)).map (i+·)=i::(List.range k).map ((i+1)+·):=by
    rw [List.range_succ_eq_map]
    simp only [List.map_cons,Nat.add_zero,List.map_map,List.cons.injEq,true_and]
    apply List.map_congr_left
    intro a _
    simp only [Function.comp];omega
   rw [hs,List.findSome?_cons] at hf
   cases hst:stop i with
   | some r=>
    rw [hst] at hf hM
    refine ⟨M,1,λ n fuel hn hfu=>?_⟩
    obtain ⟨fuel,rfl⟩:∃ f,fuel=f+1:=⟨fuel-1,by omega⟩
    have e:=hM n hn
    simp only at e
    simp only [AI.whl,e]
    unfold AI.scan
    rw [hf]
   | none=>
    rw [hst] at hf hM
    obtain ⟨M2,c,h3⟩:=ih (i+1) (by omega) hf
    refine ⟨max M M2,c+1,λ n fuel hn hfu=>?_⟩
    obtain ⟨fuel,rfl⟩:∃ f,fuel=f+1:=⟨fuel-1,by omega⟩
    have e:=hM n (by omega)
    simp only at e
    simp only [AI.whl,e]
    exact h3 n fuel (by omega) (by omega)
 obtain ⟨M,c,hh⟩:=key N 0 (by omega) (by simp)
 exact ⟨max M c,λ m hm=>hh m m (by omega) (by omega)⟩
theorem HX {ρ:Type} {N:Nat} {stop:Nat->Option ρ} (h:∀ i,i<N->stop i=none):scan N stop=.inl ():=by
 unfold scan
 rw [List.findSome?_eq_none_iff.2 λ i hi=>h i (List.mem_range.1 hi)]
theorem HY {ρ:Type} {N:Nat} {stop:Nat->Option ρ} {i:Nat} (hi:i<N) (h:(stop i).isSome=true):∃ k r,k<N/\stop k=some r/\scan N stop=.inr r:=by
 unfold scan
 cases hf:(List.range N).findSome? stop with
 | none=>rw [List.findSome?_eq_none_iff.1 hf i (List.mem_range.2 hi)] at h;cases h
 | some r=>
  obtain ⟨k,hk,hr⟩:=List.exists_of_findSome?_eq_some hf
  exact ⟨k,r,List.mem_range.1 hk,hr,rfl⟩
def Pr (b:UInt8):Int:=(b.toNat:Int)
def Io (b:UInt8):Bool:=decide (Cp .u8 (Pr b) 127>=32)&&decide (Cp .u8 (Pr b) 127<=126)
def D1 (b:UInt8):Bool:=Cp .u8 (Pr b) 127==32
theorem Ps {s:List UInt8} {i:Nat} {b:UInt8} (h:s[i]? = some b):Nd s (i:Int)=some (Pr b):=by
 rw [Lj (Al h)]
 unfold Q0 Pr
 rw [h];rfl
theorem Fx {i n:Nat} (h:i<n):decide ((i:Int)<((n:Nat):Int))=true:=by simpa using h
theorem Xg (n:Nat):decide (((n:Nat):Int)<((n:Nat):Int))=false:=by simp
def Hp (s:List UInt8):Int×Int:=match scan s.length (λ i=>if Io (s.getD i 0) then none else some ((i:Int),(60:Int))) with
 | .inl _=>(((s.length:Nat):Int),0)
 | .inr p=>p
theorem Cj {α:Type} {l:List α} {i:Nat} {d:α} (h:i<l.length):l.getD i d=l[i]:=by
 rw [Jlp,Jlg h];rfl
theorem YX {s:List UInt8} (hl:s.length<9223372036854775807):Ev (λ n=>FY n s) (Hp s):=by
 unfold FY Hp
 refine Ev.bind (Gh s.length (λ i=>if Io (s.getD i 0) then none else some ((i:Int),(60:Int))) (λ i hi=>Ev.all λ n=>?_) (Ev.all λ n=>?_)) ?_
 ·unfold FE
  have hg:s[i]? = some s[i]:=Jlg hi
  rw [if_pos (Fx hi),Ps hg,Cj hi]
  have hc:DF n (Pr s[i])=some (Io s[i]):=rfl
  simp only [Option.bind_some,hc]
  cases Io s[i] with
  | true=>simp [EN (show i<9223372036854775807 by omega)]
  | false=>simp
 ·unfold FE
  rw [if_neg (by simp)]
 ·generalize scan s.length _=z;cases z<;>exact Ev.const
theorem Xh {s:List UInt8} (hl:s.length<9223372036854775807):Ev (λ n=>Mq n s) (Hp s):=by
 unfold Mq Hp
 refine Ev.bind (Gh s.length (λ i=>if Io (s.getD i 0) then none else some ((i:Int),(60:Int))) (λ i hi=>Ev.all λ n=>?_) (Ev.all λ n=>?_)) ?_
 ·unfold IW
  have hg:s[i]? = some s[i]:=Jlg hi
  rw [if_pos (Fx hi),Ps hg,Cj hi]
  have hc:Js n (Pr s[i])=some (Io s[i]):=rfl
  simp only [Option.bind_some,hc]
  cases Io s[i] with
  | true=>simp [EN (show i<9223372036854775807 by omega)]
  | false=>simp
 ·unfold IW
  rw [if_neg (by simp)]
 ·generalize scan s.length _=z;cases z<;>exact Ev.const
theorem Xi {s:List UInt8} (h:s.all Io=true):Hp s=(((s.length:Nat):Int),0):=by
 unfold Hp
 rw [HX λ i hi=>by rw [Cj hi,List.all_eq_true.1 h _ (List.getElem_mem hi)];rfl]
theorem UA {s:List UInt8} (h:s.all Io=false):(Hp s).2=60:=by
 rw [List.all_eq_false] at h
 obtain ⟨b,hb,hc⟩:=h
 obtain ⟨i,hi,e⟩:=List.getElem_of_mem hb
 unfold Hp
 obtain ⟨k,r,hk,hr,hs⟩:=HY (stop:=λ i=>if Io (s.getD i 0) then none else some ((i:Int),(60:Int))) hi (by
  rw [Cj hi,e];simp only [Bool.not_eq_true] at hc;rw [hc];rfl)
 rw [hs]
 simp only at hr ⊢
 split at hr
 ·cases hr
 ·cases hr;rfl
theorem Z7 {s:List UInt8} (hl:s.length<9223372036854775807):Ev (λ n=>KM n s) (s.all Io):=by
 unfold KM
 refine Ev.bind (Xh hl) ?_
 cases h:s.all Io with
 | true=>rw [Xi h];exact Ev.const
 | false=>rw [UA h];exact Ev.const
def CN (r:Az) (m:Int):Bool:=
 r.Print.all Io&&decide (r.Print.length<=4)&&decide (1<=r.Cells.length)&&decide (r.Cells.length<=4) &&
 (decide (1<=r.Left)&&decide (r.Left<=63)&&decide (1<=r.Right)&&decide (r.Right<=63)&&decide (0<=r.From)&&decide (r.From<m)&&decide (0<=r.To)&&decide (r.To<m)) &&
 r.Cells.all (λ c=>decide (c<63)) &&
 (bif r.Print.any D1 then decide (r.Print.length=1)&&decide (r.Cells.length=1)&&r.Cells.any (λ c=>c==0) else !r.Cells.any (λ c=>c==0))
end Go.AI
end
section
namespace Go.AI
theorem Z8 {r:Az} (hl:r.Print.length<9223372036854775807):Ev (λ n=>whl (λ (x:(Bool×Int))=>Ew n r x.1 x.2) n (false,0)) (r.Print.any D1):=by
 refine Ev.whl (body:=λ n x=>Ew n r x.1 x.2) (λ k x=>∃ i:Nat,x.2=(i:Int)/\i<=r.Print.length/\k=r.Print.length-i/\x.1=(r.Print.take i).any D1) ?_ r.Print.length (false,0) ⟨0,rfl,by omega,by omega,by simp⟩
 rintro k ⟨b,i'⟩ ⟨i,h1,hi,rfl,h2⟩
 simp only at h1 h2
 subst h1
 subst h2
 rcases Nat.lt_or_ge i r.Print.length with hlt|hge
 ·left
  have hg:r.Print[i]? = some r.Print[i]:=Jlg hlt
  have hcond:decide ((i:Int)<((r.Print.length:Nat):Int))=true:=by simpa using hlt
  refine ⟨((r.Print.take (i+1)).any D1,((i+1:Nat):Int)),r.Print.length-(i+1),by omega,⟨i+1,rfl,by omega,rfl,rfl⟩,Ev.all λ n=>?_⟩
  unfold Ew
  rw [if_pos hcond]
  have ht:(r.Print.take (i+1)).any D1=((r.Print.take i).any D1||D1 r.Print[i]):=by
   rw [List.take_add_one,hg];simp only [Option.toList_some,List.any_append,List.any_cons,List.any_nil,Bool.or_false]
  have hsp:∀ n,PY n (Pr r.Print[i])=some (D1 r.Print[i]):=λ n=>rfl
  rw [ht,Qx (by omega) (by omega),Ps hg]
  cases (r.Print.take i).any D1 with
  | true=>simp
  | false=>simp [hsp]
 ·right
  have e:i=r.Print.length:=by omega
  subst e
  refine Ev.all λ n=>?_
  unfold Ew
  rw [if_neg (by simp),List.take_length]
theorem Ev.upto {σ ρ:Type} {body:Nat->σ->Option (σ⊕ρ)} {R:ρ->Prop} (N:Nat) (I:Nat->σ->Prop)
  (step:∀ i x,i<N->I i x->(∃ y,I (i+1) y/\Ev (λ n=>body n x) (.inl y))\/∃ r,R r/\Ev (λ n=>body n x) (.inr r))
  (last:∀ x,I N x->∃ r,R r/\Ev (λ n=>body n x) (.inr r)) (x:σ) (h0:I 0 x):∃ r,R r/\Ev (λ n=>Go.AI.whl (body n) n x) r:=by
 refine Ev.whlR (body:=body) (λ k x=>∃ i,i<=N/\k=N-i/\I i x) ?_ N x ⟨0,by omega,by omega,h0⟩
 rintro k x ⟨i,hi,rfl,hx⟩
 rcases Nat.lt_or_ge i N with hlt|hge
 ·rcases step i x hlt hx with ⟨y,hy,hE⟩|h
  ·exact .inl ⟨y,N-(i+1),by omega,⟨i+1,by omega,rfl,hy⟩,hE⟩
  ·exact .inr h
 ·have:i=N:=by omega
  subst this
  exact .inr (last x hx)
theorem Z9 {r:Az} (hl:r.Cells.length<9223372036854775807) (y:Bool):∃ z:Bool⊕Bool,(if r.Cells.all (λ c=>decide (c<63))=true then z=.inl (r.Cells.any (λ c=>c==0)) else z=.inr false)/\Ev (λ n=>whl (λ (x:(Bool×Int))=>DB n r y x.1 x.2) n (false,0)) z:=by
 refine Ev.upto (body:=λ n x=>DB n r y x.1 x.2) r.Cells.length (λ i x=>x.2=(i:Int)/\x.1=(r.Cells.take i).any (λ c=>c==0)/\(r.Cells.take i).all (λ c=>decide (c<63))=true) ?_ ?_ (false,0) ⟨rfl,by simp,by simp⟩
 ·rintro i ⟨b,i'⟩ hlt ⟨h1,h2,h3⟩
  simp only at h1 h2
  subst h1
  subst h2
  have hg:r.Cells[i]? = some r.Cells[i]:=Jlg hlt
  have hcond:decide ((i:Int)<((r.Cells.length:Nat):Int))=true:=by simpa using hlt
  by_cases hc:r.Cells[i]<63
  ·left
   refine ⟨((r.Cells.take (i+1)).any (λ c=>c==0),((i+1:Nat):Int)),⟨rfl,rfl,?_⟩,Ev.all λ n=>?_⟩
   ·rw [List.take_add_one,hg];simp only [Option.toList_some,List.all_append,h3,List.all_cons,decide_eq_true hc,List.all_nil,Bool.and_self]
   ·unfold DB
    have ht:(r.Cells.take (i+1)).any (λ c=>c==0)=((r.Cells.take i).any (λ c=>c==0)||r.Cells[i]==0):=by
     rw [List.take_add_one,hg];simp only [Option.toList_some,List.any_append,List.any_cons,List.any_nil,Bool.or_false]
    rw [if_pos hcond,Ll hg,Option.bind_some,if_neg (by simpa using hc),ht,Qx (by omega) (by omega)]
    cases (r.Cells.take i).any (λ c=>c==0) with
    | true=>simp
    | false=>simp
  ·right
   refine ⟨.inr false,?_,Ev.all λ n=>?_⟩
   ·rw [if_neg]
    intro h
    rw [List.all_eq_true] at h
    exact hc (by simpa using h r.Cells[i] (List.getElem_mem hlt))
   ·unfold DB
    rw [if_pos hcond,Ll hg,Option.bind_some,if_pos (by simp;omega)]
 ·rintro ⟨b,i'⟩ ⟨h1,h2,h3⟩
  simp only at h1 h2
  subst h1
  subst h2
  rw [List.take_length] at h3 ⊢
  refine ⟨.inl (r.Cells.any (λ c=>c==0)),by rw [if_pos h3],Ev.all λ n=>?_⟩
  unfold DB
  rw [if_neg (by simp)]
theorem Jdt {r:Az} (hp:r.Print.length<9223372036854775807) (hc:r.Cells.length<9223372036854775807) (m:Int):Ev (λ n=>M0 n r m) (CN r m):=by
 obtain ⟨z,hz,hE⟩:=Z9 hc (r.Print.any D1)
 have h1:=Z7 hp
 have h2:=Z8 (r:=r) hp
 unfold M0
 refine Ev.bind h1 ?_
 unfold CN
 generalize r.Print.all Io=a
 by_cases g1:((((!a)||(decide (((r.Print.length:Nat):Int)>4)))||(decide (((r.Cells.length:Nat):Int)<1)))||(decide (((r.Cells.length:Nat):Int)>4)))=true
 ·simp only [g1,if_true]
  have:(a&&decide (r.Print.length<=4)&&decide (1<=r.Cells.length)&&decide (r.Cells.length<=4))=false:=by
   rw [← Bool.not_eq_true]
   intro h
   simp only [Jlh,decide_eq_true_eq] at h
   simp only [JlA,decide_eq_true_eq,Bool.not_eq_true'] at g1
   rcases g1 with ((g|g)|g)|g
   ·rw [g] at h;simp at h
   all_goals omega
  rw [this]
  exact Ev.const
 ·simp only [g1]
  by_cases g2:((((((((decide (r.Left<1))||(decide (r.Left>63)))||(decide (r.Right<1)))||(decide (r.Right>63)))||(decide (r.From<0)))||(decide (r.From>=m)))||(decide (r.To<0)))||(decide (r.To>=m)))=true
  ·simp only [g2,if_true]
   have:(decide (1<=r.Left)&&decide (r.Left<=63)&&decide (1<=r.Right)&&decide (r.Right<=63)&&decide (0<=r.From)&&decide (r.From<m)&&decide (0<=r.To)&&decide (r.To<m))=false:=by
    rw [← Bool.not_eq_true]
    intro h
    simp only [Jlh,decide_eq_true_eq] at h
    simp only [JlA,decide_eq_true_eq] at g2
    omega
   rw [this,Bool.and_false]
   exact Ev.const
  ·have e1:(a&&decide (r.Print.length<=4)&&decide (1<=r.Cells.length)&&decide (r.Cells.length<=4))=true:=by
    simp only [JlA,decide_eq_true_eq,Bool.not_eq_true',not_or] at g1
    simp only [Jlh,decide_eq_true_eq]
    refine ⟨⟨⟨by simpa using g1.1.1.1,?_⟩,?_⟩,?_⟩<;>omega
   have e2:(decide (1<=r.Left)&&decide (r.Left<=63)&&decide (1<=r.Right)&&decide (r.Right<=63)&&decide (0<=r.From)&&decide (r.From<m)&&decide (0<=r.To)&&decide (r.To<m))=true:=by
    simp only [JlA,decide_eq_true_eq,not_or] at g2
    simp only [Jlh,decide_eq_true_eq]
    omega
   rw [e1,e2]
   simp only [g2,Jlt,if_false]
   refine Ev.bind h2 (Ev.bind hE ?_)
   split at hz
   ·rename_i h
    subst hz
    rw [h]
    generalize r.Print.any D1=b
    cases b with
    | false=>exact Ev.const
    | true=>
     refine Ev.all λ n=>?_
     simp only [Bool.not_true,Jlt,if_false,Bool.and_true,Bool.true_and,cond_true]
     congr 3<;>rw [Bool.eq_iff_iff]<;>simp<;>omega
   ·rename_i h
    subst hz
    rw [Bool.not_eq_true] at h
    rw [h]
    exact Ev.const
end Go.AI
end
section
namespace Go.AI
theorem Ev.iteT {α:Type} {c:Bool} {a b:Nat->Option α} {z:α} (h:c=true) (k:Ev a z):Ev (λ n=>if c=true then a n else b n) z:=by subst h;exact k
theorem Ev.iteF {α:Type} {c:Bool} {a b:Nat->Option α} {z:α} (h:c=false) (k:Ev b z):Ev (λ n=>if c=true then a n else b n) z:=by subst h;exact k
theorem Ev.bindC {α β:Type} {x:Option β} {y:β} {g:Nat->β->Option α} {z:α} (h:x=some y) (k:Ev (λ n=>g n y) z):Ev (λ n=>x.bind (g n)) z:=by subst h;exact k
theorem Ev.guard {α β:Type} {c:Bool} {f:Nat->Option β} {d x:β} {g:Nat->β->Option α} {z:α} (h:c=true->Ev f x) (k:Ev (λ n=>g n (if c=true then x else d)) z):Ev (λ n=>(if c=true then f n else some d).bind (g n)) z:=by
 cases c with
 | true=>exact Ev.bind (h rfl) k
 | false=>exact k
theorem VM {α β:Type} {a:List α} {b:List β}:(((a.length:Nat):Int) != ((b.length:Nat):Int))=decide (a.length≠b.length):=by
 rw [Bool.eq_iff_iff]
 simp only [bne_iff_ne,ne_eq,decide_eq_true_eq]
 omega
theorem Qz {α:Type} [DecidableEq α] [Inhabited α] (a b:List α) (h:a.length=b.length):scan a.length (λ i=>if a.getD i default=b.getD i default then none else some false)=if a=b then .inl () else .inr false:=by
 by_cases e:a=b
 ·subst e
  rw [if_pos rfl]
  exact HX λ i _=>by rw [if_pos rfl]
 ·rw [if_neg e]
  have:∃ i,i<a.length/\a.getD i default≠b.getD i default:=by
   apply Classical.byContradiction
   intro hn
   refine e (List.ext_getElem h λ i h1 h2=>?_)
   have:=Classical.byContradiction λ hc=>hn ⟨i,h1,hc⟩
   rwa [Cj h1,Cj h2] at this
  obtain ⟨i,hi,hne⟩:=this
  obtain ⟨k,r,_,hr,hs⟩:=HY (stop:=λ i=>if a.getD i default=b.getD i default then none else some false) hi (by rw [if_neg hne];rfl)
  rw [hs]
  split at hr
  ·cases hr
  ·cases hr;rfl
theorem Pt (a b:List Int) (ha:a.length<9223372036854775807):Ev (λ n=>Df n a b) (decide (a=b)):=by
 unfold Df
 rw [VM]
 by_cases h:a.length=b.length
 ·refine Ev.iteF (by simp [h]) ?_
  refine Ev.bind (Gh a.length (λ i=>if a.getD i default=b.getD i default then none else some false) (λ i hi=>Ev.all λ n=>?_) (Ev.all λ n=>?_)) ?_
  ·unfold CU
   rw [if_pos (Fx hi),GU hi,GU (by omega)]
   simp only [Option.bind_some]
   by_cases e:a.getD i default=b.getD i default
   ·rw [if_neg (by simp only [bne_iff_ne,ne_eq];exact λ hh=>hh e),if_pos e,EN (by omega)]
   ·rw [if_pos (by simp only [bne_iff_ne,ne_eq];exact e),if_neg e]
  ·unfold CU
   rw [if_neg (by simp)]
  ·rw [Qz a b h]
   by_cases e:a=b
   ·rw [if_pos e,decide_eq_true e];exact Ev.const
   ·rw [if_neg e,decide_eq_false e];exact Ev.const
 ·refine Ev.iteT (by simp [h]) ?_
  rw [decide_eq_false (λ e=>h (by rw [e]))]
  exact Ev.const
theorem Xj (a b:List Int) (ha:a.length<9223372036854775807):Ev (λ n=>HS n a b) (decide (a=b)):=by
 unfold HS
 rw [VM]
 by_cases h:a.length=b.length
 ·refine Ev.iteF (by simp [h]) ?_
  refine Ev.bind (Gh a.length (λ i=>if a.getD i default=b.getD i default then none else some false) (λ i hi=>Ev.all λ n=>?_) (Ev.all λ n=>?_)) ?_
  ·unfold Eu
   rw [if_pos (Fx hi),GU hi,GU (by omega)]
   simp only [Option.bind_some]
   by_cases e:a.getD i default=b.getD i default
   ·rw [if_neg (by simp only [bne_iff_ne,ne_eq];exact λ hh=>hh e),if_pos e,EN (by omega)]
   ·rw [if_pos (by simp only [bne_iff_ne,ne_eq];exact e),if_neg e]
  ·unfold Eu
   rw [if_neg (by simp)]
  ·rw [Qz a b h]
   by_cases e:a=b
   ·rw [if_pos e,decide_eq_true e];exact Ev.const
   ·rw [if_neg e,decide_eq_false e];exact Ev.const
 ·refine Ev.iteT (by simp [h]) ?_
  rw [decide_eq_false (λ e=>h (by rw [e]))]
  exact Ev.const
theorem YY (a b:Az):decide (a=b)=(a.Print==b.Print&&decide (a.Cells=b.Cells)&&a.Left==b.Left&&a.Right==b.Right&&a.From==b.From&&a.To==b.To):=by
 rw [Bool.eq_iff_iff]
 cases a;cases b
 simp only [decide_eq_true_eq,Az.mk.injEq,Jlh,beq_iff_eq]
 exact ⟨λ ⟨h1,h2,h3,h4,h5,h6⟩=>⟨⟨⟨⟨⟨h1,h2⟩,h3⟩,h4⟩,h5⟩,h6⟩,λ ⟨⟨⟨⟨⟨h1,h2⟩,h3⟩,h4⟩,h5⟩,h6⟩=>⟨h1,h2,h3,h4,h5,h6⟩⟩
theorem Xk (a b:Az) (ha:a.Cells.length<9223372036854775807):Ev (λ n=>HI n a b) (decide (a=b)):=by
 unfold HI
 refine Ev.guard (λ _=>Pt a.Cells b.Cells ha) (Ev.all λ n=>?_)
 rw [YY]
 cases h:(a.Print==b.Print)<;>simp
theorem Jdu (a b:Az) (ha:a.Cells.length<9223372036854775807):Ev (λ n=>HT n a b) (decide (a=b)):=by
 unfold HT
 refine Ev.guard (λ _=>Xj a.Cells b.Cells ha) (Ev.all λ n=>?_)
 rw [YY]
 cases (a.Print==b.Print)<;>cases (a.Left==b.Left)<;>cases (a.Right==b.Right)<;>cases (a.From==b.From)<;>cases (a.To==b.To)<;>simp
theorem Xl (b:UInt8):(Gf (Pr b)==4)=D1 b:=by
 have:∀ k:Nat,k<256->(Gf (k:Int)==4)=(Cp .u8 (k:Int) 127==32):=by decide +kernel
 exact this b.toNat b.toNat_lt
theorem Jdv {s:List UInt8} {f:UInt8->Bool}:scan s.length (λ i=>if f (s.getD i 0) then some true else none)=if s.any f then .inr true else .inl ():=by
 cases h:s.any f with
 | false=>
  rw [List.any_eq_false] at h
  exact HX λ i hi=>by rw [Cj hi,if_neg (h _ (List.getElem_mem hi))]
 | true=>
  rw [List.any_eq_true] at h
  obtain ⟨b,hb,hf⟩:=h
  obtain ⟨i,hi,e⟩:=List.getElem_of_mem hb
  obtain ⟨k,r,_,hr,hs⟩:=HY (stop:=λ i=>if f (s.getD i 0) then some true else none) hi (by rw [Cj hi,e,hf];rfl)
  rw [hs]
  split at hr
  ·cases hr;rfl
  ·cases hr
theorem Xm {s:List UInt8} (hl:s.length<9223372036854775807):Ev (λ n=>Es n s) (s.any D1):=by
 unfold Es
 refine Ev.bind (Gh s.length (λ i=>if D1 (s.getD i 0) then some true else none) (λ i hi=>Ev.all λ n=>?_) (Ev.all λ n=>?_)) ?_
 ·unfold C4
  have hg:s[i]? = some s[i]:=Jlg hi
  rw [if_pos (Fx hi),Ps hg,Cj hi]
  simp only [Option.bind_some,Tm,Xl]
  cases D1 s[i] with
  | true=>simp
  | false=>simp [EN (show i<9223372036854775807 by omega)]
 ·unfold C4
  rw [if_neg (by simp)]
 ·rw [Jdv]
  cases s.any D1<;>exact Ev.const
theorem Jaa {l:List Int} {f:Int->Bool}:scan l.length (λ i=>if f (l.getD i 0) then none else some false)=if l.all f then .inl () else .inr false:=by
 cases h:l.all f with
 | true=>
  rw [List.all_eq_true] at h
  exact HX λ i hi=>by rw [Cj hi,if_pos (h _ (List.getElem_mem hi))]
 | false=>
  rw [List.all_eq_false] at h
  obtain ⟨b,hb,hf⟩:=h
  obtain ⟨i,hi,e⟩:=List.getElem_of_mem hb
  obtain ⟨k,r,_,hr,hs⟩:=HY (stop:=λ i=>if f (l.getD i 0) then none else some false) hi (by rw [Cj hi,e,if_neg hf];rfl)
  rw [hs]
  split at hr
  ·cases hr
  ·cases hr;rfl
def Q2 (c:Int):Bool:=decide (c<63)&&!(c==0)
theorem Jab {r:Az} (hp:r.Print.length<9223372036854775807) (hc:r.Cells.length<9223372036854775807) (m:Int):Ev (λ n=>HR n r m) (CN r m):=by
 unfold HR
 by_cases g1:(((decide (((r.Print.length:Nat):Int)>4))||(decide (((r.Cells.length:Nat):Int)<1)))||(decide (((r.Cells.length:Nat):Int)>4)))=true
 ·refine Ev.iteT g1 ?_
  have:CN r m=false:=by
   rw [← Bool.not_eq_true];intro h
   simp only [CN,Jlh,decide_eq_true_eq] at h
   simp only [JlA,decide_eq_true_eq] at g1
   omega
  rw [this];exact Ev.const
 ·rw [Bool.not_eq_true] at g1
  refine Ev.iteF g1 (Ev.bind (YX hp) ?_)
  cases ha:r.Print.all Io with
  | false=>
   refine Ev.iteT (by rw [UA ha];rfl) ?_
   have:CN r m=false:=by simp [CN,ha]
   rw [this];exact Ev.const
  | true=>
   refine Ev.iteF (by rw [Xi ha];rfl) ?_
   by_cases g2:((((decide (r.Left<1))||(decide (r.Left>63)))||(decide (r.Right<1)))||(decide (r.Right>63)))=true
   ·refine Ev.iteT g2 ?_
    have:CN r m=false:=by
     rw [← Bool.not_eq_true];intro h
     simp only [CN,Jlh,decide_eq_true_eq] at h
     simp only [JlA,decide_eq_true_eq] at g2
     omega
    rw [this];exact Ev.const
   ·rw [Bool.not_eq_true] at g2
    refine Ev.iteF g2 ?_
    by_cases g3:((((decide (r.From<0))||(decide (r.From>=m)))||(decide (r.To<0)))||(decide (r.To>=m)))=true
    ·refine Ev.iteT g3 ?_
     have:CN r m=false:=by
      rw [← Bool.not_eq_true];intro h
      simp only [CN,Jlh,decide_eq_true_eq] at h
      simp only [JlA,decide_eq_true_eq] at g3
      omega
     rw [this];exact Ev.const
    ·rw [Bool.not_eq_true] at g3
     refine Ev.iteF g3 (Ev.bind (Xm hp) ?_)
     simp only [Bool.or_eq_false_iff,decide_eq_false_iff_not] at g1 g2 g3
     have e1:CN r m=(r.Cells.all (λ c=>decide (c<63))&&(bif r.Print.any D1 then decide (r.Print.length=1)&&decide (r.Cells.length=1)&&r.Cells.any (λ c=>c==0) else !r.Cells.any (λ c=>c==0))):=by
      unfold CN
      rw [ha]
      have:(true&&decide (r.Print.length<=4)&&decide (1<=r.Cells.length)&&decide (r.Cells.length<=4)&&(decide (1<=r.Left)&&decide (r.Left<=63)&&decide (1<=r.Right)&&decide (r.Right<=63)&&decide (0<=r.From)&&decide (r.From<m)&&decide (0<=r.To)&&decide (r.To<m)))=true:=by
       simp only [Jlh,decide_eq_true_eq,true_and]
       omega
      rw [this,Bool.true_and]
     rw [e1]
     cases hsp:r.Print.any D1 with
     | true=>
      refine Ev.iteT rfl ?_
      by_cases g4:((((r.Print.length:Nat):Int)==1)&&(((r.Cells.length:Nat):Int)==1))=true
      ·have hl:r.Print.length=1/\r.Cells.length=1:=by
        simp only [Jlh,beq_iff_eq] at g4;omega
       obtain ⟨c,hcell⟩:=List.length_eq_one_iff.1 hl.2
       have hi:idx r.Cells 0=some c:=by rw [hcell];rfl
       simp only [g4,if_true,hi,Option.bind_some]
       refine Ev.all λ n=>?_
       rw [hcell]
       simp only [hl.1,List.all_cons,List.all_nil,List.any_cons,List.any_nil,List.length_cons,List.length_nil,Bool.and_true,Bool.or_false,decide_true,Bool.true_and,cond_true]
       cases h0:(c==0) with
       | false=>simp
       | true=>
        have:c=0:=by simpa using h0
        subst this;rfl
      ·rw [Bool.not_eq_true] at g4
       simp only [g4,Jlt,if_false,Option.bind_some,Bool.false_and]
       refine Ev.all λ n=>?_
       have:(decide (r.Print.length=1)&&decide (r.Cells.length=1))=false:=by
        rw [← Bool.not_eq_true];intro h
        simp only [Jlh,decide_eq_true_eq] at h
        rw [← Bool.not_eq_true] at g4
        apply g4
        simp [h.1,h.2]
       simp [this]
     | false=>
      refine Ev.iteF rfl ?_
      refine Ev.bind (Gh r.Cells.length (λ i=>if Q2 (r.Cells.getD i 0) then none else some false) (λ i hi=>Ev.all λ n=>?_) (Ev.all λ n=>?_)) ?_
      ·unfold Et
       rw [if_pos (Fx hi),GU hi,show r.Cells.getD i default=r.Cells.getD i 0 from rfl]
       generalize r.Cells.getD i 0=c
       simp only [Option.bind_some,JW]
       by_cases hcc:Q2 c=true
       ·simp only [Q2,Jlh,decide_eq_true_eq,Bool.not_eq_true',beq_eq_false_iff_ne,ne_eq] at hcc
        rw [if_neg (by simp;omega),if_pos (by simp [Q2];omega),EN (by omega)]
       ·rw [if_pos (by simp [Q2] at hcc ⊢;omega),if_neg hcc]
      ·unfold Et
       rw [if_neg (by simp)]
      ·rw [Jaa]
       have e2:(r.Cells.all (λ c=>decide (c<63))&&!r.Cells.any (λ c=>c==0))=r.Cells.all Q2:=by
        rw [Bool.eq_iff_iff]
        simp only [Q2,Jlh,List.all_eq_true,Bool.not_eq_true',List.any_eq_false,Bool.not_eq_true]
        exact ⟨λ h x hx=>⟨h.1 x hx,h.2 x hx⟩,λ h=>⟨λ x hx=>(h x hx).1,λ x hx=>(h x hx).2⟩⟩
       simp only [cond_false]
       rw [e2]
       cases r.Cells.all Q2<;>exact Ev.const
end Go.AI
end
section
namespace Go.AI
def Jdw (r:Az):Prop:=r.Print.length<9223372036854775807/\r.Cells.length<9223372036854775807
def Hv (t:Ad):Prop:=t.Rules.length<9223372036854775807/\∀ r∈t.Rules,Jdw r
def Xn (t:Ad) (i:Nat):Unit⊕(Int×Int):=scan i (λ k=>if t.Rules.getD k default=t.Rules.getD i default then some ((i:Int),(20:Int)) else none)
def Ko (t:Ad) (i:Nat):Option (Int×Int):=if CN (t.Rules.getD i default) t.Modes=true then (match Xn t i with | .inl _=>none | .inr p=>some p) else some ((i:Int),20)
def Xo (t:Ad):Bool:=decide (t.Modes<1)||decide (t.Modes>8)||(t.Accept==0)||decide (IntKind.i64.wrap t.Accept>=Sr .i64 1 t.Modes)||decide (((t.Rules.length:Nat):Int)<1)||decide (((t.Rules.length:Nat):Int)>64)
def QA (t:Ad):Int×Int:=if Xo t=true then (-1,1) else match scan t.Rules.length (Ko t) with
 | .inl _=>(0,0)
 | .inr p=>p
theorem Hv.get {t:Ad} (h:Hv t) {i:Nat} (hi:i<t.Rules.length):Jdw (t.Rules.getD i default):=by
 rw [Cj hi];exact h.2 _ (List.getElem_mem hi)
theorem Jac {t:Ad} (ht:Hv t) {i:Nat} (hi:i<t.Rules.length):Ev (λ n=>whl (λ (x:Int)=>F5 n t (i:Int) x) n 0) (Xn t i):=by
 refine Gh i _ (λ k hk=>?_) (Ev.all λ n=>?_)
 ·unfold F5
  refine Ev.iteT (by simpa using hk) (Ev.bindC (GU (by omega)) (Ev.bindC (GU hi) (Ev.bind (Xk _ _ (ht.get (by omega)).2) (Ev.all λ n=>?_))))
  by_cases e:t.Rules.getD k default=t.Rules.getD i default
  ·rw [if_pos (decide_eq_true e),if_pos e]
  ·rw [if_neg (by simpa using e),if_neg e,EN (by have:=ht.1;omega)]
 ·unfold F5
  rw [if_neg (by simp)]
theorem Yk {t:Ad} (ht:Hv t) {i:Nat} (hi:i<t.Rules.length):Ev (λ n=>whl (λ (x:Int)=>Dz n t (i:Int) (t.Rules.getD i default) (t.Rules.take i) x) n 0) (Xn t i):=by
 refine Gh i _ (λ k hk=>?_) (Ev.all λ n=>?_)
 ·unfold Dz
  have hk':k<(t.Rules.take i).length:=by rw [List.length_take];omega
  have hg:(t.Rules.take i).getD k default=t.Rules.getD k default:=by rw [Cj hk',Cj (by omega),List.getElem_take]
  refine Ev.iteT (Fx hk') (Ev.bindC (GU hk') ?_)
  rw [hg]
  refine Ev.bind (Jdu _ _ (ht.get (by omega)).2) (Ev.all λ n=>?_)
  by_cases e:t.Rules.getD k default=t.Rules.getD i default
  ·rw [if_pos (decide_eq_true e),if_pos e]
  ·rw [if_neg (by simpa using e),if_neg e,EN (by have:=ht.1;omega)]
 ·unfold Dz
  rw [if_neg (by simp;omega)]
theorem Jad {t:Ad} (ht:Hv t):Ev (λ n=>whl (λ (x:Int)=>F6 n t x) n 0) (scan t.Rules.length (Ko t)):=by
 refine Gh _ _ (λ i hi=>?_) (Ev.all λ n=>?_)
 ·unfold F6
  refine Ev.iteT (Fx hi) (Ev.bindC (GU hi) (Ev.bind (Jdt (ht.get hi).1 (ht.get hi).2 t.Modes) ?_))
  unfold Ko
  cases CN (t.Rules.getD i default) t.Modes with
  | false=>exact Ev.iteT rfl Ev.const
  | true=>
   refine Ev.iteF rfl (Ev.bind (Jac ht hi) ?_)
   cases Xn t i with
   | inl u=>refine Ev.all λ n=>?_;simp [EN (show i<9223372036854775807 by have:=ht.1;omega)]
   | inr p=>exact Ev.const
 ·unfold F6
  rw [if_neg (by simp)]
theorem Yl {t:Ad} (ht:Hv t):Ev (λ n=>whl (λ (x:Int)=>DA n t x) n 0) (scan t.Rules.length (Ko t)):=by
 refine Gh _ _ (λ i hi=>?_) (Ev.all λ n=>?_)
 ·unfold DA
  refine Ev.iteT (Fx hi) (Ev.bindC (GU hi) (Ev.bind (Jab (ht.get hi).1 (ht.get hi).2 t.Modes) ?_))
  unfold Ko
  cases CN (t.Rules.getD i default) t.Modes with
  | false=>exact Ev.iteT rfl Ev.const
  | true=>
   refine Ev.iteF rfl (Ev.bindC (VL (by omega)) (Ev.bind (Yk ht hi) ?_))
   cases Xn t i with
   | inl u=>refine Ev.all λ n=>?_;simp [EN (show i<9223372036854775807 by have:=ht.1;omega)]
   | inr p=>exact Ev.const
 ·unfold DA
  rw [if_neg (by simp)]
theorem Jdx {t:Ad} (ht:Hv t):Ev (λ n=>M1 n t) (QA t):=by
 unfold M1 QA
 refine Ev.bindC (y:=()) ?_ ?_
 ·split
  ·rename_i h
   simp only [Bool.not_eq_true',Bool.or_eq_false_iff,decide_eq_false_iff_not] at h
   exact DU (by simp;omega)
  ·rfl
 ·show Ev (λ n=>if Xo t=true then _ else _) _
  cases Xo t with
  | true=>exact Ev.iteT rfl Ev.const
  | false=>
   refine Ev.iteF rfl (Ev.bind (Jad ht) ?_)
   generalize scan t.Rules.length _=z
   cases z<;>exact Ev.const
theorem Jae {t:Ad} (ht:Hv t):Ev (λ n=>HU n t) (QA t):=by
 unfold HU QA Xo
 cases h1:((decide (t.Modes<1))||(decide (t.Modes>8))) with
 | true=>exact Ev.iteT rfl (by simp only [Bool.true_or,if_true];exact Ev.const)
 | false=>
  refine Ev.iteF rfl (Ev.bindC (y:=()) ?_ ?_)
  ·split
   ·simp only [Bool.or_eq_false_iff,decide_eq_false_iff_not] at h1
    exact DU (by simp;omega)
   ·rfl
  ·simp only [Bool.false_or]
   cases h2:((t.Accept==0)||(decide (IntKind.i64.wrap t.Accept>=Sr .i64 1 t.Modes))) with
   | true=>exact Ev.iteT rfl (by simp only [Bool.true_or,if_true];exact Ev.const)
   | false=>
    refine Ev.iteF rfl ?_
    simp only [Bool.false_or]
    cases h3:((decide (((t.Rules.length:Nat):Int)<1))||(decide (((t.Rules.length:Nat):Int)>64))) with
    | true=>exact Ev.iteT rfl (by simp only [if_true];exact Ev.const)
    | false=>
     refine Ev.iteF rfl (Ev.bind (Yl ht) ?_)
     simp only [Jlt,if_false]
     generalize scan t.Rules.length _=z
     cases z<;>exact Ev.const
def Fy (t:Ad):Bool:=!Xo t&&t.Rules.all (λ r=>CN r t.Modes)&&decide t.Rules.Nodup
theorem Pu (t:Ad):((QA t).2==0)=Fy t:=by
 unfold QA Fy
 cases Xo t with
 | true=>rfl
 | false=>
  simp only [Jlt,if_false,Bool.not_false,Bool.true_and]
  have h20:∀ i p,Ko t i=some p->p.2=20:=by
   intro i p h
   unfold Ko at h
   split at h
   ·split at h
    ·cases h
    ·rename_i q hq
     cases h
     unfold Xn scan at hq
     split at hq
     ·rename_i r hr
      cases hq
      obtain ⟨k,_,hk⟩:=List.exists_of_findSome?_eq_some hr
      split at hk
      ·cases hk;rfl
      ·cases hk
     ·cases hq
   ·cases h;rfl
  have hiff:(∀ i,i<t.Rules.length->Ko t i=none)↔(t.Rules.all (λ r=>CN r t.Modes)&&decide t.Rules.Nodup)=true:=by
   simp only [Jlh,List.all_eq_true,decide_eq_true_eq]
   constructor
   ·intro h
    have hs:∀ i,i<t.Rules.length->CN (t.Rules.getD i default) t.Modes=true:=by
     intro i hi
     have:=h i hi
     unfold Ko at this
     split at this
     ·assumption
     ·cases this
    refine ⟨λ r hr=>?_,?_⟩
    ·obtain ⟨i,hi,e⟩:=List.getElem_of_mem hr
     have:=hs i hi
     rwa [Cj hi,e] at this
    ·rw [List.Nodup,List.pairwise_iff_getElem]
     intro k i hk hi hlt e
     have h0:=h i hi
     unfold Ko at h0
     rw [if_pos (hs i hi)] at h0
     obtain ⟨_,r,_,_,hsc⟩:=HY (N:=i) (stop:=λ k=>if t.Rules.getD k default=t.Rules.getD i default then some ((i:Int),(20:Int)) else none) hlt (by rw [Cj hk,Cj hi,if_pos e];rfl)
     unfold Xn at h0
     rw [hsc] at h0
     cases h0
   ·rintro ⟨h1,h2⟩ i hi
    unfold Ko
    rw [if_pos (by rw [Cj hi];exact h1 _ (List.getElem_mem hi))]
    have:Xn t i=.inl ():=HX λ k hk=>by
     rw [Cj (show k<t.Rules.length by omega),Cj hi,if_neg]
     rw [List.Nodup,List.pairwise_iff_getElem] at h2
     exact h2 k i (by omega) hi hk
    rw [this]
  cases hv:(t.Rules.all (λ r=>CN r t.Modes)&&decide t.Rules.Nodup) with
  | true=>rw [HX (hiff.2 hv)];rfl
  | false=>
   have:¬∀ i,i<t.Rules.length->Ko t i=none:=λ h=>by rw [hiff.1 h] at hv;cases hv
   have:∃ i,i<t.Rules.length/\Ko t i≠none:=Classical.byContradiction λ hn=>this λ i hi=>Classical.byContradiction λ hc=>hn ⟨i,hi,hc⟩
   obtain ⟨i,hi,hne⟩:=this
   obtain ⟨k,r,_,hr,hs⟩:=HY hi (Option.isSome_iff_ne_none.2 hne)
   rw [hs]
   show (r.2==0)=false
   rw [h20 k r hr];rfl
theorem Jdy {t:Ad} (ht:Hv t):Ev (λ n=>PZ n t) (Fy t):=by
 rw [← Pu]
 exact Ev.bind (Jdx ht) Ev.const
theorem Jaf {t:Ad} (ht:Hv t):Ev (λ n=>GM n t) (Fy t):=by
 rw [← Pu]
 exact Ev.bind (Jae ht) Ev.const
theorem Ym {t:Ad} {l:List Az} (h:Fy t=true) (hl:l.Sublist t.Rules) (h1:1<=l.length):Fy ⟨t.Modes,t.Accept,l⟩=true:=by
 unfold Fy Xo at h ⊢
 simp only [Jlh,Bool.not_eq_true',Bool.or_eq_false_iff,decide_eq_false_iff_not,List.all_eq_true,decide_eq_true_eq] at h ⊢
 have hle:=hl.length_le
 exact ⟨⟨⟨⟨h.1.1.1.1,by omega⟩,by omega⟩,λ r hr=>h.1.2 r (hl.subset hr)⟩,hl.nodup h.2⟩
theorem Pv {t:Ad} (h:Fy t=true):∀ r∈t.Rules,CN r t.Modes=true:=by
 unfold Fy at h
 simp only [Jlh,List.all_eq_true] at h
 exact h.1.2
end Go.AI
end
section
namespace Go.AI
def Xp (r:Int):Ad:=(JX 0 r).getD default
theorem VN (n:Nat) (k:Int) (h0:0<=k):JX n k=some (Xp (Bv k 8))/\0<=Bv k 8/\Bv k 8<8:=by
 have e:Bv k 8=k % 8:=by unfold Bv;rw [Int.tmod_eq_emod_of_nonneg h0]
 have hr:Bv k 8=0\/Bv k 8=1\/Bv k 8=2\/Bv k 8=3\/Bv k 8=4\/Bv k 8=5\/Bv k 8=6\/Bv k 8=7:=by rw [e];omega
 rcases hr with h|h|h|h|h|h|h|h
 all_goals
  refine ⟨?_,by omega,by omega⟩
  unfold JX
  rw [h]
  rfl
def VO (r:Az):Bool:=decide (0<=r.To)&&decide (r.To<2)&&decide (0<=r.Right)&&decide (r.Right<=63)&&decide (r.Print.length<=3)
theorem Yn {r:Az} (h:VO r=true):Oi r:=by
 simp only [VO,Jlh,decide_eq_true_eq] at h
 obtain ⟨⟨⟨⟨h1,h2⟩,h3⟩,h4⟩,h5⟩:=h
 exact ⟨h1,h2,h3,h4,h5⟩
def VP (t:Ad):Bool:=decide (t.Rules.length<=8)&&t.Rules.all VO&&decide (1<=t.Modes)&&decide (t.Modes<=2)&&Fy t
theorem Jfb {r:Int} (h:0<=r) (h':r<8):VP (Xp r)=true:=by
 have:∀ k:Nat,k<8->VP (Xp (k:Int))=true:=by decide +kernel
 have e:=this r.toNat (by omega)
 rwa [Int.toNat_of_nonneg h] at e
def U8 (n:Int):Prop:=0<=n/\n<256
def YZ (x:Dj):Prop:=(∀ a∈x.P,U8 a)/\(∀ a∈x.C,U8 a)/\U8 x.L/\U8 x.R/\U8 x.W.a0/\U8 x.W.a1
theorem Em {a m:Int} (h:0<=a) (hm:0<m):0<=Bv a m/\Bv a m<m:=(Qy h hm).2
theorem Ok {α:Type} {l:List α} {i:Int} (h:0<=i) (h':i<l.length):∃ x,x∈l/\idx l i=some x:=by
 have hl:i.toNat<l.length:=by omega
 refine ⟨l[i.toNat],List.getElem_mem hl,?_⟩
 unfold idx
 rw [if_pos h]
 exact Jlg hl
theorem Jfc {α:Type} {l:List α} {i:Int} (h:0<=i) (h':i<l.length):∃ z,z.length=1/\sub l i (i+1)=some z:=by
 refine ⟨(l.take (i+1).toNat).drop i.toNat,?_,?_⟩
 ·simp;omega
 ·unfold sub
  rw [if_pos (by omega)]
def Y0 (a b:Az):Prop:=a.Left=b.Left/\a.Right=b.Right/\a.From=b.From/\a.To=b.To
theorem Jdz (x:Dj) (hx:∀ a∈x.P,U8 a) (r0:Az) (h0:r0.Print=[]):Tot (λ n=>whl (λ (y:(Az×Int))=>FI n x y.1 y.2) n (r0,0)) (λ r=>r.Print.length<=3/\Y0 r r0):=by
 refine Tot.upto (body:=λ n y=>FI n x y.1 y.2) (min x.P.length 3) (λ i y=>y.2=(i:Int)/\y.1.Print.length=i/\Y0 y.1 r0) ?_ ?_ (r0,0) ⟨rfl,by simp [h0],rfl,rfl,rfl,rfl⟩
 ·rintro i ⟨r,i'⟩ hi ⟨h1,h2,h3⟩
  simp only at h1 h2 h3
  subst h1
  obtain ⟨c,hcm,hci⟩:=Ok (l:=x.P) (i:=(i:Int)) (by omega) (by omega)
  have hu:=hx c hcm
  have hr:=Em (m:=9) hu.1 (by omega)
  have hw:IntKind.i64.wrap (Bv c 9)=Bv c 9:=Tl (by omega) (by omega)
  obtain ⟨z,hz1,hz⟩:=Jfc (l:=([97,98,99,65,66,49,50,45,46]:List UInt8)) (i:=Bv c 9) hr.1 (by simpa using hr.2)
  unfold FI
  refine Tot.iteT (by simp only [Jlh,decide_eq_true_eq];omega) (Tot.bindC hci ?_)
  simp only [hw]
  rw [MP (by omega) (by omega)]
  refine Tot.bindC hz (Tot.bindC (Jdr (by omega)) (Tot.pure ⟨EN (by omega),by simp [h2,hz1],h3⟩))
 ·rintro ⟨r,i'⟩ ⟨h1,h2,h3⟩
  simp only at h1 h2 h3
  subst h1
  unfold FI
  exact Tot.iteF (by rw [← Bool.not_eq_true];simp only [Jlh,decide_eq_true_eq];omega) (Tot.pure ⟨by show r.Print.length<=3;omega,h3⟩)
theorem JdA (x:Dj) (hx:∀ a∈x.C,U8 a) (r0:Az) (h0:r0.Cells.length=1):Tot (λ n=>whl (λ (y:(Az×Int))=>FJ n x y.1 y.2) n (r0,0)) (λ r=>(r.Cells.length<=3/\1<=r.Cells.length)/\r.Print=r0.Print/\Y0 r r0):=by
 refine Tot.upto (body:=λ n y=>FJ n x y.1 y.2) (min x.C.length 2) (λ i y=>y.2=(i:Int)/\y.1.Cells.length=i+1/\y.1.Print=r0.Print/\Y0 y.1 r0) ?_ ?_ (r0,0) ⟨rfl,by simp [h0],rfl,rfl,rfl,rfl,rfl⟩
 ·rintro i ⟨r,i'⟩ hi ⟨h1,h2,h3,h4⟩
  simp only at h1 h2 h3 h4
  subst h1
  obtain ⟨c,hcm,hci⟩:=Ok (l:=x.C) (i:=(i:Int)) (by omega) (by omega)
  have hu:=hx c hcm
  have hr:=Em (m:=8) hu.1 (by omega)
  obtain ⟨z,_,hz⟩:=Ok (l:=([1,3,9,5,7,32,44,60]:List Int)) (i:=Bv c 8) hr.1 (by simpa using hr.2)
  unfold FJ
  refine Tot.iteT (by simp only [Jlh,decide_eq_true_eq];omega) (Tot.bindC hci (Tot.bindC hz (Tot.bindC (Gg (by simp;omega)) (Tot.pure ⟨EN (by omega),by simp [h2],h3,h4⟩))))
 ·rintro ⟨r,i'⟩ ⟨h1,h2,h3,h4⟩
  simp only at h1 h2 h3 h4
  subst h1
  unfold FJ
  exact Tot.iteF (by rw [← Bool.not_eq_true];simp only [Jlh,decide_eq_true_eq];omega) (Tot.pure ⟨by show r.Cells.length<=3/\1<=r.Cells.length;omega,h3,h4⟩)
theorem Jfd {x:Dj} (hx:YZ x) {m:Int} (hm:1<=m) (hm':m<=2):Tot (λ n=>OU n x m) (λ r=>Oi r/\(r.Cells.length<=3/\1<=r.Cells.length)/\0<=r.From/\r.From<m/\0<=r.To/\r.To<m):=by
 obtain ⟨hP,hC,hL,hR,hW0,hW1⟩:=hx
 have l8:=Em (m:=8) hL.1 (by omega)
 have r8:=Em (m:=8) hR.1 (by omega)
 obtain ⟨a,ham,ha⟩:=Ok (l:=([63,63,2,8,17,62,4,1]:List Int)) (i:=Bv x.L 8) l8.1 (by simpa using l8.2)
 obtain ⟨b,hbm,hb⟩:=Ok (l:=([63,63,2,8,17,62,4,1]:List Int)) (i:=Bv x.R 8) r8.1 (by simpa using r8.2)
 have hq:0<=Jef .u8 x.L 8:=by unfold Jef;exact (Xb _).1
 have q8:=Em (m:=8) hq (by omega)
 obtain ⟨c,_,hc⟩:=Ok (l:=([1,3,9,5,7,32,44,60]:List Int)) (i:=Bv (Jef .u8 x.L 8) 8) q8.1 (by simpa using q8.2)
 have hg:B0 (!(m==0))=some ():=DU (by simp;omega)
 have w0:IntKind.i64.wrap x.W.a0=x.W.a0:=Tl (by have:=hW0.1;omega) (by have:=hW0.2;omega)
 have w1:IntKind.i64.wrap x.W.a1=x.W.a1:=Tl (by have:=hW1.1;omega) (by have:=hW1.2;omega)
 have hfr:=Em (a:=x.W.a0) (m:=m) hW0.1 (by omega)
 have hto:=Em (a:=x.W.a1) (m:=m) hW1.1 (by omega)
 have hbr:0<=b/\b<=63:=by
  simp at hbm
  omega
 unfold OU
 refine Tot.bindC ha (Tot.bindC hb (Tot.bindC hg (Tot.bindC hg (Tot.bind (Jdz x hP _ rfl) ?_))))
 rintro r1 ⟨p1,p2,p3,p4,p5⟩
 refine Tot.bindC hc (Tot.bind (JdA x hC _ rfl) ?_)
 rintro r2 ⟨q1,q2,q3,q4,q5,q6⟩
 simp only at q2 q3 q4 q5 q6
 rw [p3] at q4
 rw [p4] at q5
 rw [p5] at q6
 simp only [w0,w1] at q5 q6 q4
 refine Tot.pure ⟨⟨?_,?_,?_,?_,?_⟩,q1,?_,?_,?_,?_⟩
 all_goals first|(rw [q6];omega)|(rw [q4];omega)|(rw [q5];omega)|(rw [q2];exact p1)
def Pw (x:Ng):Prop:=0<=x.Base/\∀ r∈x.More,YZ r
structure Ip (t:Ad):Prop where
 tab:Il t
 lo:1<=t.Modes
 hi:t.Modes<=2
 valid:Fy t=true
theorem Ip.sound {t:Ad} (h:Ip t):∀ r∈t.Rules,CN r t.Modes=true:=Pv h.valid
theorem Ol {r:Az} {m:Int} (h:CN r m=true):r.Print.length<=4/\1<=r.Cells.length/\r.Cells.length<=4:=by
 simp only [CN,Jlh,decide_eq_true_eq] at h
 omega
theorem Ip.small {t:Ad} (h:Ip t):Hv t:=⟨by have:=h.tab.1;omega,λ r hr=>by have:=Ol (h.sound r hr);exact ⟨by omega,by omega⟩⟩
theorem JdB (x:Ng) (b:Ad) (hb:b.Rules.length<=8):Tot (λ n=>whl (λ (y:(Ad×Int))=>FK n x b y.1 y.2) n (({ Modes:=b.Modes,Accept:=b.Accept,Rules:=[] }:Ad),0)) (λ t=>t.Modes=b.Modes/\t.Accept=b.Accept/\t.Rules.Sublist b.Rules):=by
 refine Tot.upto (body:=λ n y=>FK n x b y.1 y.2) b.Rules.length (λ i y=>y.2=(i:Int)/\y.1.Modes=b.Modes/\y.1.Accept=b.Accept/\y.1.Rules.Sublist (b.Rules.take i)) ?_ ?_ _ ⟨rfl,rfl,rfl,by simp⟩
 ·rintro i ⟨t,i'⟩ hi ⟨h1,h2,h3,h4⟩
  simp only at h1 h2 h3 h4
  subst h1
  have ht:b.Rules.take (i+1)=b.Rules.take i++[b.Rules.getD i default]:=by rw [List.take_add_one,Cj hi,Jlg hi];rfl
  have hlen:=h4.length_le
  rw [List.length_take] at hlen
  unfold FK
  refine Tot.iteT (Fx hi) (Tot.bindC (DU (by simp)) (Tot.ite (λ _=>Tot.bindC (GU hi) (Tot.bindC (Gg (by simp;omega)) ?_)) λ _=>?_))
  ·unfold Hd
   exact Tot.pure ⟨EN (by omega),h2,h3,by rw [ht];exact h4.append (List.Sublist.refl _)⟩
  ·unfold Hd
   exact Tot.pure ⟨EN (by omega),h2,h3,by rw [ht];exact h4.trans (List.sublist_append_left _ _)⟩
 ·rintro ⟨t,i'⟩ ⟨h1,h2,h3,h4⟩
  simp only at h1 h2 h3 h4
  subst h1
  rw [List.take_length] at h4
  unfold FK
  exact Tot.iteF (by simp) (Tot.pure ⟨h2,h3,h4⟩)
structure Jje (b t:Ad):Prop where
 modes:t.Modes=b.Modes
 accept:t.Accept=b.Accept
 rules:∀ r∈t.Rules,Oi r/\r.Cells.length<=4
 valid:t.Rules=[]\/Fy t=true
theorem Jag {t:Ad} (hl:t.Rules.length<=11) (h:∀ r∈t.Rules,Oi r/\r.Cells.length<=4):Hv t:=⟨by omega,λ r hr=>⟨by have:=(h r hr).1.2.2.2.2;omega,by have:=(h r hr).2;omega⟩⟩
theorem JdC (x:Ng) (hx:∀ r∈x.More,YZ r) (b t0:Ad) (hlo:1<=b.Modes) (hhi:b.Modes<=2) (h0:Jje b t0) (hl0:t0.Rules.length<=8):Tot (λ n=>whl (λ (y:(Ad×Int))=>FL n x b y.1 y.2) n (t0,0)) (λ t=>Jje b t/\t.Rules.length<=10):=by
 refine Tot.upto (body:=λ n y=>FL n x b y.1 y.2) (min x.More.length 2) (λ i y=>y.2=(i:Int)/\Jje b y.1/\y.1.Rules.length<=8+i) ?_ ?_ _ ⟨rfl,h0,by simpa using hl0⟩
 ·rintro i ⟨t,i'⟩ hi ⟨h1,h2,h3⟩
  simp only at h1 h2 h3
  subst h1
  unfold FL
  refine Tot.iteT (by simp only [Jlh,decide_eq_true_eq];omega) (Tot.bindC (Oj (by omega)) ?_)
  rw [h2.modes]
  refine Tot.bind (Jfd (hx _ (List.getElem_mem _)) hlo hhi) ?_
  rintro r ⟨hr1,hr2,-⟩
  refine Tot.bindC (Gg (by simp;omega)) ?_
  have hall:∀ q∈t.Rules++[r],Oi q/\q.Cells.length<=4:=by
   intro q hq
   simp only [List.mem_append,List.mem_singleton] at hq
   rcases hq with hq|rfl
   ·exact h2.rules q hq
   ·exact ⟨hr1,by omega⟩
  refine Tot.bindE (Jdy (Jag (t:=⟨b.Modes,t.Accept,t.Rules++[r]⟩) (by simp;omega) hall)) ?_
  refine Tot.ite (λ _=>?_) λ hv=>?_
  ·have e:G9 .i64 ((List.length (t.Rules++[r]):Nat):Int) 1=(t.Rules.length:Nat):=by
    rw [Xf (by simp<;>omega) (by simp<;>omega)];simp
   rw [e]
   refine Tot.bindC (VL (by simp)) ?_
   unfold He
   rw [List.take_left' rfl]
   exact Tot.pure ⟨EN (by omega),⟨rfl,h2.accept,h2.rules,by have:=h2.valid;have hm:=h2.modes;cases t;simp only at hm this ⊢;subst hm;exact this⟩,by simp only;omega⟩
  ·unfold He
   exact Tot.pure ⟨EN (by omega),⟨rfl,h2.accept,hall,.inr (by simpa using hv)⟩,by simp;omega⟩
 ·rintro ⟨t,i'⟩ ⟨h1,h2,h3⟩
  simp only at h1 h2 h3
  subst h1
  unfold FL
  exact Tot.iteF (by rw [← Bool.not_eq_true];simp only [Jlh,decide_eq_true_eq];omega) (Tot.pure ⟨h2,by show t.Rules.length<=10;omega⟩)
theorem Jah {x:Ng} (hx:Pw x):∃ t,(Ip t/\1<=t.Rules.length/\t.Rules.length<=10)/\Ev (λ n=>JY n x) t:=by
 have hb:∀ n,JX n x.Base=some (Xp (Bv x.Base 8)):=λ n=>(VN n x.Base hx.1).1
 have hok:=Jfb (VN 0 x.Base hx.1).2.1 (VN 0 x.Base hx.1).2.2
 generalize Xp (Bv x.Base 8)=b at *
 unfold VP at hok
 simp only [Jlh,decide_eq_true_eq,List.all_eq_true] at hok
 obtain ⟨⟨⟨⟨o1,o2⟩,o3⟩,o4⟩,o5⟩:=hok
 have gb:∀ r∈b.Rules,Oi r/\r.Cells.length<=4:=λ r hr=>⟨Yn (o2 r hr),(Ol (Pv o5 r hr)).2.2⟩
 have hne:∀ t:Ad,Fy t=true->1<=t.Rules.length:=λ t h=>by
  unfold Fy Xo at h
  simp only [Jlh,Bool.not_eq_true',Bool.or_eq_false_iff,decide_eq_false_iff_not] at h
  omega
 have:Tot (λ n=>JY n x) (λ t=>Ip t/\1<=t.Rules.length/\t.Rules.length<=10):=by
  unfold JY
  refine Tot.bindA hb (Tot.bind (JdB x b o1) ?_)
  rintro t1 ⟨a1,a2,a3⟩
  refine Tot.bind (JdC x hx.2 b t1 o3 o4 ⟨a1,a2,λ r hr=>gb r (a3.subset hr),?_⟩ (by have:=a3.length_le;omega)) ?_
  ·rcases Nat.eq_zero_or_pos t1.Rules.length with h|h
   ·exact .inl (List.length_eq_zero_iff.1 h)
   ·right
    have:=Ym o5 a3 h
    cases t1
    simp only at a1 a2 this ⊢
    subst a1 a2
    exact this
  rintro t2 ⟨b1,b2⟩
  refine Tot.ite (λ h=>?_) λ h=>?_
  ·unfold Hf
   have e:(⟨t2.Modes,t2.Accept,b.Rules⟩:Ad)=b:=by rw [b1.modes,b1.accept]
   rw [e]
   exact Tot.pure ⟨⟨⟨by omega,λ r hr=>(gb r hr).1⟩,o3,o4,o5⟩,hne b o5,by omega⟩
  ·unfold Hf
   have hv:Fy t2=true:=b1.valid.resolve_left λ e=>by rw [e] at h;cases h
   exact Tot.pure ⟨⟨⟨by omega,λ r hr=>(b1.rules r hr).1⟩,by rw [b1.modes];exact o3,by rw [b1.modes];exact o4,hv⟩,hne t2 hv,b2⟩
 obtain ⟨t,ht,hE⟩:=this
 exact ⟨t,ht,hE⟩
end Go.AI
end
section
namespace Go.AI
def CO (t:Ad) (k:Int):Az:=t.Rules[k.toNat]?.getD default
theorem Cw {t:Ad} {s:Aa} {k:Int} (h:(Au t s k).2=true):0<=k/\k<t.Rules.length:=by
 unfold Au at h
 split at h
 ·cases h
 ·rename_i hk
  simp only [JlA,decide_eq_true_eq,not_or] at hk
  omega
theorem Iq {t:Ad} {k:Int} (h:0<=k) (h':k<t.Rules.length):idx t.Rules k=some (CO t k):=Tn h h'
theorem Ir {t:Ad} {k:Int} (h:0<=k) (h':k<t.Rules.length):CO t k∈t.Rules:=by
 unfold CO
 rw [Jlg (by omega)]
 exact List.getElem_mem _
end Go.AI
end
section
namespace Go.AI
theorem Om {st:List Aa} (hn:st.Nodup) {i:Nat} {s:Aa} (h:st[i]? = some s):BW st s=(i:Int):=by
 unfold BW
 rw [CM hn h]
theorem M6 {st:List Aa} (hn:st.Nodup) {i j:Nat} {s:Aa} (h:st[i]? = some s) (h':st[j]? = some s):i=j:=by
 have a:=CM hn h
 rw [CM hn h'] at a
 cases a;rfl
theorem CP {i:Nat} (h:i<9223372036854775807):Ar .i64 (i:Int) 1=((i+1:Nat):Int):=by
 rw [Qx (by omega) (by omega)];rfl
theorem Cc {st:List Aa} {s:Aa} (h:s∈st):∃ i:Nat,BW st s=i/\st[i]? = some s:=by
 unfold BW
 cases hf:st.findIdx? (λ x=>decide (x=s)) with
 | none=>
  rw [List.findIdx?_eq_none_iff] at hf
  have:=hf s h
  simp at this
 | some i=>
  rw [List.findIdx?_eq_some_iff_getElem] at hf
  obtain ⟨hi,h1,_⟩:=hf
  refine ⟨i,rfl,?_⟩
  rw [Jlg hi]
  simpa using h1
theorem Yo {st:List Aa} {s:Aa} (h:s ∉ st):BW st s=-1:=by
 unfold BW
 rw [HO h]
theorem Tq {st:List Aa} {s:Aa}:BW st s<0↔s ∉ st:=by
 constructor
 ·intro h hm
  obtain ⟨i,e,_⟩:=Cc hm
  omega
 ·intro h
  rw [Yo h];omega
theorem Xq {t:Ad} (ht:Il t) {st:List Aa} (hF:Gy t st) {i:Nat} {s:Aa} (hi:st[i]? = some s):Tot (λ n=>whl (λ (x:((List Aa)×Int))=>DT n t (i:Int) x.1 x.2) n (st,0)) (λ r=>r=Kl t s t.Rules.length st):=by
 have hr:=ht.1
 refine Tot.upto (body:=λ n x=>DT n t (i:Int) x.1 x.2) t.Rules.length (λ k x=>x.2=(k:Int)/\x.1=Kl t s k st) ?_ ?_ _ ⟨rfl,rfl⟩
 ·rintro k ⟨l,k'⟩ hk ⟨e1,e2⟩
  simp only at e1 e2
  subst e1 e2
  have hFk:=hF.exp ht hi k (by omega)
  have hik:=M5 (Ho t s st k) hi
  have hlen:=hFk.len
  unfold DT
  refine Tot.iteT (by simpa using hk) (Tot.bindC (CC hik) (Tot.bindA (λ n=>Pq ht.short n s k) (Tot.guard (R:=λ z=>z=BW (Kl t s k st) (Au t s k).1) (λ _=>(Kk (by dsimp only;omega)).tot rfl) (λ z hz=>?_))))
  have hJ:∀ l',l'=Kl t s (k+1) st->Tot (λ n=>EZ n (k:Int) l') (Rd2 (λ x:List Aa×Int=>x.2=((k+1:Nat):Int)/\x.1=Kl t s (k+1) st) (λ r=>r=Kl t s t.Rules.length st)):=by
   intro l' hl'
   unfold EZ
   exact Tot.pure ⟨CP (by omega),hl'⟩
  have hx:Kl t s (k+1) st=Lk t s (Kl t s k st) k:=Km t s k st
  refine Tot.ite (λ hc=>?_) (λ hc=>?_)
  ·simp only [Jlh,decide_eq_true_eq] at hc
   refine Tot.bindC (Gg (by simp;omega)) (hJ _ ?_)
   rw [hx]
   unfold Lk
   rw [if_pos ⟨hc.1,Tq.1 (by rw [← hz hc.1];exact hc.2)⟩]
  ·refine hJ _ ?_
   rw [hx]
   unfold Lk
   rw [if_neg]
   rintro ⟨h1,h2⟩
   rw [h1,hz h1,decide_eq_true (Tq.2 h2)] at hc
   cases hc
 ·rintro ⟨l,k'⟩ ⟨e1,e2⟩
  simp only at e1 e2
  subst e1 e2
  unfold DT
  exact Tot.iteF (by simp) (Tot.pure rfl)
theorem Jjf (t:Ad):Gy t [A3]:=⟨by simp,λ s hs=>by simp at hs;subst hs;exact ⟨by decide,by decide,by decide,by decide,by decide,by decide⟩,rfl,λ j s hj h0=>by cases j with|zero=>omega|succ j=>simp at hj⟩
theorem MQ {t:Ad} (ht:Il t):Ev (λ n=>GN n t) (Af t):=by
 have loop:Tot (λ n=>whl (λ (x:((List Aa)×Int))=>E0 n t x.1 x.2) n ([A3],0)) (λ r=>r=Af t):=by
  refine Tot.whl (body:=λ n x=>E0 n t x.1 x.2) (λ k x=>∃ i:Nat,i<=x.1.length/\k=800-i/\Tp t (800-i) i x.1=Af t/\x.2=(i:Int)/\Gy t x.1) ?_ 800 _ ⟨0,by simp,by omega,rfl,rfl,Jjf t⟩
  rintro k ⟨st,i'⟩ ⟨i,hil,rfl,hb,hi',hF⟩
  simp only at hil hb hi' hF
  subst hi'
  have hlen:=hF.len
  unfold E0
  refine Tot.ite (λ hc=>?_) (λ hc=>?_)
  ·have hlt:i<st.length:=by simpa using hc
   have hi:st[i]? = some st[i]:=Jlg hlt
   have hexp:=hF.exp ht hi _ (Nat.le_refl _)
   refine Tot.bind (Xq ht hF hi) ?_
   rintro _ rfl
   refine Tot.pure ⟨800-(i+1),by omega,i+1,?_,rfl,?_,?_,hexp⟩
   ·have:=(Ho t st[i] st t.Rules.length).length_le
    dsimp only
    omega
   ·dsimp only
    rw [← hb]
    have e:800-i=(800-(i+1))+1:=by omega
    rw [e]
    simp only [Tp,hi]
   ·exact CP (by omega)
  ·have hge:st.length<=i:=by simpa using hc
   have e:i=st.length:=by omega
   subst e
   refine Tot.pure ?_
   show st=Af t
   rw [← hb]
   have e:800-st.length=(800-(st.length+1))+1:=by omega
   rw [e]
   simp [Tp]
 refine Tot.ev ?_
 unfold GN
 exact Tot.bindA (y:=A3) (λ n=>rfl) (Tot.bind loop λ _ h=>Tot.pure h)
end Go.AI
end
section
namespace Go.AI
def Edge (t:Ad) (st:List Aa) (i:Nat) (k:Nat) (j:Nat):Prop:=∃ s s',st[i]? = some s/\k<t.Rules.length/\st[j]? = some s'/\Au t s (k:Nat)=(s',true)
def Jfe (l:List Bool):Nat:=l.count false
theorem JdD {l:List Bool} {i:Nat} (h:l[i]? = some false):Jfe (l.set i true)+1=Jfe l:=by
 have hi:=Al h
 rw [Jlg hi] at h
 have h':l[i]=false:=by simpa using h
 have hp:0<List.count false l:=List.count_pos_iff.2 (h'▸List.getElem_mem hi)
 unfold Jfe
 rw [List.count_set hi,h']
 simp
 omega
end Go.AI
end
section
namespace Go.AI
def On (t:Ad) (s:Aa):List Int->Aa->Prop
 | [],s'=>s=s'
 | k::p,s'=>(Au t s k).2=true/\On t (Au t s k).1 p s'
theorem On.snoc {t:Ad}:∀ {p:List Int} {s s':Aa} {k:Int},On t s p s'->(Au t s' k).2=true->On t s (p++[k]) (Au t s' k).1
 | [],s,s',k,h,h'=>by
  unfold On at h
  subst h
  exact ⟨h',rfl⟩
 | a::p,s,s',k,h,h'=>⟨h.1,On.snoc h.2 h'⟩
theorem On.mem {t:Ad}:∀ {p:List Int} {s s':Aa},On t s p s'->∀ k∈p,0<=k/\k<t.Rules.length
 | [],_,_,_,k,hk=>by cases hk
 | a::p,s,s',h,k,hk=>by
  rcases List.mem_cons.1 hk with rfl|hk
  ·exact Cw h.1
  ·exact On.mem h.2 k hk
def EO (t:Ad) (p:List Int):List UInt8:=p.flatMap λ k=>(CO t k).Print
def cellsOf (t:Ad) (p:List Int):List Int:=p.flatMap λ k=>(CO t k).Cells
end Go.AI
end
section
namespace Go.AI
def Way (t:Ad) (q:Aa) (x:List UInt8) (p:List Int):Prop:=(∃ q',On t q p q'/\Dp t q'=true)/\EO t p=x
def EP (t:Ad) (p:List Int):Nat:=(cellsOf t p).length
def MR (t:Ad) (q:Aa) (x:List UInt8) (v:Int):Prop:=(v=-1/\∀ p,¬Way t q x p)\/∃ p,Way t q x p/\v=(EP t p:Nat)/\∀ p',Way t q x p'->EP t p<=EP t p'
theorem Y1 (t:Ad) (q:Aa) (x:List UInt8):∃ v,MR t q x v:=by
 by_cases h:∃ p,Way t q x p
 ·obtain ⟨p,hp⟩:=h
  have key:∀ (n:Nat) (p:List Int),EP t p=n->Way t q x p->∃ v,MR t q x v:=by
   intro n
   induction n using Nat.strongRecOn with
   | _ n ih=>
    intro p hn hp
    by_cases hm:∃ p',Way t q x p'/\EP t p'<n
    ·obtain ⟨p',h1,h2⟩:=hm
     exact ih _ h2 p' rfl h1
    ·exact ⟨(EP t p:Nat),.inr ⟨p,hp,rfl,λ p' hp'=>Nat.le_of_not_lt λ hlt=>hm ⟨p',hp',by omega⟩⟩⟩
  exact key _ p rfl hp
 ·exact ⟨-1,.inl ⟨rfl,λ p hp=>h ⟨p,hp⟩⟩⟩
theorem MR.uniq {t:Ad} {q:Aa} {x:List UInt8} {v w:Int} (h:MR t q x v) (h':MR t q x w):v=w:=by
 rcases h with ⟨h1,h2⟩|⟨p,h1,h2,h3⟩
 ·rcases h' with ⟨g1,g2⟩|⟨p',g1,g2,g3⟩
  ·omega
  ·exact absurd g1 (h2 p')
 ·rcases h' with ⟨g1,g2⟩|⟨p',g1,g2,g3⟩
  ·exact absurd h1 (g2 p)
  ·have:=h3 p' g1
   have:=g3 p h1
   omega
noncomputable def AG (t:Ad) (q:Aa) (x:List UInt8):Int:=Classical.choose (Y1 t q x)
theorem Px (t:Ad) (q:Aa) (x:List UInt8):MR t q x (AG t q x):=Classical.choose_spec (Y1 t q x)
theorem JdE {t:Ad} {q:Aa} {x:List UInt8} {v:Int} (h:MR t q x v):AG t q x=v:=(Px t q x).uniq h
theorem Tr {t:Ad} {q:Aa} {x:List UInt8} {p:List Int} (h:Way t q x p):0<=AG t q x/\AG t q x<=(EP t p:Nat):=by
 rcases Px t q x with ⟨h1,h2⟩|⟨p',h1,h2,h3⟩
 ·exact absurd h (h2 p)
 ·have:=h3 p h
  omega
theorem Kp {t:Ad} {q:Aa} {x:List UInt8} (h:0<=AG t q x):∃ p,Way t q x p/\AG t q x=(EP t p:Nat):=by
 rcases Px t q x with ⟨h1,h2⟩|⟨p',h1,h2,h3⟩
 ·omega
 ·exact ⟨p',h1,h2⟩
theorem Ts (t:Ad) (q:Aa) (x:List UInt8):-1<=AG t q x:=by
 rcases Px t q x with h1|⟨p',h1,h2,h3⟩<;>omega
abbrev prt (t:Ad) (k:Int):List UInt8:=(CO t k).Print
abbrev cls (t:Ad) (k:Int):List Int:=(CO t k).Cells
theorem Jm (t:Ad) (k:Int) (p:List Int):EO t (k::p)=prt t k++EO t p:=by simp [EO]
theorem GV (t:Ad) (k:Int) (p:List Int):EP t (k::p)=(cls t k).length+EP t p:=by simp [EP,cellsOf]
theorem Way.cons {t:Ad} {q:Aa} {x:List UInt8} {p:List Int} {k:Int} (hk:(Au t q k).2=true) (h:Way t (Au t q k).1 x p):Way t q (prt t k++x) (k::p):=by
 obtain ⟨⟨q',h1,h2⟩,h3⟩:=h
 exact ⟨⟨q',⟨hk,h1⟩,h2⟩,by rw [Jm,h3]⟩
theorem Way.uncons {t:Ad} {q:Aa} {x:List UInt8} {p:List Int} {k:Int} (h:Way t q x (k::p)):(Au t q k).2=true/\∃ y,x=prt t k++y/\Way t (Au t q k).1 y p:=by
 obtain ⟨⟨q',h1,h2⟩,h3⟩:=h
 exact ⟨h1.1,EO t p,by rw [← h3,Jm],⟨q',h1.2,h2⟩,rfl⟩
theorem Way.nil {t:Ad} {q:Aa} {x:List UInt8} (h:Way t q x []):x=[]/\Dp t q=true:=by
 obtain ⟨⟨q',h1,h2⟩,h3⟩:=h
 unfold On at h1
 subst h1
 exact ⟨h3.symm,h2⟩
noncomputable def BL (t:Ad) (q:Aa) (x:List UInt8) (k:Int):Int:=
 if (Au t q k).2=true/\prt t k <+: x/\0<=AG t (Au t q k).1 (x.drop (prt t k).length) then AG t (Au t q k).1 (x.drop (prt t k).length)+(cls t k).length else -1
theorem JdF {t:Ad} {q:Aa} {x:List UInt8} {k:Int} (h:0<=BL t q x k):0<=AG t q x/\AG t q x<=BL t q x k:=by
 unfold BL at h ⊢
 split at h
 ·rename_i hc
  rw [if_pos hc]
  obtain ⟨h1,⟨y,rfl⟩,h3⟩:=hc
  rw [List.drop_left] at h3 h ⊢
  obtain ⟨p,hp,he⟩:=Kp h3
  have:=Tr (hp.cons h1)
  rw [GV] at this
  omega
 ·omega
theorem JdG {t:Ad} {S:Aa->Prop} {x:List UInt8} {f:Aa->Int}
  (ach:∀ q,S q->f q=-1\/∃ p,Way t q x p/\f q=(EP t p:Nat))
  (acc:∀ q,S q->x=[]->Dp t q=true->f q=0)
  (rel:∀ q k,S q->(Au t q k).2=true->prt t k≠[]->∀ y,x=prt t k++y->0<=AG t (Au t q k).1 y->0<=f q/\f q<=AG t (Au t q k).1 y+(cls t k).length)
  (sil:∀ q k,S q->(Au t q k).2=true->prt t k=[]->S (Au t q k).1/\(0<=f (Au t q k).1->0<=f q/\f q<=f (Au t q k).1+(cls t k).length)) :
  ∀ q,S q->MR t q x (f q):=by
 have low:∀ (p:List Int) (q:Aa),S q->Way t q x p->0<=f q/\f q<=(EP t p:Nat):=by
  intro p
  induction p with
  | nil=>
   intro q hq h
   obtain ⟨h1,h2⟩:=h.nil
   rw [acc q hq h1 h2]
   omega
  | cons k p ih=>
   intro q hq h
   obtain ⟨h1,y,h2,h3⟩:=h.uncons
   rw [GV]
   by_cases he:prt t k=[]
   ·obtain ⟨g1,g2⟩:=sil q k hq h1 he
    rw [he,List.nil_append] at h2
    subst h2
    have h4:=ih _ g1 h3
    have:=g2 h4.1
    omega
   ·have h4:=Tr h3
    have:=rel q k hq h1 he y h2 h4.1
    omega
 intro q hq
 rcases ach q hq with h|⟨p,h1,h2⟩
 ·exact .inl ⟨h,λ p hp=>by have:=low p q hq hp;omega⟩
 ·exact .inr ⟨p,h1,h2,λ p' hp'=>by have:=low p' q hq hp';omega⟩
inductive Fz (t:Ad):Aa->List UInt8->List Int->Prop
 | nil {q:Aa} {x:List UInt8} (h:AG t q x<=0):Fz t q x []
 | cons {q:Aa} {x:List UInt8} {k:Nat} {p:List Int} (h:0<AG t q x) (hk:BL t q x k=AG t q x) (hm:∀ j:Nat,j<k->BL t q x j≠AG t q x) (hp:Fz t (Au t q k).1 (x.drop (prt t k).length) p):Fz t q x (k::p)
theorem Fz.uniq {t:Ad} {q:Aa} {x:List UInt8} {p p':List Int} (h:Fz t q x p) (h':Fz t q x p'):p=p':=by
 induction h generalizing p' with
 | nil h=>
  cases h' with
  | nil=>rfl
  | cons g=>omega
 | cons h hk hm _ ih=>
  cases h' with
  | nil g=>omega
  | cons g gk gm gp=>
   rename_i k _ _ k' _
   have:k=k':=by
    rcases Nat.lt_trichotomy k k' with hlt|he|hgt
    ·exact absurd hk (gm _ hlt)
    ·exact he
    ·exact absurd gk (hm _ hgt)
   subst this
   rw [ih gp]
theorem EA {t:Ad} {q:Aa} {x:List UInt8} {k:Int} (h:0<=BL t q x k):(Au t q k).2=true/\(∃ y,x=prt t k++y/\x.drop (prt t k).length=y)/\0<=AG t (Au t q k).1 (x.drop (prt t k).length)/\BL t q x k=AG t (Au t q k).1 (x.drop (prt t k).length)+(cls t k).length:=by
 unfold BL at h ⊢
 split at h
 ·rename_i hc
  rw [if_pos hc]
  obtain ⟨y,hy⟩:=hc.2.1
  exact ⟨hc.1,⟨y,hy.symm,by rw [← hy,List.drop_left]⟩,hc.2.2,rfl⟩
 ·omega
theorem Jai {t:Ad} (hc:∀ r∈t.Rules,1<=r.Cells.length) {q:Aa} {x:List UInt8} (h:AG t q x=0):Way t q x []:=by
 obtain ⟨p,hp,he⟩:=Kp (t:=t) (q:=q) (x:=x) (by omega)
 cases p with
 | nil=>exact hp
 | cons k p=>
  obtain ⟨h1,_⟩:=hp.uncons
  have hk:=Cw h1
  have:=hc _ (Ir hk.1 hk.2)
  rw [GV] at he
  simp only [cls] at he
  omega
theorem Fz.way {t:Ad} (hc:∀ r∈t.Rules,1<=r.Cells.length) {q:Aa} {x:List UInt8} {p:List Int} (h:Fz t q x p) (h0:0<=AG t q x):Way t q x p/\AG t q x=(EP t p:Nat):=by
 induction h with
 | nil h=>exact ⟨Jai hc (by omega),by simp [EP,cellsOf];omega⟩
 | cons h hk hm _ ih=>
  obtain ⟨h1,⟨y,h2,h3⟩,h4,h5⟩:=EA (by rw [hk];omega)
  obtain ⟨i1,i2⟩:=ih h4
  rw [h3] at i1 i2 h5
  refine ⟨by rw [h2];exact i1.cons h1,?_⟩
  rw [GV]
  omega
theorem UB {t:Ad} {q:Aa} {x:List UInt8} (h:0<AG t q x):∃ k:Nat,k<t.Rules.length/\BL t q x k=AG t q x:=by
 obtain ⟨p,hp,he⟩:=Kp (t:=t) (q:=q) (x:=x) (by omega)
 cases p with
 | nil=>simp [EP,cellsOf] at he;omega
 | cons k p=>
  obtain ⟨h1,y,h2,h3⟩:=hp.uncons
  have hk:=Cw h1
  obtain ⟨k,rfl⟩:∃ n:Nat,k=n:=⟨k.toNat,by omega⟩
  refine ⟨k,by omega,?_⟩
  have h4:=Tr h3
  have hn:BL t q x k=AG t (Au t q k).1 y+(cls t k).length:=by
   unfold BL
   subst h2
   rw [List.drop_left,if_pos ⟨h1,List.prefix_append _ _,h4.1⟩]
  have h5:=JdF (t:=t) (q:=q) (x:=x) (k:=(k:Int)) (by omega)
  rw [GV] at he
  omega
theorem Jaj {t:Ad} (hc:∀ r∈t.Rules,1<=r.Cells.length):∀ (n:Nat) (q:Aa) (x:List UInt8),AG t q x<=n->∃ p,Fz t q x p:=by
 intro n
 induction n with
 | zero=>intro q x h;exact ⟨[],.nil h⟩
 | succ n ih=>
  intro q x h
  rcases Int.lt_or_le 0 (AG t q x) with h0|h0
  ·have hex:=UB h0
   have key:∀ m,(∃ k,k<m/\BL t q x (k:Nat)=AG t q x)->∃ k:Nat,BL t q x k=AG t q x/\∀ j:Nat,j<k->BL t q x j≠AG t q x:=by
    intro m
    induction m with
    | zero=>rintro ⟨k,hk,_⟩;omega
    | succ m ihm=>
     rintro ⟨k,hk,h1⟩
     by_cases hm:∃ k,k<m/\BL t q x (k:Nat)=AG t q x
     ·exact ihm hm
     ·exact ⟨k,h1,λ j hj hh=>hm ⟨j,by omega,hh⟩⟩
   obtain ⟨k,h1,h2⟩:=key _ hex
   obtain ⟨g1,⟨y,g2,g3⟩,g4,g5⟩:=EA (by rw [h1];omega)
   have hk:=Cw g1
   have:=hc _ (Ir hk.1 hk.2)
   obtain ⟨p,hp⟩:=ih (Au t q k).1 (x.drop (prt t k).length) (by simp only [cls] at g5;omega)
   exact ⟨k::p,.cons h0 h1 h2 hp⟩
  ·exact ⟨[],.nil h0⟩
end Go.AI
end
section
namespace Go.AI
def VQ (l:List Int):Nat:=l.countP λ v=>decide (0<=v)
def phi (B:Nat) (l:List Int):Nat:=(l.map λ v=>if v<0 then B else v.toNat).sum
theorem Jff {B:Nat} {l:List Int} {j:Nat} {v c:Int} (h:l[j]? = some v) (hc:0<=c) (hlt:c<if v<0 then (B:Int) else v):phi B (l.set j c)<phi B l:=by
 induction l generalizing j with
 | nil=>simp at h
 | cons a l ih=>
  cases j with
  | zero=>
   simp only [List.getElem?_cons_zero,Jlr] at h
   subst h
   simp only [phi,List.set_cons_zero,List.map_cons,List.sum_cons]
   split at hlt
   ·rename_i h1;rw [if_pos h1,if_neg (by omega)];omega
   ·rename_i h1;rw [if_neg h1,if_neg (by omega)];omega
  | succ j=>
   simp only [List.getElem?_cons_succ] at h
   have:=ih h
   simp only [phi,List.set_cons_succ,List.map_cons,List.sum_cons] at this ⊢
   omega
theorem JdH {l:List Int} {j:Nat} {v c:Int} (h:l[j]? = some v) (hc:0<=c):VQ (l.set j c)=VQ l+(if v<0 then 1 else 0):=by
 induction l generalizing j with
 | nil=>simp at h
 | cons a l ih=>
  cases j with
  | zero=>
   simp only [List.getElem?_cons_zero,Jlr] at h
   subst h
   simp only [VQ,List.set_cons_zero,List.countP_cons,decide_eq_true_eq]
   rw [if_pos hc]
   by_cases h0:a<0
   ·rw [if_pos h0,if_neg (by omega)]
   ·rw [if_neg h0,if_pos (by omega)]
  | succ j=>
   simp only [List.getElem?_cons_succ] at h
   have:=ih h
   simp only [VQ,List.set_cons_succ,List.countP_cons] at this ⊢
   omega
theorem VR (l:List Int):VQ l<=l.length:=List.countP_le_length
structure Col (t:Ad) (x:List UInt8) (D:Nat) (qs:List Aa) (cur:List Int):Prop where
 len:cur.length=qs.length
 ach:∀ (j:Nat) q,qs[j]? = some q->∃ v,cur[j]? = some v/\(v=-1\/∃ p,Way t q x p/\v=(EP t p:Nat))
 acc:∀ (j:Nat) q,qs[j]? = some q->x=[]->Dp t q=true->cur[j]? = some 0
 bnd:∀ (j:Nat) v,cur[j]? = some v->v<=((D+4*VQ cur:Nat):Int)
theorem Col.top {t:Ad} {x:List UInt8} {D:Nat} {qs:List Aa} {cur:List Int} (h:Col t x D qs cur) {j:Nat} {v:Int} (hv:cur[j]? = some v):-1<=v/\v<=((D+4*qs.length:Nat):Int):=by
 have h1:=h.bnd j v hv
 have h2:=VR cur
 rw [h.len] at h2
 have hj:j<qs.length:=by rw [← h.len];exact Al hv
 obtain ⟨w,hw,hd⟩:=h.ach j _ (Jlg hj)
 rw [hv] at hw
 cases hw
 refine ⟨?_,by omega⟩
 rcases hd with rfl|⟨p,_,rfl⟩<;>omega
theorem Col.get {t:Ad} {x:List UInt8} {D:Nat} {qs:List Aa} {cur:List Int} (h:Col t x D qs cur) {j:Nat} (hj:j<qs.length):∃ v,cur[j]? = some v:=⟨_,Jlg (by rw [h.len];exact hj)⟩
theorem Col.lower {t:Ad} {x:List UInt8} {D:Nat} {qs:List Aa} {cur:List Int} (h:Col t x D qs cur) {j:Nat} {q:Aa} {v c:Int} (hq:qs[j]? = some q) (hv:cur[j]? = some v)
  (hp:∃ p,Way t q x p/\c=(EP t p:Nat)) (hlt:v<0\/c<v) (hb:c<=((D+4*VQ cur+4:Nat):Int)) {B:Nat} (hB:c<(B:Int)):Col t x D qs (cur.set j c)/\phi B (cur.set j c)<phi B cur:=by
 have hc:0<=c:=by obtain ⟨p,_,rfl⟩:=hp;omega
 have hjl:=Al hv
 refine ⟨⟨by rw [Jly];exact h.len,λ i q' hi=>?_,λ i q' hi hx ha=>?_,λ i w hw=>?_⟩,Jff hv hc (by split<;>omega)⟩
 ·by_cases e:j=i
  ·subst e
   rw [hq] at hi;cases hi
   exact ⟨c,Jls hjl,.inr hp⟩
  ·rw [Jlx e];exact h.ach i q' hi
 ·by_cases e:j=i
  ·subst e
   rw [h.acc j q' hi hx ha] at hv
   cases hv
   omega
  ·rw [Jlx e];exact h.acc i q' hi hx ha
 ·rw [JdH hv hc]
  by_cases e:j=i
  ·subst e
   rw [Jls hjl] at hw
   cases hw
   have:=h.bnd j v hv
   split<;>omega
  ·rw [Jlx e] at hw
   have:=h.bnd i w hw
   omega
structure Y2 (t:Ad) (x:List UInt8) (qs:List Aa) (cur:List Int):Prop where
 rel:∀ (j:Nat) q (k:Nat),qs[j]? = some q->(Au t q k).2=true->prt t k≠[]->∀ y,x=prt t k++y->0<=AG t (Au t q k).1 y->∃ v,cur[j]? = some v/\0<=v/\v<=AG t (Au t q k).1 y+(cls t k).length
structure JfT (t:Ad) (qs:List Aa) (cur:List Int):Prop where
 sil:∀ (j:Nat) q (k:Nat),qs[j]? = some q->(Au t q k).2=true->prt t k=[]->∃ (i:Nat) (w:Int),qs[i]? = some (Au t q k).1/\cur[i]? = some w/\(0<=w->∃ v,cur[j]? = some v/\0<=v/\v<=w+(cls t k).length)
theorem Col.exact {t:Ad} {x:List UInt8} {D:Nat} {qs:List Aa} {cur:List Int} (h:Col t x D qs cur) (hn:qs.Nodup) (h1:Y2 t x qs cur) (h2:JfT t qs cur) {j:Nat} {q:Aa} (hq:qs[j]? = some q):cur[j]? = some (AG t q x):=by
 let f:Aa->Int:=λ q=>cur.getD ((qs.findIdx? λ x=>decide (x=q)).getD 0) (-1)
 have hf:∀ (j:Nat) q v,qs[j]? = some q->cur[j]? = some v->f q=v:=by
  intro j q v hj hv
  show cur.getD ((qs.findIdx? λ x=>decide (x=q)).getD 0) (-1)=v
  rw [CM hn hj,Option.getD_some,Jlp,hv];rfl
 have key:=JdG (t:=t) (S:=λ q=>∃ j:Nat,qs[j]? = some q) (x:=x) (f:=f) ?_ ?_ ?_ ?_ q ⟨j,hq⟩
 ·obtain ⟨v,hv⟩:=h.get (Al hq)
  rw [hf j q v hq hv] at key
  rw [hv,JdE key]
 ·rintro q ⟨j,hj⟩
  obtain ⟨v,hv,hd⟩:=h.ach j q hj
  rw [hf j q v hj hv];exact hd
 ·rintro q ⟨j,hj⟩ hx ha
  exact hf j q 0 hj (h.acc j q hj hx ha)
 ·rintro q k ⟨j,hj⟩ hs hp y hy hc
  obtain ⟨k,rfl⟩:∃ n:Nat,k=n:=⟨k.toNat,by have:=Cw hs;omega⟩
  obtain ⟨v,hv,g1,g2⟩:=h1.rel j q k hj hs hp y hy hc
  rw [hf j q v hj hv];exact ⟨g1,g2⟩
 ·rintro q k ⟨j,hj⟩ hs hp
  obtain ⟨k,rfl⟩:∃ n:Nat,k=n:=⟨k.toNat,by have:=Cw hs;omega⟩
  obtain ⟨i,w,hi,hw,hh⟩:=h2.sil j q k hj hs hp
  refine ⟨⟨i,hi⟩,?_⟩
  rw [hf i _ w hi hw]
  intro h0
  obtain ⟨v,hv,g1,g2⟩:=hh h0
  rw [hf j q v hj hv];exact ⟨g1,g2⟩
theorem Py {t:Ad} {q:Aa} {k:Int} {y:List UInt8} {c:Int} (hs:(Au t q k).2=true) (h:∃ p,Way t (Au t q k).1 y p/\c=(EP t p:Nat)):∃ p,Way t q (prt t k++y) p/\c+((cls t k).length:Nat)=(EP t p:Nat):=by
 obtain ⟨p,hp,rfl⟩:=h
 exact ⟨k::p,hp.cons hs,by rw [GV];omega⟩
end Go.AI
end
section
namespace Go.AI
structure Ln (t:Ad):Prop where
 tab:Il t
 cl:∀ r∈t.Rules,1<=r.Cells.length/\r.Cells.length<=4
theorem Ln.one {t:Ad} (h:Ln t):∀ r∈t.Rules,1<=r.Cells.length:=λ r hr=>(h.cl r hr).1
theorem Ln.pr {t:Ad} (h:Ln t) {k:Int} {q:Aa} (hk:(Au t q k).2=true):(prt t k).length<=3/\1<=(cls t k).length/\(cls t k).length<=4:=by
 have h1:=Cw hk
 have hm:=Ir h1.1 h1.2
 exact ⟨(h.tab.2 _ hm).2.2.2.2,h.cl _ hm⟩
theorem DN {α:Type} (l:List α) (i:Nat) (d:α):l.set i (l.getD i d)=l:=by
 apply List.ext_getElem?
 intro j
 rw [List.getElem?_set]
 split
 ·rename_i e;subst e
  split
  ·rename_i hl;rw [Jlp,Jlg hl];rfl
  ·rename_i hl;rw [JlC (by omega)]
 ·rfl
theorem CX {α:Type} {l:List α} {i:Nat} (h:i<l.length) (y d:α):(l.set i y).getD i d=y:=by
 rw [Jlp,Jls h];rfl
theorem CQ {α:Type} {l:List α} {i j:Nat} (h:i≠j) (y d:α):(l.set i y).getD j d=l.getD j d:=by
 rw [Jlp,Jlx h,← Jlp]
theorem AW {α:Type} {l:List α} {i:Nat} (d:α) (h:i<l.length):idx l (i:Int)=some (l.getD i d):=by
 rw [Oj h,Cj h]
theorem UC {s pr:List UInt8} {i:Nat} (hi:i<=s.length) (hs:s.length<1000000) (hp:pr.length<1000000) (n:Nat):Ia n s (i:Int) pr=some (pr.isPrefixOf (s.drop i)):=by
 unfold Ia
 have e:Ar .i64 (i:Int) ((pr.length:Nat):Int)=((i+pr.length:Nat):Int):=by rw [MP]<;>omega
 rw [e]
 by_cases h:i+pr.length<=s.length
 ·rw [if_pos (by simp;omega),Jds (by omega) (by omega) (by omega),Option.bind_some]
  congr 1
  rw [Bool.eq_iff_iff,Jlh,beq_iff_eq,List.isPrefixOf_iff_prefix]
  have e2:(s.take ((i+pr.length:Nat):Int).toNat).drop (i:Int).toNat=(s.drop i).take pr.length:=by
   rw [Jlq,Jlq,List.drop_take];congr 1;omega
  rw [e2]
  constructor
  ·rintro ⟨_,h2⟩;rw [← h2];exact List.take_prefix _ _
  ·intro h2;exact ⟨by simp;omega,(List.prefix_iff_eq_take.1 h2).symm⟩
 ·rw [if_neg (by simp;omega),Option.bind_some]
  congr 1
  have:decide (((i+pr.length:Nat):Int)<=((s.length:Nat):Int))=false:=by simp;omega
  rw [this,Bool.false_and,eq_comm,← Bool.not_eq_true,List.isPrefixOf_iff_prefix]
  intro hp'
  have:=hp'.length_le
  rw [List.length_drop] at this
  omega
theorem Cy {s pr:List UInt8} {i:Nat} (h:pr.isPrefixOf (s.drop i)=true):s.drop i=pr++s.drop (i+pr.length)/\(i<=s.length->i+pr.length<=s.length):=by
 rw [List.isPrefixOf_iff_prefix] at h
 obtain ⟨y,hy⟩:=h
 have:s.drop (i+pr.length)=y:=by rw [← List.drop_drop,← hy,List.drop_left]
 rw [this,hy]
 refine ⟨rfl,λ hi=>?_⟩
 have:=congrArg List.length hy
 rw [List.length_append,List.length_drop] at this
 omega
def JJ (t:Ad) (s:List UInt8) (out:List (List Int)) (i:Nat) (q:Aa) (k:Nat):Int:=
 if (Au t q k).2=true/\(prt t k).isPrefixOf (s.drop i)=true then
  (if (out.getD (i+(prt t k).length) []).getD (BW (Af t) (Au t q k).1).toNat 0<0 then -1 else (out.getD (i+(prt t k).length) []).getD (BW (Af t) (Au t q k).1).toNat 0+(cls t k).length) else -1
structure LO (t:Ad) (s:List UInt8) (i:Nat) (row:List Int):Prop where
 len:row.length=(Af t).length
 val:∀ (j:Nat) q,(Af t)[j]? = some q->row[j]? = some (AG t q (s.drop i))
 bnd:∀ (j:Nat) v,row[j]? = some v->v<=((3072*(s.length-i+1):Nat):Int)
structure Suf (t:Ad) (s:List UInt8) (i:Nat) (out:List (List Int)):Prop where
 len:out.length=s.length+1
 rows:∀ i',i<i'->i'<=s.length->LO t s i' (out.getD i' [])
 col:Col t (s.drop i) (3072*(s.length-i)) (Af t) (out.getD i [])
section
variable {t:Ad} (hT:Ln t) {s:List UInt8} (hs:s.length<=4000)
include hT
theorem EB {q:Aa} (hq:q∈Af t) {k:Nat} (hk:(Au t q k).2=true):(Au t q k).1∈Af t:=by
 obtain ⟨j,hj,e⟩:=List.getElem_of_mem hq
 have h:=Cw hk
 exact (Cb hT.tab).2 (j+1) j q (by omega) (by rw [← e];exact Jlg hj) k (by omega) hk
theorem IJ:(Af t).length<=768:=(Cb hT.tab).1.len
theorem Rv:(Af t).Nodup:=(Cb hT.tab).1.nodup
include hs
theorem Tt {i:Nat} (hi:i<=s.length) {out:List (List Int)} (hol:out.length=s.length+1) (hR:∀ i',i<=i'->i'<=s.length->(out.getD i' []).length=(Af t).length/\∀ (j:Nat) v,(out.getD i' [])[j]? = some v->-1<=v/\v<=13000000) {q:Aa} (hq:q∈Af t) {k:Nat} (hk:k<t.Rules.length):Ev (λ n=>GO n t ⟨s,i,q,Af t⟩ k out) (JJ t s out i q k):=by
 have hlen:=IJ hT
 unfold GO JJ
 refine Ev.bind (Ev.all λ n=>Pq hT.tab.short n q k) ?_
 cases hst:(Au t q k).2 with
 | false=>
  refine Ev.all λ n=>?_
  simp
 | true=>
  obtain ⟨p1,p2,p3⟩:=hT.pr hst
  have hr:=Iq (t:=t) (k:=(k:Int)) (by omega) (by omega)
  refine Ev.all (f:=λ n=>_) (λ n=>?_) |>.bind (x:=CO t k) ?_
  ·simp [hr]
  refine Ev.bind (x:=(prt t k).isPrefixOf (s.drop i)) (Ev.all λ n=>?_) ?_
  ·rw [if_pos (by simp)]
   exact UC hi (by omega) (by simp only [prt] at p1;omega) n
  cases hb:(prt t k).isPrefixOf (s.drop i) with
  | false=>exact Ev.iteT (by simp) (by simp;exact Ev.const)
  | true=>
   obtain ⟨q1,q2⟩:=Cy hb
   have q2:=q2 hi
   refine Ev.iteF (by simp) (Ev.bindC hr ?_)
   have e:Ar .i64 (i:Int) ((List.length (CO t k).Print:Nat):Int)=((i+(prt t k).length:Nat):Int):=by rw [MP]<;>simp only [prt] at*<;> omega
   rw [show (({ S:=s,I:=(i:Int),State:=q,L:=Af t }:EM).I)=(i:Int) from rfl,e]
   refine Ev.bindC (AW [] (by omega)) ?_
   have hmem:=EB hT hq hst
   obtain ⟨m,hm,hmg⟩:=Cc hmem
   refine Ev.bind (Kk (l:=Af t) (s:=(Au t q k).1) (by omega)) ?_
   rw [hm]
   have hml:=Al hmg
   obtain ⟨hrl,hrb⟩:=hR (i+(prt t k).length) (by omega) q2
   refine Ev.bindC (AW 0 (by rw [hrl];exact hml)) ?_
   simp only [Jlq,and_self,if_true]
   generalize hv:(out.getD (i+(prt t k).length) []).getD m 0=v
   have hvg:(out.getD (i+(prt t k).length) [])[m]? = some v:=by
    rw [← hv,Jlp (l:=out.getD (i+(prt t k).length) []),Jlg (by rw [hrl];exact hml)];rfl
   have hvb:=hrb m v hvg
   by_cases hneg:v<0
   ·rw [if_pos hneg]
    exact Ev.iteT (by simpa using hneg) Ev.const
   ·rw [if_neg hneg]
    refine Ev.iteF (by simpa using hneg) (Ev.bindC hr (Ev.all λ n=>?_))
    rw [MP (by simp only [cls] at *;omega) (by simp only [cls] at *;omega)]
theorem MS {i:Nat} {row:List Int} (h:LO t s i row):row.length=(Af t).length/\∀ (j:Nat) v,row[j]? = some v->-1<=v/\v<=13000000:=by
 have _:=hT
 refine ⟨h.len,λ j v hv=>?_⟩
 have h1:=h.bnd j v hv
 have hj:j<(Af t).length:=by rw [← h.len];exact Al hv
 have h2:=h.val j _ (Jlg hj)
 rw [hv] at h2
 have:=Ts t (Af t)[j] (s.drop i)
 simp only [Jlr] at h2
 omega
theorem JdI {i:Nat} (hi:i<=s.length) {out:List (List Int)} (ho:Suf t s i out) {q:Aa} (hq:q∈Af t) {k:Nat} (hk:k<t.Rules.length):Ev (λ n=>GO n t ⟨s,i,q,Af t⟩ k out) (JJ t s out i q k):=by
 refine Tt hT hs hi ho.len (λ i' h1 h2=>?_) hq hk
 rcases Nat.eq_or_lt_of_le h1 with rfl|hlt
 ·refine ⟨ho.col.len,λ j v hv=>?_⟩
  have h1:=ho.col.top hv
  have:=IJ hT
  omega
 ·exact MS hT hs (ho.rows i' hlt h2)
omit hs in
theorem Jfg {i:Nat} (hi:i<=s.length) {out:List (List Int)} (ho:Suf t s i out) {q:Aa} (hq:q∈Af t) {k:Nat} (h:0<=JJ t s out i q k) :
  (∃ p,Way t q (s.drop i) p/\JJ t s out i q k=(EP t p:Nat))/\JJ t s out i q k<=((3072*(s.length-i)+4*VQ (out.getD i [])+4:Nat):Int):=by
 unfold JJ at h ⊢
 split at h
 ·rename_i hc
  rw [if_pos hc]
  obtain ⟨hst,hb⟩:=hc
  obtain ⟨p1,p2,p3⟩:=hT.pr hst
  obtain ⟨q1,q2⟩:=Cy hb
  have q2:=q2 hi
  obtain ⟨m,hm,hmg⟩:=Cc (EB hT hq hst)
  rw [hm,Jlq] at h ⊢
  split at h
  ·omega
  ·rename_i hneg
   rw [if_neg hneg]
   rcases Nat.eq_zero_or_pos (prt t k).length with h0|h0
   ·have hp0:prt t k=[]:=List.length_eq_zero_iff.1 h0
    rw [h0,Nat.add_zero] at h hneg ⊢
    obtain ⟨v,hv,hd⟩:=ho.col.ach m _ hmg
    have hvv:(out.getD i []).getD m 0=v:=by rw [Jlp (l:=out.getD i []),hv];rfl
    rw [hvv] at h hneg ⊢
    have hbn:=ho.col.bnd m v hv
    refine ⟨?_,by omega⟩
    have:=Py hst (hd.resolve_left (by omega))
    rw [hp0,List.nil_append] at this
    exact this
   ·have hR:=ho.rows _ (show i<i+(prt t k).length by omega) q2
    have hv:=hR.val m _ hmg
    have hvv:(out.getD (i+(prt t k).length) []).getD m 0=AG t (Au t q k).1 (s.drop (i+(prt t k).length)):=by
     rw [Jlp (l:=out.getD (i+(prt t k).length) []),hv];rfl
    have hbn:=hR.bnd m _ hv
    rw [hvv] at h hneg ⊢
    refine ⟨?_,?_⟩
    ·have:=Py hst (Kp (x:=s.drop (i+(prt t k).length)) (by omega))
     rwa [← q1] at this
    ·have:3072*(s.length-(i+(prt t k).length)+1)<=3072*(s.length-i):=by omega
     omega
 ·omega
def Jjg (t:Ad) (s:List UInt8) (i:Nat) (out:List (List Int)) (j k:Nat):Prop:=∀ q,(Af t)[j]? = some q->0<=JJ t s out i q k->∃ v,(out.getD i [])[j]? = some v/\0<=v/\v<=JJ t s out i q k
omit hs in
theorem JdJ {i:Nat} (hi:i<=s.length) {out:List (List Int)} (ho:Suf t s i out) (h:∀ j k,j<(Af t).length->k<t.Rules.length->Jjg t s i out j k):LO t s i (out.getD i []):=by
 have hx:∀ (j:Nat) q,(Af t)[j]? = some q->(out.getD i [])[j]? = some (AG t q (s.drop i)):=by
  intro j q hq
  refine ho.col.exact (Rv hT) ⟨λ j q k hj hst hp y hy hc=>?_⟩ ⟨λ j q k hj hst hp=>?_⟩ hq
  ·have hk:=Cw hst
   have hb:(prt t k).isPrefixOf (s.drop i)=true:=by rw [List.isPrefixOf_iff_prefix,hy];exact List.prefix_append _ _
   obtain ⟨q1,q2⟩:=Cy hb
   have q2:=q2 hi
   have hyy:s.drop (i+(prt t k).length)=y:=by rw [q1] at hy;exact List.append_cancel_left hy
   have hlp:0<(prt t k).length:=List.length_pos_iff.2 hp
   obtain ⟨m,hm,hmg⟩:=Cc (EB hT (Jli hj) hst)
   have hv:=(ho.rows _ (show i<i+(prt t k).length by omega) q2).val m _ hmg
   have ha:JJ t s out i q k=AG t (Au t q k).1 y+(cls t k).length:=by
    unfold JJ
    rw [if_pos ⟨hst,hb⟩,hm,Jlq,Jlp (l:=out.getD (i+(prt t k).length) []),hv,Option.getD_some,hyy,if_neg (by omega)]
   have:=h j k (Al hj) (by omega) q hj (by omega)
   rwa [ha] at this
  ·have hk:=Cw hst
   obtain ⟨m,hm,hmg⟩:=Cc (EB hT (Jli hj) hst)
   obtain ⟨w,hw,_⟩:=ho.col.ach m _ hmg
   refine ⟨m,w,hmg,hw,λ h0=>?_⟩
   have ha:JJ t s out i q k=w+(cls t k).length:=by
    unfold JJ
    rw [if_pos ⟨hst,by rw [hp];rfl⟩,hm,Jlq,hp,List.length_nil,Nat.add_zero,Jlp (l:=out.getD i []),hw,Option.getD_some,if_neg (by omega)]
   have:=h j k (Al hj) (by omega) q hj (by omega)
   rwa [ha] at this
 refine ⟨ho.col.len,hx,λ j v hv=>?_⟩
 have h1:=(ho.col.top hv).2
 have:=IJ hT
 omega
end
end Go.AI
end
section
namespace Go.AI
section
variable {t:Ad} (hT:Ln t) {s:List UInt8} (hs:s.length<=4000)
include hT
def CY (t:Ad) (x:List UInt8) (q:Aa):Int:=if x=[]/\Dp t q=true then 0 else -1
omit hT in
theorem UD (t:Ad) (x:List UInt8) (D:Nat) (qs:List Aa):Col t x D qs (qs.map (CY t x)):=by
 refine ⟨by simp,λ j q hj=>⟨CY t x q,by simp [hj],?_⟩,λ j q hj hx ha=>by simp [hj,CY,hx,ha],λ j v hv=>?_⟩
 ·unfold CY
  split
  ·rename_i h;exact .inr ⟨[],⟨⟨q,rfl,h.2⟩,by rw [h.1];rfl⟩,by simp [EP,cellsOf]⟩
  ·exact .inl rfl
 ·rw [Jlk,Jlj] at hv
  obtain ⟨q,_,rfl⟩:=hv
  unfold CY
  split<;>omega
include hs
omit hT in
theorem Xr {i:Nat} (hi:i<=s.length):(((i:Nat):Int)==((s.length:Nat):Int))=decide (s.drop i=[]):=by
 have _:=hs
 rw [Bool.eq_iff_iff]
 simp only [beq_iff_eq,decide_eq_true_eq,List.drop_eq_nil_iff]
 omega
theorem Jfh {i:Nat} (hi:i<=s.length) (out0:List (List Int)) (hl:out0.length=s.length+1) (hr:(out0.getD i []).length=(Af t).length) :
  Tot (λ n=>whl (λ (x:((List (List Int))×Int))=>C5 n t s (Af t) (i:Int) x.1 x.2) n (out0,0)) (λ out=>out=out0.set i ((Af t).map (CY t (s.drop i)))):=by
 have hlen:=IJ hT
 refine Tot.upto (body:=λ n x=>C5 n t s (Af t) (i:Int) x.1 x.2) (Af t).length (λ k x=>x.2=(k:Int)/\∃ row,x.1=out0.set i row/\row.length=(Af t).length/\∀ (j:Nat) q,j<k->(Af t)[j]? = some q->row[j]? = some (CY t (s.drop i) q)) ?_ ?_ _ ⟨rfl,out0.getD i [],(DN _ _ _).symm,hr,by omega⟩
 ·rintro k ⟨out,k'⟩ hk ⟨e1,row,e2,e3,e4⟩
  simp only at e1 e2
  subst e1 e2
  have hJ:∀ v,v=CY t (s.drop i) (Af t)[k]->∀ out',out'=out0.set i (row.set k v)->Tot (λ n=>DK n (k:Int) out') (Rd2 (λ x:List (List Int)×Int=>x.2=((k+1:Nat):Int)/\∃ row,x.1=out0.set i row/\row.length=(Af t).length/\∀ (j:Nat) q,j<k+1->(Af t)[j]? = some q->row[j]? = some (CY t (s.drop i) q)) (λ out=>out=out0.set i ((Af t).map (CY t (s.drop i))))):=by
   intro v hv out' ho'
   unfold DK
   refine Tot.pure ⟨CP (by omega),_,ho',by rw [Jly];exact e3,λ j q hj hq=>?_⟩
   by_cases e:k=j
   ·subst e
    rw [Jls (by omega),hv]
    rw [Jlg hk] at hq
    cases hq;rfl
   ·rw [Jlx e];exact e4 j q (by omega) hq
  unfold C5
  have hil:i<(out0.set i row).length:=by rw [Jly];omega
  have hg:(out0.set i row).getD i []=row:=CX (by omega) _ _
  refine Tot.iteT (Fx hk) (Tot.bindC (AW [] hil) ?_)
  rw [hg]
  refine Tot.bindC (AW 0 (by omega)) (Tot.bindC (Lm (by omega)) ?_)
  rw [Xr hs hi,Jlq,List.set_set]
  by_cases hd:s.drop i=[]
  ·refine Tot.gE (decide_eq_true hd) (Ev.all λ n=>Oj hk) (Tot.gE (decide_eq_true hd) (Ev.all λ n=>Xc n t _) (Tot.ite (λ h=>?_) λ h=>?_))
   ·have ha:Dp t (Af t)[k]=true:=by simpa [hd] using h
    refine Tot.bindC (AW [] (by rw [Jly];omega)) ?_
    rw [CX (by omega)]
    refine Tot.bindC (AW 0 (by rw [Jly];omega)) (Tot.bindC (Lm (by rw [Jly];omega)) (hJ 0 ?_ _ ?_))
    ·unfold CY;rw [if_pos ⟨hd,ha⟩]
    ·rw [List.set_set,List.set_set]
   ·have ha:Dp t (Af t)[k]=false:=by simpa [hd] using h
    refine hJ (-1) ?_ _ rfl
    unfold CY;rw [if_neg (by rw [ha];simp)]
  ·refine Tot.gF (decide_eq_false hd) (Tot.gF (decide_eq_false hd) (Tot.iteF (by simp [hd]) (hJ (-1) ?_ _ rfl)))
   unfold CY;rw [if_neg (λ h=>hd h.1)]
 ·rintro ⟨out,k'⟩ ⟨e1,row,e2,e3,e4⟩
  simp only at e1 e2
  subst e1 e2
  unfold C5
  refine Tot.iteF (by simp) (Tot.pure ?_)
  refine congrArg (out0.set i) (List.ext_getElem? λ j=>?_)
  rcases Nat.lt_or_ge j (Af t).length with h|h
  ·rw [e4 j _ h (Jlg h),Jlk,Jlg h];rfl
  ·rw [JlC (by omega),JlC (by simpa using h)]
structure Pz (t:Ad) (s:List UInt8) (i:Nat) (B:Nat) (out0 out:List (List Int)) (ch:Bool) (k r:Nat):Prop where
 suf:Suf t s i out
 same:ch=false->out=out0/\∀ j m,(j<k\/(j=k/\m<r))->m<t.Rules.length->Jjg t s i out0 j m
 less:ch=true->phi B (out.getD i [])<phi B (out0.getD i [])
omit hT hs in
theorem JdK (n:Nat) (a c:Int) (hc:0<=c):M3 n a c=some (if a<0\/c<a then c else a):=by
 unfold M3
 by_cases h:a<0\/c<a
 ·rw [if_pos h,if_pos (by simp only [JlA,Jlh,decide_eq_true_eq];omega)]
 ·rw [if_neg h,if_neg (by simp only [JlA,Jlh,decide_eq_true_eq];omega)]
theorem Jfi {i:Nat} (hi:i<=s.length) {B:Nat} (hB:13000000<=B) {out0 out1:List (List Int)} {ch1:Bool} {k:Nat} (hk:k<(Af t).length) (h1:Pz t s i B out0 out1 ch1 k 0) :
  Tot (λ n=>whl (λ (x:((List (List Int))×Bool×Int))=>C6 n t s (Af t) (i:Int) (k:Int) x.1 x.2.1 x.2.2) n (out1,ch1,0)) (λ y=>Pz t s i B out0 y.1 y.2 k t.Rules.length):=by
 have hlen:=IJ hT
 have hrl:=hT.tab.1
 refine Tot.upto (body:=λ n x=>C6 n t s (Af t) (i:Int) (k:Int) x.1 x.2.1 x.2.2) t.Rules.length (λ r x=>x.2.2=(r:Int)/\Pz t s i B out0 x.1 x.2.1 k r) ?_ ?_ _ ⟨rfl,h1⟩
 ·rintro r ⟨out,ch,r'⟩ hr ⟨e1,hP⟩
  simp only at e1 hP
  subst e1
  have hq:(Af t)[k]? = some (Af t)[k]:=Jlg hk
  have hqm:(Af t)[k]∈Af t:=List.getElem_mem hk
  have hA:=hP.suf
  have hJ:∀ out' ch',Pz t s i B out0 out' ch' k (r+1)->Tot (λ n=>DL n (r:Int) out' ch') (Rd2 (λ x:List (List Int)×Bool×Int=>x.2.2=((r+1:Nat):Int)/\Pz t s i B out0 x.1 x.2.1 k (r+1)) (λ y=>Pz t s i B out0 y.1 y.2 k t.Rules.length)):=by
   intro out' ch' h
   unfold DL
   exact Tot.pure ⟨CP (by omega),h⟩
  have hskip:Jjg t s i out k r->Pz t s i B out0 out ch k (r+1):=by
   intro hrel
   refine ⟨hA,λ hc=>⟨(hP.same hc).1,λ j m hjm hm=>?_⟩,hP.less⟩
   by_cases e:j=k/\m=r
   ·obtain ⟨rfl,rfl⟩:=e
    rw [← (hP.same hc).1];exact hrel
   ·exact (hP.same hc).2 j m (by omega) hm
  unfold C6
  refine Tot.iteT (Fx hr) (Tot.bindC (CC hq) (Tot.bindE (JdI hT hs hi hA hqm hr) ?_))
  have hil:i<out.length:=by rw [hA.len];omega
  rw [Jlq]
  simp only [DN]
  have hcl:=hA.col.len
  obtain ⟨v,hv⟩:=hA.col.get hk
  have hvd:(out.getD i []).getD k 0=v:=by rw [Jlp (l:=out.getD i []),hv];rfl
  by_cases hc:0<=JJ t s out i (Af t)[k] r
  ·obtain ⟨u1,u2⟩:=Jfg hT hi hA hqm hc
   have hgd:decide (JJ t s out i (Af t)[k] r>=0)=true:=by simpa using hc
   refine Tot.gE hgd (Ev.all λ n=>AW [] hil) (Tot.gE hgd (Ev.all λ n=>AW 0 (by omega)) ?_)
   rw [hvd]
   refine Tot.gE hgd (Ev.all λ n=>JdK n v _ hc) (Tot.gE hgd (Ev.all λ n=>AW [] hil) (Tot.gE hgd (Ev.all λ n=>AW 0 (by omega)) ?_))
   rw [hvd]
   by_cases hlt:v<0\/JJ t s out i (Af t)[k] r<v
   ·rw [if_pos hlt]
    refine Tot.iteT (by simp only [Jlh,bne_iff_ne,ne_eq];exact ⟨hgd,by omega⟩) ?_
    have hfin:=VR (out.getD i [])
    obtain ⟨g1,g2⟩:=hA.col.lower hq hv u1 (hlt.imp id id) u2 (B:=B) (by omega)
    refine Tot.bindC (AW [] hil) (Tot.bindC (AW 0 (by omega)) (Tot.bindC (Lm (by omega)) (hJ _ _ ?_)))
    have hgs:(out.set i ((out.getD i []).set k (JJ t s out i (Af t)[k] r))).getD i []=(out.getD i []).set k (JJ t s out i (Af t)[k] r):=CX hil _ _
    refine ⟨⟨by rw [Jly];exact hA.len,λ i' h1 h2=>by rw [CQ (by omega)];exact hA.rows i' h1 h2,by rw [hgs];exact g1⟩,(λ h=>by cases h),λ _=>?_⟩
    rw [hgs]
    cases hch:ch with
    | false=>rw [(hP.same hch).1] at g2 ⊢;exact g2
    | true=>have:=hP.less hch;omega
   ·rw [if_neg hlt]
    refine Tot.iteF (by simp) (hJ _ _ (hskip λ q hq' _=>?_))
    rw [hq] at hq'
    cases hq'
    exact ⟨v,hv,by omega,by omega⟩
  ·have hgd:decide (JJ t s out i (Af t)[k] r>=0)=false:=by simpa using hc
   refine Tot.gF hgd (Tot.gF hgd (Tot.gF hgd (Tot.gF hgd (Tot.gF hgd (Tot.iteF (by rw [hgd];rfl) (hJ _ _ (hskip λ q hq' h0=>?_)))))))
   rw [hq] at hq'
   cases hq'
   exact absurd h0 hc
 ·rintro ⟨out,ch,r'⟩ ⟨e1,hP⟩
  simp only at e1 hP
  subst e1
  unfold C6
  exact Tot.iteF (by simp) (Tot.pure hP)
theorem Jfj {i:Nat} (hi:i<=s.length) {B:Nat} (hB:13000000<=B) {out0:List (List Int)} (h1:Suf t s i out0) :
  Tot (λ n=>whl (λ (x:((List (List Int))×Bool×Int))=>C7 n t s (Af t) (i:Int) x.1 x.2.1 x.2.2) n (out0,false,0)) (λ y=>Pz t s i B out0 y.1 y.2 (Af t).length 0):=by
 have hlen:=IJ hT
 refine Tot.upto (body:=λ n x=>C7 n t s (Af t) (i:Int) x.1 x.2.1 x.2.2) (Af t).length (λ k x=>x.2.2=(k:Int)/\Pz t s i B out0 x.1 x.2.1 k 0) ?_ ?_ _ ⟨rfl,h1,λ _=>⟨rfl,λ j m h=>by omega⟩,λ h=>by cases h⟩
 ·rintro k ⟨out,ch,k'⟩ hk ⟨e1,hP⟩
  simp only at e1 hP
  subst e1
  unfold C7
  refine Tot.iteT (Fx hk) (Tot.bind (Jfi hT hs hi hB hk hP) ?_)
  rintro ⟨out',ch'⟩ hP'
  exact Tot.pure ⟨CP (by omega),hP'.suf,λ hc=>⟨(hP'.same hc).1,λ j m hjm hm=>(hP'.same hc).2 j m (by omega) hm⟩,hP'.less⟩
 ·rintro ⟨out,ch,k'⟩ ⟨e1,hP⟩
  simp only at e1 hP
  subst e1
  unfold C7
  exact Tot.iteF (by simp) (Tot.pure hP)
theorem Jfk {i:Nat} (hi:i<=s.length) {out0:List (List Int)} (h1:Suf t s i out0) :
  Tot (λ n=>whl (λ (x:((List (List Int))×Bool))=>DM n t s (Af t) (i:Int) x.1 x.2) n (out0,true)) (λ out=>out.length=s.length+1/\∀ i',i<=i'->i'<=s.length->LO t s i' (out.getD i' [])):=by
 refine Tot.whl (body:=λ n x=>DM n t s (Af t) (i:Int) x.1 x.2) (λ m x=>Suf t s i x.1/\((x.2=true/\m=phi 13000000 (x.1.getD i [])+1)\/(x.2=false/\m=0/\LO t s i (x.1.getD i [])))) ?_ (phi 13000000 (out0.getD i [])+1) (out0,true) ⟨h1,.inl ⟨rfl,rfl⟩⟩
 rintro m ⟨out,ch⟩ ⟨hS,hm⟩
 simp only at hS hm
 unfold DM
 rcases hm with ⟨rfl,rfl⟩|⟨rfl,rfl,hR⟩
 ·refine Tot.iteT rfl (Tot.bind (Jfj hT hs hi (Nat.le_refl _) hS) ?_)
  rintro ⟨out',ch'⟩ hP
  simp only at hP
  cases ch' with
  | false=>
   obtain ⟨e,hrel⟩:=hP.same rfl
   subst e
   exact Tot.pure ⟨0,by omega,hS,.inr ⟨rfl,rfl,JdJ hT hi hS λ j k hj hk=>hrel j k (by omega) hk⟩⟩
  | true=>
   have:=hP.less rfl
   exact Tot.pure ⟨phi 13000000 (out'.getD i [])+1,by omega,hP.suf,.inl ⟨rfl,rfl⟩⟩
 ·refine Tot.iteF rfl (Tot.pure ⟨hS.len,λ i' h1 h2=>?_⟩)
  rcases Nat.eq_or_lt_of_le h1 with rfl|h
  ·exact hR
  ·exact hS.rows i' h h2
theorem Jn:Tot (λ n=>F7 n t s) (λ out=>out.length=s.length+1/\∀ i,i<=s.length->LO t s i (out.getD i [])):=by
 have hlen:=IJ hT
 unfold F7
 have e1:Ar .i64 ((s.length:Nat):Int) 1=((s.length+1:Nat):Int):=CP (by omega)
 refine Tot.bindE (MQ hT.tab) ?_
 rw [e1]
 refine Tot.bindC (Q1 (by omega) (by omega)) ?_
 rw [Jlq]
 refine Tot.bind (R:=λ out=>out.length=s.length+1/\∀ i,i<=s.length->LO t s i (out.getD i [])) ?_ (λ out h=>Tot.pure h)
 refine Tot.whl (body:=λ n x=>Fp n t s (Af t) x.1 x.2) (λ m x=>x.2=(m:Int)-1/\x.1.length=s.length+1/\m<=s.length+1/\∀ i',m<=i'->i'<=s.length->LO t s i' (x.1.getD i' [])) ?_ (s.length+1) _ ⟨by simp,by simp,by omega,by omega⟩
 rintro m ⟨out,i'⟩ ⟨e2,e3,e4,e5⟩
 simp only at e2 e3 e5
 subst e2
 unfold Fp
 cases m with
 | zero=>exact Tot.iteF (by simp) (Tot.pure ⟨e3,λ i hi=>e5 i (by omega) hi⟩)
 | succ i=>
  have ei:((i+1:Nat):Int)-1=(i:Int):=by omega
  rw [ei]
  refine Tot.iteT (by simp) (Tot.bindC (AW [] (show i<out.length by omega)) (Tot.bindC (Q1 (by omega) (by omega)) ?_))
  rw [Jlq,Jlq]
  refine Tot.bind (Jfh hT hs (show i<=s.length by omega) (out.set i (List.replicate (Af t).length 0)) (by rw [Jly];exact e3) (by rw [CX (by omega),List.length_replicate])) ?_
  rintro out1 rfl
  rw [List.set_set]
  refine Tot.bind (Jfk hT hs (show i<=s.length by omega) ⟨by rw [Jly];exact e3,λ i' h1 h2=>?_,?_⟩) ?_
  ·rw [CQ (by omega)];exact e5 i' (by omega) h2
  ·rw [CX (by omega)];exact UD t _ _ _
  ·rintro out2 ⟨h1,h2⟩
   refine Tot.pure ⟨i,by omega,?_,h1,by omega,h2⟩
   show G9 .i64 (i:Int) 1=(i:Int)-1
   rw [Xf (by omega) (by omega)]
end
end Go.AI
end
section
namespace Go.AI
def Rch (t:Ad) (s:List UInt8) (i:Nat) (q:Aa):Prop:=i<=s.length/\∃ p,On t A3 p q/\EO t p=s.take i
theorem Rch.start (t:Ad) (s:List UInt8):Rch t s 0 A3:=⟨by omega,[],rfl,by simp [EO]⟩
theorem MT (t:Ad) (p:List Int) (k:Int):EO t (p++[k])=EO t p++prt t k:=by simp [EO]
theorem Rch.next {t:Ad} {s:List UInt8} {i:Nat} {q:Aa} {k:Int} (h:Rch t s i q) (hk:(Au t q k).2=true) (hb:(prt t k).isPrefixOf (s.drop i)=true):Rch t s (i+(prt t k).length) (Au t q k).1:=by
 obtain ⟨h1,p,h2,h3⟩:=h
 obtain ⟨q1,q2⟩:=Cy hb
 refine ⟨q2 h1,p++[k],h2.snoc hk,?_⟩
 rw [MT,h3,List.take_add,q1,List.take_left' rfl]
theorem Rch.ind {t:Ad} {s:List UInt8} {A:Nat->Aa->Prop} (h0:A 0 A3) (h1:∀ i q (k:Nat),i<=s.length->A i q->(Au t q k).2=true->(prt t k).isPrefixOf (s.drop i)=true->A (i+(prt t k).length) (Au t q k).1):∀ {i:Nat} {q:Aa},Rch t s i q->A i q:=by
 have key:∀ (p:List Int) (i:Nat) (q q':Aa),A i q->i<=s.length->On t q p q'->(∃ y,s.drop i=EO t p++y)->A (i+(EO t p).length) q':=by
  intro p
  induction p with
  | nil=>
   intro i q q' hA _ hg _
   unfold On at hg
   subst hg
   simpa [EO] using hA
  | cons k p ih=>
   intro i q q' hA hi hg hy
   obtain ⟨g1,g2⟩:=hg
   obtain ⟨y,hy⟩:=hy
   obtain ⟨k,rfl⟩:∃ n:Nat,k=n:=⟨k.toNat,by have:=Cw g1;omega⟩
   rw [Jm,List.append_assoc] at hy
   have hb:(prt t k).isPrefixOf (s.drop i)=true:=by rw [List.isPrefixOf_iff_prefix];exact ⟨_,hy.symm⟩
   obtain ⟨q1,q2⟩:=Cy hb
   have:=ih _ _ q' (h1 i q k hi hA g1 hb) (q2 hi) g2 ⟨y,by rw [q1] at hy;exact List.append_cancel_left hy⟩
   rw [Jm,List.length_append,← Nat.add_assoc]
   exact this
 rintro i q ⟨hi,p,hg,ht⟩
 have:=key p 0 A3 q h0 (by omega) hg ⟨s.drop i,by rw [ht,List.drop_zero,List.take_append_drop]⟩
 rw [ht,List.length_take,Jlv,Nat.min_eq_left hi] at this
 exact this
def Dv (s:List UInt8) (i:Nat):Int:=if i<s.length then Gf (Q0 s i) else 0
theorem Q3 (s:List UInt8) (i:Nat):0<=Dv s i/\Dv s i<=5:=by
 unfold Dv
 split
 ·have:=QZ (Q0 s i);omega
 ·omega
def PA (t:Ad) (s:List UInt8) (i:Nat):Prop:=∃ q,Rch t s i q/\GT q.Need (Dv s i)=true
def NO (t:Ad) (s:List UInt8) (v:Int):Prop:=(∃ i:Nat,v=i/\PA t s i)/\∀ i:Nat,PA t s i->(i:Int)<=v
theorem NO.uniq {t:Ad} {s:List UInt8} {v w:Int} (h:NO t s v) (h':NO t s w):v=w:=by
 obtain ⟨⟨i,e1,h1⟩,h2⟩:=h
 obtain ⟨⟨j,e2,g1⟩,g2⟩:=h'
 have:=h2 j g1
 have:=g2 i h1
 omega
theorem JkF (t:Ad) (s:List UInt8):PA t s 0:=by
 refine ⟨A3,.start t s,?_⟩
 have h:=Q3 s 0
 generalize Dv s 0=c at h
 have:c=0\/c=1\/c=2\/c=3\/c=4\/c=5:=by omega
 rcases this with rfl|rfl|rfl|rfl|rfl|rfl<;>decide +kernel
def Hq (t:Ad) (s:List UInt8) (i:Nat) (v:Int):Prop:=(∃ j:Nat,v=j/\(j=0\/(j<i/\PA t s j)))/\∀ j:Nat,j<i->PA t s j->(j:Int)<=v
theorem Hq.stop {t:Ad} {s:List UInt8} {i:Nat} (hs:PA t s i):Hq t s (i+1) (i:Nat):=⟨⟨i,rfl,.inr ⟨by omega,hs⟩⟩,λ j h _=>by omega⟩
theorem Hq.skip {t:Ad} {s:List UInt8} {i:Nat} {v:Int} (h:Hq t s i v) (hs:¬PA t s i):Hq t s (i+1) v:=by
 obtain ⟨⟨j,e,h1⟩,h2⟩:=h
 refine ⟨⟨j,e,h1.imp id λ h=>⟨by omega,h.2⟩⟩,λ k hk hS=>?_⟩
 by_cases e:k=i
 ·subst e;exact absurd hS hs
 ·exact h2 k (by omega) hS
theorem Hq.all {t:Ad} {s:List UInt8} {v:Int} (h:Hq t s (s.length+1) v):NO t s v:=by
 obtain ⟨⟨j,e,h1⟩,h2⟩:=h
 refine ⟨⟨j,e,?_⟩,λ i hi=>h2 i ?_ hi⟩
 ·rcases h1 with rfl|h1
  ·exact JkF t s
  ·exact h1.2
 ·obtain ⟨q,hq,_⟩:=hi
  have:=hq.1
  omega
section
variable {t:Ad} (hT:Ln t) {s:List UInt8} (hs:s.length<=4000)
def VS (l:List (List Bool)):Nat:=(l.map λ r=>r.count false).sum
theorem JdL {l:List (List Bool)} {i j:Nat} {r:List Bool} (h:l[i]? = some r) (hj:r[j]? = some false):VS (l.set i (r.set j true))+1=VS l:=by
 induction l generalizing i with
 | nil=>simp at h
 | cons a l ih=>
  cases i with
  | zero=>
   simp only [List.getElem?_cons_zero,Jlr] at h
   subst h
   have:=JdD hj
   unfold Jfe at this
   simp only [VS,List.set_cons_zero,List.map_cons,List.sum_cons]
   omega
  | succ i=>
   simp only [List.getElem?_cons_succ] at h
   have:=ih h
   simp only [VS,List.set_cons_succ,List.map_cons,List.sum_cons] at this ⊢
   omega
def Mk (m:List (List Bool)) (i j:Nat):Prop:=(m.getD i [])[j]? = some true
structure Rea (t:Ad) (s:List UInt8) (i:Nat) (m:List (List Bool)):Prop where
 len:m.length=s.length+1
 rows:∀ i,i<=s.length->(m.getD i []).length=(Af t).length
 sound:∀ i j,i<=s.length->Mk m i j->∃ q,(Af t)[j]? = some q/\Rch t s i q
 first:Mk m 0 0
 done:∀ i',i'<i->∀ j k:Nat,∀ q,Mk m i' j->(Af t)[j]? = some q->(Au t q k).2=true->(prt t k).isPrefixOf (s.drop i')=true->∃ j',(Af t)[j']? = some (Au t q k).1/\Mk m (i'+(prt t k).length) j'
def JkG (t:Ad) (s:List UInt8) (i:Nat) (m:List (List Bool)) (j k:Nat):Prop:=∀ q,Mk m i j->(Af t)[j]? = some q->(Au t q k).2=true->(prt t k).isPrefixOf (s.drop i)=true->∃ j',(Af t)[j']? = some (Au t q k).1/\Mk m (i+(prt t k).length) j'
structure PC (t:Ad) (s:List UInt8) (i:Nat) (m0 m:List (List Bool)) (ch:Bool) (k r:Nat):Prop where
 rea:Rea t s i m
 same:ch=false->m=m0/\∀ j x,(j<k\/(j=k/\x<r))->x<t.Rules.length->JkG t s i m0 j x
 less:ch=true->VS m<VS m0
theorem Mk.set {m:List (List Bool)} {i j:Nat} (hi:i<m.length) (hj:j<(m.getD i []).length) {i' j':Nat}:Mk (m.set i ((m.getD i []).set j true)) i' j'↔(i=i'/\j=j')\/Mk m i' j':=by
 unfold Mk
 by_cases e:i=i'
 ·subst e
  rw [CX hi]
  by_cases e2:j=j'
  ·subst e2;rw [Jls hj];simp
  ·rw [Jlx e2];simp [e2]
 ·rw [CQ e];simp [e]
include hT hs
theorem Jfl {i:Nat} (hi:i<=s.length) {m0 m1:List (List Bool)} {ch1:Bool} {k:Nat} (hk:k<(Af t).length) (x0:Int) (h1:PC t s i m0 m1 ch1 k 0) :
  Tot (λ n=>whl (λ (x:((List (List Bool))×Bool×Int))=>Dm n t s (Af t) x0 (i:Int) (k:Int) x.1 x.2.1 x.2.2) n (m1,ch1,0)) (λ y=>PC t s i m0 y.1 y.2 k t.Rules.length):=by
 have hlen:=IJ hT
 have hrl:=hT.tab.1
 refine Tot.upto (body:=λ n x=>Dm n t s (Af t) x0 (i:Int) (k:Int) x.1 x.2.1 x.2.2) t.Rules.length (λ r x=>x.2.2=(r:Int)/\PC t s i m0 x.1 x.2.1 k r) ?_ ?_ _ ⟨rfl,h1⟩
 ·rintro r ⟨m,ch,r'⟩ hr ⟨e1,hP⟩
  simp only at e1 hP
  subst e1
  have hq:(Af t)[k]? = some (Af t)[k]:=Jlg hk
  have hqm:(Af t)[k]∈Af t:=List.getElem_mem hk
  have hA:=hP.rea
  have hrow:=hA.rows i hi
  have hil:i<m.length:=by rw [hA.len];omega
  have hJ:∀ m' ch',PC t s i m0 m' ch' k (r+1)->Tot (λ n=>Eh n (r:Int) m' ch') (Rd2 (λ x:List (List Bool)×Bool×Int=>x.2.2=((r+1:Nat):Int)/\PC t s i m0 x.1 x.2.1 k (r+1)) (λ y=>PC t s i m0 y.1 y.2 k t.Rules.length)):=by
   intro m' ch' h
   unfold Eh
   exact Tot.pure ⟨CP (by omega),h⟩
  have hskip:∀ r1,r1<=t.Rules.length->(∀ x,r<=x->x<r1->JkG t s i m k x)->PC t s i m0 m ch k r1:=by
   intro r1 _ hrel
   refine ⟨hA,λ hc=>⟨(hP.same hc).1,λ j x hjx hx=>?_⟩,hP.less⟩
   by_cases e:j=k/\r<=x
   ·obtain ⟨rfl,h2⟩:=e
    rw [← (hP.same hc).1];exact hrel x h2 (by omega)
   ·exact (hP.same hc).2 j x (by omega) hx
  have hgr:decide ((r:Int)<((t.Rules.length:Nat):Int))=true:=Fx hr
  obtain ⟨b,hb⟩:∃ b,(m.getD i [])[k]? = some b:=⟨_,Jlg (by omega)⟩
  have hbd:(m.getD i []).getD k false=b:=by rw [Jlp (l:=m.getD i []),hb];rfl
  unfold Dm
  simp only [Jlq,DN]
  refine Tot.gE hgr (Ev.all λ n=>AW [] hil) (Tot.gE hgr (Ev.all λ n=>AW false (by omega)) ?_)
  rw [hbd]
  cases b with
  | false=>
   refine Tot.iteF (by simp) (Tot.pure (hskip _ (Nat.le_refl _) λ x _ _ q hmk _ _ _=>?_))
   unfold Mk at hmk
   rw [hb] at hmk;cases hmk
  | true=>
   have hRr:=Iq (t:=t) (k:=(r:Int)) (by omega) (by omega)
   refine Tot.iteT (by rw [hgr];rfl) (Tot.bindC (CC hq) (Tot.bindA (λ n=>Pq hT.tab.short n _ r) (Tot.bindC hRr ?_)))
   cases hst:(Au t (Af t)[k] r).2 with
   | false=>
    refine Tot.gF rfl (Tot.gF rfl (Tot.gF rfl (Tot.gF rfl (Tot.gF rfl (Tot.iteF rfl (hJ _ _ (hskip _ (by omega) λ x h1 h2 q _ hq' hs' _=>?_)))))))
    rw [hq] at hq';cases hq'
    have:x=r:=by omega
    subst this
    rw [hst] at hs';cases hs'
   | true=>
    obtain ⟨p1,p2,p3⟩:=hT.pr hst
    have hpl:(prt t r).length=(CO t r).Print.length:=rfl
    refine Tot.gE rfl (Ev.all λ n=>hRr) (Tot.gE rfl (Ev.all λ n=>UC hi (by omega) (by omega) n) ?_)
    simp only [Bool.true_and]
    cases hpf:(CO t r).Print.isPrefixOf (s.drop i) with
    | false=>
     refine Tot.gF rfl (Tot.gF rfl (Tot.gF rfl (Tot.iteF rfl (hJ _ _ (hskip _ (by omega) λ x h1 h2 q _ hq' _ hb'=>?_)))))
     have:x=r:=by omega
     subst this
     rw [hpf] at hb';cases hb'
    | true=>
     obtain ⟨q1,q2⟩:=Cy hpf
     have q2:=q2 hi
     have e:Ar .i64 (i:Int) ((List.length (CO t r).Print:Nat):Int)=((i+(prt t r).length:Nat):Int):=by rw [MP (by omega) (by omega)];omega
     rw [e]
     have hto:i+(prt t r).length<m.length:=by rw [hA.len];omega
     have hrow2:=hA.rows _ q2
     have hrow3:(m.getD (i+(prt t r).length) []).length=(Af t).length:=hrow2
     obtain ⟨d,hd,hdg⟩:=Cc (EB hT hqm hst)
     have hdl:=Al hdg
     refine Tot.gE rfl (Ev.all λ n=>AW [] hto) (Tot.gE rfl (Kk (by omega)) ?_)
     rw [hd]
     refine Tot.gE rfl (Ev.all λ n=>AW false (by rw [Jlq];omega)) ?_
     simp only [Jlq,DN]
     obtain ⟨b2,hb2⟩:∃ b,(m.getD (i+(prt t r).length) [])[d]? = some b:=⟨_,Jlg (by omega)⟩
     have hbd2:(m.getD (i+(prt t r).length) []).getD d false=b2:=by rw [Jlp (l:=m.getD (i+(prt t r).length) []),hb2];rfl
     rw [hbd2]
     cases b2 with
     | true=>
      refine Tot.iteF rfl (hJ _ _ (hskip _ (by omega) λ x h1 h2 q _ hq' _ _=>?_))
      have:x=r:=by omega
      subst this
      rw [hq] at hq';cases hq'
      exact ⟨d,hdg,hb2⟩
     | false=>
      refine Tot.iteT rfl (Tot.bindC (AW [] hto) (Tot.bindE (Kk (by omega)) ?_))
      rw [hd]
      refine Tot.bindC (AW false (by omega)) (Tot.bindC (Lm (by omega)) (hJ _ _ ?_))
      have hmk:∀ {i' j':Nat},Mk (m.set (i+(prt t r).length) ((m.getD (i+(prt t r).length) []).set d true)) i' j'↔(i+(prt t r).length=i'/\d=j')\/Mk m i' j':=Mk.set hto (by omega)
      refine ⟨⟨by rw [Jly];exact hA.len,λ i' h=>?_,λ i' j h hm=>?_,hmk.2 (.inr hA.first),λ i' h j x q hm hq' hs' hb'=>?_⟩,(λ h=>by cases h),λ _=>?_⟩
      ·by_cases e2:i+(prt t r).length=i'
       ·subst e2;rw [CX hto,Jly];exact hrow2
       ·rw [CQ e2];exact hA.rows i' h
      ·rcases hmk.1 hm with ⟨rfl,rfl⟩|hm
       ·obtain ⟨q,g1,g2⟩:=hA.sound i k hi hb
        rw [hq] at g1;cases g1
        exact ⟨_,hdg,g2.next hst hpf⟩
       ·exact hA.sound i' j h hm
      ·rcases hmk.1 hm with ⟨h1,_⟩|hm
       ·omega
       ·obtain ⟨j',g1,g2⟩:=hA.done i' h j x q hm hq' hs' hb'
        exact ⟨j',g1,hmk.2 (.inr g2)⟩
      ·have:=JdL (l:=m) (i:=i+(prt t r).length) (j:=d) (r:=m.getD (i+(prt t r).length) []) (by rw [Jlp,Jlg hto];rfl) hb2
       cases hch:ch with
       | false=>rw [(hP.same hch).1] at this ⊢;omega
       | true=>have:=hP.less hch;omega
 ·rintro ⟨m,ch,r'⟩ ⟨e1,hP⟩
  simp only at e1 hP
  subst e1
  unfold Dm
  simp only [Jlq,DN]
  exact Tot.gF (Xg _) (Tot.gF (Xg _) (Tot.iteF (by rw [Xg];rfl) (Tot.pure hP)))
theorem Jfm {i:Nat} (hi:i<=s.length) {m0:List (List Bool)} (x0:Int) (h1:Rea t s i m0) :
  Tot (λ n=>whl (λ (x:((List (List Bool))×Bool×Int))=>Dn n t s (Af t) x0 (i:Int) x.1 x.2.1 x.2.2) n (m0,false,0)) (λ y=>PC t s i m0 y.1 y.2 (Af t).length 0):=by
 have hlen:=IJ hT
 refine Tot.upto (body:=λ n x=>Dn n t s (Af t) x0 (i:Int) x.1 x.2.1 x.2.2) (Af t).length (λ k x=>x.2.2=(k:Int)/\PC t s i m0 x.1 x.2.1 k 0) ?_ ?_ _ ⟨rfl,h1,λ _=>⟨rfl,λ j m h=>by omega⟩,λ h=>by cases h⟩
 ·rintro k ⟨out,ch,k'⟩ hk ⟨e1,hP⟩
  simp only at e1 hP
  subst e1
  unfold Dn
  refine Tot.iteT (Fx hk) (Tot.bind (Jfl hT hs hi hk x0 hP) ?_)
  rintro ⟨out',ch'⟩ hP'
  exact Tot.pure ⟨CP (by omega),hP'.rea,λ hc=>⟨(hP'.same hc).1,λ j m hjm hm=>(hP'.same hc).2 j m (by omega) hm⟩,hP'.less⟩
 ·rintro ⟨out,ch,k'⟩ ⟨e1,hP⟩
  simp only at e1 hP
  subst e1
  unfold Dn
  exact Tot.iteF (by simp) (Tot.pure hP)
theorem Jfn {i:Nat} (hi:i<=s.length) {m0:List (List Bool)} (x0:Int) (h1:Rea t s i m0) :
  Tot (λ n=>whl (λ (x:((List (List Bool))×Bool))=>Ei n t s (Af t) x0 (i:Int) x.1 x.2) n (m0,true)) (Rea t s (i+1)):=by
 refine Tot.whl (body:=λ n x=>Ei n t s (Af t) x0 (i:Int) x.1 x.2) (λ c x=>Rea t s i x.1/\((x.2=true/\c=VS x.1+1)\/(x.2=false/\c=0/\Rea t s (i+1) x.1))) ?_ (VS m0+1) (m0,true) ⟨h1,.inl ⟨rfl,rfl⟩⟩
 rintro c ⟨m,ch⟩ ⟨hS,hm⟩
 simp only at hS hm
 unfold Ei
 rcases hm with ⟨rfl,rfl⟩|⟨rfl,rfl,hR⟩
 ·refine Tot.iteT rfl (Tot.bind (Jfm hT hs hi x0 hS) ?_)
  rintro ⟨m',ch'⟩ hP
  simp only at hP
  cases ch' with
  | false=>
   obtain ⟨e,hrel⟩:=hP.same rfl
   subst e
   refine Tot.pure ⟨0,by omega,hS,.inr ⟨rfl,rfl,hS.len,hS.rows,hS.sound,hS.first,λ i' hi' j k q hmk hq hst hpf=>?_⟩⟩
   by_cases e:i'=i
   ·subst e
    exact hrel j k (.inl (Al hq)) (by have:=Cw hst;omega) q hmk hq hst hpf
   ·exact hS.done i' (by omega) j k q hmk hq hst hpf
  | true=>
   have:=hP.less rfl
   exact Tot.pure ⟨VS m'+1,by omega,hP.rea,.inl ⟨rfl,rfl⟩⟩
 ·exact Tot.iteF rfl (Tot.pure hR)
omit hs in
theorem Rea.all {i:Nat} {m:List (List Bool)} (h:Rea t s (i+1) m) {j:Nat} {q:Aa} (hq:(Af t)[j]? = some q):Rch t s i q↔i<=s.length/\Mk m i j:=by
 constructor
 ·intro hr
  refine ⟨hr.1,?_⟩
  have key:∀ {i' q},Rch t s i' q->i'<=i->∃ j,(Af t)[j]? = some q/\Mk m i' j:=λ {i' q} hr=>Rch.ind (A:=λ i' q=>i'<=i->∃ j,(Af t)[j]? = some q/\Mk m i' j) (λ _=>⟨0,(Cb hT.tab).1.first,h.first⟩) (λ i' q k hi' hA hst hpf hle=>by
   obtain ⟨j,h1,h2⟩:=hA (by omega)
   exact h.done i' (by omega) j k q h2 h1 hst hpf) hr
  obtain ⟨j',h1,h2⟩:=key hr (Nat.le_refl _)
  rwa [M6 (Rv hT) hq h1]
 ·rintro ⟨h1,h2⟩
  obtain ⟨q',g1,g2⟩:=h.sound i j h1 h2
  rw [hq] at g1;cases g1
  exact g2
theorem Jfo {i:Nat} (hi:i<=s.length) {m:List (List Bool)} (h:Rea t s (i+1) m) {v0:Int} (h0:Hq t s i v0) :
  Tot (λ n=>whl (λ (x:((List (List Bool))×Int×Int))=>Do n t s (Af t) (i:Int) (Dv s i) x.1 x.2.1 x.2.2) n (m,v0,0)) (λ y=>y.1=m/\Hq t s (i+1) y.2):=by
 have _:=hs
 have hlen:=IJ hT
 refine Tot.upto (body:=λ n x=>Do n t s (Af t) (i:Int) (Dv s i) x.1 x.2.1 x.2.2) (Af t).length (λ k x=>x.2.2=(k:Int)/\x.1=m/\(Hq t s (i+1) x.2.1/\PA t s i\/(x.2.1=v0/\∀ j q,j<k->(Af t)[j]? = some q->¬(Rch t s i q/\GT q.Need (Dv s i)=true)))) ?_ ?_ _ ⟨rfl,rfl,.inr ⟨rfl,λ j q h=>by omega⟩⟩
 ·rintro k ⟨m',v,k'⟩ hk ⟨e1,e2,hv⟩
  simp only at e1 e2 hv
  subst e1 e2
  have hq:(Af t)[k]? = some (Af t)[k]:=Jlg hk
  have hil:i<m'.length:=by rw [h.len];omega
  have hrow:=h.rows i hi
  obtain ⟨b,hb⟩:∃ b,(m'.getD i [])[k]? = some b:=⟨_,Jlg (by omega)⟩
  have hbd:(m'.getD i []).getD k false=b:=by rw [Jlp (l:=m'.getD i []),hb];rfl
  have hJ:∀ v',(Hq t s (i+1) v'/\PA t s i\/(v'=v0/\∀ j q,j<k+1->(Af t)[j]? = some q->¬(Rch t s i q/\GT q.Need (Dv s i)=true)))->Tot (λ n=>Ej n (k:Int) m' v') (Rd2 (λ x:List (List Bool)×Int×Int=>x.2.2=((k+1:Nat):Int)/\x.1=m'/\(Hq t s (i+1) x.2.1/\PA t s i\/(x.2.1=v0/\∀ j q,j<k+1->(Af t)[j]? = some q->¬(Rch t s i q/\GT q.Need (Dv s i)=true)))) (λ y=>y.1=m'/\Hq t s (i+1) y.2)):=by
   intro v' hh
   unfold Ej
   exact Tot.pure ⟨CP (by omega),rfl,hh⟩
  have hno:¬(Rch t s i (Af t)[k]/\GT (Af t)[k].Need (Dv s i)=true)->(Hq t s (i+1) v/\PA t s i\/(v=v0/\∀ j q,j<k+1->(Af t)[j]? = some q->¬(Rch t s i q/\GT q.Need (Dv s i)=true))):=by
   intro hn
   refine hv.imp id λ ⟨g1,g2⟩=>⟨g1,λ j q hj hjq=>?_⟩
   by_cases e:j=k
   ·subst e;rw [hq] at hjq;cases hjq;exact hn
   ·exact g2 j q (by omega) hjq
  unfold Do
  simp only [Jlq]
  refine Tot.iteT (Fx hk) (Tot.bindC (AW [] hil) (Tot.bindC (AW false (by omega)) ?_))
  rw [hbd]
  simp only [DN]
  cases b with
  | false=>
   refine Tot.gF rfl (Tot.gF rfl (Tot.iteF rfl (hJ v (hno λ hh=>?_))))
   have:=((Rea.all hT h hq).1 hh.1).2
   unfold Mk at this
   rw [hb] at this;cases this
  | true=>
   refine Tot.gE rfl (Ev.all λ n=>CC hq) (Tot.gE rfl (Ev.all λ n=>Yf n _ _) (Tot.ite (λ hc=>?_) λ hc=>?_))
   ·have hst:PA t s i:=⟨_,(Rea.all hT h hq).2 ⟨hi,hb⟩,by simpa using hc⟩
    exact hJ _ (.inl ⟨.stop hst,hst⟩)
   ·exact hJ v (hno λ hh=>by rw [hh.2] at hc;cases hc)
 ·rintro ⟨m',v,k'⟩ ⟨e1,e2,hv⟩
  simp only at e1 e2 hv
  subst e1 e2
  unfold Do
  refine Tot.iteF (by simp) (Tot.pure ⟨rfl,?_⟩)
  rcases hv with hv|⟨rfl,hv⟩
  ·exact hv.1
  ·refine h0.skip ?_
   rintro ⟨q,h1,h2⟩
   have hmem:q∈Af t:=by
    obtain ⟨j,hj,_⟩:=Rch.ind (A:=λ _ q=>∃ j,(Af t)[j]? = some q/\True) ⟨0,(Cb hT.tab).1.first,trivial⟩ (λ i' q k _ hA hst _=>by
     obtain ⟨j,hj,_⟩:=hA
     obtain ⟨d,_,hd⟩:=Cc (EB hT (Jli hj) hst)
     exact ⟨d,hd,trivial⟩) h1
    exact Jli hj
   obtain ⟨j,hj,e⟩:=List.getElem_of_mem hmem
   exact hv j q hj (by rw [← e];exact Jlg hj) ⟨h1,h2⟩
theorem Yp:Tot (λ n=>I0 n t s) (NO t s):=by
 have hlen:=IJ hT
 have hf:=(Cb hT.tab).1.first
 have hpos:=Al hf
 unfold I0
 have e1:Ar .i64 ((s.length:Nat):Int) 1=((s.length+1:Nat):Int):=CP (by omega)
 refine Tot.bindE (MQ hT.tab) ?_
 rw [e1]
 refine Tot.bindC (Q1 (by omega) (by omega)) ?_
 rw [Jlq]
 refine Tot.bind (R:=λ m=>m.length=s.length+1/\∀ i,i<=s.length->m.getD i []=List.replicate (Af t).length false) ?_ ?_
 ·refine Tot.upto (body:=λ n x=>Eg n t s (Af t) x.1 x.2) (s.length+1) (λ k x=>x.2=(k:Int)/\x.1.length=s.length+1/\∀ i,i<k->x.1.getD i []=List.replicate (Af t).length false) ?_ ?_ _ ⟨rfl,by simp,by omega⟩
  ·rintro k ⟨m,k'⟩ hk ⟨g1,g2,g3⟩
   simp only at g1 g2 g3
   subst g1
   unfold Eg
   refine Tot.iteT (by simp;omega) (Tot.bindC (AW [] (show k<m.length by omega)) (Tot.bindC (Q1 (by omega) (by omega)) ?_))
   rw [Jlq,Jlq]
   refine Tot.pure ⟨CP (by omega),by rw [Jly];exact g2,λ i hi=>?_⟩
   by_cases e:k=i
   ·subst e;exact CX (show k<m.length by omega) _ _
   ·show (m.set k _).getD i []=_
    rw [CQ e];exact g3 i (by omega)
  ·rintro ⟨m,k'⟩ ⟨g1,g2,g3⟩
   simp only at g1 g2 g3
   subst g1
   unfold Eg
   exact Tot.iteF (by simp;omega) (Tot.pure ⟨g2,λ i hi=>g3 i (by omega)⟩)
 ·rintro m ⟨g2,g3⟩
  have g0:=g3 0 (by omega)
  have h0l:(m.getD 0 []).length=(Af t).length:=by rw [g0,List.length_replicate]
  refine Tot.bindC (AW (i:=0) [] (by omega)) (Tot.bindC (AW (i:=0) false (by omega)) (Tot.bindC (Lm (i:=0) (by omega)) ?_))
  have hmk:∀ {i' j':Nat},Mk (m.set 0 ((m.getD 0 []).set 0 true)) i' j'↔(0=i'/\0=j')\/Mk m i' j':=Mk.set (by omega) (by omega)
  have hnm:∀ i j,i<=s.length->¬Mk m i j:=by
   intro i j hi hm
   unfold Mk at hm
   rw [g3 i hi,List.getElem?_replicate] at hm
   split at hm<;>cases hm
  have hR:Rea t s 0 (m.set 0 ((m.getD 0 []).set 0 true)):=by
   refine ⟨by rw [Jly];exact g2,λ i hi=>?_,λ i j hi hm=>?_,hmk.2 (.inl ⟨rfl,rfl⟩),λ i' h=>by omega⟩
   ·by_cases e:0=i
    ·subst e;rw [CX (by omega),Jly];exact h0l
    ·rw [CQ e,g3 i hi,List.length_replicate]
   ·rcases hmk.1 hm with ⟨rfl,rfl⟩|hm
    ·exact ⟨_,hf,.start t s⟩
    ·exact absurd hm (hnm i j hi)
  refine Tot.bind (R:=NO t s) ?_ (λ v hv=>Tot.pure hv)
  refine Tot.upto (body:=λ n x=>El n t s (Af t) x.1 x.2.1 x.2.2) (s.length+1) (λ i x=>x.2.2=(i:Int)/\Rea t s i x.1/\Hq t s i x.2.1) ?_ ?_ _ ⟨rfl,hR,⟨0,rfl,.inl rfl⟩,by omega⟩
  ·rintro i ⟨m',v,i'⟩ hi ⟨k1,k2,k3⟩
   simp only at k1 k2 k3
   subst k1
   unfold El
   refine Tot.iteT (by simp;omega) (Tot.bind (Jfn hT hs (show i<=s.length by omega) v k2) ?_)
   intro m2 hm2
   have hJ:∀ c,c=Dv s i->Tot (λ n=>Ek n t s (Af t) v (i:Int) m2 c) (Rd2 (λ x:List (List Bool)×Int×Int=>x.2.2=((i+1:Nat):Int)/\Rea t s (i+1) x.1/\Hq t s (i+1) x.2.1) (NO t s)):=by
    rintro c rfl
    unfold Ek
    refine Tot.bind (Jfo hT hs (show i<=s.length by omega) hm2 k3) ?_
    rintro ⟨m3,v3⟩ ⟨rfl,hv3⟩
    exact Tot.pure ⟨CP (by omega),hm2,hv3⟩
   refine Tot.ite (λ h=>?_) λ h=>?_
   ·have hlt:i<s.length:=by simpa using h
    refine Tot.bindC (Lj hlt) (Tot.bindA (λ n=>Uz n _) (hJ _ ?_))
    unfold Dv;rw [if_pos hlt]
   ·have hlt:¬i<s.length:=by simpa using h
    refine hJ 0 ?_
    unfold Dv;rw [if_neg hlt]
  ·rintro ⟨m',v,i'⟩ ⟨k1,k2,k3⟩
   simp only at k1 k2 k3
   subst k1
   unfold El
   exact Tot.iteF (by simp;omega) (Tot.pure k3.all)
end
end Go.AI
end
section
namespace Go.AI
def Kq (t:Ad) (q:Aa) (k:Nat):Option AB:=if (Au t q k).2=true then some ⟨k,BW (Af t) (Au t q k).1⟩ else none
def A7 (t:Ad) (q:Aa):List AB:=(List.range t.Rules.length).filterMap (Kq t q)
theorem Is {t:Ad} {q:Aa} {a:AB}:a∈A7 t q↔∃ k:Nat,k<t.Rules.length/\(Au t q k).2=true/\a=⟨k,BW (Af t) (Au t q k).1⟩:=by
 unfold A7
 rw [List.mem_filterMap]
 constructor
 ·rintro ⟨k,hk,h⟩
  unfold Kq at h
  split at h
  ·rename_i hs;cases h;exact ⟨k,List.mem_range.1 hk,hs,rfl⟩
  ·cases h
 ·rintro ⟨k,hk,hs,rfl⟩
  exact ⟨k,List.mem_range.2 hk,by unfold Kq;rw [if_pos hs]⟩
structure Q4 (t:Ad) (s:List UInt8) (w:Ac):Prop where
 tt:w.T=t
 ss:w.S=s
 st:w.States=Af t
 al:w.Arcs.length=(Af t).length
 arc:∀ (j:Nat) q,(Af t)[j]? = some q->w.Arcs[j]? = some (A7 t q)
section
variable {t:Ad} (hT:Ln t) {s:List UInt8} (hs:s.length<=4000)
include hT hs
theorem Jfp (x:List AD):Tot (λ n=>whl (λ (x_1:((List (Aa×Int))×Int))=>BX n t s (Af t) x x_1.1 x_1.2) n ([],0)) (Jl (Af t)):=by
 have _:=hs
 have hlen:=IJ hT
 refine Tot.upto (body:=λ n y=>BX n t s (Af t) x y.1 y.2) (Af t).length (λ k y=>y.2=(k:Int)/\Jl ((Af t).take k) y.1) ?_ ?_ _ ⟨rfl,λ q=>rfl⟩
 ·rintro k ⟨nb,k'⟩ hk ⟨e1,hN⟩
  simp only at e1 hN
  subst e1
  unfold BX
  refine Tot.iteT (Fx hk) (Tot.bindC (Oj hk) (Tot.pure ⟨CP (by omega),?_⟩))
  have hn:=Rv hT
  have e:(Af t).take (k+1)=(Af t).take k++[(Af t)[k]]:=by rw [List.take_add_one,Jlg hk];rfl
  have hnd:((Af t).take (k+1)).Nodup:=(List.take_sublist _ _).nodup hn
  rw [e] at hnd
  have hp:(Af t)[k] ∉ (Af t).take k:=by
   intro hm
   exact (List.nodup_append.1 hnd).2.2 _ hm _ (by simp) rfl
  have:=Jl.snoc hN ((List.take_sublist _ _).nodup hn) hp
  rw [← e,List.length_take,Nat.min_eq_left (by omega)] at this
  exact this
 ·rintro ⟨nb,k'⟩ ⟨e1,hN⟩
  simp only at e1 hN
  subst e1
  rw [List.take_length] at hN
  unfold BX
  exact Tot.iteF (by simp) (Tot.pure hN)
omit hs in
theorem Jfq {nb:List (Aa×Int)} (hN:Jl (Af t) nb) {q:Aa} (hq:q∈Af t):Option.getD (Gi q nb) 0=BW (Af t) q:=by
 obtain ⟨j,hj,hg⟩:=Cc hq
 rw [hN q,CM (Rv hT) hg,hj];rfl
omit hs in
theorem Jfr {nb:List (Aa×Int)} (hN:Jl (Af t) nb) {j:Nat} {q:Aa} (hq:(Af t)[j]? = some q) (w0:Ac) (hl:w0.Arcs.length=(Af t).length) (h0:w0.Arcs[j]? = some []) :
  Tot (λ n=>whl (λ (x:(Ac×Int))=>BY n t (Af t) nb (j:Int) q x.1 x.2) n (w0,0)) (λ w=>w={ w0 with Arcs:=w0.Arcs.set j (A7 t q) }):=by
 have hrl:=hT.tab.1
 have hjl:=Al hq
 refine Tot.upto (body:=λ n x=>BY n t (Af t) nb (j:Int) q x.1 x.2) t.Rules.length (λ k x=>x.2=(k:Int)/\x.1={ w0 with Arcs:=w0.Arcs.set j ((List.range k).filterMap (Kq t q)) }/\((List.range k).filterMap (Kq t q)).length<=k) ?_ ?_ _ ⟨rfl,?_,by simp⟩
 ·rintro k ⟨w,k'⟩ hk ⟨e1,e2,e3⟩
  simp only at e1 e2 e3
  subst e1
  have hJ:∀ w',w'={ w0 with Arcs:=w0.Arcs.set j ((List.range (k+1)).filterMap (Kq t q)) }->Tot (λ n=>Cl n (k:Int) w') (Rd2 (λ x:Ac×Int=>x.2=((k+1:Nat):Int)/\x.1={ w0 with Arcs:=w0.Arcs.set j ((List.range (k+1)).filterMap (Kq t q)) }/\((List.range (k+1)).filterMap (Kq t q)).length<=k+1) (λ w=>w={ w0 with Arcs:=w0.Arcs.set j (A7 t q) })):=by
   intro w' hw
   unfold Cl
   refine Tot.pure ⟨CP (by omega),hw,?_⟩
   exact Nat.le_trans (List.length_filterMap_le _ _) (by simp)
  unfold BY
  refine Tot.iteT (Fx hk) (Tot.bindA (λ n=>RG hT.tab.short n q k) (Tot.ite (λ h=>?_) λ h=>?_))
  ·subst e2
   refine Tot.bindC (AW [] (by rw [Jly];omega)) ?_
   rw [CX (by omega)]
   refine Tot.bindC (Gg (by simp;omega)) (hJ _ ?_)
   rw [Jfq hT hN (EB hT (Jli hq) h)]
   simp only [Jlq,List.set_set,List.range_succ,List.filterMap_append]
   have:(List.filterMap (Kq t q) [k])=[⟨k,BW (Af t) (Au t q k).1⟩]:=by
    simp only [List.filterMap_cons,Kq,h,if_true,List.filterMap_nil]
   rw [this]
  ·refine hJ _ ?_
   rw [e2]
   simp only [List.range_succ,List.filterMap_append]
   have:(List.filterMap (Kq t q) [k])=[]:=by
    simp only [List.filterMap_cons,Kq,h,Jlt,if_false,List.filterMap_nil]
   rw [this,List.append_nil]
 ·rintro ⟨w,k'⟩ ⟨e1,e2,e3⟩
  simp only at e1 e2
  subst e1
  unfold BY
  exact Tot.iteF (by simp) (Tot.pure e2)
 ·show w0={ w0 with Arcs:=w0.Arcs.set j [] }
  have:w0.Arcs.set j []=w0.Arcs:=by
   have:=DN w0.Arcs j []
   rwa [Jlp,h0] at this
  rw [this]
theorem Jjh:Tot (λ n=>DS n t s) (λ w=>Q4 t s w/\w.Columns=List.replicate (s.length+1) ⟨[],[]⟩/\w.Last=0):=by
 have hlen:=IJ hT
 unfold DS
 have e1:Ar .i64 ((s.length:Nat):Int) 1=((s.length+1:Nat):Int):=CP (by omega)
 refine Tot.bindE (Yj hT.tab) ?_
 rw [e1]
 refine Tot.bindC (Q1 (by omega) (by omega)) (Tot.bind (Jfp hT hs _) ?_)
 intro nb hN
 refine Tot.bindC (Q1 (by omega) (by omega)) ?_
 simp only [Jlq]
 refine Tot.bind (R:=λ w=>Q4 t s w/\w.Columns=List.replicate (s.length+1) ⟨[],[]⟩/\w.Last=0) ?_ (λ w h=>Tot.pure h)
 refine Tot.upto (body:=λ n x=>Cm n t (Af t) nb x.1 x.2) (Af t).length (λ k x=>x.2=(k:Int)/\∃ A,x.1=({ T:=t,S:=s,States:=Af t,Arcs:=A,Columns:=List.replicate (s.length+1) ⟨[],[]⟩,Last:=0 }:Ac)/\A.length=(Af t).length/\(∀ (j:Nat) q,j<k->(Af t)[j]? = some q->A[j]? = some (A7 t q))/\∀ j,k<=j->j<(Af t).length->A[j]? = some []) ?_ ?_ _ ⟨rfl,_,rfl,by simp,by omega,λ j _ h=>by rw [List.getElem?_replicate,if_pos h]⟩
 ·rintro k ⟨w,k'⟩ hk ⟨e1,A,e2,a1,a2,a3⟩
  simp only at e1 e2
  subst e1 e2
  have hq:(Af t)[k]? = some (Af t)[k]:=Jlg hk
  unfold Cm
  refine Tot.iteT (Fx hk) (Tot.bindC (CC hq) (Tot.bind (Jfr hT hN hq _ a1 (a3 k (Nat.le_refl _) hk)) ?_))
  rintro w' rfl
  refine Tot.pure ⟨CP (by omega),_,rfl,by rw [Jly];exact a1,λ j q hj hjq=>?_,λ j h1 h2=>?_⟩
  ·by_cases e:k=j
   ·subst e
    rw [hq] at hjq;cases hjq
    exact Jls (show k<A.length by omega)
   ·rw [Jlx e];exact a2 j q (by omega) hjq
  ·rw [Jlx (by omega)];exact a3 j (by omega) h2
 ·rintro ⟨w,k'⟩ ⟨e1,A,e2,a1,a2,a3⟩
  simp only at e1 e2
  subst e1 e2
  unfold Cm
  exact Tot.iteF (by simp) (Tot.pure ⟨⟨rfl,rfl,rfl,a1,λ j q hq=>a2 j q (Al hq) hq⟩,rfl,rfl⟩)
theorem QB {w:Ac} (hw:Q4 t s w) {i:Nat} (hi:i<=s.length) {q:Aa} {k:Nat} (hk:(Au t q k).2=true) (n:Nat) :
  Bx n (i:Int) (k:Int) w=some (((i+(prt t k).length:Nat):Int),(prt t k).isPrefixOf (s.drop i)):=by
 have h:=Cw hk
 obtain ⟨p1,p2,p3⟩:=hT.pr hk
 have hpl:(prt t k).length=(CO t k).Print.length:=rfl
 unfold Bx DQ ET
 rw [hw.tt,hw.ss,Iq h.1 h.2,Option.bind_some,Jds (by omega) (by omega) (by omega),Option.bind_some]
 simp only [Jlq,List.take_length]
 have e1:Ar .i64 (i:Int) ((List.length (CO t k).Print:Nat):Int)=((i+(prt t k).length:Nat):Int):=by rw [MP (by omega) (by omega)];omega
 rw [e1]
 by_cases hle:(prt t k).length<=(s.drop i).length
 ·have hd:decide (((List.length (s.drop i):Nat):Int)>=((List.length (CO t k).Print:Nat):Int))=true:=by simp only [ge_iff_le,decide_eq_true_eq];omega
  rw [if_pos hd,VL (by omega),Option.bind_some,hd,Bool.true_and,Option.bind_some,Option.bind_some]
  congr 2
  rw [Bool.eq_iff_iff,beq_iff_eq,List.isPrefixOf_iff_prefix]
  constructor
  ·intro h2
   have:=List.take_prefix (CO t k).Print.length (s.drop i)
   rw [h2] at this;exact this
  ·intro h2;exact (List.prefix_iff_eq_take.1 h2).symm
 ·have hd:decide (((List.length (s.drop i):Nat):Int)>=((List.length (CO t k).Print:Nat):Int))=false:=by simp only [ge_iff_le,decide_eq_false_iff_not];omega
  rw [if_neg (by rw [hd];simp),Option.bind_some,hd,Bool.false_and,Option.bind_some,Option.bind_some]
  congr 2
  rw [eq_comm,← Bool.not_eq_true,List.isPrefixOf_iff_prefix]
  intro hp'
  exact hle hp'.length_le
end
end Go.AI
end
section
namespace Go.AI
def A2 (w:Ac) (p:Nat):List Int:=(w.Columns.getD p default).States
def InC (w:Ac) (p:Nat) (v:Int):Prop:=v∈A2 w p
structure Kn (t:Ad) (s:List UInt8) (place:Nat) (w:Ac) (kn:List (List Bool)):Prop where
 base:Q4 t s w
 clen:w.Columns.length=s.length+1
 cost:∀ p,(w.Columns.getD p default).Costs=[]
 klen:kn.length=5
 rows:∀ c,c<5->(kn.getD c []).length=(Af t).length
 nod:∀ p,(A2 w p).Nodup
 ok:∀ p v,InC w p v->∃ (j:Nat) (q:Aa),v=(j:Int)/\(Af t)[j]? = some q/\Rch t s p q
 row:∀ p,place<=p->p<place+5->∀ j:Nat,(kn.getD (p % 5) [])[j]? = some true↔InC w p (j:Int)
 far:∀ p,place+5<=p->A2 w p=[]
structure Jo (w w':Ac):Prop where
 last:w'.Last=w.Last
 pre:∀ p,A2 w p <+: A2 w' p
theorem Jo.refl (w:Ac):Jo w w:=⟨rfl,λ _=>List.prefix_rfl⟩
theorem Jo.trans {w w' w'':Ac} (h:Jo w w') (h':Jo w' w''):Jo w w'':=⟨h'.last.trans h.last,λ p=>(h.pre p).trans (h'.pre p)⟩
theorem Jo.inc {w w':Ac} (h:Jo w w') {p:Nat} {v:Int} (hv:InC w p v):InC w' p v:=(h.pre p).subset hv
theorem Tu {w:Ac} {p:Nat} (hp:p<w.Columns.length) (c:AD) (p':Nat) (a b d:Int) (x:List Az):((w.Columns.set p c).getD p' default)=if p=p' then c else w.Columns.getD p' default:=by
 split
 ·rename_i e;subst e;exact CX hp _ _
 ·rename_i e;exact CQ e _ _
section
variable {t:Ad} (hT:Ln t) {s:List UInt8} (hs:s.length<=4000)
include hT hs
omit hs in
theorem Kn.len {place:Nat} {w:Ac} {kn:List (List Bool)} (h:Kn t s place w kn) (p:Nat):(A2 w p).length<=(Af t).length:=by
 have _:=hT
 have hsub:∀ v∈A2 w p,v∈(List.range (Af t).length).map (λ j:Nat=>(j:Int)):=by
  intro v hv
  obtain ⟨j,q,rfl,hq,_⟩:=h.ok p v hv
  exact List.mem_map.2 ⟨j,List.mem_range.2 (Al hq),rfl⟩
 have:=(h.nod p).length_le_of_subset hsub
 simpa using this
omit hs in
theorem JdM {place:Nat} {w:Ac} {kn:List (List Bool)} (h:Kn t s place w kn) {p:Nat} (h1:place<=p) (h2:p<place+5) (hp:p<=s.length) {j:Nat} {q:Aa} (hq:(Af t)[j]? = some q) (hr:Rch t s p q) :
  Tot (λ n=>BU n (p:Int) (j:Int) w kn) (λ y=>Kn t s place y.1 y.2/\Jo w y.1/\InC y.1 p (j:Int)):=by
 have hlen:=IJ hT
 have hc5:p % 5<5:=Nat.mod_lt _ (by omega)
 have hjl:=Al hq
 have hrl:=h.rows _ hc5
 obtain ⟨b,hb⟩:∃ b,(kn.getD (p % 5) [])[j]? = some b:=⟨_,Jlg (by omega)⟩
 have hbd:(kn.getD (p % 5) []).getD j false=b:=by rw [Jlp (l:=kn.getD (p % 5) []),hb];rfl
 have e5:Bv (p:Int) 5=((p % 5:Nat):Int):=by
  have:=(Qy (a:=(p:Int)) (m:=5) (by omega) (by omega)).1
  rw [this];omega
 unfold BU
 rw [e5]
 simp only [Jlq]
 refine Tot.bindC (AW [] (by rw [h.klen];exact hc5)) (Tot.bindC (DU (by simp;omega)) (Tot.bindC (AW false (by omega)) ?_))
 rw [hbd]
 cases b with
 | true=>
  refine Tot.iteF rfl (Tot.pure ?_)
  rw [DN]
  exact ⟨h,.refl w,(h.row p h1 h2 j).1 hb⟩
 | false=>
  have hcl:p<w.Columns.length:=by rw [h.clen];omega
  have hnl:=h.len hT p
  refine Tot.iteT rfl (Tot.bindC (AW false (by omega)) (Tot.bindC (Lm (by omega)) (Tot.bindC (AW default hcl) (Tot.bindC (Gg (by show ((A2 w p).length+1)*8<=70368744177664;omega)) (Tot.pure ?_)))))
  have hni:¬InC w p (j:Int):=λ hin=>by have:=(h.row p h1 h2 j).2 hin;rw [hb] at this;cases this
  generalize hw':(⟨w.T,w.S,w.States,w.Arcs,w.Columns.set p ⟨(w.Columns.getD p default).States++[(j:Int)],(w.Columns.getD p default).Costs⟩,w.Last⟩:Ac)=w'
  have hcol:∀ p',w'.Columns.getD p' default=if p=p' then ⟨(w.Columns.getD p default).States++[(j:Int)],(w.Columns.getD p default).Costs⟩ else w.Columns.getD p' default:=by
   intro p'
   subst hw'
   exact Tu hcl _ p' 0 0 0 []
  have hcS:∀ p',A2 w' p'=if p=p' then A2 w p++[(j:Int)] else A2 w p':=by
   intro p'
   unfold A2
   rw [hcol]
   split<;>rfl
  have hin:∀ p' v,InC w' p' v↔InC w p' v\/(p=p'/\v=(j:Int)):=by
   intro p' v
   unfold InC
   rw [hcS]
   by_cases e:p=p'
   ·subst e;rw [if_pos rfl,List.mem_append,List.mem_singleton];simp
   ·rw [if_neg e];simp [e]
  have hkn:∀ c,(kn.set (p % 5) ((kn.getD (p % 5) []).set j true)).getD c []=if p % 5=c then (kn.getD (p % 5) []).set j true else kn.getD c []:=by
   intro c
   split
   ·rename_i e;subst e;exact CX (by rw [h.klen];exact hc5) _ _
   ·rename_i e;exact CQ e _ _
  refine ⟨⟨?_,?_,λ p'=>?_,by rw [Jly];exact h.klen,λ c hc=>?_,λ p'=>?_,λ p' v hv=>?_,λ p' g1 g2 j'=>?_,λ p' g=>?_⟩,⟨?_,λ p'=>?_⟩,(hin _ _).2 (.inr ⟨rfl,rfl⟩)⟩
  ·subst hw';exact ⟨h.base.tt,h.base.ss,h.base.st,h.base.al,h.base.arc⟩
  ·subst hw';simp only [Jly];exact h.clen
  ·rw [hcol]
   split
   ·exact h.cost p
   ·exact h.cost p'
  ·rw [hkn]
   split
   ·rw [Jly];exact hrl
   ·exact h.rows c hc
  ·rw [hcS]
   split
   ·rw [List.nodup_append]
    exact ⟨h.nod p,by simp,λ a ha b hb e=>by simp at hb;subst hb;subst e;exact hni ha⟩
   ·exact h.nod p'
  ·rcases (hin p' v).1 hv with hv|⟨rfl,rfl⟩
   ·exact h.ok p' v hv
   ·exact ⟨j,q,rfl,hq,hr⟩
  ·rw [hkn,hin]
   by_cases e:p=p'
   ·subst e
    rw [if_pos rfl]
    by_cases e2:j=j'
    ·subst e2;rw [Jls (by omega)];simp
    ·rw [Jlx e2,h.row p h1 h2 j']
     exact ⟨.inl,λ hh=>hh.resolve_right λ hh=>e2 (by have:=hh.2;omega)⟩
   ·rw [if_neg (by omega),h.row p' g1 g2 j']
    exact ⟨.inl,λ hh=>hh.resolve_right λ hh=>e hh.1⟩
  ·rw [hcS,if_neg (by omega)];exact h.far p' g
  ·subst hw';rfl
  ·rw [hcS]
   split
   ·rename_i e;subst e;exact List.prefix_append _ _
   ·exact List.prefix_rfl
def Clo (t:Ad) (s:List UInt8) (w:Ac) (p:Nat) (q:Aa):Prop:=∀ k:Nat,(Au t q k).2=true->(prt t k).isPrefixOf (s.drop p)=true->∃ j:Nat,(Af t)[j]? = some (Au t q k).1/\InC w (p+(prt t k).length) (j:Int)
theorem Jak {place:Nat} (hpl:place<=s.length) {w:Ac} {kn:List (List Bool)} (h:Kn t s place w kn) {j:Nat} {q:Aa} (hq:(Af t)[j]? = some q) (hr:Rch t s place q) (x0:Ac×List (List Bool)) (x1 x2:Int) :
  Tot (λ n=>whl (λ (x:(Ac×(List (List Bool))×Int))=>Bk n x0 (place:Int) x1 x2 (A7 t q) x.1 x.2.1 x.2.2) n (w,kn,0)) (λ y=>Kn t s place y.1 y.2/\Jo w y.1/\Clo t s y.1 place q):=by
 have hrl:=hT.tab.1
 have hal:(A7 t q).length<=t.Rules.length:=by unfold A7;exact Nat.le_trans (List.length_filterMap_le _ _) (by simp)
 refine Tot.upto (body:=λ n x=>Bk n x0 (place:Int) x1 x2 (A7 t q) x.1 x.2.1 x.2.2) (A7 t q).length (λ i x=>x.2.2=(i:Int)/\Kn t s place x.1 x.2.1/\Jo w x.1/\∀ (k:Nat) a,(∃ i',i'<i/\(A7 t q)[i']? = some a)->a.Rule=(k:Int)->(prt t k).isPrefixOf (s.drop place)=true->InC x.1 (place+(prt t k).length) a.To) ?_ ?_ _ ⟨rfl,h,.refl w,λ k a ⟨i',hi',_⟩=>by omega⟩
 ·rintro i ⟨w1,kn1,i'⟩ hi ⟨e1,hK,hE,hC⟩
  simp only at e1 hK hE hC
  subst e1
  have ha:(A7 t q)[i]? = some (A7 t q)[i]:=Jlg hi
  obtain ⟨k,hk,hst,hae⟩:=Is.1 (List.getElem_mem hi)
  have hJ:∀ w2 kn2,Kn t s place w2 kn2->Jo w1 w2->((prt t k).isPrefixOf (s.drop place)=true->InC w2 (place+(prt t k).length) (BW (Af t) (Au t q k).1))->Tot (λ n=>BF n (i:Int) w2 kn2) (Rd2 (λ x:Ac×(List (List Bool))×Int=>x.2.2=((i+1:Nat):Int)/\Kn t s place x.1 x.2.1/\Jo w x.1/\∀ (k:Nat) a,(∃ i',i'<i+1/\(A7 t q)[i']? = some a)->a.Rule=(k:Int)->(prt t k).isPrefixOf (s.drop place)=true->InC x.1 (place+(prt t k).length) a.To) (λ y=>Kn t s place y.1 y.2/\Jo w y.1/\Clo t s y.1 place q)):=by
   intro w2 kn2 g1 g2 g3
   unfold BF
   refine Tot.pure ⟨CP (by omega),g1,hE.trans g2,?_⟩
   rintro k' a ⟨i',hi',hia⟩ hak hpf
   by_cases e:i'=i
   ·subst e
    rw [ha,hae] at hia
    cases hia
    simp only at hak
    have:k=k':=by omega
    subst this
    exact g3 hpf
   ·exact g2.inc (hC k' a ⟨i',by omega,hia⟩ hak hpf)
  unfold Bk
  refine Tot.iteT (Fx hi) (Tot.bindC (CC ha) ?_)
  rw [hae]
  refine Tot.bindA (λ n=>QB hT hs hK.base hpl hst n) (Tot.ite (λ hpf=>?_) λ hpf=>?_)
  ·obtain ⟨d,hd,hdg⟩:=Cc (EB hT (Jli hq) hst)
   obtain ⟨p1,_,_⟩:=hT.pr hst
   have hle:=(Cy hpf).2 hpl
   simp only
   rw [hd]
   refine Tot.bind (JdM hT hK (p:=place+(prt t k).length) (by omega) (by omega) hle hdg (hr.next hst hpf)) ?_
   rintro ⟨w2,kn2⟩ ⟨g1,g2,g3⟩
   exact hJ w2 kn2 g1 g2 λ _=>by rw [hd];exact g3
  ·exact hJ w1 kn1 hK (.refl w1) λ hh=>by
    have:(prt t k).isPrefixOf (s.drop place)=false:=hpf
    rw [hh] at this;cases this
 ·rintro ⟨w1,kn1,i'⟩ ⟨e1,hK,hE,hC⟩
  simp only at e1 hK hE hC
  subst e1
  unfold Bk
  refine Tot.iteF (by simp) (Tot.pure ⟨hK,hE,λ k hst hpf=>?_⟩)
  obtain ⟨d,hd,hdg⟩:=Cc (EB hT (Jli hq) hst)
  have hm:(⟨k,BW (Af t) (Au t q k).1⟩:AB)∈A7 t q:=Is.2 ⟨k,by have:=Cw hst;omega,hst,rfl⟩
  obtain ⟨i',hi',e⟩:=List.getElem_of_mem hm
  have:=hC k _ ⟨i',hi',by rw [Jlg hi',e]⟩ rfl hpf
  simp only [hd] at this
  exact ⟨d,hdg,this⟩
omit hT hs in
theorem JdN {m c:Int} (h:0<=c) (h':c<=5):((Cp .u8 (Ss .u8 m c) 1)==1)=GT m c:=by
 unfold GT
 rw [decide_eq_true h,decide_eq_true (show c<8 by omega)];rfl
omit hT hs in
theorem Hr (w:Ac) (p:Nat) (d:AD):(⟨w.T,w.S,w.States,w.Arcs,w.Columns.set p (w.Columns.getD p d),w.Last⟩:Ac)=w:=by rw [DN]
omit hT hs in
theorem Kn.last {place:Nat} {w:Ac} {kn:List (List Bool)} (h:Kn t s place w kn) (v:Int):Kn t s place { w with Last:=v } kn:=⟨⟨h.base.tt,h.base.ss,h.base.st,h.base.al,h.base.arc⟩,h.clen,h.cost,h.klen,h.rows,h.nod,h.ok,h.row,h.far⟩
structure R3 (t:Ad) (s:List UInt8) (place:Nat) (v0:Int) (w0 w:Ac) (kn:List (List Bool)) (i:Nat):Prop where
 kn:Kn t s place w kn
 pre:∀ p,A2 w0 p <+: A2 w p
 le:i<=(A2 w place).length
 clo:∀ i' v,i'<i->(A2 w place)[i']? = some v->∀ (j:Nat) q,v=(j:Int)->(Af t)[j]? = some q->Clo t s w place q
 last:(w.Last=(place:Int)/\PA t s place)\/(w.Last=v0/\∀ i' v,i'<i->(A2 w place)[i']? = some v->∀ (j:Nat) q,v=(j:Int)->(Af t)[j]? = some q->GT q.Need (Dv s place)=false)
theorem Jal {place:Nat} (hpl:place<=s.length) {w0:Ac} {kn:List (List Bool)} (h:Kn t s place w0 kn) (x0:Ac×List (List Bool)) :
  Tot (λ n=>whl (λ (x:(Ac×(List (List Bool))×Int))=>BH n x0 (place:Int) (Dv s place) x.1 x.2.1 x.2.2) n (w0,kn,0)) (λ y=>R3 t s place w0.Last w0 y.1 y.2 (A2 y.1 place).length):=by
 have hlen:=IJ hT
 refine Tot.whl (body:=λ n x=>BH n x0 (place:Int) (Dv s place) x.1 x.2.1 x.2.2) (λ m x=>∃ i:Nat,m=1000-i/\x.2.2=(i:Int)/\R3 t s place w0.Last w0 x.1 x.2.1 i) ?_ 1000 _ ⟨0,rfl,rfl,h,λ _=>List.prefix_rfl,by omega,λ i' v h=>by omega,.inr ⟨rfl,λ i' v h=>by omega⟩⟩
 rintro m ⟨w,kn,i'⟩ ⟨i,rfl,e1,hR⟩
 simp only at e1 hR
 subst e1
 have hK:=hR.kn
 have hcl:place<w.Columns.length:=by rw [hK.clen];omega
 have hll:=hK.len hT place
 unfold BH
 simp only [Jlq]
 refine Tot.bindC (AW default hcl) ?_
 simp only [Hr,DN]
 rcases Nat.lt_or_ge i (A2 w place).length with hi|hi
 ·refine Tot.iteT (Fx hi) (Tot.bindC (AW default hcl) ?_)
  simp only [DN]
  have hv:(A2 w place)[i]? = some (A2 w place)[i]:=Jlg hi
  obtain ⟨j,q,hvj,hq,hr⟩:=hK.ok place _ (Jli hv)
  refine Tot.bindC (CC hv) ?_
  rw [hvj]
  have hcr:=Q3 s place
  refine Tot.bindC (show idx w.States (j:Int)=some q by rw [hK.base.st];exact CC hq) (Tot.bindC (DU (by simp;exact hcr.1)) ?_)
  rw [JdN hcr.1 hcr.2]
  have hJ:∀ w1,Kn t s place w1 kn->(∀ p,A2 w1 p=A2 w p)->((w1.Last=(place:Int)/\PA t s place)\/(w1.Last=w0.Last/\(∀ i' v,i'<i->(A2 w place)[i']? = some v->∀ (j:Nat) q,v=(j:Int)->(Af t)[j]? = some q->GT q.Need (Dv s place)=false)/\GT q.Need (Dv s place)=false)) ->
    Tot (λ n=>BG n x0 (place:Int) (Dv s place) kn (i:Int) (j:Int) w1) (Rd2 (λ y:Ac×(List (List Bool))×Int=>∃ m',m'<1000-i/\∃ i:Nat,m'=1000-i/\y.2.2=(i:Int)/\R3 t s place w0.Last w0 y.1 y.2.1 i) (λ y=>R3 t s place w0.Last w0 y.1 y.2 (A2 y.1 place).length)):=by
   intro w1 hK1 hc1 hl1
   unfold BG
   refine Tot.bindC (CC (hK1.base.arc j q hq)) (Tot.bind (Jak hT hs hpl hK1 hq hr x0 (Dv s place) (i:Int)) ?_)
   rintro ⟨w2,kn2⟩ ⟨g1,g2,g3⟩
   simp only at g1 g2 g3
   have hpre:∀ p,A2 w p <+: A2 w2 p:=λ p=>by rw [← hc1 p];exact g2.pre p
   have hgetp:∀ i' v,i'<(A2 w place).length->((A2 w2 place)[i']? = some v↔(A2 w place)[i']? = some v):=by
    intro i' v hi'
    have:=M5 (hpre place) (Jlg hi')
    rw [this,Jlg hi']
   refine Tot.pure ⟨1000-(i+1),by omega,i+1,rfl,CP (by omega),g1,λ p=>(hR.pre p).trans (hpre p),Nat.le_trans hi (hpre place).length_le,λ i' v hi' hv' j' q' hj' hq'=>?_,?_⟩
   ·rw [hgetp i' v (by omega)] at hv'
    by_cases e:i'=i
    ·subst e
     rw [hv] at hv'
     cases hv'
     have:j=j':=by omega
     subst this
     rw [hq] at hq';cases hq'
     exact g3
    ·have:=hR.clo i' v (by omega) hv' j' q' hj' hq'
     exact λ k h1 h2=>by
      obtain ⟨d,d1,d2⟩:=this k h1 h2
      exact ⟨d,d1,(hpre _).subset d2⟩
   ·rw [g2.last]
    refine hl1.imp id λ ⟨l1,l2,l3⟩=>⟨l1,λ i' v hi' hv' j' q' hj' hq'=>?_⟩
    rw [hgetp i' v (by omega)] at hv'
    by_cases e:i'=i
    ·subst e
     rw [hv] at hv'
     cases hv'
     have:j=j':=by omega
     subst this
     rw [hq] at hq';cases hq'
     exact l3
    ·exact l2 i' v (by omega) hv' j' q' hj' hq'
  refine Tot.ite (λ hc=>?_) λ hc=>?_
  ·exact hJ { w with Last:=(place:Int) } (hK.last _) (λ p=>rfl) (.inl ⟨rfl,q,hr,hc⟩)
  ·exact hJ w hK (λ p=>rfl) (hR.last.imp id λ ⟨l1,l2⟩=>⟨l1,l2,hc⟩)
 ·have:i=(A2 w place).length:=by have:=hR.le;omega
  refine Tot.iteF (by simp only [decide_eq_false_iff_not];show ¬((i:Int)<(((A2 w place).length:Nat):Int));omega) (Tot.pure ?_)
  show R3 t s place w0.Last w0 w kn (A2 w place).length
  rw [← this];exact hR
end
end Go.AI
end
section
namespace Go.AI
structure WR (t:Ad) (s:List UInt8) (w:Ac):Prop where
 base:Q4 t s w
 clen:w.Columns.length=s.length+1
 cost:∀ p,(w.Columns.getD p default).Costs=[]
 nod:∀ p,(A2 w p).Nodup
 ok:∀ p v,InC w p v->∃ (j:Nat) (q:Aa),v=(j:Int)/\(Af t)[j]? = some q/\Rch t s p q
 all:∀ p (j:Nat) q,(Af t)[j]? = some q->Rch t s p q->InC w p (j:Int)
 sort:∀ p,p<=s.length->(A2 w p).Pairwise (·<=·)
 last:NO t s w.Last
structure R2 (t:Ad) (s:List UInt8) (place:Nat) (w:Ac) (kn:List (List Bool)):Prop where
 kn:Kn t s place w kn
 sort:∀ p,p<place->(A2 w p).Pairwise (·<=·)
 clo:∀ p,p<place->∀ v,InC w p v->∀ (j:Nat) q,v=(j:Int)->(Af t)[j]? = some q->Clo t s w p q
 last:Hq t s place w.Last
 first:InC w 0 0
section
variable {t:Ad} (hT:Ln t) {s:List UInt8} (hs:s.length<=4000)
include hT hs
theorem Jam {place:Nat} (hpl:place<=s.length) {w:Ac} {kn:List (List Bool)} (h:R2 t s place w kn) (x0:Ac×List (List Bool)) :
  Tot (λ n=>Bl n x0 w kn (place:Int) (Dv s place)) (Rd2 (λ y:Ac×(List (List Bool))×Int=>y.2.2=((place+1:Nat):Int)/\R2 t s (place+1) y.1 y.2.1) (λ _=>False)):=by
 have hlen:=IJ hT
 have e5:Bv (place:Int) 5=((place % 5:Nat):Int):=by
  have:=(Qy (a:=(place:Int)) (m:=5) (by omega) (by omega)).1
  rw [this];omega
 have hc5:place % 5<5:=Nat.mod_lt _ (by omega)
 unfold Bl
 refine Tot.bind (Jal hT hs hpl h.kn x0) ?_
 rintro ⟨w1,kn1⟩ hR
 simp only at hR
 have hK:=hR.kn
 have hcl:place<w1.Columns.length:=by rw [hK.clen];omega
 have hll:=hK.len hT place
 refine Tot.bindC (AW default hcl) ?_
 have hsort:Ux 0 (w1.Columns.getD place default).States=some (KG (A2 w1 place)):=by
  unfold Ux YK
  rw [if_pos (show (w1.Columns.getD place default).States.length<4611686018427387904 from (show (A2 w1 place).length<4611686018427387904 by omega))];rfl
 have hperm:=Mp (A2 w1 place)
 refine Tot.bindA (λ n=>hsort) (Tot.bindC (DU (by rw [decide_eq_true_eq];exact hperm.length_eq.symm)) ?_)
 rw [e5]
 refine Tot.bindC (AW [] (by rw [hK.klen];exact hc5)) (Tot.bindC (DU (by simp;omega)) (Tot.pure ⟨CP (by omega),?_⟩))
 simp only [Jlq]
 generalize hw':(⟨w1.T,w1.S,w1.States,w1.Arcs,w1.Columns.set place ⟨KG (A2 w1 place),(w1.Columns.getD place default).Costs⟩,w1.Last⟩:Ac)=w'
 have hcol:∀ p',w'.Columns.getD p' default=if place=p' then ⟨KG (A2 w1 place),(w1.Columns.getD place default).Costs⟩ else w1.Columns.getD p' default:=by
  intro p'
  subst hw'
  exact Tu hcl _ p' 0 0 0 []
 have hcS:∀ p',A2 w' p'=if place=p' then KG (A2 w1 place) else A2 w1 p':=by
  intro p'
  show (w'.Columns.getD p' default).States=_
  rw [hcol]
  split<;>rfl
 have hin:∀ p' v,InC w' p' v↔InC w1 p' v:=by
  intro p' v
  unfold InC
  rw [hcS]
  split
  ·rename_i e;subst e;exact hperm.mem_iff
  ·exact Iff.rfl
 have hkn:∀ c,(kn1.set (place % 5) (List.replicate (kn1.getD (place % 5) []).length false)).getD c []=if place % 5=c then List.replicate (kn1.getD (place % 5) []).length false else kn1.getD c []:=by
  intro c
  split
  ·rename_i e;subst e;exact CX (by rw [hK.klen];exact hc5) _ _
  ·rename_i e;exact CQ e _ _
 have hclo:∀ {p q},Clo t s w1 p q->Clo t s w' p q:=λ {p q} hh k h1 h2=>by
  obtain ⟨j,g1,g2⟩:=hh k h1 h2
  exact ⟨j,g1,(hin _ _).2 g2⟩
 refine ⟨⟨?_,?_,λ p'=>?_,by rw [Jly];exact hK.klen,λ c hc=>?_,λ p'=>?_,λ p' v hv=>hK.ok p' v ((hin _ _).1 hv),λ p' g1 g2 j'=>?_,λ p' g=>?_⟩,λ p' g=>?_,λ p' g v hv j q hj hq=>hclo ?_,?_,(hin _ _).2 ((hR.pre 0).subset h.first)⟩
 ·subst hw';exact ⟨hK.base.tt,hK.base.ss,hK.base.st,hK.base.al,hK.base.arc⟩
 ·subst hw';simp only [Jly];exact hK.clen
 ·rw [hcol]
  split
  ·exact hK.cost place
  ·exact hK.cost p'
 ·rw [hkn]
  split
  ·rename_i e;rw [List.length_replicate,e];exact hK.rows c hc
  ·exact hK.rows c hc
 ·rw [hcS]
  split
  ·exact hperm.nodup_iff.2 (hK.nod place)
  ·exact hK.nod p'
 ·rw [hkn,hin]
  by_cases e:place % 5=p' % 5
  ·rw [if_pos e]
   have hp5:p'=place+5:=by omega
   have hf:=hK.far p' (by omega)
   unfold InC
   rw [hf,List.getElem?_replicate]
   constructor
   ·intro hh
    split at hh<;>cases hh
   ·intro hh;cases hh
  ·rw [if_neg e,hK.row p' (by omega) (by omega) j']
 ·rw [hcS,if_neg (by omega)];exact hK.far p' (by omega)
 ·rw [hcS]
  split
  ·exact Jr _
  ·rename_i e
   have:A2 w1 p'=A2 w p':=by
    have h1:=hR.pre p'
    obtain ⟨l,hl⟩:=h1
    have hp':p'<place:=by omega
    cases l with
    | nil=>rw [← hl,List.append_nil]
    | cons a l=>
     exfalso
     have ha:InC w1 p' a:=by unfold InC;rw [← hl];simp
     obtain ⟨j,q,e1,e2,e3⟩:=hK.ok p' a ha
     have hin0:InC w p' a:=by
      have key:∀ {i' q},Rch t s i' q->i'<place->∃ j:Nat,(Af t)[j]? = some q/\InC w i' (j:Int):=λ {i' q} hr=>Rch.ind (A:=λ i' q=>i'<place->∃ j:Nat,(Af t)[j]? = some q/\InC w i' (j:Int)) (λ _=>⟨0,(Cb hT.tab).1.first,h.first⟩) (λ i' q k hi' hA hst hpf hlt=>by
       obtain ⟨j,h1,h2⟩:=hA (by omega)
       exact h.clo i' (by omega) _ h2 j q rfl h1 k hst hpf) hr
      obtain ⟨j',g1,g2⟩:=key e3 hp'
      rw [e1,M6 (Rv hT) e2 g1];exact g2
     have hnd:=hK.nod p'
     rw [← hl,List.nodup_append] at hnd
     exact hnd.2.2 a hin0 a (by simp) rfl
   rw [this];exact h.sort p' (by omega)
 ·by_cases e:p'=place
  ·subst e
   obtain ⟨i',hi',e1⟩:=List.getElem_of_mem ((hin _ _).1 hv)
   exact hR.clo i' v hi' (by rw [← e1];exact Jlg hi') j q hj hq
  ·have hp':p'<place:=by omega
   obtain ⟨j2,q2,e1,e2,e3⟩:=hK.ok p' v ((hin _ _).1 hv)
   have hin0:InC w p' v:=by
    have key:∀ {i' q},Rch t s i' q->i'<place->∃ j:Nat,(Af t)[j]? = some q/\InC w i' (j:Int):=λ {i' q} hr=>Rch.ind (A:=λ i' q=>i'<place->∃ j:Nat,(Af t)[j]? = some q/\InC w i' (j:Int)) (λ _=>⟨0,(Cb hT.tab).1.first,h.first⟩) (λ i' q k hi' hA hst hpf hlt=>by
     obtain ⟨j,h1,h2⟩:=hA (by omega)
     exact h.clo i' (by omega) _ h2 j q rfl h1 k hst hpf) hr
    obtain ⟨j',g1,g2⟩:=key e3 hp'
    rw [e1,M6 (Rv hT) e2 g1];exact g2
   exact λ k h1 h2=>by
    obtain ⟨d,d1,d2⟩:=h.clo p' hp' v hin0 j q hj hq k h1 h2
    exact ⟨d,d1,(hR.pre _).subset d2⟩
 ·have hl':w'.Last=w1.Last:=by subst hw';rfl
  rw [hl']
  rcases hR.last with ⟨l1,l2⟩|⟨l1,l2⟩
  ·rw [l1];exact .stop l2
  ·rw [l1]
   refine h.last.skip ?_
   rintro ⟨q,hr,hn⟩
   have hA:∃ j:Nat,(Af t)[j]? = some q/\InC w1 place (j:Int):=by
    have key:∀ {i' q},Rch t s i' q->i'<=place->∃ j:Nat,(Af t)[j]? = some q/\InC w1 i' (j:Int):=λ {i' q} hr=>Rch.ind (A:=λ i' q=>i'<=place->∃ j:Nat,(Af t)[j]? = some q/\InC w1 i' (j:Int)) (λ _=>⟨0,(Cb hT.tab).1.first,(hR.pre 0).subset h.first⟩) (λ i' q k hi' hA hst hpf hle=>by
     obtain ⟨j,h1,h2⟩:=hA (by omega)
     by_cases e:i'=place
     ·subst e
      obtain ⟨x,hx,e1⟩:=List.getElem_of_mem h2
      exact hR.clo x _ hx (by rw [← e1];exact Jlg hx) j q rfl h1 k hst hpf
     ·have hin0:InC w i' (j:Int):=by
       have key2:∀ {i' q},Rch t s i' q->i'<place->∃ j:Nat,(Af t)[j]? = some q/\InC w i' (j:Int):=λ {i' q} hr=>Rch.ind (A:=λ i' q=>i'<place->∃ j:Nat,(Af t)[j]? = some q/\InC w i' (j:Int)) (λ _=>⟨0,(Cb hT.tab).1.first,h.first⟩) (λ i' q k hi' hA hst hpf hlt=>by
        obtain ⟨j,h1,h2⟩:=hA (by omega)
        exact h.clo i' (by omega) _ h2 j q rfl h1 k hst hpf) hr
       obtain ⟨j2,q2,e1,e2,e3⟩:=hK.ok i' _ h2
       obtain ⟨j',g1,g2⟩:=key2 e3 (by omega)
       rw [e1,M6 (Rv hT) e2 g1];exact g2
      obtain ⟨d,d1,d2⟩:=h.clo i' (by omega) _ hin0 j q rfl h1 k hst hpf
      exact ⟨d,d1,(hR.pre _).subset d2⟩) hr
    exact key hr (Nat.le_refl _)
   obtain ⟨j,h1,h2⟩:=hA
   obtain ⟨x,hx,e1⟩:=List.getElem_of_mem h2
   have:=l2 x _ hx (by rw [← e1];exact Jlg hx) j q rfl h1
   rw [hn] at this;cases this
theorem JdO {w:Ac} (hw:Q4 t s w) (hc:w.Columns=List.replicate (s.length+1) ⟨[],[]⟩) (hl:w.Last=0):Tot (λ n=>CS n w) (WR t s):=by
 have hlen:=IJ hT
 have hf:=(Cb hT.tab).1.first
 have hcg:∀ p,w.Columns.getD p default=⟨[],[]⟩:=by
  intro p
  rw [hc,Jlp,List.getElem?_replicate]
  split<;>rfl
 have hcS:∀ p,A2 w p=[]:=λ p=>by show (w.Columns.getD p default).States=[];rw [hcg]
 unfold CS
 refine Tot.bind (R:=λ kn=>kn.length=5/\∀ c,c<5->kn.getD c []=List.replicate (Af t).length false) ?_ ?_
 ·refine Tot.upto (body:=λ n x=>BE n w x.1 x.2) 5 (λ k x=>x.2=(k:Int)/\x.1.length=5/\∀ c,c<k->x.1.getD c []=List.replicate (Af t).length false) ?_ ?_ _ ⟨rfl,rfl,by omega⟩
  ·rintro k ⟨m,k'⟩ hk ⟨g1,g2,g3⟩
   simp only at g1 g2 g3
   subst g1
   unfold BE
   refine Tot.iteT (by simp;omega) (Tot.bindC (AW [] (show k<m.length by omega)) (Tot.bindC (Q1 (by omega) (by rw [hw.st];omega)) (Tot.bindC (DU (by simp;omega)) ?_)))
   rw [hw.st,Jlq,Jlq]
   refine Tot.pure ⟨CP (by omega),by rw [Jly];exact g2,λ c hc=>?_⟩
   by_cases e:k=c
   ·subst e;exact CX (show k<m.length by omega) _ _
   ·show (m.set k _).getD c []=_
    rw [CQ e];exact g3 c (by omega)
  ·rintro ⟨m,k'⟩ ⟨g1,g2,g3⟩
   simp only at g1 g2 g3
   subst g1
   unfold BE
   exact Tot.iteF (by simp) (Tot.pure ⟨g2,g3⟩)
 ·rintro kn ⟨k1,k2⟩
  have hK:Kn t s 0 w kn:=by
   refine ⟨hw,by rw [hc,List.length_replicate],λ p=>by rw [hcg],k1,λ c hc=>by rw [k2 c hc,List.length_replicate],λ p=>by rw [hcS];exact List.nodup_nil,λ p v hv=>?_,λ p _ h2 j=>?_,λ p _=>hcS p⟩
   ·unfold InC at hv;rw [hcS] at hv;cases hv
   ·unfold InC
    rw [hcS,k2 _ (Nat.mod_lt _ (by omega)),List.getElem?_replicate]
    constructor
    ·intro hh;split at hh<;>cases hh
    ·intro hh;cases hh
  refine Tot.bind (JdM hT hK (p:=0) (j:=0) (by omega) (by omega) (by omega) hf (.start t s)) ?_
  rintro ⟨w1,kn1⟩ ⟨g1,g2,g3⟩
  simp only at g1 g2 g3 ⊢
  have hR:R2 t s 0 w1 kn1:=⟨g1,by omega,by omega,by rw [g2.last,hl];exact ⟨⟨0,rfl,.inl rfl⟩,by omega⟩,g3⟩
  refine Tot.bind (R:=WR t s) ?_ (λ w h=>Tot.pure h)
  refine Tot.upto (body:=λ n x=>BI n (w1,kn1) x.1 x.2.1 x.2.2) (s.length+1) (λ i x=>x.2.2=(i:Int)/\R2 t s i x.1 x.2.1) ?_ ?_ _ ⟨rfl,hR⟩
  ·rintro i ⟨w2,kn2,i'⟩ hi ⟨e1,h2⟩
   simp only at e1 h2
   subst e1
   unfold BI
   refine Tot.iteT (by simp only [decide_eq_true_eq];rw [g1.clen];omega) ?_
   have hJ:=Jam hT hs (show i<=s.length by omega) h2 (w1,kn1)
   have hJ':∀ c,c=Dv s i->Tot (λ n=>Bl n (w1,kn1) w2 kn2 (i:Int) c) (Rd2 (λ x:Ac×(List (List Bool))×Int=>x.2.2=((i+1:Nat):Int)/\R2 t s (i+1) x.1 x.2.1) (WR t s)):=by
    rintro c rfl
    exact hJ.mono λ z hz=>by
     cases z with
     | inl y=>exact hz
     | inr y=>exact hz.elim
   rw [h2.kn.base.ss]
   refine Tot.ite (λ h=>?_) λ h=>?_
   ·have hlt:i<s.length:=by simpa using h
    refine Tot.bindC (Lj hlt) (Tot.bindA (λ n=>Tm n _) (hJ' _ ?_))
    unfold Dv;rw [if_pos hlt]
   ·have hlt:¬i<s.length:=by simpa using h
    refine hJ' 0 ?_
    unfold Dv;rw [if_neg hlt]
  ·rintro ⟨w2,kn2,i'⟩ ⟨e1,h2⟩
   simp only at e1 h2
   subst e1
   unfold BI
   refine Tot.iteF (by simp only [decide_eq_false_iff_not];rw [g1.clen];omega) (Tot.pure ⟨h2.kn.base,h2.kn.clen,h2.kn.cost,h2.kn.nod,h2.kn.ok,λ p j q hq hr=>?_,λ p hp=>h2.sort p (by omega),h2.last.all⟩)
   have key:∀ {i' q},Rch t s i' q->∃ j:Nat,(Af t)[j]? = some q/\InC w2 i' (j:Int):=λ {i' q} hr=>Rch.ind (A:=λ i' q=>∃ j:Nat,(Af t)[j]? = some q/\InC w2 i' (j:Int)) ⟨0,hf,h2.first⟩ (λ i' q k hi' hA hst hpf=>by
    obtain ⟨j,h1,h3⟩:=hA
    exact h2.clo i' (by omega) _ h3 j q rfl h1 k hst hpf) hr
   obtain ⟨j',g4,g5⟩:=key hr
   rw [M6 (Rv hT) hq g4];exact g5
end
end Go.AI
end
section
namespace Go.AI
theorem Tv {α:Type} {l:List α} (h:l.Nodup) {a b:Nat} {x:α} (ha:l[a]? = some x) (hb:l[b]? = some x):a=b:=by
 have ha':=Al ha
 have hb':=Al hb
 rw [Jlg ha'] at ha
 rw [Jlg hb'] at hb
 have e:l[a]=l[b]:=by injection ha with ha;injection hb with hb;rw [ha,hb]
 rw [List.Nodup,List.pairwise_iff_getElem] at h
 rcases Nat.lt_trichotomy a b with hlt|he|hgt
 ·exact absurd e (h a b ha' hb' hlt)
 ·exact he
 ·exact absurd e.symm (h b a hb' ha' hgt)
theorem Jji {i j:Nat} (h:i+j<1000000):IntKind.i64.wrap (Ss .u64 (IntKind.u64.wrap (Ar .i64 (i:Int) (j:Int))) 1)=(((i+j) / 2:Nat):Int):=by
 rw [MP (by omega) (by omega)]
 have h1:IntKind.u64.wrap ((i:Int)+(j:Int))=(i:Int)+(j:Int):=by
  have:IntKind.u64.wrap ((i:Int)+(j:Int))=((i:Int)+(j:Int)) % 18446744073709551616:=rfl
  rw [this];omega
 have h2:∀ a:Int,Ss .u64 a 1=a.fdiv 2:=λ a=>rfl
 rw [h1,h2,Int.fdiv_eq_ediv_of_nonneg _ (by omega),w64 (by omega) (by omega)]
 omega
theorem Jfs (n:Nat) (a b:Int):DR n a b=some (decide (a<b)):=by
 unfold DR Dl
 simp
theorem Jjj {l:List Int} (hl:l.length<=1000) (hs:l.Pairwise (·<=·)) (hn:l.Nodup) {d:Nat} {v:Int} (hd:l[d]? = some v):Ev (λ n=>Bj n l v) ((d:Int),true):=by
 have hdl:=Al hd
 have hmono:∀ a b:Nat,a<=b->∀ x y,l[a]? = some x->l[b]? = some y->x<=y:=by
  intro a b hab x y hx hy
  rcases Nat.eq_or_lt_of_le hab with rfl|hlt
  ·rw [hx] at hy;cases hy;omega
  ·have ha:=Al hx
   have hb:=Al hy
   have:=(List.pairwise_iff_getElem.1 hs) a b ha hb hlt
   rw [Jlg ha] at hx
   rw [Jlg hb] at hy
   cases hx;cases hy;exact this
 refine Tot.ev ?_
 unfold Bj
 refine Tot.bind (R:=λ i=>i=(d:Int)) ?_ ?_
 ·refine Tot.whl (body:=λ n x=>A8 n l v x.1 x.2) (λ m x=>∃ i j:Nat,x=((i:Int),(j:Int))/\m=j-i/\i<=d/\d<=j/\j<=l.length/\(∀ k x,k<i->l[k]? = some x->x<v)/\∀ k x,j<=k->l[k]? = some x->v<=x) ?_ l.length _ ⟨0,l.length,rfl,by omega,by omega,by omega,by omega,by omega,λ k x h1 h2=>by have:=Al h2;omega⟩
  rintro m x ⟨i,j,rfl,rfl,h1,h2,h3,h4,h5⟩
  unfold A8
  simp only
  rw [Jji (by omega)]
  rcases Nat.lt_or_ge i j with hij|hij
  ·have hm:(i+j) / 2<l.length:=by omega
   refine Tot.iteT (by simpa using hij) (Tot.bindC (Oj hm) (Tot.bindA (λ n=>Jfs n _ _) (Tot.ite (λ hc=>?_) λ hc=>?_)))
   ·have hlt:l[(i+j) / 2]<v:=by simpa using hc
    refine Tot.pure ⟨j-((i+j) / 2+1),by omega,(i+j) / 2+1,j,by rw [CP (by omega)],rfl,?_,h2,h3,λ k x hk hx=>?_,h5⟩
    ·apply Classical.byContradiction
     intro hh
     have:=hmono d ((i+j) / 2) (by omega) _ _ hd (Jlg hm)
     omega
    ·have:=hmono k ((i+j) / 2) (by omega) _ _ hx (Jlg hm)
     omega
   ·have hge:v<=l[(i+j) / 2]:=by simpa using hc
    refine Tot.pure ⟨(i+j) / 2-i,by omega,i,(i+j) / 2,rfl,rfl,h1,?_,by omega,h4,λ k x hk hx=>?_⟩
    ·apply Classical.byContradiction
     intro hh
     have h6:=hmono ((i+j) / 2) d (by omega) _ _ (Jlg hm) hd
     have:=Tv hn (show l[(i+j) / 2]? = some v by rw [Jlg hm];congr 1;omega) hd
     omega
    ·have:=hmono ((i+j) / 2) k hk _ _ (Jlg hm) hx
     omega
  ·refine Tot.iteF (by simp;omega) (Tot.pure ?_)
   show (i:Int)=(d:Int)
   omega
 ·rintro i rfl
  have hg:decide ((d:Int)<((l.length:Nat):Int))=true:=Fx hdl
  refine Tot.gE hg (Ev.all λ n=>CC hd) ?_
  have hf:((decide ((d:Int)<((l.length:Nat):Int)))&&!(v==v))=false:=by simp
  refine Tot.gF hf (Tot.gF hf (Tot.gF (by rw [hf];rfl) (Tot.pure ?_)))
  rw [hg];simp
theorem VT {c:AD} (hl:c.States.length<=1000) (hs:c.States.Pairwise (·<=·)) (hn:c.States.Nodup) {d:Nat} {v x:Int} (hd:c.States[d]? = some v) (hx:c.Costs[d]? = some x):Ev (λ n=>By n c v) x:=by
 unfold By
 refine Ev.bind (Jjj hl hs hn hd) (Ev.iteF rfl (Ev.bindC (CC hx) Ev.const))
def B8 (t:Ad) (w:Ac) (p:Nat):List Aa:=(A2 w p).map λ v=>(Af t).getD v.toNat default
abbrev Bu (w:Ac) (p:Nat):List Int:=(w.Columns.getD p default).Costs
structure PI (t:Ad) (s:List UInt8) (place:Nat) (w:Ac):Prop where
 base:Q4 t s w
 clen:w.Columns.length=s.length+1
 nod:∀ p,(A2 w p).Nodup
 ok:∀ p v,InC w p v->∃ (j:Nat) (q:Aa),v=(j:Int)/\(Af t)[j]? = some q/\Rch t s p q
 all:∀ p (j:Nat) q,(Af t)[j]? = some q->Rch t s p q->InC w p (j:Int)
 sort:∀ p,p<=s.length->(A2 w p).Pairwise (·<=·)
 later:∀ p,place<p->p<=s.length->(∀ (i:Nat) q,(B8 t w p)[i]? = some q->(Bu w p)[i]? = some (AG t q (s.drop p)))/\∀ (i:Nat) v,(Bu w p)[i]? = some v->v<=((3072*(s.length-p+1):Nat):Int)
 col:Col t (s.drop place) (3072*(s.length-place)) (B8 t w place) (Bu w place)
section
variable {t:Ad} (hT:Ln t) {s:List UInt8} (hs:s.length<=4000)
include hT
omit hT in
theorem MU {w:Ac} {p:Nat} (hok:∀ v,InC w p v->∃ (j:Nat) (q:Aa),v=(j:Int)/\(Af t)[j]? = some q/\Rch t s p q) {i:Nat} {q:Aa}:(B8 t w p)[i]? = some q↔∃ j:Nat,(A2 w p)[i]? = some (j:Int)/\(Af t)[j]? = some q:=by
 unfold B8
 rw [Jlk,Jlj]
 constructor
 ·rintro ⟨v,hv,rfl⟩
  obtain ⟨j,q,rfl,hq,_⟩:=hok v (Jli hv)
  refine ⟨j,hv,?_⟩
  rw [Jlq,Jlp,hq];rfl
 ·rintro ⟨j,hv,hq⟩
  refine ⟨_,hv,?_⟩
  rw [Jlq,Jlp,hq];rfl
theorem PI.qn {place:Nat} {w:Ac} (h:PI t s place w) (p:Nat):(B8 t w p).Nodup:=by
 rw [List.nodup_iff_pairwise_ne,List.pairwise_iff_getElem]
 intro a b ha hb hlt he
 have h1:=Jlg ha
 have h2:=Jlg hb
 rw [he] at h1
 obtain ⟨j,e1,g1⟩:=(MU (h.ok p)).1 h1
 obtain ⟨j',e2,g2⟩:=(MU (h.ok p)).1 h2
 have:=M6 (Rv hT) g1 g2
 subst this
 have:=Tv (h.nod p) e1 e2
 omega
theorem PI.qlen {place:Nat} {w:Ac} (h:PI t s place w) (p:Nat):(B8 t w p).length=(A2 w p).length/\(A2 w p).length<=768:=by
 refine ⟨by simp [B8],?_⟩
 have hsub:∀ v∈A2 w p,v∈(List.range (Af t).length).map (λ j:Nat=>(j:Int)):=by
  intro v hv
  obtain ⟨j,q,rfl,hq,_⟩:=h.ok p v hv
  exact List.mem_map.2 ⟨j,List.mem_range.2 (Al hq),rfl⟩
 have:=(h.nod p).length_le_of_subset hsub
 have:=IJ hT
 simp at *
 omega
theorem PI.pos {place:Nat} {w:Ac} (h:PI t s place w) {p:Nat} {q:Aa} (hr:Rch t s p q) (hq:q∈Af t):∃ d:Nat,(A2 w p)[d]? = some (BW (Af t) q)/\(B8 t w p)[d]? = some q:=by
 have _:=hT
 obtain ⟨j,hj,hg⟩:=Cc hq
 obtain ⟨d,hd,e⟩:=List.getElem_of_mem (h.all p j q hg hr)
 have:(A2 w p)[d]? = some (j:Int):=by rw [← e];exact Jlg hd
 exact ⟨d,by rw [hj];exact this,(MU (h.ok p)).2 ⟨j,this,hg⟩⟩
include hs in
theorem PI.find {place:Nat} (hpl:place<=s.length) {w:Ac} (h:PI t s place w) {p:Nat} (h1:place<=p) (h2:p<=s.length) {q:Aa} (hr:Rch t s p q) (hq:q∈Af t):∃ (d:Nat) (x:Int),(B8 t w p)[d]? = some q/\(Bu w p)[d]? = some x/\Ev (λ n=>By n (w.Columns.getD p default) (BW (Af t) q)) x/\(-1<=x/\x<=13000000)/\(place<p->x=AG t q (s.drop p)/\x<=((3072*(s.length-p+1):Nat):Int)):=by
 obtain ⟨d,g1,g2⟩:=h.pos hT hr hq
 have hql:=h.qlen hT p
 rcases Nat.eq_or_lt_of_le h1 with rfl|hlt
 ·obtain ⟨x,hx⟩:=h.col.get (Al g2)
  have hb:=h.col.top hx
  exact ⟨d,x,g2,hx,VT (by show (A2 w place).length<=1000;omega) (h.sort place hpl) (h.nod place) g1 hx,⟨hb.1,by omega⟩,by omega⟩
 ·obtain ⟨k1,k2⟩:=h.later p hlt h2
  have hx:=k1 d q g2
  have hb:=k2 d _ hx
  exact ⟨d,_,g2,hx,VT (by show (A2 w p).length<=1000;omega) (h.sort p h2) (h.nod p) g1 hx,⟨Ts _ _ _,by omega⟩,λ _=>⟨rfl,hb⟩⟩
end
end Go.AI
end
section
namespace Go.AI
def QC (w:Ac) (p:Nat) (cs:List Int):Ac:={ w with Columns:=w.Columns.set p ⟨(w.Columns.getD p default).States,cs⟩ }
theorem Dd {w:Ac} {p:Nat} (hp:p<w.Columns.length) (cs:List Int) (p':Nat):A2 (QC w p cs) p'=A2 w p'/\Bu (QC w p cs) p'=if p=p' then cs else Bu w p':=by
 have h:=Tu hp ⟨(w.Columns.getD p default).States,cs⟩ p' 0 0 0 []
 unfold A2 Bu QC
 simp only
 rw [h]
 split
 ·rename_i e;subst e;exact ⟨rfl,rfl⟩
 ·exact ⟨rfl,rfl⟩
theorem RH {t:Ad} {w:Ac} {p:Nat} (hp:p<w.Columns.length) (cs:List Int) (p':Nat):B8 t (QC w p cs) p'=B8 t w p':=by
 unfold B8
 rw [(Dd hp cs p').1]
theorem PI.set {t:Ad} {s:List UInt8} {place:Nat} {w:Ac} (h:PI t s place w) (hpl:place<=s.length) {cs:List Int} (hc:Col t (s.drop place) (3072*(s.length-place)) (B8 t w place) cs):PI t s place (QC w place cs):=by
 have hp:place<w.Columns.length:=by rw [h.clen];omega
 refine ⟨⟨h.base.tt,h.base.ss,h.base.st,h.base.al,h.base.arc⟩,?_,λ p=>?_,λ p v hv=>?_,λ p j q h1 h2=>?_,λ p hp'=>?_,λ p h1 h2=>?_,?_⟩
 ·show (w.Columns.set _ _).length=_
  rw [Jly];exact h.clen
 ·rw [(Dd hp cs p).1];exact h.nod p
 ·unfold InC at hv;rw [(Dd hp cs p).1] at hv;exact h.ok p v hv
 ·unfold InC;rw [(Dd hp cs p).1];exact h.all p j q h1 h2
 ·rw [(Dd hp cs p).1];exact h.sort p hp'
 ·rw [RH hp,(Dd hp cs p).2,if_neg (by omega)];exact h.later p h1 h2
 ·rw [RH hp,(Dd hp cs place).2,if_pos rfl];exact hc
structure Imp (t:Ad) (s:List UInt8) (place:Nat) (sl:Bool) (B:Nat) (i:Nat) (q:Aa) (P:Nat->Prop) (w1 w2:Ac) (b:Bool):Prop where
 pi:PI t s place w2
 cols:∀ p,A2 w2 p=A2 w1 p
 last:w2.Last=w1.Last
 low:∀ (j:Nat) v,(Bu w1 place)[j]? = some v->0<=v->∃ v',(Bu w2 place)[j]? = some v'/\0<=v'/\v'<=v
 fls:b=false->w2=w1
 less:b=true->phi B (Bu w2 place)<phi B (Bu w1 place)
 rel:sl=false->∀ k:Nat,P k->(Au t q k).2=true->prt t k≠[]->∀ y,s.drop place=prt t k++y->0<=AG t (Au t q k).1 y->∃ v,(Bu w2 place)[i]? = some v/\0<=v/\v<=AG t (Au t q k).1 y+(cls t k).length
 sil:sl=true->b=false->∀ k:Nat,P k->(Au t q k).2=true->prt t k=[]->∃ (i':Nat) (w':Int),(B8 t w1 place)[i']? = some (Au t q k).1/\(Bu w1 place)[i']? = some w'/\(0<=w'->∃ v,(Bu w1 place)[i]? = some v/\0<=v/\v<=w'+(cls t k).length)
section
variable {t:Ad} (hT:Ln t) {s:List UInt8} (hs:s.length<=4000)
include hT hs
theorem Yq (sl:Bool) {place:Nat} (hpl:place<=s.length) {B:Nat} (hB:13000000<=B) {w1:Ac} (h:PI t s place w1) {i:Nat} {q:Aa} (hq:(B8 t w1 place)[i]? = some q) :
  Tot (λ n=>whl (λ (x:(Ac×Bool×Int))=>Bd n (i:Int) sl (place:Int) (place:Int) (A7 t q) x.1 x.2.1 x.2.2) n (w1,false,0)) (λ y=>Imp t s place sl B i q (λ _=>True) w1 y.1 y.2):=by
 have hrl:=hT.tab.1
 have hal:(A7 t q).length<=t.Rules.length:=by unfold A7;exact Nat.le_trans (List.length_filterMap_le _ _) (by simp)
 obtain ⟨jq,hjq1,hjq2⟩:=(MU (h.ok place)).1 hq
 obtain ⟨j2,qq,e1,e2,hr⟩:=h.ok place _ (Jli hjq1)
 have e3:j2=jq:=by omega
 subst e3
 rw [hjq2] at e2
 cases e2
 have hqm:q∈Af t:=Jli hjq2
 refine Tot.upto (body:=λ n x=>Bd n (i:Int) sl (place:Int) (place:Int) (A7 t q) x.1 x.2.1 x.2.2) (A7 t q).length (λ m x=>x.2.2=(m:Int)/\Imp t s place sl B i q (λ k=>∃ (m':Nat) (a:AB),m'<m/\(A7 t q)[m']? = some a/\a.Rule=(k:Int)) w1 x.1 x.2.1) ?_ ?_ _ ⟨rfl,h,λ _=>rfl,rfl,λ j v hv h0=>⟨v,hv,h0,Int.le_refl v⟩,λ _=>rfl,(λ h=>by cases h),λ _ k ⟨m',_,hm,_⟩=>by omega,λ _ _ k ⟨m',_,hm,_⟩=>by omega⟩
 ·rintro m ⟨w,b,m'⟩ hm ⟨e1,hI⟩
  simp only at e1 hI
  subst e1
  have ha:(A7 t q)[m]? = some (A7 t q)[m]:=Jlg hm
  obtain ⟨k,hk,hst,hae⟩:=Is.1 (List.getElem_mem hm)
  have hW:=hI.pi
  have hqs:B8 t w place=B8 t w1 place:=by unfold B8;rw [hI.cols]
  have hq':(B8 t w place)[i]? = some q:=by rw [hqs];exact hq
  obtain ⟨p1,p2,p3⟩:=hT.pr hst
  have hcl:place<w.Columns.length:=by rw [hW.clen];omega
  obtain ⟨v,hv⟩:=hW.col.get (Al hq')
  have hvd:(w.Columns.getD place default).Costs.getD i 0=v:=by rw [Jlp (l:=(w.Columns.getD place default).Costs),show (w.Columns.getD place default).Costs[i]? = some v from hv];rfl
  have hil:i<(w.Columns.getD place default).Costs.length:=Al (show (w.Columns.getD place default).Costs[i]? = some v from hv)
  have hP:∀ k':Nat,(∃ (m':Nat) (a:AB),m'<m+1/\(A7 t q)[m']? = some a/\a.Rule=(k':Int))->k'=k\/∃ (m':Nat) (a:AB),m'<m/\(A7 t q)[m']? = some a/\a.Rule=(k':Int):=by
   rintro k' ⟨m',a,h1,h2,h3⟩
   by_cases e:m'=m
   ·subst e
    rw [ha,hae] at h2
    cases h2
    simp only at h3
    left;omega
   ·exact .inr ⟨m',a,by omega,h2,h3⟩
  have hJ:∀ w2 b2,Imp t s place sl B i q (λ k=>∃ (m':Nat) (a:AB),m'<m+1/\(A7 t q)[m']? = some a/\a.Rule=(k:Int)) w1 w2 b2->Tot (λ n=>Bc n (m:Int) w2 b2) (Rd2 (λ x:Ac×Bool×Int=>x.2.2=((m+1:Nat):Int)/\Imp t s place sl B i q (λ k=>∃ (m':Nat) (a:AB),m'<m+1/\(A7 t q)[m']? = some a/\a.Rule=(k:Int)) w1 x.1 x.2.1) (λ y=>Imp t s place sl B i q (λ _=>True) w1 y.1 y.2)):=by
   intro w2 b2 h2
   unfold Bc
   exact Tot.pure ⟨CP (by omega),h2⟩
  have hskip:(sl=false->prt t k≠[]->∀ y,s.drop place=prt t k++y->0<=AG t (Au t q k).1 y->∃ v,(Bu w place)[i]? = some v/\0<=v/\v<=AG t (Au t q k).1 y+(cls t k).length) ->
    (sl=true->prt t k=[]->∃ (i':Nat) (w':Int),(B8 t w place)[i']? = some (Au t q k).1/\(Bu w place)[i']? = some w'/\(0<=w'->∃ v,(Bu w place)[i]? = some v/\0<=v/\v<=w'+(cls t k).length)) ->
    Imp t s place sl B i q (λ k=>∃ (m':Nat) (a:AB),m'<m+1/\(A7 t q)[m']? = some a/\a.Rule=(k:Int)) w1 w b:=by
   intro g1 g2
   refine ⟨hI.pi,hI.cols,hI.last,hI.low,hI.fls,hI.less,λ hsl k' hk' hst' hp' y hy hc=>?_,λ hsl hb k' hk' hst' hp'=>?_⟩
   ·rcases hP k' hk' with rfl|hk'
    ·exact g1 hsl hp' y hy hc
    ·exact hI.rel hsl k' hk' hst' hp' y hy hc
   ·rcases hP k' hk' with rfl|hk'
    ·have:=g2 hsl hp'
     rw [hI.fls hb] at this
     exact this
    ·exact hI.sil hsl hb k' hk' hst' hp'
  unfold Bd
  refine Tot.iteT (Fx hm) (Tot.bindC (CC ha) ?_)
  rw [hae]
  refine Tot.bindA (λ n=>QB hT hs hW.base hpl hst n) (Tot.ite (λ hc=>?_) λ hc=>?_)
  ·
   have hcc:(prt t k).isPrefixOf (s.drop place)=false\/(((((place+(prt t k).length:Nat):Int))==(place:Int))==sl)=false:=by
    simp only [JlA,Bool.not_eq_true'] at hc
    exact hc
   have hz:((((place+(prt t k).length:Nat):Int))==(place:Int))=decide (prt t k=[]):=by
    rw [Bool.eq_iff_iff,beq_iff_eq,decide_eq_true_eq,← List.length_eq_zero_iff];omega
   rw [hz] at hcc
   refine hJ w b (hskip (λ hsl hp y hy _=>?_) (λ hsl hp=>?_))
   ·exfalso
    rcases hcc with h1|h1
    ·rw [← Bool.not_eq_true,List.isPrefixOf_iff_prefix,hy] at h1
     exact h1 (List.prefix_append _ _)
    ·rw [hsl,decide_eq_false hp] at h1;cases h1
   ·exfalso
    rcases hcc with h1|h1
    ·rw [hp] at h1;cases h1
    ·rw [hsl,decide_eq_true hp] at h1;cases h1
  ·have hcc:(prt t k).isPrefixOf (s.drop place)=true/\(((((place+(prt t k).length:Nat):Int))==(place:Int))==sl)=true:=by
    simp only [Bool.or_eq_false_iff,Bool.not_eq_false'] at hc
    exact hc
   obtain ⟨hpf,hsl⟩:=hcc
   have hz:((((place+(prt t k).length:Nat):Int))==(place:Int))=decide (prt t k=[]):=by
    rw [Bool.eq_iff_iff,beq_iff_eq,decide_eq_true_eq,← List.length_eq_zero_iff];omega
   rw [hz,beq_iff_eq] at hsl
   obtain ⟨q1,q2⟩:=Cy hpf
   have q2:=q2 hpl
   have hnm:=EB hT hqm hst
   obtain ⟨d,x,f1,f2,f3,f4,f5⟩:=hW.find hT hs hpl (p:=place+(prt t k).length) (by omega) q2 (hr.next hst hpf) hnm
   have hrule:=Iq (t:=t) (k:=(k:Int)) (by omega) (by omega)
   refine Tot.bindC (AW default (by rw [hW.clen];omega)) (Tot.bindE f3 ?_)
   rw [hW.base.tt]
   refine Tot.bindC hrule (Tot.bindC (AW default hcl) ?_)
   simp only [Jlq,DN]
   have hclen:(cls t k).length=(CO t k).Cells.length:=rfl
   have hsum:Ar .i64 x ((List.length (CO t k).Cells:Nat):Int)=x+((cls t k).length:Nat):=by rw [MP (by omega) (by omega)]
   rw [hsum]
   have hway:0<=x->(∃ p,Way t q (s.drop place) p/\x+((cls t k).length:Nat)=(EP t p:Nat))/\x+((cls t k).length:Nat)<=((3072*(s.length-place)+4*VQ (Bu w place)+4:Nat):Int):=by
    intro h0
    rcases Nat.eq_zero_or_pos (prt t k).length with hz|hz
    ·have hp0:prt t k=[]:=List.length_eq_zero_iff.1 hz
     rw [hz,Nat.add_zero] at f1 f2
     obtain ⟨v',hv',hd⟩:=hW.col.ach d _ f1
     rw [f2] at hv'
     cases hv'
     have hb:=hW.col.bnd d x f2
     refine ⟨?_,by omega⟩
     have:=Py hst (hd.resolve_left (by omega))
     rwa [hp0,List.nil_append] at this
    ·obtain ⟨g1,g2⟩:=f5 (by omega)
     refine ⟨?_,?_⟩
     ·have:=Py hst (Kp (t:=t) (q:=(Au t q k).1) (x:=s.drop (place+(prt t k).length)) (by omega))
      rw [g1]
      rwa [← q1] at this
     ·have:3072*(s.length-(place+(prt t k).length)+1)<=3072*(s.length-place):=by omega
      omega
   by_cases h0:0<=x
   ·have hg:decide (x>=0)=true:=by simpa using h0
    obtain ⟨u1,u2⟩:=hway h0
    refine Tot.gE hg (Ev.all λ n=>AW 0 hil) ?_
    rw [hvd]
    have hv2:∀ (c:Bool),(if ((decide (x>=0))&&c)=true then idx (w.Columns.getD place default).Costs (i:Int) else some default)=some (if c=true then v else default):=by
     intro c
     rw [hg,Bool.true_and,AW 0 hil,hvd]
     cases c<;>rfl
    refine Tot.bindC (hv2 _) ?_
    by_cases hlt:v<0\/x+((cls t k).length:Nat)<v
    ·refine Tot.iteT ?_ ?_
     ·rw [hg,Bool.true_and,JlA,decide_eq_true_eq,decide_eq_true_eq]
      by_cases hv0:v<0
      ·exact .inl hv0
      ·right
       rw [if_pos (by simpa using hv0)]
       exact hlt.resolve_left hv0
     ·have hfin:=VR (Bu w place)
      rw [hW.col.len] at hfin
      have hql:=hW.qlen hT place
      obtain ⟨g1,g2⟩:=hW.col.lower hq' hv u1 hlt u2 (B:=B) (by omega)
      refine Tot.bindC (AW default hcl) (Tot.bindC (AW 0 hil) (Tot.bindC (Lm hil) (hJ _ _ ?_)))
      have hw2:(⟨t,w.S,w.States,w.Arcs,w.Columns.set place ⟨(w.Columns.getD place default).States,(w.Columns.getD place default).Costs.set i (x+((cls t k).length:Nat))⟩,w.Last⟩:Ac)=QC w place ((Bu w place).set i (x+((cls t k).length:Nat))):=by
       unfold QC Bu
       rw [← hW.base.tt]
      rw [hw2]
      have hc0:=λ p=>Dd hcl ((Bu w place).set i (x+((cls t k).length:Nat))) p
      have hcp:Bu (QC w place ((Bu w place).set i (x+((cls t k).length:Nat)))) place=(Bu w place).set i (x+((cls t k).length:Nat)):=by rw [(hc0 place).2,if_pos rfl]
      have hlow:∀ (j:Nat) v0,(Bu w place)[j]? = some v0->0<=v0->∃ v',((Bu w place).set i (x+((cls t k).length:Nat)))[j]? = some v'/\0<=v'/\v'<=v0:=by
       intro j v0 hv0 h00
       by_cases e:i=j
       ·subst e
        rw [hv] at hv0
        cases hv0
        exact ⟨_,Jls hil,by omega,by omega⟩
       ·exact ⟨v0,by rw [Jlx e];exact hv0,h00,Int.le_refl _⟩
      refine ⟨hW.set hpl g1,λ p=>(hc0 p).1.trans (hI.cols p),hI.last,λ j v0 hv0 h00=>?_,(λ hb=>by cases hb),λ _=>?_,λ hsl' k' hk' hst' hp' y hy hc=>?_,(λ _ hb=>by cases hb)⟩
      ·obtain ⟨v1,a1,a2,a3⟩:=hI.low j v0 hv0 h00
       obtain ⟨v2,b1,b2,b3⟩:=hlow j v1 a1 a2
       rw [hcp]
       exact ⟨v2,b1,b2,by omega⟩
      ·rw [hcp]
       cases hb:b with
       | false=>rw [hI.fls hb] at g2 ⊢;exact g2
       | true=>have:=hI.less hb;omega
      ·rw [hcp]
       rcases hP k' hk' with rfl|hk'
       ·have hyy:s.drop (place+(prt t k').length)=y:=by rw [q1] at hy;exact List.append_cancel_left hy
        have hlp:0<(prt t k').length:=List.length_pos_iff.2 hp'
        obtain ⟨g3,_⟩:=f5 (by omega)
        rw [hyy] at g3
        exact ⟨_,Jls hil,by omega,by omega⟩
       ·obtain ⟨v1,a1,a2,a3⟩:=hI.rel hsl' k' hk' hst' hp' y hy hc
        obtain ⟨v2,b1,b2,b3⟩:=hlow i v1 a1 a2
        exact ⟨v2,b1,b2,by omega⟩
    ·refine Tot.iteF ?_ ?_
     ·rw [hg,Bool.true_and,← Bool.not_eq_true,JlA,decide_eq_true_eq,decide_eq_true_eq]
      have hv0:¬v<0:=λ hh=>hlt (.inl hh)
      rw [if_pos (by simpa using hv0)]
      exact hlt
     ·have hws:(⟨t,w.S,w.States,w.Arcs,w.Columns,w.Last⟩:Ac)=w:=by rw [← hW.base.tt]
      rw [hws]
      refine hJ w b (hskip (λ _ hp' y hy hc=>?_) λ _ hp'=>?_)
      ·have hyy:s.drop (place+(prt t k).length)=y:=by rw [q1] at hy;exact List.append_cancel_left hy
       have hlp:0<(prt t k).length:=List.length_pos_iff.2 hp'
       obtain ⟨g3,_⟩:=f5 (by omega)
       rw [hyy] at g3
       exact ⟨v,hv,by omega,by omega⟩
      ·rw [hp',List.length_nil,Nat.add_zero] at f1 f2
       exact ⟨d,x,f1,f2,λ _=>⟨v,hv,by omega,by omega⟩⟩
   ·have hg:decide (x>=0)=false:=by simpa using h0
    refine Tot.gF hg (Tot.gF (by rw [hg];rfl) (Tot.iteF (by rw [hg];rfl) ?_))
    have hws:(⟨t,w.S,w.States,w.Arcs,w.Columns,w.Last⟩:Ac)=w:=by rw [← hW.base.tt]
    rw [hws]
    refine hJ w b (hskip (λ _ hp' y hy hc=>?_) λ _ hp'=>?_)
    ·have hyy:s.drop (place+(prt t k).length)=y:=by rw [q1] at hy;exact List.append_cancel_left hy
     have hlp:0<(prt t k).length:=List.length_pos_iff.2 hp'
     obtain ⟨g3,_⟩:=f5 (by omega)
     rw [hyy] at g3
     omega
    ·rw [hp',List.length_nil,Nat.add_zero] at f1 f2
     exact ⟨d,x,f1,f2,λ h1=>absurd h1 h0⟩
 ·rintro ⟨w,b,m'⟩ ⟨e1,hI⟩
  simp only at e1 hI
  subst e1
  have hall:∀ k:Nat,(Au t q k).2=true->∃ (m':Nat) (a:AB),m'<(A7 t q).length/\(A7 t q)[m']? = some a/\a.Rule=(k:Int):=by
   intro k hst
   obtain ⟨m',hm',e⟩:=List.getElem_of_mem (Is.2 ⟨k,by have:=Cw hst;omega,hst,rfl⟩:(⟨k,BW (Af t) (Au t q k).1⟩:AB)∈A7 t q)
   exact ⟨m',_,hm',by rw [Jlg hm',e],rfl⟩
  unfold Bd
  exact Tot.iteF (by simp) (Tot.pure ⟨hI.pi,hI.cols,hI.last,hI.low,hI.fls,hI.less,λ hsl k _ hst=>hI.rel hsl k (hall k hst) hst,λ hsl hb k _ hst=>hI.sil hsl hb k (hall k hst) hst⟩)
theorem UE (sl:Bool) {place:Nat} (hpl:place<=s.length) {B:Nat} (hB:13000000<=B) {w1:Ac} (h:PI t s place w1) {i:Nat} {q:Aa} (hq:(B8 t w1 place)[i]? = some q) :
  Tot (λ n=>BV n (i:Int) sl (place:Int) (place:Int) w1) (λ y=>Imp t s place sl B i q (λ _=>True) w1 y.1 y.2):=by
 have hcl:place<w1.Columns.length:=by rw [h.clen];omega
 obtain ⟨j,g1,g2⟩:=(MU (h.ok place)).1 hq
 unfold BV
 refine Tot.bindC (AW default hcl) (Tot.bindC (CC g1) (Tot.bindC (CC (h.base.arc j q g2)) ?_))
 simp only [Jlq,Hr]
 exact Tot.bind (Yq hT hs sl hpl hB h hq) (λ y hy=>Tot.pure hy)
end
end Go.AI
end
section
namespace Go.AI
structure PB (t:Ad) (s:List UInt8) (m:Nat) (w:Ac):Prop where
 base:Q4 t s w
 clen:w.Columns.length=s.length+1
 nod:∀ p,(A2 w p).Nodup
 ok:∀ p v,InC w p v->∃ (j:Nat) (q:Aa),v=(j:Int)/\(Af t)[j]? = some q/\Rch t s p q
 all:∀ p (j:Nat) q,(Af t)[j]? = some q->Rch t s p q->InC w p (j:Int)
 sort:∀ p,p<=s.length->(A2 w p).Pairwise (·<=·)
 later:∀ p,m<=p->p<=s.length->(∀ (i:Nat) q,(B8 t w p)[i]? = some q->(Bu w p)[i]? = some (AG t q (s.drop p)))/\∀ (i:Nat) v,(Bu w p)[i]? = some v->v<=((3072*(s.length-p+1):Nat):Int)
theorem WR.pb {t:Ad} {s:List UInt8} {w:Ac} (h:WR t s w):PB t s (s.length+1) w:=⟨h.base,h.clen,h.nod,h.ok,h.all,h.sort,λ p hp hp'=>by omega⟩
theorem PB.set {t:Ad} {s:List UInt8} {place:Nat} {w:Ac} (h:PB t s (place+1) w) (hpl:place<=s.length) {cs:List Int} (hc:Col t (s.drop place) (3072*(s.length-place)) (B8 t w place) cs):PI t s place (QC w place cs):=by
 have hp:place<w.Columns.length:=by rw [h.clen];omega
 refine ⟨⟨h.base.tt,h.base.ss,h.base.st,h.base.al,h.base.arc⟩,?_,λ p=>?_,λ p v hv=>?_,λ p j q h1 h2=>?_,λ p hp'=>?_,λ p h1 h2=>?_,?_⟩
 ·show (w.Columns.set _ _).length=_
  rw [Jly];exact h.clen
 ·rw [(Dd hp cs p).1];exact h.nod p
 ·unfold InC at hv;rw [(Dd hp cs p).1] at hv;exact h.ok p v hv
 ·unfold InC;rw [(Dd hp cs p).1];exact h.all p j q h1 h2
 ·rw [(Dd hp cs p).1];exact h.sort p hp'
 ·rw [RH hp,(Dd hp cs p).2,if_neg (by omega)];exact h.later p (by omega) h2
 ·rw [RH hp,(Dd hp cs place).2,if_pos rfl];exact hc
section
variable {t:Ad} (hT:Ln t) {s:List UInt8} (hs:s.length<=4000)
include hT hs
omit hT in
theorem Jan {place:Nat} (hpl:place<=s.length) {w:Ac} (h:PB t s (place+1) w) (hl7:(A2 w place).length<=768) (l0:List Int) (hl0:l0.length=(A2 w place).length) :
  Tot (λ n=>whl (λ (x:((List Int)×Int))=>Bm n w (place:Int) (w.Columns.getD place default) l0 ⟨A2 w place,l0⟩ x.1 x.2) n (l0,0)) (λ w'=>w'=QC w place ((B8 t w place).map (CY t (s.drop place)))):=by
 have hcl:place<w.Columns.length:=by rw [h.clen];omega
 refine Tot.upto (body:=λ n x=>Bm n w (place:Int) (w.Columns.getD place default) l0 ⟨A2 w place,l0⟩ x.1 x.2) (A2 w place).length (λ k x=>x.2=(k:Int)/\x.1.length=(A2 w place).length/\∀ (j:Nat) q,j<k->(B8 t w place)[j]? = some q->x.1[j]? = some (CY t (s.drop place) q)) ?_ ?_ _ ⟨rfl,hl0,by omega⟩
 ·rintro k ⟨r,k'⟩ hk ⟨e1,e2,e3⟩
  simp only at e1 e2 e3
  subst e1
  have hv:(A2 w place)[k]? = some (A2 w place)[k]:=Jlg hk
  obtain ⟨j,q,hvj,hq,hr⟩:=h.ok place _ (Jli hv)
  have hqk:(B8 t w place)[k]? = some q:=(MU (h.ok place)).2 ⟨j,by rw [← hvj];exact hv,hq⟩
  have hJ:∀ v,v=CY t (s.drop place) q->∀ r',r'=r.set k v->Tot (λ n=>BJ n (k:Int) r') (Rd2 (λ x:List Int×Int=>x.2=((k+1:Nat):Int)/\x.1.length=(A2 w place).length/\∀ (j:Nat) q,j<k+1->(B8 t w place)[j]? = some q->x.1[j]? = some (CY t (s.drop place) q)) (λ w'=>w'=QC w place ((B8 t w place).map (CY t (s.drop place))))):=by
   rintro v rfl r' rfl
   unfold BJ
   refine Tot.pure ⟨CP (by omega),by rw [Jly];exact e2,λ j' q' hj' hq'=>?_⟩
   by_cases e:k=j'
   ·subst e
    rw [hqk] at hq';cases hq'
    exact Jls (by omega)
   ·show (r.set k _)[j']? = _
    rw [Jlx e];exact e3 j' q' (by omega) hq'
  unfold Bm
  refine Tot.iteT (Fx hk) (Tot.bindC (CC hv) (Tot.bindC (AW default (by rw [Jlq,Jly];exact hcl)) (Tot.bindC (AW 0 (show k<r.length by omega)) (Tot.bindC (Lm (show k<r.length by omega)) ?_))))
  rw [h.base.ss,h.base.st,h.base.tt,Xr hs hpl,hvj]
  by_cases hd:s.drop place=[]
  ·refine Tot.gE (decide_eq_true hd) (Ev.all λ n=>CC hq) (Tot.gE (decide_eq_true hd) (Ev.all λ n=>Yg n t _) (Tot.ite (λ h=>?_) λ h=>?_))
   ·have ha:Dp t q=true:=by simpa [hd] using h
    refine Tot.bindC (AW 0 (by rw [Jly];show k<r.length;omega)) (Tot.bindC (Lm (by rw [Jly];show k<r.length;omega)) (hJ 0 ?_ _ ?_))
    ·unfold CY;rw [if_pos ⟨hd,ha⟩]
    ·rw [List.set_set]
   ·have ha:Dp t q=false:=by simpa [hd] using h
    refine hJ (-1) ?_ _ rfl
    unfold CY;rw [if_neg (by rw [ha];simp)]
  ·refine Tot.gF (decide_eq_false hd) (Tot.gF (decide_eq_false hd) (Tot.iteF (by simp [hd]) (hJ (-1) ?_ _ rfl)))
   unfold CY;rw [if_neg (λ h=>hd h.1)]
 ·rintro ⟨r,k'⟩ ⟨e1,e2,e3⟩
  simp only at e1 e2 e3
  subst e1
  unfold Bm
  refine Tot.iteF (by simp) (Tot.pure ?_)
  have hr:r=(B8 t w place).map (CY t (s.drop place)):=by
   have hq:(B8 t w place).length=(A2 w place).length:=by simp [B8]
   refine List.ext_getElem? λ j=>?_
   rcases Nat.lt_or_ge j (A2 w place).length with hj|hj
   ·have hg:(B8 t w place)[j]? = some (B8 t w place)[j]:=Jlg (by omega)
    rw [e3 j _ hj hg,Jlk,hg];rfl
   ·rw [JlC (by omega),JlC (by rw [List.length_map];omega)]
  subst hr
  unfold QC
  simp only [Jlq,List.set_set]
  rfl
theorem Jao {place:Nat} (hpl:place<=s.length) {w1:Ac} (h:PI t s place w1) :
  Tot (λ n=>whl (λ (x:(Ac×Int))=>Bn n (place:Int) (w1.Columns.getD place default) x.1 x.2) n (w1,0)) (λ w=>PI t s place w/\(∀ p,A2 w p=A2 w1 p)/\w.Last=w1.Last/\Y2 t (s.drop place) (B8 t w place) (Bu w place)):=by
 have hql:=h.qlen hT place
 refine Tot.upto (body:=λ n x=>Bn n (place:Int) (w1.Columns.getD place default) x.1 x.2) (A2 w1 place).length (λ i x=>x.2=(i:Int)/\PI t s place x.1/\(∀ p,A2 x.1 p=A2 w1 p)/\x.1.Last=w1.Last/\∀ (j:Nat) q (k:Nat),j<i->(B8 t w1 place)[j]? = some q->(Au t q k).2=true->prt t k≠[]->∀ y,s.drop place=prt t k++y->0<=AG t (Au t q k).1 y->∃ v,(Bu x.1 place)[j]? = some v/\0<=v/\v<=AG t (Au t q k).1 y+(cls t k).length) ?_ ?_ _ ⟨rfl,h,λ _=>rfl,rfl,λ j q k h=>by omega⟩
 ·rintro i ⟨w,i'⟩ hi ⟨e1,hP,hC,hL,hR⟩
  simp only at e1 hP hC hL hR
  subst e1
  have hqs:B8 t w place=B8 t w1 place:=by unfold B8;rw [hC]
  obtain ⟨q0,hq⟩:∃ q0,(B8 t w place)[i]? = some q0:=⟨_,Jlg (by rw [hqs,hql.1];exact hi)⟩
  unfold Bn
  refine Tot.iteT (Fx hi) (Tot.bind (UE hT hs false hpl (Nat.le_refl 13000000) hP hq) ?_)
  rintro ⟨w2,b⟩ hI
  refine Tot.pure ⟨CP (by omega),hI.pi,λ p=>(hI.cols p).trans (hC p),hI.last.trans hL,λ j q k hj hjq hst hp y hy hc=>?_⟩
  by_cases e:j=i
  ·subst e
   rw [← hqs,hq] at hjq
   cases hjq
   exact hI.rel rfl k trivial hst hp y hy hc
  ·obtain ⟨v,a1,a2,a3⟩:=hR j q k (by omega) hjq hst hp y hy hc
   obtain ⟨v',b1,b2,b3⟩:=hI.low j v a1 a2
   exact ⟨v',b1,b2,by omega⟩
 ·rintro ⟨w,i'⟩ ⟨e1,hP,hC,hL,hR⟩
  simp only at e1 hP hC hL hR
  subst e1
  have hqs:B8 t w place=B8 t w1 place:=by unfold B8;rw [hC]
  unfold Bn
  refine Tot.iteF (Xg _) (Tot.pure ⟨hP,hC,hL,⟨λ j q k hj hst hp y hy hc=>?_⟩⟩)
  rw [hqs] at hj
  exact hR j q k (by have:=Al hj;omega) hj hst hp y hy hc
theorem Jap {place:Nat} (hpl:place<=s.length) {w1:Ac} (h:PI t s place w1) :
  Tot (λ n=>whl (λ (x:(Ac×Bool×Int))=>Bo n (place:Int) (w1.Columns.getD place default) x.1 x.2.1 x.2.2) n (w1,false,0)) (λ y=>PI t s place y.1/\(∀ p,A2 y.1 p=A2 w1 p)/\y.1.Last=w1.Last/\(∀ (j:Nat) v,(Bu w1 place)[j]? = some v->0<=v->∃ v',(Bu y.1 place)[j]? = some v'/\0<=v'/\v'<=v)/\(y.2=false->y.1=w1/\JfT t (B8 t w1 place) (Bu w1 place))/\(y.2=true->phi 13000000 (Bu y.1 place)<phi 13000000 (Bu w1 place))):=by
 have hql:=h.qlen hT place
 refine Tot.upto (body:=λ n x=>Bo n (place:Int) (w1.Columns.getD place default) x.1 x.2.1 x.2.2) (A2 w1 place).length (λ i x=>x.2.2=(i:Int)/\PI t s place x.1/\(∀ p,A2 x.1 p=A2 w1 p)/\x.1.Last=w1.Last/\(∀ (j:Nat) v,(Bu w1 place)[j]? = some v->0<=v->∃ v',(Bu x.1 place)[j]? = some v'/\0<=v'/\v'<=v)/\(x.2.1=false->x.1=w1/\∀ (j:Nat) q (k:Nat),j<i->(B8 t w1 place)[j]? = some q->(Au t q k).2=true->prt t k=[]->∃ (i':Nat) (w':Int),(B8 t w1 place)[i']? = some (Au t q k).1/\(Bu w1 place)[i']? = some w'/\(0<=w'->∃ v,(Bu w1 place)[j]? = some v/\0<=v/\v<=w'+(cls t k).length))/\(x.2.1=true->phi 13000000 (Bu x.1 place)<phi 13000000 (Bu w1 place))) ?_ ?_ _ ⟨rfl,h,λ _=>rfl,rfl,λ j v hv h0=>⟨v,hv,h0,Int.le_refl v⟩,λ _=>⟨rfl,λ j q k h=>by omega⟩,(λ h=>by cases h)⟩
 ·rintro i ⟨w,b,i'⟩ hi ⟨e1,hP,hC,hL,hlow,hfl,hle⟩
  simp only at e1 hP hC hL hlow hfl hle
  subst e1
  have hqs:B8 t w place=B8 t w1 place:=by unfold B8;rw [hC]
  obtain ⟨q0,hq⟩:∃ q0,(B8 t w place)[i]? = some q0:=⟨_,Jlg (by rw [hqs,hql.1];exact hi)⟩
  unfold Bo
  refine Tot.iteT (Fx hi) (Tot.bind (UE hT hs true hpl (Nat.le_refl 13000000) hP hq) ?_)
  rintro ⟨w2,b2⟩ hI
  simp only at hI
  refine Tot.pure ⟨CP (by omega),hI.pi,λ p=>(hI.cols p).trans (hC p),hI.last.trans hL,λ j v hv h0=>?_,λ hb=>?_,λ hb=>?_⟩
  ·obtain ⟨v1,a1,a2,a3⟩:=hlow j v hv h0
   obtain ⟨v2,b1,b2,b3⟩:=hI.low j v1 a1 a2
   exact ⟨v2,b1,b2,by omega⟩
  ·simp only [Bool.or_eq_false_iff] at hb
   obtain ⟨e2,hR⟩:=hfl hb.2
   refine ⟨(hI.fls hb.1).trans e2,λ j q k hj hjq hst hp=>?_⟩
   by_cases e:j=i
   ·subst e
    rw [← hqs,hq] at hjq
    cases hjq
    have:=hI.sil rfl hb.1 k trivial hst hp
    rw [e2] at this
    exact this
   ·exact hR j q k (by omega) hjq hst hp
  ·simp only [JlA] at hb
   cases hb2:b2 with
   | true=>
    have h1:=hI.less hb2
    cases hbb:b with
    | true=>have:=hle hbb;show phi 13000000 (Bu w2 place)<_;omega
    | false=>rw [(hfl hbb).1] at h1;exact h1
   | false=>
    rw [hI.fls hb2]
    exact hle (hb.resolve_left (by rw [hb2];simp))
 ·rintro ⟨w,b,i'⟩ ⟨e1,hP,hC,hL,hlow,hfl,hle⟩
  simp only at e1 hP hC hL hlow hfl hle
  subst e1
  unfold Bo
  refine Tot.iteF (Xg _) (Tot.pure ⟨hP,hC,hL,hlow,λ hb=>⟨(hfl hb).1,⟨λ j q k hj hst hp=>(hfl hb).2 j q k (by have:=Al hj;omega) hj hst hp⟩⟩,hle⟩)
theorem Jaq {place:Nat} (hpl:place<=s.length) {w1:Ac} (h:PI t s place w1) (h1:Y2 t (s.drop place) (B8 t w1 place) (Bu w1 place)) :
  Tot (λ n=>whl (λ (x:Ac)=>BK n (place:Int) x) n w1) (λ w=>PB t s place w/\(∀ p,A2 w p=A2 w1 p)/\w.Last=w1.Last):=by
 refine Tot.whl (body:=λ n x=>BK n (place:Int) x) (λ m x=>m=phi 13000000 (Bu x place)/\PI t s place x/\(∀ p,A2 x p=A2 w1 p)/\x.Last=w1.Last/\Y2 t (s.drop place) (B8 t x place) (Bu x place)) ?_ _ w1 ⟨rfl,h,λ _=>rfl,rfl,h1⟩
 rintro m w ⟨rfl,hP,hC,hL,hD⟩
 have hcl:place<w.Columns.length:=by rw [hP.clen];omega
 unfold BK
 refine Tot.bindC (AW default hcl) ?_
 simp only [Jlq,Hr]
 refine Tot.bind (Jap hT hs hpl hP) ?_
 rintro ⟨w2,b⟩ ⟨g1,g2,g3,g4,g5,g6⟩
 simp only at g1 g2 g3 g4 g5 g6 ⊢
 cases b with
 | false=>
  obtain ⟨e,hD2⟩:=g5 rfl
  subst e
  refine Tot.iteT rfl (Tot.pure ⟨⟨hP.base,hP.clen,hP.nod,hP.ok,hP.all,hP.sort,λ p h1 h2=>?_⟩,hC,hL⟩)
  rcases Nat.eq_or_lt_of_le h1 with rfl|hlt
  ·refine ⟨λ i q hq=>hP.col.exact (hP.qn hT place) hD hD2 hq,λ i v hv=>?_⟩
   have hb:=(hP.col.top hv).2
   have:=hP.qlen hT place
   omega
  ·exact hP.later p hlt h2
 | true=>
  have hqs:B8 t w2 place=B8 t w place:=by unfold B8;rw [g2]
  refine Tot.iteF rfl (Tot.pure ⟨_,g6 rfl,rfl,g1,λ p=>(g2 p).trans (hC p),g3.trans hL,⟨λ j q k hj hst hp y hy hc=>?_⟩⟩)
  rw [hqs] at hj
  obtain ⟨v,a1,a2,a3⟩:=hD.rel j q k hj hst hp y hy hc
  obtain ⟨v',b1,b2,b3⟩:=g4 j v a1 a2
  exact ⟨v',b1,b2,by omega⟩
theorem JdP {w1:Ac} (h:WR t s w1):Tot (λ n=>CT n w1) (λ w=>PB t s 0 w/\w.Last=w1.Last):=by
 have hlen:=IJ hT
 unfold CT
 rw [h.base.ss]
 refine Tot.bind (R:=λ w=>PB t s 0 w/\w.Last=w1.Last) ?_ (λ w h=>Tot.pure h)
 refine Tot.whl (body:=λ n x=>B9 n x.1 x.2) (λ m x=>x.2=(m:Int)-1/\m<=s.length+1/\PB t s m x.1/\x.1.Last=w1.Last) ?_ (s.length+1) _ ⟨by simp,by omega,h.pb,rfl⟩
 rintro m ⟨w,i'⟩ ⟨e2,e4,e5,e6⟩
 simp only at e2 e5 e6
 subst e2
 unfold B9
 cases m with
 | zero=>exact Tot.iteF (by simp) (Tot.pure ⟨e5,e6⟩)
 | succ i=>
  have ei:((i+1:Nat):Int)-1=(i:Int):=by omega
  rw [ei]
  have hcl:i<w.Columns.length:=by rw [e5.clen];omega
  have hll:(A2 w i).length<=768:=by
   have hsub:∀ v∈A2 w i,v∈(List.range (Af t).length).map (λ j:Nat=>(j:Int)):=by
    intro v hv
    obtain ⟨j,q,rfl,hq,_⟩:=e5.ok i v hv
    exact List.mem_map.2 ⟨j,List.mem_range.2 (Al hq),rfl⟩
   have:=(e5.nod i).length_le_of_subset hsub
   rw [List.length_map,List.length_range] at this
   omega
  refine Tot.iteT (by simp) (Tot.bindC (AW default hcl) (Tot.bindC (AW default hcl) (Tot.bindC (Q1 (by omega) (by show ((A2 w i).length:Int).toNat*8<=_;omega)) ?_)))
  rw [show (w.Columns.getD i default).States=A2 w i from rfl,Jlq,Jlq]
  refine Tot.bindC (AW default (by rw [Jly];exact hcl)) ?_
  rw [CX hcl]
  refine Tot.bind (Jan hs (show i<=s.length by omega) e5 hll (List.replicate (A2 w i).length 0) (by simp)) ?_
  rintro w2 rfl
  have hPI:=e5.set (show i<=s.length by omega) (UD t (s.drop i) _ (B8 t w i))
  have hcl2:i<(QC w i ((B8 t w i).map (CY t (s.drop i)))).Columns.length:=by rw [hPI.clen];omega
  refine Tot.bindC (AW default hcl2) ?_
  simp only [Hr]
  refine Tot.bind (Jao hT hs (show i<=s.length by omega) hPI) ?_
  rintro w3 ⟨g1,g2,g3,g4⟩
  refine Tot.bind (Jaq hT hs (show i<=s.length by omega) g1 g4) ?_
  rintro w4 ⟨k1,k2,k3⟩
  refine Tot.pure ⟨i,by omega,?_,by omega,k1,?_⟩
  ·show G9 .i64 (i:Int) 1=(i:Int)-1
   rw [Xf (by omega) (by omega)]
  ·rw [k3,g3];exact e6
end
end Go.AI
end
section
namespace Go.AI
structure Yr (t:Ad) (s:List UInt8) (w:AK) (a e:Int):Prop where
 bad:(Hp s).2≠0->w=⟨[],[]⟩/\a=(Hp s).1/\e=(Hp s).2
 none:(Hp s).2=0->AG t A3 s<0->w=⟨[],[]⟩/\NO t s a/\e=61
 path:(Hp s).2=0->0<=AG t A3 s->e=0/\a=(s.length:Int)/\∃ p,Fz t A3 s p/\w=⟨cellsOf t p,p⟩
theorem Yr.uniq {t:Ad} {s:List UInt8} {w w':AK} {a a' e e':Int} (h:Yr t s w a e) (h':Yr t s w' a' e'):w=w'/\a=a'/\e=e':=by
 by_cases h1:(Hp s).2=0
 ·by_cases h2:AG t A3 s<0
  ·obtain ⟨g1,g2,g3⟩:=h.none h1 h2
   obtain ⟨k1,k2,k3⟩:=h'.none h1 h2
   exact ⟨g1.trans k1.symm,g2.uniq k2,g3.trans k3.symm⟩
  ·obtain ⟨g1,g2,p,g3,g4⟩:=h.path h1 (by omega)
   obtain ⟨k1,k2,p',k3,k4⟩:=h'.path h1 (by omega)
   have:=g3.uniq k3
   subst this
   exact ⟨g4.trans k4.symm,g2.trans k2.symm,g1.trans k1.symm⟩
 ·obtain ⟨g1,g2,g3⟩:=h.bad h1
  obtain ⟨k1,k2,k3⟩:=h'.bad h1
  exact ⟨g1.trans k1.symm,g2.trans k2.symm,g3.trans k3.symm⟩
theorem Xs (t:Ad) (q:Aa):(A7 t q).Pairwise (λ a b=>a.Rule<b.Rule):=by
 unfold A7
 refine List.Pairwise.filterMap _ (R:=λ a b=>a<b) (λ a a' hlt b hb b' hb'=>?_) List.pairwise_lt_range
 unfold Kq at hb hb'
 split at hb
 ·split at hb'
  ·cases hb;cases hb';simp only;omega
  ·cases hb'
 ·cases hb
theorem PD (t:Ad) (p:List Int) (k:Int):cellsOf t (p++[k])=cellsOf t p++cls t k:=by simp [cellsOf]
theorem UF (t:Ad) (p:List Int) (k:Int):EP t (p++[k])=EP t p+(cls t k).length:=by simp [EP,cellsOf]
section
variable {t:Ad} (hT:Ln t) {s:List UInt8} (hs:s.length<=4000)
include hT
omit hT in
theorem PB.pi0 {w:Ac} {t:Ad} {s:List UInt8} (h:PB t s 0 w) (p:Nat) (hp:p<=s.length):(∀ (i:Nat) q,(B8 t w p)[i]? = some q->(Bu w p)[i]? = some (AG t q (s.drop p)))/\∀ (i:Nat) v,(Bu w p)[i]? = some v->v<=((3072*(s.length-p+1):Nat):Int):=h.later p (by omega) hp
theorem PB.find {w:Ac} (h:PB t s 0 w) {p:Nat} (hp:p<=s.length) {q:Aa} (hr:Rch t s p q) (hq:q∈Af t):Ev (λ n=>By n (w.Columns.getD p default) (BW (Af t) q)) (AG t q (s.drop p))/\AG t q (s.drop p)<=((3072*(s.length-p+1):Nat):Int):=by
 obtain ⟨j,hj,hg⟩:=Cc hq
 obtain ⟨d,hd,e⟩:=List.getElem_of_mem (h.all p j q hg hr)
 have hd':(A2 w p)[d]? = some (j:Int):=by rw [← e];exact Jlg hd
 have hqs:(B8 t w p)[d]? = some q:=(MU (h.ok p)).2 ⟨j,hd',hg⟩
 obtain ⟨k1,k2⟩:=h.pi0 p hp
 have hx:=k1 d q hqs
 have hll:(A2 w p).length<=768:=by
  have hsub:∀ v∈A2 w p,v∈(List.range (Af t).length).map (λ j:Nat=>(j:Int)):=by
   intro v hv
   obtain ⟨j,q,rfl,hq,_⟩:=h.ok p v hv
   exact List.mem_map.2 ⟨j,List.mem_range.2 (Al hq),rfl⟩
  have:=(h.nod p).length_le_of_subset hsub
  have:=IJ hT
  simp at *;omega
 refine ⟨?_,k2 d _ hx⟩
 rw [hj]
 exact VT (by show (A2 w p).length<=1000;omega) (h.sort p hp) (h.nod p) hd' hx
include hs
theorem Jar {w:Ac} (h:PB t s 0 w) {place:Nat} (hpl:place<=s.length) {q:Aa} (hr:Rch t s place q) (hq:q∈Af t) (hc:0<AG t q (s.drop place)) (r0:AK) (h1:r0.Cells.length<=13000000) (h2:r0.Path.length<=13000000) :
  Tot (λ n=>whl (λ (x:Int)=>Bi n w r0 (place:Int) (AG t q (s.drop place)) (A7 t q) x) n 0) (λ y=>∃ k:Nat,BL t q (s.drop place) k=AG t q (s.drop place)/\(∀ j:Nat,j<k->BL t q (s.drop place) j≠AG t q (s.drop place))/\y=.inl (⟨r0.Cells++cls t k,r0.Path++[(k:Int)]⟩,((place+(prt t k).length:Nat):Int),BW (Af t) (Au t q k).1,AG t (Au t q k).1 (s.drop (place+(prt t k).length)))):=by
 have hrl:=hT.tab.1
 have hal:(A7 t q).length<=t.Rules.length:=by unfold A7;exact Nat.le_trans (List.length_filterMap_le _ _) (by simp)
 refine Tot.upto (body:=λ n x=>Bi n w r0 (place:Int) (AG t q (s.drop place)) (A7 t q) x) (A7 t q).length (λ i x=>x=(i:Int)/\∀ (i':Nat) a (k:Nat),i'<i->(A7 t q)[i']? = some a->a.Rule=(k:Int)->BL t q (s.drop place) k≠AG t q (s.drop place)) ?_ ?_ _ ⟨rfl,λ i' a k h=>by omega⟩
 ·rintro i x hi ⟨rfl,hI⟩
  have ha:(A7 t q)[i]? = some (A7 t q)[i]:=Jlg hi
  obtain ⟨k,hk,hst,hae⟩:=Is.1 (List.getElem_mem hi)
  obtain ⟨p1,p2,p3⟩:=hT.pr hst
  have hJ:BL t q (s.drop place) k≠AG t q (s.drop place)->Tot (λ n=>Bh n (i:Int)) (Rd2 (λ x=>x=((i+1:Nat):Int)/\∀ (i':Nat) a (k:Nat),i'<i+1->(A7 t q)[i']? = some a->a.Rule=(k:Int)->BL t q (s.drop place) k≠AG t q (s.drop place)) (λ y:(AK×Int×Int×Int)⊕Unit=>∃ k:Nat,BL t q (s.drop place) k=AG t q (s.drop place)/\(∀ j:Nat,j<k->BL t q (s.drop place) j≠AG t q (s.drop place))/\y=.inl (⟨r0.Cells++cls t k,r0.Path++[(k:Int)]⟩,((place+(prt t k).length:Nat):Int),BW (Af t) (Au t q k).1,AG t (Au t q k).1 (s.drop (place+(prt t k).length))))):=by
   intro hne
   unfold Bh
   refine Tot.pure ⟨CP (by omega),λ i' a k' hi' hia hak=>?_⟩
   by_cases e:i'=i
   ·subst e
    rw [ha,hae] at hia
    cases hia
    simp only at hak
    have:k=k':=by omega
    subst this
    exact hne
   ·exact hI i' a k' (by omega) hia hak
  unfold Bi
  refine Tot.iteT (Fx hi) (Tot.bindC (CC ha) ?_)
  rw [hae]
  refine Tot.bindA (λ n=>QB hT hs h.base hpl hst n) (Tot.ite (λ hpf=>?_) λ hpf=>?_)
  ·refine hJ λ he=>?_
   have hpf':(prt t k).isPrefixOf (s.drop place)=false:=by simpa using hpf
   obtain ⟨_,⟨y,hy,_⟩,_⟩:=EA (t:=t) (q:=q) (x:=s.drop place) (k:=(k:Int)) (by omega)
   rw [← Bool.not_eq_true,List.isPrefixOf_iff_prefix,hy] at hpf'
   exact hpf' (List.prefix_append _ _)
  ·have hpf':(prt t k).isPrefixOf (s.drop place)=true:=by simpa using hpf
   have q2:=(Cy hpf').2 hpl
   obtain ⟨f1,f2⟩:=h.find hT q2 (hr.next hst hpf') (EB hT hq hst)
   have f3:=Ts t (Au t q k).1 (s.drop (place+(prt t k).length))
   have hrule:=Iq (t:=t) (k:=(k:Int)) (by omega) (by omega)
   have hclen:(cls t k).length=(CO t k).Cells.length:=rfl
   have hcb:=(h.find hT hpl hr hq).2
   have hn:BL t q (s.drop place) k=if 0<=AG t (Au t q k).1 (s.drop (place+(prt t k).length)) then AG t (Au t q k).1 (s.drop (place+(prt t k).length))+(cls t k).length else -1:=by
    unfold BL
    rw [List.drop_drop]
    have hpp:prt t k <+: s.drop place:=List.isPrefixOf_iff_prefix.1 hpf'
    by_cases h0:0<=AG t (Au t q k).1 (s.drop (place+(prt t k).length))
    ·rw [if_pos ⟨hst,hpp,h0⟩,if_pos h0]
    ·rw [if_neg (λ hh=>h0 hh.2.2),if_neg h0]
   rw [h.base.tt]
   refine Tot.bindC hrule (Tot.bindC (AW default (by rw [h.clen];omega)) (Tot.bindE f1 ?_))
   have hsub:G9 .i64 (AG t q (s.drop place)) ((List.length (CO t k).Cells:Nat):Int)=AG t q (s.drop place)-((cls t k).length:Nat):=by rw [Xf (by omega) (by omega)]
   rw [hsub]
   refine Tot.ite (λ hcond=>hJ λ he=>?_) λ hcond=>?_
   ·simp only [JlA,decide_eq_true_eq,bne_iff_ne,ne_eq] at hcond
    rw [hn] at he
    split at he<;>omega
   ·simp only [Bool.or_eq_false_iff,decide_eq_false_iff_not,bne_eq_false_iff_eq] at hcond
    refine Tot.bindC (Gg (by omega)) (Tot.bindC (Gg (by simp;omega)) (Tot.pure ⟨k,?_,λ j hj hje=>?_,?_⟩))
    ·rw [hn,if_pos (by omega)];omega
    ·obtain ⟨hsj,_⟩:=EA (t:=t) (q:=q) (x:=s.drop place) (k:=(j:Int)) (by omega)
     obtain ⟨i',hi',e⟩:=List.getElem_of_mem (Is.2 ⟨j,by have:=Cw hsj;omega,hsj,rfl⟩:(⟨j,BW (Af t) (Au t q j).1⟩:AB)∈A7 t q)
     have hlt:i'<i:=by
      apply Classical.byContradiction
      intro hge
      rcases Nat.eq_or_lt_of_le (Nat.le_of_not_lt hge) with rfl|hgt
      ·rw [hae] at e
       have:=congrArg AB.Rule e
       simp only at this
       omega
      ·have:=(List.pairwise_iff_getElem.1 (Xs t q)) i i' hi hi' hgt
       rw [hae,e] at this
       simp only at this
       omega
     exact hI i' _ j hlt (by rw [Jlg hi',e]) rfl hje
    ·rw [← hcond.2]
 ·rintro x ⟨rfl,hI⟩
  exfalso
  obtain ⟨k,hk,he⟩:=UB hc
  obtain ⟨hst,_⟩:=EA (t:=t) (q:=q) (x:=s.drop place) (k:=(k:Int)) (by omega)
  obtain ⟨i',hi',e⟩:=List.getElem_of_mem (Is.2 ⟨k,hk,hst,rfl⟩:(⟨k,BW (Af t) (Au t q k).1⟩:AB)∈A7 t q)
  exact hI i' _ k hi' (by rw [Jlg hi',e]) rfl he
structure VU (t:Ad) (s:List UInt8) (p0:List Int) (place:Nat) (q:Aa):Prop where
 goes:On t A3 p0 q
 text:EO t p0=s.take place
 le:place<=s.length
 greedy:∀ p1,Fz t q (s.drop place) p1->Fz t A3 s (p0++p1)
 len:EP t p0+(AG t q (s.drop place)).toNat<=(AG t A3 s).toNat
 plen:p0.length<=EP t p0
 pos:0<=AG t q (s.drop place)
omit hs in
theorem VU.next {p0:List Int} {place:Nat} {q:Aa} (h:VU t s p0 place q) {k:Nat} (hc:0<AG t q (s.drop place)) (hk:BL t q (s.drop place) k=AG t q (s.drop place)) (hm:∀ j:Nat,j<k->BL t q (s.drop place) j≠AG t q (s.drop place)):VU t s (p0++[(k:Int)]) (place+(prt t k).length) (Au t q k).1:=by
 obtain ⟨g1,⟨y,g2,g3⟩,g4,g5⟩:=EA (t:=t) (q:=q) (x:=s.drop place) (k:=(k:Int)) (by omega)
 rw [List.drop_drop] at g3 g4 g5
 have hpf:(prt t k).isPrefixOf (s.drop place)=true:=by rw [List.isPrefixOf_iff_prefix,g2];exact List.prefix_append _ _
 obtain ⟨q1,q2⟩:=Cy hpf
 obtain ⟨p1,p2,p3⟩:=hT.pr g1
 refine ⟨h.goes.snoc g1,?_,q2 h.le,λ p' hp'=>?_,?_,?_,g4⟩
 ·rw [MT,h.text,List.take_add,q1,List.take_left' rfl]
 ·rw [List.append_assoc]
  exact h.greedy _ (.cons hc hk hm (by rw [List.drop_drop];exact hp'))
 ·rw [UF];have:=h.len;omega
 ·rw [UF,List.length_append];have:=h.plen;simp only [List.length_cons,List.length_nil];omega
omit hT hs in
theorem VU.start {t:Ad} {s:List UInt8} (h:0<=AG t A3 s):VU t s [] 0 A3:=⟨rfl,by simp [EO],by omega,λ p hp=>by simpa using hp,by simp [EP,cellsOf],by simp,h⟩
omit hT hs in
theorem VU.rch {t:Ad} {s:List UInt8} {p0:List Int} {place:Nat} {q:Aa} (h:VU t s p0 place q):Rch t s place q:=⟨h.le,p0,h.goes,h.text⟩
omit hs in
theorem Rch.mem {i:Nat} {q:Aa} (h:Rch t s i q):q∈Af t:=by
 obtain ⟨j,hj⟩:=Rch.ind (A:=λ _ q=>∃ j:Nat,(Af t)[j]? = some q) ⟨0,(Cb hT.tab).1.first⟩ (λ i' q k _ hA hst _=>by
  obtain ⟨j,hj⟩:=hA
  obtain ⟨d,_,hd⟩:=Cc (EB hT (Jli hj) hst)
  exact ⟨d,hd⟩) h
 exact Jli hj
theorem Jas {w:Ac} (h:PB t s 0 w) (h0:0<=AG t A3 s):Tot (λ n=>Ca n w) (λ r=>∃ p,Fz t A3 s p/\r=⟨cellsOf t p,p⟩):=by
 have hf:=(Cb hT.tab).1.first
 have hi0:BW (Af t) A3=0:=Om (Rv hT) hf
 have hS:A3∈Af t:=Jli hf
 obtain ⟨f1,f2⟩:=h.find hT (p:=0) (by omega) (.start t s) hS
 rw [hi0,List.drop_zero] at f1
 rw [List.drop_zero] at f2
 unfold Ca
 refine Tot.bindC (AW (i:=0) default (by rw [h.clen];omega)) (Tot.bindE f1 ?_)
 refine Tot.bind (R:=λ r=>∃ p,Fz t A3 s p/\r=(⟨cellsOf t p,p⟩:AK)) ?_ (λ r hr=>Tot.pure hr)
 refine Tot.whl (body:=λ n x=>BC n w x.1 x.2.1 x.2.2.1 x.2.2.2) (λ m x=>∃ (p0:List Int) (place:Nat) (q:Aa),VU t s p0 place q/\x=(⟨cellsOf t p0,p0⟩,(place:Int),BW (Af t) q,AG t q (s.drop place))/\m=(AG t q (s.drop place)).toNat) ?_ (AG t A3 s).toNat _ ⟨[],0,A3,.start h0,by rw [hi0,List.drop_zero];rfl,by rw [List.drop_zero]⟩
 rintro m x ⟨p0,place,q,hW,rfl,rfl⟩
 have hq:=hW.rch.mem hT
 unfold BC
 simp only
 by_cases hc:0<AG t q (s.drop place)
 ·obtain ⟨j,hj,hg⟩:=Cc hq
  have hlen:=hW.len
  have hpl:=hW.plen
  rw [hj]
  refine Tot.iteT (by simpa using hc) (Tot.bindC (CC (h.base.arc j q hg)) (Tot.bind (Jar hT hs h hW.le hW.rch hq hc ⟨cellsOf t p0,p0⟩ (by show EP t p0<=_;omega) (by show p0.length<=_;omega)) ?_))
  rintro y ⟨k,g1,g2,rfl⟩
  have hW2:=hW.next hT hc g1 g2
  obtain ⟨e1,⟨y,e2,e3⟩,e4,e5⟩:=EA (t:=t) (q:=q) (x:=s.drop place) (k:=(k:Int)) (by omega)
  rw [List.drop_drop] at e5
  obtain ⟨p1,p2,p3⟩:=hT.pr e1
  refine Tot.pure ⟨(AG t (Au t q k).1 (s.drop (place+(prt t k).length))).toNat,by have:=hW2.pos;omega,p0++[(k:Int)],place+(prt t k).length,(Au t q k).1,hW2,?_,rfl⟩
  simp only [PD]
 ·refine Tot.iteF (by simpa using hc) (Tot.pure ⟨p0,?_,rfl⟩)
  have:=hW.greedy [] (.nil (by omega))
  rwa [List.append_nil] at this
theorem Jat (hv:Ev (λ n=>GM n t) true):Tot (λ n=>HV n t s) (λ y=>Yr t s y.1 y.2.1 y.2.2):=by
 have hf:=(Cb hT.tab).1.first
 have hi0:BW (Af t) A3=0:=Om (Rv hT) hf
 unfold HV
 refine Tot.bindE (YX (by omega)) ?_
 by_cases hb:(Hp s).2=0
 ·refine Tot.iteF (by rw [hb];rfl) (Tot.bindE hv (Tot.iteF rfl (Tot.bind (Jjh hT hs) ?_)))
  rintro w1 ⟨h1,h2,h3⟩
  refine Tot.bind (JdO hT hs h1 h2 h3) λ w2 hR=>Tot.bind (JdP hT hs hR) ?_
  rintro w3 ⟨hP,hL⟩
  have hcol:∀ v,InC w3 0 v->∃ (j:Nat) (q:Aa),v=(j:Int)/\(Af t)[j]? = some q/\Rch t s 0 q:=hP.ok 0
  have hin0:InC w3 0 (0:Nat):=hP.all 0 0 A3 hf (.start t s)
  have hfirst:(A2 w3 0)[0]? = some ((0:Nat):Int):=by
   obtain ⟨d,hd,e⟩:=List.getElem_of_mem hin0
   cases d with
   | zero=>rw [← e];exact Jlg hd
   | succ d=>
    exfalso
    have h4:=(List.pairwise_iff_getElem.1 (hP.sort 0 (by omega))) 0 (d+1) (by omega) hd (by omega)
    obtain ⟨j,q,e1,_,_⟩:=hcol _ (List.getElem_mem (show 0<(A2 w3 0).length by omega))
    have h5:=Tv (hP.nod 0) (a:=0) (b:=d+1) (x:=((0:Nat):Int)) (by rw [Jlg (by omega)];congr 1;omega) (by rw [Jlg hd,e])
    omega
  have hqs:(B8 t w3 0)[0]? = some A3:=(MU hcol).2 ⟨0,hfirst,hf⟩
  have hx:=(hP.pi0 0 (by omega)).1 0 A3 hqs
  rw [List.drop_zero] at hx
  refine Tot.bindC (AW (i:=0) default (by rw [hP.clen];omega)) (Tot.bindC (CC (i:=0) hx) (Tot.ite (λ hc=>?_) λ hc=>?_))
  ·have hneg:AG t A3 s<0:=by simpa using hc
   refine Tot.pure ⟨λ h=>absurd hb h,λ _ _=>⟨rfl,?_,rfl⟩,λ _ h=>by omega⟩
   show NO t s w3.Last
   rw [hL];exact hR.last
  ·have hpos:0<=AG t A3 s:=by simpa using hc
   have e0:(⟨w3.T,w3.S,w3.States,w3.Arcs,w3.Columns.set (Int.toNat 0) (w3.Columns.getD 0 default),w3.Last⟩:Ac)=w3:=Hr w3 0 default
   rw [e0]
   refine Tot.bind (Jas hT hs hP hpos) ?_
   rintro r ⟨p,hp,rfl⟩
   exact Tot.pure ⟨λ h=>absurd hb h,λ _ h=>by omega,λ _ _=>⟨rfl,rfl,p,hp,rfl⟩⟩
 ·refine Tot.iteT (by simpa using hb) (Tot.pure ⟨λ _=>⟨rfl,rfl,rfl⟩,λ h=>absurd h hb,λ h=>absurd h hb⟩)
end
end Go.AI
end
section
namespace Go.AI
section
variable {t:Ad} (hT:Ln t) {s:List UInt8} (hs:s.length<=4000)
include hT
theorem JdQ {out:List (List Int)} (hR:∀ i,i<=s.length->LO t s i (out.getD i [])) {i:Nat} (hi:i<=s.length) {q:Aa} (hq:q∈Af t) (k:Nat):JJ t s out i q k=BL t q (s.drop i) k:=by
 unfold JJ BL
 by_cases hst:(Au t q k).2=true
 ·by_cases hb:(prt t k).isPrefixOf (s.drop i)=true
  ·have q2:=(Cy hb).2 hi
   obtain ⟨m,hm,hmg⟩:=Cc (EB hT hq hst)
   have hv:=(hR _ q2).val m _ hmg
   have hvv:(out.getD (i+(prt t k).length) []).getD m 0=AG t (Au t q k).1 (s.drop (i+(prt t k).length)):=by
    rw [Jlp (l:=out.getD (i+(prt t k).length) []),hv];rfl
   rw [if_pos ⟨hst,hb⟩,hm,Jlq,hvv,List.drop_drop]
   have hpp:prt t k <+: s.drop i:=List.isPrefixOf_iff_prefix.1 hb
   by_cases h0:0<=AG t (Au t q k).1 (s.drop (i+(prt t k).length))
   ·rw [if_neg (by omega),if_pos ⟨hst,hpp,h0⟩]
   ·rw [if_pos (by omega),if_neg (λ hh=>h0 hh.2.2)]
  ·rw [if_neg (λ hh=>hb hh.2),if_neg (λ hh=>hb (List.isPrefixOf_iff_prefix.2 hh.2.1))]
 ·rw [if_neg (λ hh=>hst hh.1),if_neg (λ hh=>hst hh.1)]
theorem Ys {q:Aa} {x:List UInt8} (hc:0<AG t q x):∃ k:Nat,k<t.Rules.length/\BL t q x k=AG t q x/\∀ j:Nat,j<k->BL t q x j≠AG t q x:=by
 obtain ⟨p,hp⟩:=Jaj hT.one (AG t q x).toNat q x (by omega)
 cases hp with
 | nil h=>omega
 | cons h hk hm hp=>
  obtain ⟨g1,_⟩:=EA (t:=t) (q:=q) (x:=x) (by rw [hk];omega)
  have:=Cw g1
  exact ⟨_,by omega,hk,hm⟩
include hs
theorem Yt {out:List (List Int)} (hol:out.length=s.length+1) (hR:∀ i,i<=s.length->LO t s i (out.getD i [])) {i:Nat} (hi:i<=s.length) {q:Aa} (hq:q∈Af t) (w:Ch) {k:Nat} (hkl:k<t.Rules.length) (hk:BL t q (s.drop i) k=AG t q (s.drop i)) (hm:∀ j:Nat,j<k->BL t q (s.drop i) j≠AG t q (s.drop i)) :
  Tot (λ n=>whl (λ (x:Int)=>Ey n t out (Af t) w ⟨s,i,q,Af t⟩ (AG t q (s.drop i)) x) n 0) (λ y=>y=(k:Int)):=by
 have haft:∀ j:Nat,j<=k->Ev (λ n=>GO n t ⟨s,i,q,Af t⟩ j out) (BL t q (s.drop i) j):=λ j hj=>by
  rw [← JdQ hT hR hi hq]
  exact Tt hT hs hi hol (λ i' _ h2=>MS hT hs (hR i' h2)) hq (by omega)
 have hrl:=hT.tab.1
 refine Tot.upto (body:=λ n x=>Ey n t out (Af t) w ⟨s,i,q,Af t⟩ (AG t q (s.drop i)) x) k (λ j x=>x=(j:Int)) ?_ ?_ _ rfl
 ·rintro j x hj rfl
  unfold Ey
  refine Tot.bindE (haft j (by omega)) (Tot.iteT (by simpa using hm j hj) (Tot.pure (CP (by omega))))
 ·rintro x rfl
  unfold Ey
  exact Tot.bindE (haft k (by omega)) (Tot.iteF (by simpa using hk) (Tot.pure rfl))
theorem Jau:Tot (λ n=>M4 n t s) (λ y=>Yr t s y.W y.At y.E):=by
 have hf:=(Cb hT.tab).1.first
 have hi0:BW (Af t) A3=0:=Om (Rv hT) hf
 have hrl:=hT.tab.1
 have hlen:=IJ hT
 unfold M4
 refine Tot.bindE (Xh (by omega)) ?_
 by_cases hb:(Hp s).2=0
 ·refine Tot.iteF (by rw [hb];rfl) (Tot.bind (Jn hT hs) ?_)
  rintro out ⟨hol,hR⟩
  have h00:(out.getD 0 [])[0]? = some (AG t A3 s):=(hR 0 (by omega)).val 0 _ hf
  refine Tot.bindC (AW (i:=0) [] (by omega)) (Tot.bindC (CC (i:=0) h00) (Tot.ite (λ hc=>?_) λ hc=>?_))
  ·have hneg:AG t A3 s<0:=by simpa using hc
   refine Tot.bind (Yp hT hs) λ a ha=>Tot.pure ⟨λ h=>absurd hb h,λ _ _=>⟨rfl,ha,rfl⟩,λ _ h=>by omega⟩
  ·have hpos:0<=AG t A3 s:=by simpa using hc
   refine Tot.bindE (MQ hT.tab) (Tot.bindC (y:=A3) rfl (Tot.bind (R:=λ y:Ch=>y.At=(s.length:Int)/\y.E=0/\∃ p,Fz t A3 s p/\y.W=⟨cellsOf t p,p⟩) ?_ ?_))
   ·refine Tot.whl (body:=λ n x=>HJ n t out (Af t) x.1 x.2) (λ m x=>∃ (p0:List Int) (place:Nat) (q:Aa),VU t s p0 place q/\x=(⟨⟨cellsOf t p0,p0⟩,(s.length:Int),0⟩,⟨s,(place:Int),q,Af t⟩)/\m=(AG t q (s.drop place)).toNat) ?_ (AG t A3 s).toNat _ ⟨[],0,A3,.start hpos,rfl,by rw [List.drop_zero]⟩
    rintro m x ⟨p0,place,q,hW,rfl,rfl⟩
    have hq:=hW.rch.mem hT
    have hple:=hW.le
    obtain ⟨j,hj,hg⟩:=Cc hq
    have hv:=(hR place hple).val j _ hg
    unfold HJ
    simp only
    refine Tot.bindC (AW [] (by omega)) (Tot.bindE (Kk (l:=Af t) (s:=q) (by omega)) ?_)
    rw [hj]
    refine Tot.bindC (CC hv) (Tot.ite (λ hc=>?_) λ hc=>?_)
    ·have hc:0<AG t q (s.drop place):=by simpa using hc
     obtain ⟨k,hkl,hk,hm⟩:=Ys hT hc
     have hW2:=hW.next hT hc hk hm
     obtain ⟨e1,⟨y,e2,e3⟩,e4,e5⟩:=EA (t:=t) (q:=q) (x:=s.drop place) (k:=(k:Int)) (by omega)
     rw [List.drop_drop] at e5
     obtain ⟨p1,p2,p3⟩:=hT.pr e1
     have hrule:=Iq (t:=t) (k:=(k:Int)) (by omega) (by omega)
     have htop:=MS hT hs (hR 0 (by omega))
     have hst:=htop.2 0 _ h00
     have hlen:=hW.len
     have hpl:=hW.plen
     have hlC:EP t p0=(cellsOf t p0).length:=rfl
     have hW2l:=hW2.le
     refine Tot.bindC (AW [] (by omega)) (Tot.bindE (Kk (l:=Af t) (s:=q) (by omega)) ?_)
     rw [hj]
     refine Tot.bindC (CC hv) (Tot.bind (Yt hT hs hol hR hple hq _ hkl hk hm) ?_)
     rintro y rfl
     refine Tot.bindC (Gg (by simp;omega)) (Tot.bindC hrule (Tot.bindC (Gg (by simp only [cls] at *;omega)) (Tot.bindA (λ n=>Pq hT.tab.short n q k) (Tot.bindC hrule (Tot.pure ⟨(AG t (Au t q k).1 (s.drop (place+(prt t k).length))).toNat,by have:=hW2.pos;omega,p0++[(k:Int)],place+(prt t k).length,(Au t q k).1,hW2,?_,rfl⟩)))))
     have e6:Ar .i64 (place:Int) ((List.length (CO t k).Print:Nat):Int)=((place+(prt t k).length:Nat):Int):=by rw [MP]<;>simp only [prt] at*<;> omega
     rw [PD,e6]
    ·refine Tot.pure ⟨rfl,rfl,p0,?_,rfl⟩
     have h0:¬ 0<AG t q (s.drop place):=by simpa using hc
     have:=hW.greedy [] (.nil (by omega))
     rwa [List.append_nil] at this
   ·rintro y ⟨h1,h2,h3⟩
    exact Tot.pure ⟨λ h=>absurd hb h,λ _ h=>by omega,λ _ _=>⟨h2,h1,h3⟩⟩
 ·refine Tot.iteT (by simpa using hb) (Tot.pure ⟨λ _=>⟨rfl,rfl,rfl⟩,λ h=>absurd h hb,λ h=>absurd h hb⟩)
end
theorem Jft (a b:List Int) (ha:a.length<9223372036854775807):Ev (λ n=>F4 n a b) (decide (a=b)):=by
 unfold F4
 by_cases hl:a.length=b.length
 ·refine Ev.iteF (by rw [VM];simp [hl]) ?_
  refine Ev.bind (Gh a.length (λ i=>if a.getD i default=b.getD i default then none else some false) (λ i hi=>Ev.all λ n=>?_) (Ev.all λ n=>?_)) ?_
  ·unfold FG
   rw [if_pos (Fx hi),GU hi,Option.bind_some,GU (by omega),Option.bind_some]
   by_cases h:a.getD i default=b.getD i default
   ·rw [if_neg (by simpa using h),if_pos h,CP (by omega)]
   ·rw [if_pos (by simpa using h),if_neg h]
  ·unfold FG
   rw [if_neg (by simp)]
  ·rw [Qz a b hl]
   by_cases e:a=b
   ·rw [if_pos e,decide_eq_true e];exact Ev.const
   ·rw [if_neg e,decide_eq_false e];exact Ev.const
 ·refine Ev.iteT (by rw [VM];simp [hl]) ?_
  rw [show decide (a=b)=false by simp;intro h;exact hl (by rw [h])]
  exact Ev.const
theorem Jfu (a b:AK) (ha:a.Cells.length<9223372036854775807) (hb:a.Path.length<9223372036854775807):Ev (λ n=>H7 n a b) (decide (a=b)):=by
 unfold H7
 refine Ev.bind (Pt a.Cells b.Cells ha) ?_
 refine Ev.guard (λ _=>Jft a.Path b.Path hb) ?_
 refine Ev.congr (Ev.const (z:=decide (a=b))) λ n=>?_
 cases a with|mk c p=>cases b with|mk c' p'=>
 simp only [AK.mk.injEq,Jlr]
 by_cases h1:c=c'<;>simp [h1]
end Go.AI
end
section
namespace Go.AI
def UG (t:Ad) (s:List UInt8):Prop:=s.length<=12/\∃ p:List Int,(∀ k∈p,0<=k/\k<t.Rules.length)/\EO t p=s
theorem Yu {t:Ad} (ht:t.Rules.length<1000000) (hpr:∀ r∈t.Rules,r.Print.length<=1000) {l:List Int} (hl:∀ a∈l,U8 a):Tot (λ n=>IX n t l) (UG t):=by
 unfold IX
 refine Tot.bind (R:=UG t) ?_ λ y hy=>Tot.pure hy
 refine Tot.upto (body:=λ n x=>Ef n t l x.1 x.2) (min (min l.length 12) (t.Rules.length*13)) (λ i x=>x.2=(i:Int)/\UG t x.1) ?_ ?_ _ ⟨rfl,by simp,[],by simp,rfl⟩
 ·rintro i ⟨s,x⟩ hi ⟨h1,h2,p,h3,h4⟩
  simp only at h1 h2 h4
  subst h1
  unfold Ef
  obtain ⟨a,ham,hai⟩:=Ok (l:=l) (i:=(i:Int)) (by omega) (by omega)
  have hu:=hl a ham
  have hw:IntKind.i64.wrap a=a:=w64 (by unfold U8 at hu;omega) (by unfold U8 at hu;omega)
  have hrr:=Em (a:=a) (m:=((t.Rules.length:Nat):Int)) hu.1 (by omega)
  have hrule:=Iq (t:=t) hrr.1 hrr.2
  have hp:=hpr _ (Ir (t:=t) hrr.1 hrr.2)
  refine Tot.iteT (by simp;omega) (Tot.bindC hai (Tot.bindC (DU (by simp;intro h;rw [h] at hi;simp at hi)) ?_))
  rw [hw]
  refine Tot.bindC hrule ?_
  have hJ:∀ s',UG t s'->Tot (λ n=>Ee n (i:Int) s') (Rd2 (λ x=>x.2=((i+1:Nat):Int)/\UG t x.1) (UG t)):=λ s' hs'=>by
   unfold Ee
   exact Tot.pure ⟨CP (by omega),hs'⟩
  have e1:Ar .i64 ((s.length:Nat):Int) ((List.length (CO t (Bv a ((t.Rules.length:Nat):Int))).Print:Nat):Int)=((s.length+(CO t (Bv a ((t.Rules.length:Nat):Int))).Print.length:Nat):Int):=by rw [MP]<;>omega
  simp only [e1]
  refine Tot.ite (λ hc=>Tot.bindC (Jdr (by simp only [decide_eq_true_eq] at hc;omega)) (hJ _ ⟨by simp only [decide_eq_true_eq] at hc;rw [List.length_append];omega,p++[Bv a ((t.Rules.length:Nat):Int)],?_,by simp [MT,h4]⟩)) (λ hc=>hJ _ ⟨h2,p,h3,h4⟩)
  intro k hk
  rcases List.mem_append.1 hk with hk|hk
  ·exact h3 k hk
  ·cases List.mem_singleton.1 hk;exact hrr
 ·rintro ⟨s,x⟩ ⟨h1,h2⟩
  simp only at h1 h2
  subst h1
  unfold Ef
  refine Tot.iteF ?_ (Tot.pure h2)
  simp
  intro h3 h4
  have:t.Rules.length*13<=12\/¬ t.Rules.length*13<=12:=Classical.em _
  apply Classical.byContradiction
  intro h5
  have:0<t.Rules.length:=List.length_pos_iff.2 h5
  omega
theorem Ip.six {t:Ad} (h:Ip t):Ln t:=⟨h.tab,λ r hr=>by have:=Ol (h.sound r hr);exact ⟨by omega,by omega⟩⟩
theorem Ip.validT {t:Ad} (h:Ip t):Ev (λ n=>GM n t) true:=by
 have:=Jaf h.small
 rwa [h.valid] at this
end Go.AI
end
section
namespace Go.AI
theorem UH {t:Ad} (hc:∀ r∈t.Rules,1<=r.Cells.length):∀ {p:List Int},(∀ k∈p,0<=k/\k<t.Rules.length)->p.length<=EP t p
 | [],_=>by simp
 | k::p,h=>by
  have h1:=h k (by simp)
  have h2:=hc _ (Ir h1.1 h1.2)
  have h3:=UH (t:=t) hc (p:=p) λ a ha=>h a (by simp [ha])
  rw [GV,List.length_cons]
  simp only [cls];omega
theorem Way.mem {t:Ad} {q:Aa} {x:List UInt8} {p:List Int} (h:Way t q x p):∀ k∈p,0<=k/\k<t.Rules.length:=by
 obtain ⟨⟨q',h1,_⟩,_⟩:=h
 exact h1.mem
section
variable {t:Ad} (hT:Ln t) {s:List UInt8} (hs:s.length<=4000)
include hT hs
theorem JdR:AG t A3 s<=13000000:=by
 obtain ⟨out,⟨_,hR⟩,_⟩:=Jn hT hs
 have hf:=(Cb hT.tab).1.first
 exact ((MS hT hs (hR 0 (by omega))).2 0 _ ((hR 0 (by omega)).val 0 _ hf)).2
theorem Yr.size {w:AK} {a e:Int} (h:Yr t s w a e):w.Cells.length<=13000000/\w.Path.length<=13000000:=by
 by_cases h1:(Hp s).2=0
 ·by_cases h2:AG t A3 s<0
  ·obtain ⟨rfl,_⟩:=h.none h1 h2
   simp
  ·obtain ⟨_,_,p,g3,rfl⟩:=h.path h1 (by omega)
   have g4:=g3.way hT.one (by omega)
   have g5:=UH hT.one g4.1.mem
   have g6:=JdR hT hs
   have:EP t p=(cellsOf t p).length:=rfl
   simp only;omega
 ·obtain ⟨rfl,_⟩:=h.bad h1
  simp
end
end Go.AI
end
section
namespace Go.AI
theorem Yv {x:Ng} (hx:Pw x):∃ t,(Ip t/\t.Rules.length<=10)/\Ev (λ n=>JY n x) t:=by
 obtain ⟨t,h,hE⟩:=Jah hx
 exact ⟨t,⟨h.1,h.2.2⟩,hE⟩
end Go.AI
end
