/- What each Go function computes, by program. -/
import Derived.Test.YtjjhmbpannlkaaaGreatLCliffordsTy
set_option linter.unusedVariables false
namespace Go.VK
open Go.RowKit
def DX (c:Ah):Option (Int×Ah) :=
  ((bif (decide (c.at_<(c.code.length:Int))) then ((getI c.code c.at_).bind fun x =>
  some (IntKind.i64.wrap x)) else (some 0)):Option (Int)).bind fun b =>
  bif (decide ((IntKind.i64.wrap (c.at_+1))≤(c.code.length:Int))) then (some ((b,(Ah.mk c.code (IntKind.i64.wrap (c.at_+1)) (IntKind.u64.wrap ((IntKind.u64.wrap ((IntKind.u64.wrap (c.seed*6364136223846793005))+(IntKind.u64.wrap b)))+1442695040888963407)))))) else (some (((IntKind.i64.wrap (bits .and .u64 (shrK .u64 (IntKind.u64.wrap ((IntKind.u64.wrap ((IntKind.u64.wrap (c.seed*6364136223846793005))+(IntKind.u64.wrap b)))+1442695040888963407)) 40) 255)),(Ah.mk c.code (IntKind.i64.wrap (c.at_+1)) (IntKind.u64.wrap ((IntKind.u64.wrap ((IntKind.u64.wrap (c.seed*6364136223846793005))+(IntKind.u64.wrap b)))+1442695040888963407))))))

def AI (c:Ah) (n1:Int):Option (Int×Ah) :=
  bif (decide (n1≤1)) then (some ((0,c))) else ((DX c).bind fun (r_1,m1) =>
  ((bif (decide (200<n1)) then ((DX (Ah.mk c.code m1.at_ m1.seed)).bind fun (r_2,m2) =>
  some (m2.at_,m2.seed,(IntKind.i64.wrap ((IntKind.i64.wrap (r_1*256))+r_2)))) else (some (m1.at_,m1.seed,r_1))):Option (Int×Int×Int)).bind fun (at_,seed,x) =>
  chk (n1≠(0:Int)) <|
  some (((Int.tmod x n1),(Ah.mk c.code at_ seed))))

def AG (n:Int) (lo:Int) (hi:Int):Option (Bool) :=
  some (((decide (lo≤n))&&(decide (n≤hi))))

def Fp (c:Ah) (n1:Int) (kinds:List Int):Option (Ab×Ah) :=
  (AI c (kinds.length:Int)).bind fun (r_1,m1) =>
  (getI kinds r_1).bind fun x =>
  bif (x==12) then (some (((Ab.mk x 0 0),(Ah.mk c.code m1.at_ m1.seed)))) else ((AI (Ah.mk c.code m1.at_ m1.seed) n1).bind fun (r_2,m2) =>
  (((AG x 9 11).bind fun r_3 =>
  bif r_3 then (bif (n1==1) then (some (.inr ((Ab.mk 1 0 0),(Ah.mk c.code m2.at_ m2.seed)))) else ((AI (Ah.mk c.code m2.at_ m2.seed) (IntKind.i64.wrap (n1-1))).bind fun (r_4,m3) =>
  chk (n1≠(0:Int)) <|
  some (.inl (m3.at_,m3.seed,(Int.tmod (IntKind.i64.wrap ((IntKind.i64.wrap (r_2+1))+r_4)) n1))))) else (some (.inl (m2.at_,m2.seed,0)))):Option ((Int×Int×Int) ⊕ (Ab×Ah))).bind<|orR fun (at_,seed,B3) =>
  some (((Ab.mk x r_2 B3),(Ah.mk c.code at_ seed))))

def G1 (c:Ah) (n1:Int) (kinds:List Int):(Int×Int×List Ab×Int)→Option (Ex (Int×Int×List Ab×Int) (Aj×Ah)):=fun (at_,seed,Gates,k_) =>
  bif (decide (0<k_)) then ((Fp (Ah.mk c.code at_ seed) n1 kinds).bind fun (r_2,m2) =>
  chk (Gates.length+1≤1099511627776) <|
  some (.nx (m2.at_,m2.seed,(Gates++[r_2]),(IntKind.i64.wrap (k_-1))))) else (some (.br (at_,seed,Gates,k_)))
def Cl (c:Ah) (n1:Int) (most:Int) (kinds:List Int):Option (Aj×Ah) :=
  (AI c (IntKind.i64.wrap (most+1))).bind fun (r_1,m1) =>
  (whX (G1 c n1 kinds) fuel (m1.at_,m1.seed,[],r_1)).bind<|orR fun (at_,seed,Gates,k_) =>
  some (((Aj.mk n1 Gates),(Ah.mk c.code at_ seed)))

def CM (c:Ah) (n1:Int):Option (Aj×Ah) :=
  (Cl c n1 8 [1,2,3,4,5,6,9,9,10,11,1]).bind fun (r_1,m1) =>
  some ((r_1,(Ah.mk c.code m1.at_ m1.seed)))

def Jn:Nat→(List Aa×List Aa)→Option (List Aa×List Aa):=fun q (XImages,ZImages) =>
  chk ((0:Int)≤(IntKind.u64.wrap (q:Int))) <|
  chk (XImages.length+1≤1099511627776) <|
  chk ((0:Int)≤(IntKind.u64.wrap (q:Int))) <|
  chk (ZImages.length+1≤1099511627776) <|
  some ((XImages++[(Aa.mk 0 (shlK .i64 1 (IntKind.u64.wrap (q:Int))) 0)]),(ZImages++[(Aa.mk 0 0 (shlK .i64 1 (IntKind.u64.wrap (q:Int))))]))
def Dz (n:Int):Option (Ae) :=
  chk (n.toNat≤9223372036854775807) <|
  (forN Jn n.toNat 0 ([],[])).bind fun (XImages,ZImages) =>
  some ((Ae.mk n XImages ZImages))

def AO (p:Aa) (q:Int):Option (Int) :=
  chk ((0:Int)≤(IntKind.u64.wrap q)) <|
  chk ((0:Int)≤(IntKind.u64.wrap q)) <|
  some ((IntKind.i64.wrap ((bits .and .i64 (shrK .i64 p.X (IntKind.u64.wrap q)) 1)+(IntKind.i64.wrap (2*(bits .and .i64 (shrK .i64 p.Z (IntKind.u64.wrap q)) 1))))))

def Gg (a:Int) (b:Int):Option (Int) :=
  (getI ([([0,0,0,0]:List Int),([0,0,3,1]:List Int),([0,1,0,3]:List Int),([0,3,1,0]:List Int)]:List (List Int)) a).bind fun x =>
  chk (b<4) <|
  (getI x b).bind fun x1 =>
  some (x1)

def FT (a:Aa) (b:Aa):Nat→Int→Option (Int):=fun q Phase =>
  (AO a (q:Int)).bind fun r_1 =>
  (AO b (q:Int)).bind fun r_2 =>
  (Gg r_1 r_2).bind fun r_3 =>
  some (IntKind.i64.wrap (Phase+r_3))
def AM (a:Aa) (b:Aa):Option (Aa) :=
  (forN (FT a b) 5 0 (IntKind.i64.wrap (a.Phase+b.Phase))).bind fun Phase =>
  some ((Aa.mk (Int.tmod Phase 4) (bits .xor .i64 a.X b.X) (bits .xor .i64 a.Z b.Z)))

def CA (p:Aa) (t:Ae):Nat→(Int×Int×Int)→Option (Int×Int×Int):=fun q (Phase,X,Z) =>
  (((AO p (q:Int)).bind fun r_1 =>
  ((bif ((bits .and .i64 r_1 1)==1) then ((getI t.XImages (q:Int)).bind fun x =>
  (AM (Aa.mk Phase X Z) x).bind fun r_2 =>
  some (r_2.Phase,r_2.X,r_2.Z)) else (some (Phase,X,Z))):Option (Int×Int×Int)).bind fun (Phase2,X2,Z2) =>
  ((bif ((bits .and .i64 r_1 2)==2) then ((getI t.ZImages (q:Int)).bind fun x1 =>
  (AM (Aa.mk Phase2 X2 Z2) x1).bind fun r_3 =>
  some (r_3.Phase,r_3.X,r_3.Z)) else (some (Phase2,X2,Z2))):Option (Int×Int×Int)).bind fun (Phase3,X3,Z3) =>
  bif (r_1==3) then (some ((Int.tmod (IntKind.i64.wrap (Phase3+1)) 4),X3,Z3)) else (some (Phase3,X3,Z3))):Option (Int×Int×Int)).bind fun (Phase1,X1,Z1) =>
  some (Phase1,X1,Z1)
def Bk (t:Ae) (p:Aa):Option (Aa) :=
  chk (t.Qubits.toNat≤9223372036854775807) <|
  (forN (CA p t) t.Qubits.toNat 0 (p.Phase,0,0)).bind fun (Phase,X,Z) =>
  some ((Aa.mk Phase X Z))

def CQ (first:Ae) (second:Ae):Nat→(List Aa×List Aa)→Option (List Aa×List Aa):=fun q (XImages,ZImages) =>
  (getI first.XImages (q:Int)).bind fun x =>
  (Bk second x).bind fun r_1 =>
  chk (XImages.length+1≤1099511627776) <|
  (getI first.ZImages (q:Int)).bind fun x1 =>
  (Bk second x1).bind fun r_2 =>
  chk (ZImages.length+1≤1099511627776) <|
  some ((XImages++[r_1]),(ZImages++[r_2]))
def BO (first:Ae) (second:Ae):Option (Ae) :=
  chk (first.Qubits.toNat≤9223372036854775807) <|
  (forN (CQ first second) first.Qubits.toNat 0 ([],[])).bind fun (XImages,ZImages) =>
  some ((Ae.mk first.Qubits XImages ZImages))

def BT (n:Int) (g:Ab):Option (Ae) :=
  (Dz n).bind fun r_1 =>
  chk ((0:Int)≤(IntKind.u64.wrap g.A)) <|
  chk ((0:Int)≤(IntKind.u64.wrap g.A)) <|
  chk ((0:Int)≤(IntKind.u64.wrap g.B)) <|
  chk ((0:Int)≤(IntKind.u64.wrap g.B)) <|
  ((bif (g.Kind==1) then ((getI r_1.XImages g.A).bind fun x =>
  (getI r_1.ZImages g.A).bind fun x1 =>
  some ((r_1.XImages.set g.A.toNat (Aa.mk 0 0 (shlK .i64 1 (IntKind.u64.wrap g.A)))),(r_1.ZImages.set g.A.toNat (Aa.mk 0 (shlK .i64 1 (IntKind.u64.wrap g.A)) 0)))) else (bif (g.Kind==2) then ((getI r_1.ZImages g.A).bind fun x2 =>
  some (r_1.XImages,(r_1.ZImages.set g.A.toNat (Aa.mk 2 x2.X x2.Z)))) else (bif (g.Kind==4) then ((getI r_1.XImages g.A).bind fun x3 =>
  some ((r_1.XImages.set g.A.toNat (Aa.mk 2 x3.X x3.Z)),r_1.ZImages)) else (bif (g.Kind==3) then ((getI r_1.XImages g.A).bind fun x4 =>
  (getI r_1.ZImages g.A).bind fun x5 =>
  some ((r_1.XImages.set g.A.toNat (Aa.mk 2 x4.X x4.Z)),(r_1.ZImages.set g.A.toNat (Aa.mk 2 x5.X x5.Z)))) else (((bif (g.Kind==5) then (some (g.Kind==5)) else (some (g.Kind==6))):Option (Bool)).bind fun t =>
  bif t then ((getI r_1.XImages g.A).bind fun x6 =>
  bif (g.Kind==6) then (some (((r_1.XImages.set g.A.toNat (Aa.mk 0 (shlK .i64 1 (IntKind.u64.wrap g.A)) (shlK .i64 1 (IntKind.u64.wrap g.A)))).set g.A.toNat (Aa.mk 2 (shlK .i64 1 (IntKind.u64.wrap g.A)) (shlK .i64 1 (IntKind.u64.wrap g.A)))),r_1.ZImages)) else (some ((r_1.XImages.set g.A.toNat (Aa.mk 0 (shlK .i64 1 (IntKind.u64.wrap g.A)) (shlK .i64 1 (IntKind.u64.wrap g.A)))),r_1.ZImages))) else (bif (g.Kind==9) then ((AM (Aa.mk 0 (shlK .i64 1 (IntKind.u64.wrap g.A)) 0) (Aa.mk 0 (shlK .i64 1 (IntKind.u64.wrap g.B)) 0)).bind fun r_2 =>
  (getI r_1.XImages g.A).bind fun x7 =>
  (AM (Aa.mk 0 0 (shlK .i64 1 (IntKind.u64.wrap g.A))) (Aa.mk 0 0 (shlK .i64 1 (IntKind.u64.wrap g.B)))).bind fun r_3 =>
  (getI r_1.ZImages g.B).bind fun x8 =>
  some ((r_1.XImages.set g.A.toNat r_2),(r_1.ZImages.set g.B.toNat r_3))) else (bif (g.Kind==10) then ((AM (Aa.mk 0 (shlK .i64 1 (IntKind.u64.wrap g.A)) 0) (Aa.mk 0 0 (shlK .i64 1 (IntKind.u64.wrap g.B)))).bind fun r_4 =>
  (getI r_1.XImages g.A).bind fun x9 =>
  (AM (Aa.mk 0 0 (shlK .i64 1 (IntKind.u64.wrap g.A))) (Aa.mk 0 (shlK .i64 1 (IntKind.u64.wrap g.B)) 0)).bind fun r_5 =>
  (getI (r_1.XImages.set g.A.toNat r_4) g.B).bind fun x10 =>
  some (((r_1.XImages.set g.A.toNat r_4).set g.B.toNat r_5),r_1.ZImages)) else (bif (g.Kind==11) then ((getI r_1.XImages g.A).bind fun x11 =>
  (getI (r_1.XImages.set g.A.toNat (Aa.mk 0 (shlK .i64 1 (IntKind.u64.wrap g.B)) 0)) g.B).bind fun x12 =>
  (getI r_1.ZImages g.A).bind fun x13 =>
  (getI (r_1.ZImages.set g.A.toNat (Aa.mk 0 0 (shlK .i64 1 (IntKind.u64.wrap g.B)))) g.B).bind fun x14 =>
  some (((r_1.XImages.set g.A.toNat (Aa.mk 0 (shlK .i64 1 (IntKind.u64.wrap g.B)) 0)).set g.B.toNat (Aa.mk 0 (shlK .i64 1 (IntKind.u64.wrap g.A)) 0)),((r_1.ZImages.set g.A.toNat (Aa.mk 0 0 (shlK .i64 1 (IntKind.u64.wrap g.B)))).set g.B.toNat (Aa.mk 0 0 (shlK .i64 1 (IntKind.u64.wrap g.A)))))) else (some (r_1.XImages,r_1.ZImages)))))))))):Option (List Aa×List Aa)).bind fun (XImages,ZImages) =>
  some ((Ae.mk r_1.Qubits XImages ZImages))

def E0 (c:Aj):Nat→(Int×List Aa×List Aa)→Option (Int×List Aa×List Aa):=fun i (Qubits,XImages,ZImages) =>
  (getI c.Gates (i:Int)).bind fun x =>
  (BT c.Qubits x).bind fun r_2 =>
  (BO (Ae.mk Qubits XImages ZImages) r_2).bind fun r_3 =>
  some (r_3.Qubits,r_3.XImages,r_3.ZImages)
def Co (c:Aj):Option (Ae) :=
  (Dz c.Qubits).bind fun r_1 =>
  chk (c.Gates.length≤9223372036854775807) <|
  (forN (E0 c) c.Gates.length 0 (r_1.Qubits,r_1.XImages,r_1.ZImages)).bind fun (Qubits,XImages,ZImages) =>
  some ((Ae.mk Qubits XImages ZImages))

def BQ (c:Ah) (list:List Int):Option (Int×Ah) :=
  (AI c (list.length:Int)).bind fun (r_1,m1) =>
  (getI list r_1).bind fun x =>
  some ((x,(Ah.mk c.code m1.at_ m1.seed)))

def Fu (c:Ah) (n1:Int):Option (Aa×Ah) :=
  (AI c 4).bind fun (r_1,m1) =>
  chk ((0:Int)≤(IntKind.u64.wrap n1)) <|
  (AI (Ah.mk c.code m1.at_ m1.seed) (shlK .i64 1 (IntKind.u64.wrap n1))).bind fun (r_2,m2) =>
  chk ((0:Int)≤(IntKind.u64.wrap n1)) <|
  (AI (Ah.mk c.code m2.at_ m2.seed) (shlK .i64 1 (IntKind.u64.wrap n1))).bind fun (r_3,m3) =>
  some (((Aa.mk r_1 r_2 r_3),(Ah.mk c.code m3.at_ m3.seed)))

def Fk (c:Ah) (n1:Int):Option (Aa×Ah) :=
  (Fu c n1).bind fun (r_1,m1) =>
  (((AI (Ah.mk c.code m1.at_ m1.seed) 14).bind fun (r_2,m2) =>
  bif (r_2==0) then ((BQ (Ah.mk c.code m2.at_ m2.seed) [(-1),4]).bind fun (r_3,m3) =>
  some (m3.at_,m3.seed,r_3,r_1.X,r_1.Z)) else (bif (r_2==1) then ((BQ (Ah.mk c.code m2.at_ m2.seed) [(-1),31,32]).bind fun (r_4,m4) =>
  some (m4.at_,m4.seed,r_1.Phase,r_4,r_1.Z)) else (bif (r_2==2) then ((BQ (Ah.mk c.code m2.at_ m2.seed) [(-1),31,32]).bind fun (r_5,m5) =>
  some (m5.at_,m5.seed,r_1.Phase,r_1.X,r_5)) else (some (m2.at_,m2.seed,r_1.Phase,r_1.X,r_1.Z))))):Option (Int×Int×Int×Int×Int)).bind fun (at_,seed,Phase,X,Z) =>
  some (((Aa.mk Phase X Z),(Ah.mk c.code at_ seed)))

def F3 (c:Ah) (n1:Int):Option (Ae×Ah) :=
  (CM c n1).bind fun (r_1,m1) =>
  (Co r_1).bind fun r_2 =>
  (AI (Ah.mk c.code m1.at_ m1.seed) n1).bind fun (r_3,m2) =>
  (((AI (Ah.mk c.code m2.at_ m2.seed) 14).bind fun (r_4,m3) =>
  bif (r_4==0) then ((Fk (Ah.mk c.code m3.at_ m3.seed) n1).bind fun (r_5,m4) =>
  (getI r_2.XImages r_3).bind fun x =>
  some (m4.at_,m4.seed,r_2.Qubits,(r_2.XImages.set r_3.toNat r_5),r_2.ZImages)) else (bif (r_4==1) then (chk ((0:Int)≤1∧1≤(r_2.ZImages.length:Int)) <|
  some (m3.at_,m3.seed,r_2.Qubits,r_2.XImages,(List.drop 1 r_2.ZImages))) else (bif (r_4==2) then ((BQ (Ah.mk c.code m3.at_ m3.seed) [0,(IntKind.i64.wrap (n1+1))]).bind fun (r_6,m5) =>
  some (m5.at_,m5.seed,r_6,r_2.XImages,r_2.ZImages)) else (bif (r_4==3) then ((getI r_2.ZImages r_3).bind fun x1 =>
  some (m3.at_,m3.seed,r_2.Qubits,r_2.XImages,(r_2.ZImages.set r_3.toNat (Aa.mk (bits .xor .i64 x1.Phase 2) x1.X x1.Z)))) else (some (m3.at_,m3.seed,r_2.Qubits,r_2.XImages,r_2.ZImages)))))):Option (Int×Int×Int×List Aa×List Aa)).bind fun (at_,seed,Qubits,XImages,ZImages) =>
  some (((Ae.mk Qubits XImages ZImages),(Ah.mk c.code at_ seed)))

def Eh (code:List Int):Option (Ae) :=
  (AI (Ah.mk code 0 0) 4).bind fun (r_1,m) =>
  (F3 (Ah.mk code m.at_ m.seed) (IntKind.i64.wrap (1+r_1))).bind fun (r_2,m1) =>
  some (r_2)

def A0 (n:Int) (low:Int) (high:Int):Option (Bool) :=
  some (((decide (low≤n))&&(decide (n≤high))))

def EE (slices:List (List Aa)):Nat→(List Aa)→Option (List Aa):=fun i1 newslice =>
  (getI slices (i1:Int)).bind fun x1 =>
  chk (newslice.length+x1.length≤1099511627776) <|
  some (newslice++x1)
def DT (slices:List (List Aa)):Nat→Int→Option (Int):=fun i size =>
  (getI slices (i:Int)).bind fun x =>
  bif (decide ((IntKind.i64.wrap (size+(x.length:Int)))<0)) then (none) else (some (IntKind.i64.wrap (size+(x.length:Int))))
def DH (slices:List (List Aa)):Option (List Aa) :=
  chk (slices.length≤9223372036854775807) <|
  (forN (DT slices) slices.length 0 0).bind fun size =>
  chk ((0:Int)≤size∧size≤1099511627776) <|
  chk (slices.length≤9223372036854775807) <|
  (forN (EE slices) slices.length 0 ([]:List Aa)).bind fun newslice =>
  some (newslice)

def DQ (s:List Aa) (f_:Aa→Option (Bool)):Nat→Unit→Option (Ex (Unit) (Int)):=fun i _ =>
  (getI s (i:Int)).bind fun x1 =>
  (f_ x1).bind fun r_1 =>
  bif r_1 then (some (.rt (i:Int))) else (some (.nx ()))
def F7 (s:List Aa) (f_:Aa→Option (Bool)):Option (Int) :=
  chk (s.length≤9223372036854775807) <|
  (forX (DQ s f_) s.length 0 ()).bind<|orR fun _ =>
  some ((-1))

def D9 (s:List Aa) (f_:Aa→Option (Bool)):Option (Bool) :=
  (F7 s f_).bind fun r_1 =>
  some ((decide (0≤r_1)))

def Di (n:Int) (p:Aa):Option (Bool) :=
  (A0 n 1 5).bind fun r_1 =>
  (gb r_1 false (A0 p.Phase 0 3)).bind fun r_2 =>
  chk ((r_1&&r_2)=true→(0:Int)≤n) <|
  (gb (r_1&&r_2) false (A0 p.X 0 (IntKind.i64.wrap ((shlK .i64 1 n)-1)))).bind fun r_3 =>
  chk (((r_1&&r_2)&&r_3)=true→(0:Int)≤n) <|
  (gb ((r_1&&r_2)&&r_3) false (A0 p.Z 0 (IntKind.i64.wrap ((shlK .i64 1 n)-1)))).bind fun r_4 =>
  some ((((r_1&&r_2)&&r_3)&&r_4))

def Dh (n:Int) (p:Aa):Option (Bool) :=
  (Di n p).bind fun r_1 =>
  some ((r_1&&((Int.tmod p.Phase 2)==0)))

def Cg (p:Aa) (p1:Int):Option (Bool) :=
  (Dh p1 p).bind fun r_1 =>
  some ((!r_1))

def GP (x:Int):Option (Int) :=
  some ((bits .and .i64 (IntKind.i64.wrap (IntKind.u64.wrap ((IntKind.u64.wrap ((IntKind.u64.wrap ((bits .and .u64 (IntKind.u64.wrap ((shrK .u64 (IntKind.u64.wrap ((bits .and .u64 (shrK .u64 (IntKind.u64.wrap ((bits .and .u64 (shrK .u64 x 1) 6148914691236517205)+(bits .and .u64 x 6148914691236517205))) 2) 3689348814741910323)+(bits .and .u64 (IntKind.u64.wrap ((bits .and .u64 (shrK .u64 x 1) 6148914691236517205)+(bits .and .u64 x 6148914691236517205))) 3689348814741910323))) 4)+(IntKind.u64.wrap ((bits .and .u64 (shrK .u64 (IntKind.u64.wrap ((bits .and .u64 (shrK .u64 x 1) 6148914691236517205)+(bits .and .u64 x 6148914691236517205))) 2) 3689348814741910323)+(bits .and .u64 (IntKind.u64.wrap ((bits .and .u64 (shrK .u64 x 1) 6148914691236517205)+(bits .and .u64 x 6148914691236517205))) 3689348814741910323))))) 1085102592571150095)+(shrK .u64 (bits .and .u64 (IntKind.u64.wrap ((shrK .u64 (IntKind.u64.wrap ((bits .and .u64 (shrK .u64 (IntKind.u64.wrap ((bits .and .u64 (shrK .u64 x 1) 6148914691236517205)+(bits .and .u64 x 6148914691236517205))) 2) 3689348814741910323)+(bits .and .u64 (IntKind.u64.wrap ((bits .and .u64 (shrK .u64 x 1) 6148914691236517205)+(bits .and .u64 x 6148914691236517205))) 3689348814741910323))) 4)+(IntKind.u64.wrap ((bits .and .u64 (shrK .u64 (IntKind.u64.wrap ((bits .and .u64 (shrK .u64 x 1) 6148914691236517205)+(bits .and .u64 x 6148914691236517205))) 2) 3689348814741910323)+(bits .and .u64 (IntKind.u64.wrap ((bits .and .u64 (shrK .u64 x 1) 6148914691236517205)+(bits .and .u64 x 6148914691236517205))) 3689348814741910323))))) 1085102592571150095) 8)))+(shrK .u64 (IntKind.u64.wrap ((bits .and .u64 (IntKind.u64.wrap ((shrK .u64 (IntKind.u64.wrap ((bits .and .u64 (shrK .u64 (IntKind.u64.wrap ((bits .and .u64 (shrK .u64 x 1) 6148914691236517205)+(bits .and .u64 x 6148914691236517205))) 2) 3689348814741910323)+(bits .and .u64 (IntKind.u64.wrap ((bits .and .u64 (shrK .u64 x 1) 6148914691236517205)+(bits .and .u64 x 6148914691236517205))) 3689348814741910323))) 4)+(IntKind.u64.wrap ((bits .and .u64 (shrK .u64 (IntKind.u64.wrap ((bits .and .u64 (shrK .u64 x 1) 6148914691236517205)+(bits .and .u64 x 6148914691236517205))) 2) 3689348814741910323)+(bits .and .u64 (IntKind.u64.wrap ((bits .and .u64 (shrK .u64 x 1) 6148914691236517205)+(bits .and .u64 x 6148914691236517205))) 3689348814741910323))))) 1085102592571150095)+(shrK .u64 (bits .and .u64 (IntKind.u64.wrap ((shrK .u64 (IntKind.u64.wrap ((bits .and .u64 (shrK .u64 (IntKind.u64.wrap ((bits .and .u64 (shrK .u64 x 1) 6148914691236517205)+(bits .and .u64 x 6148914691236517205))) 2) 3689348814741910323)+(bits .and .u64 (IntKind.u64.wrap ((bits .and .u64 (shrK .u64 x 1) 6148914691236517205)+(bits .and .u64 x 6148914691236517205))) 3689348814741910323))) 4)+(IntKind.u64.wrap ((bits .and .u64 (shrK .u64 (IntKind.u64.wrap ((bits .and .u64 (shrK .u64 x 1) 6148914691236517205)+(bits .and .u64 x 6148914691236517205))) 2) 3689348814741910323)+(bits .and .u64 (IntKind.u64.wrap ((bits .and .u64 (shrK .u64 x 1) 6148914691236517205)+(bits .and .u64 x 6148914691236517205))) 3689348814741910323))))) 1085102592571150095) 8))) 16)))+(shrK .u64 (IntKind.u64.wrap ((IntKind.u64.wrap ((bits .and .u64 (IntKind.u64.wrap ((shrK .u64 (IntKind.u64.wrap ((bits .and .u64 (shrK .u64 (IntKind.u64.wrap ((bits .and .u64 (shrK .u64 x 1) 6148914691236517205)+(bits .and .u64 x 6148914691236517205))) 2) 3689348814741910323)+(bits .and .u64 (IntKind.u64.wrap ((bits .and .u64 (shrK .u64 x 1) 6148914691236517205)+(bits .and .u64 x 6148914691236517205))) 3689348814741910323))) 4)+(IntKind.u64.wrap ((bits .and .u64 (shrK .u64 (IntKind.u64.wrap ((bits .and .u64 (shrK .u64 x 1) 6148914691236517205)+(bits .and .u64 x 6148914691236517205))) 2) 3689348814741910323)+(bits .and .u64 (IntKind.u64.wrap ((bits .and .u64 (shrK .u64 x 1) 6148914691236517205)+(bits .and .u64 x 6148914691236517205))) 3689348814741910323))))) 1085102592571150095)+(shrK .u64 (bits .and .u64 (IntKind.u64.wrap ((shrK .u64 (IntKind.u64.wrap ((bits .and .u64 (shrK .u64 (IntKind.u64.wrap ((bits .and .u64 (shrK .u64 x 1) 6148914691236517205)+(bits .and .u64 x 6148914691236517205))) 2) 3689348814741910323)+(bits .and .u64 (IntKind.u64.wrap ((bits .and .u64 (shrK .u64 x 1) 6148914691236517205)+(bits .and .u64 x 6148914691236517205))) 3689348814741910323))) 4)+(IntKind.u64.wrap ((bits .and .u64 (shrK .u64 (IntKind.u64.wrap ((bits .and .u64 (shrK .u64 x 1) 6148914691236517205)+(bits .and .u64 x 6148914691236517205))) 2) 3689348814741910323)+(bits .and .u64 (IntKind.u64.wrap ((bits .and .u64 (shrK .u64 x 1) 6148914691236517205)+(bits .and .u64 x 6148914691236517205))) 3689348814741910323))))) 1085102592571150095) 8)))+(shrK .u64 (IntKind.u64.wrap ((bits .and .u64 (IntKind.u64.wrap ((shrK .u64 (IntKind.u64.wrap ((bits .and .u64 (shrK .u64 (IntKind.u64.wrap ((bits .and .u64 (shrK .u64 x 1) 6148914691236517205)+(bits .and .u64 x 6148914691236517205))) 2) 3689348814741910323)+(bits .and .u64 (IntKind.u64.wrap ((bits .and .u64 (shrK .u64 x 1) 6148914691236517205)+(bits .and .u64 x 6148914691236517205))) 3689348814741910323))) 4)+(IntKind.u64.wrap ((bits .and .u64 (shrK .u64 (IntKind.u64.wrap ((bits .and .u64 (shrK .u64 x 1) 6148914691236517205)+(bits .and .u64 x 6148914691236517205))) 2) 3689348814741910323)+(bits .and .u64 (IntKind.u64.wrap ((bits .and .u64 (shrK .u64 x 1) 6148914691236517205)+(bits .and .u64 x 6148914691236517205))) 3689348814741910323))))) 1085102592571150095)+(shrK .u64 (bits .and .u64 (IntKind.u64.wrap ((shrK .u64 (IntKind.u64.wrap ((bits .and .u64 (shrK .u64 (IntKind.u64.wrap ((bits .and .u64 (shrK .u64 x 1) 6148914691236517205)+(bits .and .u64 x 6148914691236517205))) 2) 3689348814741910323)+(bits .and .u64 (IntKind.u64.wrap ((bits .and .u64 (shrK .u64 x 1) 6148914691236517205)+(bits .and .u64 x 6148914691236517205))) 3689348814741910323))) 4)+(IntKind.u64.wrap ((bits .and .u64 (shrK .u64 (IntKind.u64.wrap ((bits .and .u64 (shrK .u64 x 1) 6148914691236517205)+(bits .and .u64 x 6148914691236517205))) 2) 3689348814741910323)+(bits .and .u64 (IntKind.u64.wrap ((bits .and .u64 (shrK .u64 x 1) 6148914691236517205)+(bits .and .u64 x 6148914691236517205))) 3689348814741910323))))) 1085102592571150095) 8))) 16))) 32)))) 127))

def Bo (x:Int):Option (Int) :=
  (GP x).bind fun r_1 =>
  some (r_1)

def Fw (a:Aa) (b:Aa):Option (Bool) :=
  (Bo (IntKind.u64.wrap (bits .and .i64 a.X b.Z))).bind fun r_1 =>
  (Bo (IntKind.u64.wrap (bits .and .i64 a.Z b.X))).bind fun r_2 =>
  some (((Int.tmod (IntKind.i64.wrap (r_1+r_2)) 2)==0))

def CI (r_2:List Aa) (i:Nat) (t:Ae):Nat→Unit→Option (Ex (Unit) (Ex (Unit) (Bool))):=fun i1 _ =>
  (getI r_2 (i:Int)).bind fun x =>
  (getI r_2 (i1:Int)).bind fun x1 =>
  (Fw x x1).bind fun r_4 =>
  bif (r_4==((IntKind.i64.wrap ((i:Int)-(i1:Int)))==t.Qubits)) then (some (.rt (.rt false))) else (some (.nx ()))
def DU (r_2:List Aa) (t:Ae):Nat→Unit→Option (Ex (Unit) (Bool)):=fun i _ =>
  chk (i≤9223372036854775807) <|
  (forX (CI r_2 i t) i 0 ()).bind<|orR fun _ =>
  some (.nx ())
def AU (t:Ae):Option (Bool) :=
  (A0 t.Qubits 1 5).bind fun r_1 =>
  bif (((!r_1)||((t.XImages.length:Int) != t.Qubits))||((t.ZImages.length:Int) != t.Qubits)) then (some (false)) else ((DH ([t.XImages,t.ZImages]:List (List Aa))).bind fun r_2 =>
  (D9 r_2 (fun x_0=>Cg x_0 t.Qubits)).bind fun r_3 =>
  bif r_3 then (some (false)) else (chk (r_2.length≤9223372036854775807) <|
  (forX (DU r_2 t) r_2.length 0 ()).bind<|orR fun _ =>
  some (true)))

def GB (s:List Ab) (f_:Ab→Option (Bool)):Nat→Unit→Option (Ex (Unit) (Int)):=fun i _ =>
  (getI s (i:Int)).bind fun x1 =>
  (f_ x1).bind fun r_1 =>
  bif r_1 then (some (.rt (i:Int))) else (some (.nx ()))
def Gi (s:List Ab) (f_:Ab→Option (Bool)):Option (Int) :=
  chk (s.length≤9223372036854775807) <|
  (forX (GB s f_) s.length 0 ()).bind<|orR fun _ =>
  some ((-1))

def Gs (s:List Ab) (f_:Ab→Option (Bool)):Option (Bool) :=
  (Gi s f_).bind fun r_1 =>
  some ((decide (0≤r_1)))

def Cd (kind:Int):Option (Bool) :=
  (A0 kind 9 11).bind fun r_1 =>
  some (r_1)

def Cq (n:Int) (g:Ab):Option (Bool) :=
  (A0 n 1 5).bind fun r_1 =>
  (gb (!(!r_1)) false (A0 g.Kind 1 12)).bind fun r_2 =>
  bif ((!r_1)||(!r_2)) then (some (false)) else (bif (g.Kind==12) then (some (((g.A==0)&&(g.B==0)))) else ((Cd g.Kind).bind fun r_3 =>
  bif r_3 then ((A0 g.A 0 (IntKind.i64.wrap (n-1))).bind fun r_4 =>
  (gb r_4 false (A0 g.B 0 (IntKind.i64.wrap (n-1)))).bind fun r_5 =>
  some (((r_4&&r_5)&&(g.A != g.B)))) else ((A0 g.A 0 (IntKind.i64.wrap (n-1))).bind fun r_6 =>
  some ((r_6&&(g.B==0))))))

def DR (g:Ab) (p:Aj):Option (Bool) :=
  (Cq p.Qubits g).bind fun r_1 =>
  some ((!r_1))

def C0 (c:Aj):Option (Bool) :=
  (A0 c.Qubits 1 5).bind fun r_1 =>
  (gb (r_1&&(decide ((c.Gates.length:Int)≤400))) false (Gs c.Gates (fun x_0=>DR x_0 c))).bind fun r_2 =>
  some (((r_1&&(decide ((c.Gates.length:Int)≤400)))&&(!r_2)))

def CB (n:Int) (gates:List Ab):Option (Aj×Bool) :=
  chk (0+gates.length≤1099511627776) <|
  (C0 (Aj.mk n gates)).bind fun r_2 =>
  bif (!r_2) then (some (((Aj.mk 0 []),false))) else (some (((Aj.mk n gates),true)))

def Bs (p:Aa) (q:Int):Option (Int) :=
  chk ((0:Int)≤q) <|
  chk ((0:Int)≤q) <|
  (getI ([73,88,90,89]:List UInt8) (IntKind.i64.wrap ((bits .and .i64 (shrK .i64 p.X q) 1)+(IntKind.i64.wrap (2*(bits .and .i64 (shrK .i64 p.Z q) 1)))))).bind fun x =>
  some ((x.toNat:Int))

def Bl (a:Aa) (b:Aa):Option (Aa) :=
  (Bo (IntKind.u64.wrap (bits .and .i64 a.X a.Z))).bind fun r_1 =>
  (Bo (IntKind.u64.wrap (bits .and .i64 b.X b.Z))).bind fun r_2 =>
  (Bo (IntKind.u64.wrap (bits .and .i64 a.Z b.X))).bind fun r_3 =>
  (Bo (IntKind.u64.wrap (bits .and .i64 (bits .xor .i64 a.X b.X) (bits .xor .i64 a.Z b.Z)))).bind fun r_4 =>
  some ((Aa.mk (Int.tmod (IntKind.i64.wrap ((Int.tmod (IntKind.i64.wrap ((IntKind.i64.wrap ((IntKind.i64.wrap ((IntKind.i64.wrap ((IntKind.i64.wrap (a.Phase+b.Phase))+r_1))+r_2))+(IntKind.i64.wrap (2*r_3))))-r_4)) 4)+4)) 4) (bits .xor .i64 a.X b.X) (bits .xor .i64 a.Z b.Z)))

def BI (p:Aa) (t:Ae):Nat→(Int×Int×Int)→Option (Int×Int×Int):=fun i (Phase,X,Z1) =>
  ((((chk ((0:Int)≤(i:Int)) <|
  bif ((bits .and .i64 (shrK .i64 p.X (i:Int)) 1)==1) then ((getI t.XImages (i:Int)).bind fun x =>
  (Bl (Aa.mk Phase X Z1) x).bind fun r_2 =>
  some (r_2.Phase,r_2.X,r_2.Z)) else (some (Phase,X,Z1))):Option (Int×Int×Int)).bind fun (Phase2,X2,Z3) =>
  chk ((0:Int)≤(i:Int)) <|
  bif ((bits .and .i64 (shrK .i64 p.Z (i:Int)) 1)==1) then ((getI t.ZImages (i:Int)).bind fun x1 =>
  (Bl (Aa.mk Phase2 X2 Z3) x1).bind fun r_3 =>
  some (r_3.Phase,r_3.X,r_3.Z)) else (some (Phase2,X2,Z3))):Option (Int×Int×Int)).bind fun (Phase1,X1,Z2) =>
  some (Phase1,X1,Z2)
def BY (t:Ae) (p:Aa):Option (Aa) :=
  (Bo (IntKind.u64.wrap (bits .and .i64 p.X p.Z))).bind fun r_1 =>
  chk (t.Qubits.toNat≤9223372036854775807) <|
  (forN (BI p t) t.Qubits.toNat 0 ((Int.tmod (IntKind.i64.wrap (p.Phase+r_1)) 4),0,0)).bind fun (Phase,X,Z1) =>
  some ((Aa.mk Phase X Z1))

def Fv (first:Ae) (second:Ae):Nat→(List Aa×List Aa)→Option (List Aa×List Aa):=fun i (XImages,ZImages) =>
  (getI first.XImages (i:Int)).bind fun x =>
  (BY second x).bind fun r_1 =>
  chk (XImages.length+1≤1099511627776) <|
  (getI first.ZImages (i:Int)).bind fun x1 =>
  (BY second x1).bind fun r_2 =>
  chk (ZImages.length+1≤1099511627776) <|
  some ((XImages++[r_1]),(ZImages++[r_2]))
def Bb (first:Ae) (second:Ae):Option (Ae) :=
  chk (first.Qubits.toNat≤9223372036854775807) <|
  (forN (Fv first second) first.Qubits.toNat 0 ([],[])).bind fun (XImages,ZImages) =>
  some ((Ae.mk first.Qubits XImages ZImages))

def I9:Nat→(List Aa×List Aa)→Option (List Aa×List Aa):=fun i (XImages,ZImages) =>
  chk ((0:Int)≤(i:Int)) <|
  chk (XImages.length+1≤1099511627776) <|
  chk ((0:Int)≤(i:Int)) <|
  chk (ZImages.length+1≤1099511627776) <|
  some ((XImages++[(Aa.mk 0 (shlK .i64 1 (i:Int)) 0)]),(ZImages++[(Aa.mk 0 0 (shlK .i64 1 (i:Int)))]))
def Bh (n:Int):Option (Ae) :=
  chk (n.toNat≤9223372036854775807) <|
  (forN I9 n.toNat 0 ([],[])).bind fun (XImages,ZImages) =>
  some ((Ae.mk n XImages ZImages))

def AX (n:Int) (g:Ab):Option (Ae) :=
  (Bh n).bind fun r_1 =>
  chk ((0:Int)≤g.A) <|
  chk ((0:Int)≤g.B) <|
  ((bif (g.Kind==1) then ((getI r_1.XImages g.A).bind fun x =>
  (getI r_1.ZImages g.A).bind fun x1 =>
  some ((r_1.XImages.set g.A.toNat (Aa.mk 0 0 (shlK .i64 1 g.A))),(r_1.ZImages.set g.A.toNat (Aa.mk 0 (shlK .i64 1 g.A) 0)))) else (bif (g.Kind==2) then ((getI r_1.ZImages g.A).bind fun x2 =>
  some (r_1.XImages,(r_1.ZImages.set g.A.toNat (Aa.mk 2 x2.X x2.Z)))) else (bif (g.Kind==3) then ((getI r_1.XImages g.A).bind fun x3 =>
  (getI r_1.ZImages g.A).bind fun x4 =>
  some ((r_1.XImages.set g.A.toNat (Aa.mk 2 x3.X x3.Z)),(r_1.ZImages.set g.A.toNat (Aa.mk 2 x4.X x4.Z)))) else (bif (g.Kind==4) then ((getI r_1.XImages g.A).bind fun x5 =>
  some ((r_1.XImages.set g.A.toNat (Aa.mk 2 x5.X x5.Z)),r_1.ZImages)) else (bif (g.Kind==5) then ((getI r_1.XImages g.A).bind fun x6 =>
  some ((r_1.XImages.set g.A.toNat (Aa.mk 0 (shlK .i64 1 g.A) (shlK .i64 1 g.A))),r_1.ZImages)) else (bif (g.Kind==6) then ((getI r_1.XImages g.A).bind fun x7 =>
  some ((r_1.XImages.set g.A.toNat (Aa.mk 2 (shlK .i64 1 g.A) (shlK .i64 1 g.A))),r_1.ZImages)) else (bif (g.Kind==9) then ((getI r_1.XImages g.A).bind fun x8 =>
  (getI r_1.ZImages g.B).bind fun x9 =>
  some ((r_1.XImages.set g.A.toNat (Aa.mk 0 (bits .or .i64 (shlK .i64 1 g.A) (shlK .i64 1 g.B)) 0)),(r_1.ZImages.set g.B.toNat (Aa.mk 0 0 (bits .or .i64 (shlK .i64 1 g.A) (shlK .i64 1 g.B)))))) else (bif (g.Kind==10) then ((getI r_1.XImages g.A).bind fun x10 =>
  (getI (r_1.XImages.set g.A.toNat (Aa.mk 0 (shlK .i64 1 g.A) (shlK .i64 1 g.B))) g.B).bind fun x11 =>
  some (((r_1.XImages.set g.A.toNat (Aa.mk 0 (shlK .i64 1 g.A) (shlK .i64 1 g.B))).set g.B.toNat (Aa.mk 0 (shlK .i64 1 g.B) (shlK .i64 1 g.A))),r_1.ZImages)) else (bif (g.Kind==11) then ((getI r_1.XImages g.A).bind fun x12 =>
  (getI (r_1.XImages.set g.A.toNat (Aa.mk 0 (shlK .i64 1 g.B) 0)) g.B).bind fun x13 =>
  (getI r_1.ZImages g.A).bind fun x14 =>
  (getI (r_1.ZImages.set g.A.toNat (Aa.mk 0 0 (shlK .i64 1 g.B))) g.B).bind fun x15 =>
  some (((r_1.XImages.set g.A.toNat (Aa.mk 0 (shlK .i64 1 g.B) 0)).set g.B.toNat (Aa.mk 0 (shlK .i64 1 g.A) 0)),((r_1.ZImages.set g.A.toNat (Aa.mk 0 0 (shlK .i64 1 g.B))).set g.B.toNat (Aa.mk 0 0 (shlK .i64 1 g.A))))) else (some (r_1.XImages,r_1.ZImages))))))))))):Option (List Aa×List Aa)).bind fun (XImages,ZImages) =>
  some ((Ae.mk r_1.Qubits XImages ZImages))

def Ay (r_:Ap) (kind:Int) (a:Int) (b:Int):Option (Ap) :=
  (AX r_.t.Qubits (Ab.mk kind a b)).bind fun r_1 =>
  (Bb r_.t r_1).bind fun r_2 =>
  chk (r_.gates.length+1≤1099511627776) <|
  some ((Ap.mk r_2 (r_.gates++[(Ab.mk kind a b)])))

def CX (Qubits2:Int) (XImages2:List Aa) (t1:Int):Int→Option (Ex (Int) (Int×List Aa×List Aa×List Ab)):=fun first1 =>
  bif (decide (first1<(IntKind.i64.wrap (Qubits2-1)))) then ((((getI XImages2 t1).bind fun x1 =>
  some ((x1.Phase,x1.X,x1.Z))):Option (Int×Int×Int)).bind fun (t5,t6,t7) =>
  (Bs (Aa.mk t5 t6 t7) first1).bind fun r_4 =>
  bif (r_4 != 88) then (some (.nx (IntKind.i64.wrap (first1+1)))) else (some (.br first1))) else (some (.br first1))
def Ee (t1:Int):(Int×List Aa×List Aa×List Ab×Int)→Option (Ex (Int×List Aa×List Aa×List Ab×Int) (Int×List Aa×List Aa×List Ab)):=fun (Qubits6,XImages6,ZImages6,gates6,s1) =>
  bif (decide (s1<Qubits6)) then ((((((getI XImages6 t1).bind fun x2 =>
  some ((x2.Phase,x2.X,x2.Z))):Option (Int×Int×Int)).bind fun (t8,t9,t10) =>
  (Bs (Aa.mk t8 t9 t10) s1).bind fun r_5 =>
  bif (r_5==88) then ((Ay (Ap.mk (Ae.mk Qubits6 XImages6 ZImages6) gates6) 9 t1 s1).bind fun m5 =>
  some (m5.t.Qubits,m5.t.XImages,m5.t.ZImages,m5.gates)) else (some (Qubits6,XImages6,ZImages6,gates6))):Option (Int×List Aa×List Aa×List Ab)).bind fun (Qubits7,XImages7,ZImages7,gates7) =>
  some (.nx (Qubits7,XImages7,ZImages7,gates7,(IntKind.i64.wrap (s1+1))))) else (some (.br (Qubits6,XImages6,ZImages6,gates6,s1)))
def D0 (t1:Int):(Int×List Aa×List Aa×List Ab×Int)→Option (Ex (Int×List Aa×List Aa×List Ab×Int) (Int×List Aa×List Aa×List Ab)):=fun (Qubits13,XImages13,ZImages13,gates13,s3) =>
  bif (decide (s3<Qubits13)) then ((((((getI ZImages13 t1).bind fun x6 =>
  some ((x6.Phase,x6.X,x6.Z))):Option (Int×Int×Int)).bind fun (t20,t21,t22) =>
  (Bs (Aa.mk t20 t21 t22) s3).bind fun r_8 =>
  bif (r_8==88) then ((Ay (Ap.mk (Ae.mk Qubits13 XImages13 ZImages13) gates13) 9 t1 s3).bind fun m10 =>
  some (m10.t.Qubits,m10.t.XImages,m10.t.ZImages,m10.gates)) else (some (Qubits13,XImages13,ZImages13,gates13))):Option (Int×List Aa×List Aa×List Ab)).bind fun (Qubits14,XImages14,ZImages14,gates14) =>
  some (.nx (Qubits14,XImages14,ZImages14,gates14,(IntKind.i64.wrap (s3+1))))) else (some (.br (Qubits13,XImages13,ZImages13,gates13,s3)))
def Dw (t1:Int):(Int×List Aa×List Aa×List Ab×Int)→Option (Ex (Int×List Aa×List Aa×List Ab×Int) (Int×List Aa×List Aa×List Ab)):=fun (Qubits9,XImages9,ZImages9,gates9,s2) =>
  bif (decide (s2<Qubits9)) then ((((getI ZImages9 t1).bind fun x4 =>
  some ((x4.Phase,x4.X,x4.Z))):Option (Int×Int×Int)).bind fun (t14,t15,t16) =>
  (((Bs (Aa.mk t14 t15 t16) s2).bind fun r_6 =>
  bif (r_6==90) then ((Ay (Ap.mk (Ae.mk Qubits9 XImages9 ZImages9) gates9) 1 s2 0).bind fun m7 =>
  some ((m7.t.Qubits,m7.t.XImages,m7.t.ZImages,m7.gates))) else (bif (r_6==89) then ((Ay (Ap.mk (Ae.mk Qubits9 XImages9 ZImages9) gates9) 5 s2 0).bind fun m8 =>
  some ((m8.t.Qubits,m8.t.XImages,m8.t.ZImages,m8.gates))) else (some ((Qubits9,XImages9,ZImages9,gates9))))):Option (Int×List Aa×List Aa×List Ab)).bind fun (Qubits10,XImages10,ZImages10,gates10) =>
  some (.nx (Qubits10,XImages10,ZImages10,gates10,(IntKind.i64.wrap (s2+1))))) else (some (.br (Qubits9,XImages9,ZImages9,gates9,s2)))
def Et (t1:Int):(Int×List Aa×List Aa×List Ab×Int)→Option (Ex (Int×List Aa×List Aa×List Ab×Int) (Int×List Aa×List Aa×List Ab)):=fun (Qubits2,XImages2,ZImages2,gates2,s) =>
  bif (decide (s<Qubits2)) then ((((getI XImages2 t1).bind fun x =>
  some ((x.Phase,x.X,x.Z))):Option (Int×Int×Int)).bind fun (t2,t3,t4) =>
  (((Bs (Aa.mk t2 t3 t4) s).bind fun r_3 =>
  bif (r_3==90) then ((Ay (Ap.mk (Ae.mk Qubits2 XImages2 ZImages2) gates2) 1 s 0).bind fun m =>
  some ((m.t.Qubits,m.t.XImages,m.t.ZImages,m.gates))) else (bif (r_3==89) then ((Ay (Ap.mk (Ae.mk Qubits2 XImages2 ZImages2) gates2) 5 s 0).bind fun m1 =>
  some ((m1.t.Qubits,m1.t.XImages,m1.t.ZImages,m1.gates))) else (some ((Qubits2,XImages2,ZImages2,gates2))))):Option (Int×List Aa×List Aa×List Ab)).bind fun (Qubits3,XImages3,ZImages3,gates3) =>
  some (.nx (Qubits3,XImages3,ZImages3,gates3,(IntKind.i64.wrap (s+1))))) else (some (.br (Qubits2,XImages2,ZImages2,gates2,s)))
def DY (gates:List Ab):(List Ab×Int)→Option (Ex (List Ab×Int) (Aj×Bool)):=fun (out,i1) =>
  bif (decide (0≤i1)) then ((((getI gates i1).bind fun x29 =>
  chk (out.length+1≤1099511627776) <|
  bif (x29.Kind==5) then (chk (((out++[x29]).length)+2≤1099511627776) <|
  some ((out++[x29])++[x29,x29])) else (some (out++[x29]))):Option (List Ab)).bind fun out1 =>
  some (.nx (out1,(IntKind.i64.wrap (i1-1))))) else (some (.br (out,i1)))
def DJ (t:Ae):(Int×List Aa×List Aa×List Ab×Int)→Option (Ex (Int×List Aa×List Aa×List Ab×Int) (Aj×Bool)):=fun (Qubits,XImages,ZImages,gates,t1) =>
  bif (decide (t1<t.Qubits)) then ((((whX (Et t1) fuel (Qubits,XImages,ZImages,gates,t1)).bind<|orR fun (Qubits2,XImages2,ZImages2,gates2,s) =>
  (whX (CX Qubits2 XImages2 t1) fuel t1).bind<|orR fun first =>
  ((bif (first != t1) then ((Ay (Ap.mk (Ae.mk Qubits2 XImages2 ZImages2) gates2) 9 first t1).bind fun m2 =>
  (Ay m2 9 t1 first).bind fun m3 =>
  (Ay m3 9 first t1).bind fun m4 =>
  some (m4.t.Qubits,m4.t.XImages,m4.t.ZImages,m4.gates)) else (some (Qubits2,XImages2,ZImages2,gates2))):Option (Int×List Aa×List Aa×List Ab)).bind fun (Qubits4,XImages4,ZImages4,gates4) =>
  (((whX (Ee t1) fuel (Qubits4,XImages4,ZImages4,gates4,(IntKind.i64.wrap (t1+1)))).bind<|orR fun (Qubits6,XImages6,ZImages6,gates6,s1) =>
  some ((Qubits6,XImages6,ZImages6,gates6))):Option (Int×List Aa×List Aa×List Ab)).bind fun (Qubits5,XImages5,ZImages5,gates5) =>
  (((((getI ZImages5 t1).bind fun x3 =>
  some ((x3.Phase,x3.X,x3.Z))):Option (Int×Int×Int)).bind fun (t11,t12,t13) =>
  chk ((!(t12 != 0))=true→(0:Int)≤t1) <|
  bif ((t12 != 0)||(t13 != (shlK .i64 1 t1))) then ((Ay (Ap.mk (Ae.mk Qubits5 XImages5 ZImages5) gates5) 1 t1 0).bind fun m6 =>
  (whX (Dw t1) fuel (m6.t.Qubits,m6.t.XImages,m6.t.ZImages,m6.gates,(IntKind.i64.wrap (t1+1)))).bind<|orR fun (Qubits9,XImages9,ZImages9,gates9,s2) =>
  (((((getI ZImages9 t1).bind fun x5 =>
  some ((x5.Phase,x5.X,x5.Z))):Option (Int×Int×Int)).bind fun (t17,t18,t19) =>
  (Bs (Aa.mk t17 t18 t19) t1).bind fun r_7 =>
  bif (r_7==89) then ((Ay (Ap.mk (Ae.mk Qubits9 XImages9 ZImages9) gates9) 5 t1 0).bind fun m9 =>
  some (m9.t.Qubits,m9.t.XImages,m9.t.ZImages,m9.gates)) else (some (Qubits9,XImages9,ZImages9,gates9))):Option (Int×List Aa×List Aa×List Ab)).bind fun (Qubits11,XImages11,ZImages11,gates11) =>
  (((whX (D0 t1) fuel (Qubits11,XImages11,ZImages11,gates11,(IntKind.i64.wrap (t1+1)))).bind<|orR fun (Qubits13,XImages13,ZImages13,gates13,s3) =>
  some ((Qubits13,XImages13,ZImages13,gates13))):Option (Int×List Aa×List Aa×List Ab)).bind fun (Qubits12,XImages12,ZImages12,gates12) =>
  (Ay (Ap.mk (Ae.mk Qubits12 XImages12 ZImages12) gates12) 1 t1 0).bind fun m11 =>
  some (m11.t.Qubits,m11.t.XImages,m11.t.ZImages,m11.gates)) else (some (Qubits5,XImages5,ZImages5,gates5))):Option (Int×List Aa×List Aa×List Ab)).bind fun (Qubits8,XImages8,ZImages8,gates8) =>
  (((((getI XImages8 t1).bind fun x7 =>
  some ((x7.Phase,x7.X,x7.Z))):Option (Int×Int×Int)).bind fun (t23,t24,t25) =>
  bif (t23==2) then ((Ay (Ap.mk (Ae.mk Qubits8 XImages8 ZImages8) gates8) 4 t1 0).bind fun m12 =>
  some (m12.t.Qubits,m12.t.XImages,m12.t.ZImages,m12.gates)) else (some (Qubits8,XImages8,ZImages8,gates8))):Option (Int×List Aa×List Aa×List Ab)).bind fun (Qubits15,XImages15,ZImages15,gates15) =>
  (((getI ZImages15 t1).bind fun x8 =>
  some ((x8.Phase,x8.X,x8.Z))):Option (Int×Int×Int)).bind fun (t26,t27,t28) =>
  bif (t26==2) then ((Ay (Ap.mk (Ae.mk Qubits15 XImages15 ZImages15) gates15) 2 t1 0).bind fun m13 =>
  some ((m13.t.Qubits,m13.t.XImages,m13.t.ZImages,m13.gates))) else (some ((Qubits15,XImages15,ZImages15,gates15)))):Option (Int×List Aa×List Aa×List Ab)).bind fun (Qubits1,XImages1,ZImages1,gates1) =>
  some (.nx (Qubits1,XImages1,ZImages1,gates1,(IntKind.i64.wrap (t1+1))))) else (some (.br (Qubits,XImages,ZImages,gates,t1)))
def CS (t:Ae):Option (Aj×Bool) :=
  (AU t).bind fun r_2 =>
  bif (!r_2) then (some (((Aj.mk 0 []),false))) else ((whX (DJ t) fuel (t.Qubits,t.XImages,t.ZImages,[],0)).bind<|orR fun (Qubits,XImages,ZImages,gates,t1) =>
  (whX (DY gates) fuel ([],(IntKind.i64.wrap ((gates.length:Int)-1)))).bind<|orR fun (out,i1) =>
  (CB t.Qubits out).bind fun (r_19,r_20) =>
  some ((r_19,r_20)))

def D8 (n:Int) (p:Aa):Option (Bool) :=
  (AG n 1 5).bind fun r_1 =>
  (gb r_1 false (AG p.Phase 0 3)).bind fun r_2 =>
  chk ((r_1&&r_2)=true→(0:Int)≤(IntKind.u64.wrap n)) <|
  (gb (r_1&&r_2) false (AG p.X 0 (IntKind.i64.wrap ((shlK .i64 1 (IntKind.u64.wrap n))-1)))).bind fun r_3 =>
  chk (((r_1&&r_2)&&r_3)=true→(0:Int)≤(IntKind.u64.wrap n)) <|
  (gb ((r_1&&r_2)&&r_3) false (AG p.Z 0 (IntKind.i64.wrap ((shlK .i64 1 (IntKind.u64.wrap n))-1)))).bind fun r_4 =>
  some ((((r_1&&r_2)&&r_3)&&r_4))

def EN (a:Aa) (b:Aa):Option (Bool) :=
  (AM a b).bind fun r_1 =>
  (AM b a).bind fun r_2 =>
  some (((r_1.Phase==r_2.Phase)&&((r_1.X==r_2.X)&&((r_1.Z==r_2.Z)&&true))))

def FD (i:Nat) (t:Ae) (x:Aa):Nat→Unit→Option (Ex (Unit) (Ex (Unit) (Bool))):=fun i1 _ =>
  (getI (List.take i (t.XImages++t.ZImages)) (i1:Int)).bind fun x1 =>
  (EN x x1).bind fun r_3 =>
  bif (r_3==((i:Int)==(IntKind.i64.wrap ((i1:Int)+t.Qubits)))) then (some (.rt (.rt false))) else (some (.nx ()))
def Em (t:Ae):Nat→Unit→Option (Ex (Unit) (Bool)):=fun i _ =>
  (getI (t.XImages++t.ZImages) (i:Int)).bind fun x =>
  (D8 t.Qubits x).bind fun r_2 =>
  bif ((!r_2)||((Int.tmod x.Phase 2)==1)) then (some (.rt false)) else (chk ((0:Int)≤(i:Int)∧(i:Int)≤((t.XImages++t.ZImages).length:Int)) <|
  chk (i≤9223372036854775807) <|
  (forX (FD i t x) i 0 ()).bind<|orR fun _ =>
  some (.nx ()))
def Es (t:Ae):Option (Bool) :=
  (AG t.Qubits 1 5).bind fun r_1 =>
  bif (((!r_1)||((t.XImages.length:Int) != t.Qubits))||((t.ZImages.length:Int) != t.Qubits)) then (some (false)) else (chk (0+t.XImages.length≤1099511627776) <|
  chk (t.XImages.length+t.ZImages.length≤1099511627776) <|
  chk (((t.XImages++t.ZImages).length)≤9223372036854775807) <|
  (forX (Em t) ((t.XImages++t.ZImages).length) 0 ()).bind<|orR fun _ =>
  some (true))

def Ax (r_:Aq) (kind:Int) (a:Int) (b:Int):Option (Aq) :=
  (BT r_.t.Qubits (Ab.mk kind a b)).bind fun r_1 =>
  (BO r_.t r_1).bind fun r_2 =>
  chk (r_.out.length+1≤1099511627776) <|
  some ((Aq.mk r_2 (r_.out++[(Ab.mk kind a b)])))

def E5 (q1:Int):(Int×List Aa×List Aa×List Ab×Int)→Option (Ex (Int×List Aa×List Aa×List Ab×Int) (Int×List Aa×List Aa×List Ab)):=fun (Qubits3,XImages3,ZImages3,out3,s) =>
  bif (decide (s<Qubits3)) then ((((((((getI XImages3 q1).bind fun x =>
  some ((x.Phase,x.X,x.Z))):Option (Int×Int×Int)).bind fun (t1,t2,t3) =>
  (AO (Aa.mk t1 t2 t3) s).bind fun r_1 =>
  bif (r_1==2) then ((Ax (Aq.mk (Ae.mk Qubits3 XImages3 ZImages3) out3) 1 s 0).bind fun m =>
  some (m.t.Qubits,m.t.XImages,m.t.ZImages,m.out)) else (some (Qubits3,XImages3,ZImages3,out3))):Option (Int×List Aa×List Aa×List Ab)).bind fun (Qubits5,XImages5,ZImages5,out5) =>
  (((getI XImages5 q1).bind fun x1 =>
  some ((x1.Phase,x1.X,x1.Z))):Option (Int×Int×Int)).bind fun (t4,t5,t6) =>
  (AO (Aa.mk t4 t5 t6) s).bind fun r_2 =>
  bif (r_2==3) then ((Ax (Aq.mk (Ae.mk Qubits5 XImages5 ZImages5) out5) 5 s 0).bind fun m1 =>
  some (m1.t.Qubits,m1.t.XImages,m1.t.ZImages,m1.out)) else (some (Qubits5,XImages5,ZImages5,out5))):Option (Int×List Aa×List Aa×List Ab)).bind fun (Qubits4,XImages4,ZImages4,out4) =>
  some (.nx (Qubits4,XImages4,ZImages4,out4,(IntKind.i64.wrap (s+1))))) else (some (.br (Qubits3,XImages3,ZImages3,out3,s)))
def Eg (q1:Int):(Int×List Aa×List Aa×List Ab×Int)→Option (Ex (Int×List Aa×List Aa×List Ab×Int) (Int×List Aa×List Aa×List Ab)):=fun (Qubits8,XImages8,ZImages8,out8,s1) =>
  bif (decide (s1<Qubits8)) then ((((((getI XImages8 q1).bind fun x3 =>
  some ((x3.Phase,x3.X,x3.Z))):Option (Int×Int×Int)).bind fun (t7,t8,t9) =>
  (AO (Aa.mk t7 t8 t9) s1).bind fun r_4 =>
  bif (r_4==1) then ((Ax (Aq.mk (Ae.mk Qubits8 XImages8 ZImages8) out8) 9 q1 s1).bind fun m5 =>
  some (m5.t.Qubits,m5.t.XImages,m5.t.ZImages,m5.out)) else (some (Qubits8,XImages8,ZImages8,out8))):Option (Int×List Aa×List Aa×List Ab)).bind fun (Qubits9,XImages9,ZImages9,out9) =>
  some (.nx (Qubits9,XImages9,ZImages9,out9,(IntKind.i64.wrap (s1+1))))) else (some (.br (Qubits8,XImages8,ZImages8,out8,s1)))
def Dq (q1:Int):(Int×List Aa×List Aa×List Ab×Int)→Option (Ex (Int×List Aa×List Aa×List Ab×Int) (Int×List Aa×List Aa×List Ab)):=fun (Qubits12,XImages12,ZImages12,out12,s2) =>
  bif (decide (s2<Qubits12)) then ((((((((getI ZImages12 q1).bind fun x5 =>
  some ((x5.Phase,x5.X,x5.Z))):Option (Int×Int×Int)).bind fun (t10,t11,t12) =>
  (AO (Aa.mk t10 t11 t12) s2).bind fun r_5 =>
  bif (r_5==2) then ((Ax (Aq.mk (Ae.mk Qubits12 XImages12 ZImages12) out12) 1 s2 0).bind fun m7 =>
  some (m7.t.Qubits,m7.t.XImages,m7.t.ZImages,m7.out)) else (some (Qubits12,XImages12,ZImages12,out12))):Option (Int×List Aa×List Aa×List Ab)).bind fun (Qubits14,XImages14,ZImages14,out14) =>
  (((getI ZImages14 q1).bind fun x6 =>
  some ((x6.Phase,x6.X,x6.Z))):Option (Int×Int×Int)).bind fun (t13,t14,t15) =>
  (AO (Aa.mk t13 t14 t15) s2).bind fun r_6 =>
  bif (r_6==3) then ((Ax (Aq.mk (Ae.mk Qubits14 XImages14 ZImages14) out14) 5 s2 0).bind fun m8 =>
  some (m8.t.Qubits,m8.t.XImages,m8.t.ZImages,m8.out)) else (some (Qubits14,XImages14,ZImages14,out14))):Option (Int×List Aa×List Aa×List Ab)).bind fun (Qubits13,XImages13,ZImages13,out13) =>
  some (.nx (Qubits13,XImages13,ZImages13,out13,(IntKind.i64.wrap (s2+1))))) else (some (.br (Qubits12,XImages12,ZImages12,out12,s2)))
def DG (q1:Int):(Int×List Aa×List Aa×List Ab×Int)→Option (Ex (Int×List Aa×List Aa×List Ab×Int) (Int×List Aa×List Aa×List Ab)):=fun (Qubits17,XImages17,ZImages17,out17,s3) =>
  bif (decide (s3<Qubits17)) then ((((((getI ZImages17 q1).bind fun x8 =>
  some ((x8.Phase,x8.X,x8.Z))):Option (Int×Int×Int)).bind fun (t16,t17,t18) =>
  (AO (Aa.mk t16 t17 t18) s3).bind fun r_8 =>
  bif (r_8==1) then ((Ax (Aq.mk (Ae.mk Qubits17 XImages17 ZImages17) out17) 9 q1 s3).bind fun m10 =>
  some (m10.t.Qubits,m10.t.XImages,m10.t.ZImages,m10.out)) else (some (Qubits17,XImages17,ZImages17,out17))):Option (Int×List Aa×List Aa×List Ab)).bind fun (Qubits18,XImages18,ZImages18,out18) =>
  some (.nx (Qubits18,XImages18,ZImages18,out18,(IntKind.i64.wrap (s3+1))))) else (some (.br (Qubits17,XImages17,ZImages17,out17,s3)))
def CR (XImages2:List Aa) (q1:Int):Int→Option (Ex (Int) (Int×List Aa×List Aa×List Ab)):=fun at_ =>
  (getI XImages2 q1).bind fun x2 =>
  (AO x2 at_).bind fun r_3 =>
  bif (r_3 != 1) then (some (.nx (IntKind.i64.wrap (at_+1)))) else (some (.br at_))
def Ew (out:List Ab):(List Ab×Int)→Option (Ex (List Ab×Int) (Aj)):=fun (Gates,K31) =>
  bif (decide (0≤K31)) then ((((getI out K31).bind fun x34 =>
  chk (Gates.length+1≤1099511627776) <|
  bif (x34.Kind==5) then (chk (((Gates++[x34]).length)+2≤1099511627776) <|
  some ((Gates++[x34])++[x34,x34])) else (some (Gates++[x34]))):Option (List Ab)).bind fun Gates1 =>
  some (.nx (Gates1,(IntKind.i64.wrap (K31-1))))) else (some (.br (Gates,K31)))
def Do (t:Ae):(Int×List Aa×List Aa×List Ab×Int)→Option (Ex (Int×List Aa×List Aa×List Ab×Int) (Aj)):=fun (Qubits,XImages,ZImages,out,q1) =>
  bif (decide (q1<t.Qubits)) then ((((((whX (E5 q1) fuel (Qubits,XImages,ZImages,out,q1)).bind<|orR fun (Qubits3,XImages3,ZImages3,out3,s) =>
  some ((Qubits3,XImages3,ZImages3,out3))):Option (Int×List Aa×List Aa×List Ab)).bind fun (Qubits2,XImages2,ZImages2,out2) =>
  (whX (CR XImages2 q1) fuel q1).bind<|orR fun at_ =>
  ((bif (at_ != q1) then ((Ax (Aq.mk (Ae.mk Qubits2 XImages2 ZImages2) out2) 9 at_ q1).bind fun m2 =>
  (Ax m2 9 q1 at_).bind fun m3 =>
  (Ax m3 9 at_ q1).bind fun m4 =>
  some (m4.t.Qubits,m4.t.XImages,m4.t.ZImages,m4.out)) else (some (Qubits2,XImages2,ZImages2,out2))):Option (Int×List Aa×List Aa×List Ab)).bind fun (Qubits6,XImages6,ZImages6,out6) =>
  (((whX (Eg q1) fuel (Qubits6,XImages6,ZImages6,out6,(IntKind.i64.wrap (q1+1)))).bind<|orR fun (Qubits8,XImages8,ZImages8,out8,s1) =>
  some ((Qubits8,XImages8,ZImages8,out8))):Option (Int×List Aa×List Aa×List Ab)).bind fun (Qubits7,XImages7,ZImages7,out7) =>
  (((getI ZImages7 q1).bind fun x4 =>
  chk ((!(x4.X != 0))=true→(0:Int)≤(IntKind.u64.wrap q1)) <|
  bif ((x4.X != 0)||(x4.Z != (shlK .i64 1 (IntKind.u64.wrap q1)))) then ((Ax (Aq.mk (Ae.mk Qubits7 XImages7 ZImages7) out7) 1 q1 0).bind fun m6 =>
  (((whX (Dq q1) fuel (m6.t.Qubits,m6.t.XImages,m6.t.ZImages,m6.out,(IntKind.i64.wrap (q1+1)))).bind<|orR fun (Qubits12,XImages12,ZImages12,out12,s2) =>
  some ((Qubits12,XImages12,ZImages12,out12))):Option (Int×List Aa×List Aa×List Ab)).bind fun (Qubits11,XImages11,ZImages11,out11) =>
  (((getI ZImages11 q1).bind fun x7 =>
  (AO x7 q1).bind fun r_7 =>
  bif (r_7==3) then ((Ax (Aq.mk (Ae.mk Qubits11 XImages11 ZImages11) out11) 5 q1 0).bind fun m9 =>
  some (m9.t.Qubits,m9.t.XImages,m9.t.ZImages,m9.out)) else (some (Qubits11,XImages11,ZImages11,out11))):Option (Int×List Aa×List Aa×List Ab)).bind fun (Qubits15,XImages15,ZImages15,out15) =>
  (((whX (DG q1) fuel (Qubits15,XImages15,ZImages15,out15,(IntKind.i64.wrap (q1+1)))).bind<|orR fun (Qubits17,XImages17,ZImages17,out17,s3) =>
  some ((Qubits17,XImages17,ZImages17,out17))):Option (Int×List Aa×List Aa×List Ab)).bind fun (Qubits16,XImages16,ZImages16,out16) =>
  (Ax (Aq.mk (Ae.mk Qubits16 XImages16 ZImages16) out16) 1 q1 0).bind fun m11 =>
  some (m11.t.Qubits,m11.t.XImages,m11.t.ZImages,m11.out)) else (some (Qubits7,XImages7,ZImages7,out7))):Option (Int×List Aa×List Aa×List Ab)).bind fun (Qubits10,XImages10,ZImages10,out10) =>
  (((getI XImages10 q1).bind fun x9 =>
  bif (x9.Phase==2) then ((Ax (Aq.mk (Ae.mk Qubits10 XImages10 ZImages10) out10) 4 q1 0).bind fun m12 =>
  some (m12.t.Qubits,m12.t.XImages,m12.t.ZImages,m12.out)) else (some (Qubits10,XImages10,ZImages10,out10))):Option (Int×List Aa×List Aa×List Ab)).bind fun (Qubits19,XImages19,ZImages19,out19) =>
  (getI ZImages19 q1).bind fun x10 =>
  bif (x10.Phase==2) then ((Ax (Aq.mk (Ae.mk Qubits19 XImages19 ZImages19) out19) 2 q1 0).bind fun m13 =>
  some ((m13.t.Qubits,m13.t.XImages,m13.t.ZImages,m13.out))) else (some ((Qubits19,XImages19,ZImages19,out19)))):Option (Int×List Aa×List Aa×List Ab)).bind fun (Qubits1,XImages1,ZImages1,out1) =>
  some (.nx (Qubits1,XImages1,ZImages1,out1,(IntKind.i64.wrap (q1+1))))) else (some (.br (Qubits,XImages,ZImages,out,q1)))
def Ez (t:Ae):Option (Aj) :=
  (whX (Do t) fuel (t.Qubits,t.XImages,t.ZImages,[],0)).bind<|orR fun (Qubits,XImages,ZImages,out,q1) =>
  (whX (Ew out) fuel ([],(IntKind.i64.wrap ((out.length:Int)-1)))).bind<|orR fun (Gates,K31) =>
  some ((Aj.mk t.Qubits Gates))

def El (t:Ae):Option (Aj×Bool) :=
  (Es t).bind fun r_2 =>
  bif (!r_2) then (some (((Aj.mk 0 []),false))) else ((Ez t).bind fun r_3 =>
  some ((r_3,true)))

def GJ (s1:List Ab) (s2:List Ab):Nat→Unit→Option (Ex (Unit) (Bool)):=fun i _ =>
  (getI s1 (i:Int)).bind fun x =>
  (getI s2 (i:Int)).bind fun x1 =>
  bif (!((x.Kind==x1.Kind)&&((x.A==x1.A)&&((x.B==x1.B)&&true)))) then (some (.rt false)) else (some (.nx ()))
def EG (s1:List Ab) (s2:List Ab):Option (Bool) :=
  bif ((s1.length:Int) != (s2.length:Int)) then (some (false)) else (chk (s1.length≤9223372036854775807) <|
  (forX (GJ s1 s2) s1.length 0 ()).bind<|orR fun _ =>
  some (true))

def E2 (a:Aj) (b:Aj):Option (Bool) :=
  (gb (a.Qubits==b.Qubits) false (EG a.Gates b.Gates)).bind fun r_1 =>
  some (((a.Qubits==b.Qubits)&&r_1))

def EA (c:Ah) (n1:Int):Option (Bool×Ah) :=
  (AI c n1).bind fun (r_1,m1) =>
  some (((r_1==0),(Ah.mk c.code m1.at_ m1.seed)))

def EP (c:Ah):Option (Aj×Ah) :=
  (BQ c [1,2,2,3]).bind fun (r_1,m1) =>
  (Cl (Ah.mk c.code m1.at_ m1.seed) r_1 8 [1,2,3,4,5,6,7,8,9,9,10,11,12,7,1]).bind fun (r_2,m2) =>
  some ((r_2,(Ah.mk c.code m2.at_ m2.seed)))

def FB (c:Ah):Option (Aj×Ah) :=
  (EP c).bind fun (r_1,m1) =>
  (((AI (Ah.mk c.code m1.at_ m1.seed) 14).bind fun (r_2,m2) =>
  bif (r_2==0) then ((BQ (Ah.mk c.code m2.at_ m2.seed) [0,1,5,6]).bind fun (r_3,m3) =>
  some (m3.at_,m3.seed,r_3,r_1.Gates)) else (bif (r_2==1) then ((AI (Ah.mk c.code m2.at_ m2.seed) 14).bind fun (r_4,m4) =>
  (AI (Ah.mk c.code m4.at_ m4.seed) 4).bind fun (r_5,m5) =>
  (AI (Ah.mk c.code m5.at_ m5.seed) 4).bind fun (r_6,m6) =>
  chk (r_1.Gates.length+1≤1099511627776) <|
  some (m6.at_,m6.seed,r_1.Qubits,(r_1.Gates++[(Ab.mk r_4 (IntKind.i64.wrap (r_5-1)) (IntKind.i64.wrap (r_6-1)))]))) else (some (m2.at_,m2.seed,r_1.Qubits,r_1.Gates)))):Option (Int×Int×Int×List Ab)).bind fun (at_,seed,Qubits,Gates) =>
  some (((Aj.mk Qubits Gates),(Ah.mk c.code at_ seed)))

def Ec (code:List Int):Option (Aj×Aj) :=
  (AI (Ah.mk code 0 0) 3).bind fun (r_2,m) =>
  (CM (Ah.mk code m.at_ m.seed) (IntKind.i64.wrap (1+r_2))).bind fun (r_3,m1) =>
  (EA (Ah.mk code m1.at_ m1.seed) 2).bind fun (r_4,m2) =>
  bif r_4 then ((Co r_3).bind fun r_5 =>
  (Ez r_5).bind fun r_6 =>
  some ((r_3,r_6))) else ((EA (Ah.mk code m2.at_ m2.seed) 6).bind fun (r_7,m3) =>
  bif r_7 then ((FB (Ah.mk code m3.at_ m3.seed)).bind fun (r_8,m4) =>
  some ((r_3,r_8))) else ((CM (Ah.mk code m3.at_ m3.seed) (IntKind.i64.wrap (1+r_2))).bind fun (r_9,m5) =>
  some ((r_3,r_9))))

def E8 (c:Aj) (is_:Int→Option (Bool)):Nat→Int→Option (Int):=fun i count =>
  (((getI c.Gates (i:Int)).bind fun x1 =>
  (is_ x1.Kind).bind fun r_3 =>
  bif r_3 then (some (IntKind.i64.wrap (count+1))) else (some count)):Option (Int)).bind fun count1 =>
  some count1
def FL (c:Aj) (is_:Int→Option (Bool)):Option (Int×Bool) :=
  (C0 c).bind fun r_2 =>
  bif (!r_2) then (some ((0,false))) else (chk (c.Gates.length≤9223372036854775807) <|
  (forN (E8 c is_) c.Gates.length 0 0).bind fun count =>
  some ((count,true)))

def CD (kind:Int):Option (Bool) :=
  some (((kind==7)||(kind==8)))

def Gj (c:Aj):Option (Int×Bool) :=
  (FL c CD).bind fun (r_2,r_3) =>
  some ((r_2,r_3))

def EC (c:Aj):Nat→(Int×List Aa×List Aa)→Option (Int×List Aa×List Aa):=fun i (Qubits,XImages,ZImages) =>
  (getI c.Gates (i:Int)).bind fun x =>
  (AX c.Qubits x).bind fun r_5 =>
  (Bb (Ae.mk Qubits XImages ZImages) r_5).bind fun r_6 =>
  some (r_6.Qubits,r_6.XImages,r_6.ZImages)
def Bi (c:Aj):Option (Ae×Bool) :=
  (Gj c).bind fun (r_2,r_3) =>
  bif ((!r_3)||(decide (0<r_2))) then (some (((Ae.mk 0 [] []),false))) else ((Bh c.Qubits).bind fun r_4 =>
  chk (c.Gates.length≤9223372036854775807) <|
  (forN (EC c) c.Gates.length 0 (r_4.Qubits,r_4.XImages,r_4.ZImages)).bind fun (Qubits,XImages,ZImages) =>
  some (((Ae.mk Qubits XImages ZImages),true)))

def Gt (s1:List Aa) (s2:List Aa):Nat→Unit→Option (Ex (Unit) (Bool)):=fun i _ =>
  (getI s1 (i:Int)).bind fun x =>
  (getI s2 (i:Int)).bind fun x1 =>
  bif (!((x.Phase==x1.Phase)&&((x.X==x1.X)&&((x.Z==x1.Z)&&true)))) then (some (.rt false)) else (some (.nx ()))
def Eo (s1:List Aa) (s2:List Aa):Option (Bool) :=
  bif ((s1.length:Int) != (s2.length:Int)) then (some (false)) else (chk (s1.length≤9223372036854775807) <|
  (forX (Gt s1 s2) s1.length 0 ()).bind<|orR fun _ =>
  some (true))

def CN (a:Ae) (b:Ae):Option (Bool) :=
  (gb (a.Qubits==b.Qubits) false (Eo a.XImages b.XImages)).bind fun r_1 =>
  (gb ((a.Qubits==b.Qubits)&&r_1) false (Eo a.ZImages b.ZImages)).bind fun r_2 =>
  some ((((a.Qubits==b.Qubits)&&r_1)&&r_2))

def E3 (a:Aj) (b:Aj):Option (Bool×Bool) :=
  (Bi a).bind fun (r_2,r_3) =>
  (Bi b).bind fun (r_4,r_5) =>
  bif (((!r_3)||(!r_5))||(a.Qubits != b.Qubits)) then (some ((false,false))) else ((CN r_2 r_4).bind fun r_6 =>
  some ((r_6,true)))

def Fc (n:Int) (g:Ab):Option (Bool) :=
  (AG g.Kind 1 8).bind fun r_1 =>
  bif r_1 then ((AG g.A 0 (IntKind.i64.wrap (n-1))).bind fun r_2 =>
  some ((r_2&&(g.B==0)))) else ((AG g.Kind 9 11).bind fun r_3 =>
  bif r_3 then ((AG g.A 0 (IntKind.i64.wrap (n-1))).bind fun r_4 =>
  (gb r_4 false (AG g.B 0 (IntKind.i64.wrap (n-1)))).bind fun r_5 =>
  some (((r_4&&r_5)&&(g.A != g.B)))) else (some ((((g.Kind==12)&&(g.A==0))&&(g.B==0)))))

def GG (c:Aj):Nat→Unit→Option (Ex (Unit) (Bool)):=fun i _ =>
  (getI c.Gates (i:Int)).bind fun x =>
  (Fc c.Qubits x).bind fun r_2 =>
  bif (!r_2) then (some (.rt false)) else (some (.nx ()))
def Ef (c:Aj):Option (Bool) :=
  (AG c.Qubits 1 5).bind fun r_1 =>
  bif ((!r_1)||(decide (400<(c.Gates.length:Int)))) then (some (false)) else (chk (c.Gates.length≤9223372036854775807) <|
  (forX (GG c) c.Gates.length 0 ()).bind<|orR fun _ =>
  some (true))

def En (c:Aj) (lo:Int) (hi:Int):Nat→Int→Option (Int):=fun i n1 =>
  (((getI c.Gates (i:Int)).bind fun x =>
  (AG x.Kind lo hi).bind fun r_1 =>
  bif r_1 then (some (IntKind.i64.wrap (n1+1))) else (some n1)):Option (Int)).bind fun n2 =>
  some n2
def FJ (c:Aj) (lo:Int) (hi:Int):Option (Int) :=
  chk (c.Gates.length≤9223372036854775807) <|
  (forN (En c lo hi) c.Gates.length 0 0).bind fun n1 =>
  some (n1)

def G2 (c:Aj):Option (Int×Bool) :=
  (Ef c).bind fun r_2 =>
  bif (!r_2) then (some ((0,false))) else ((FJ c 7 8).bind fun r_3 =>
  some ((r_3,true)))

def Df (c:Aj):Option (Bool) :=
  (G2 c).bind fun (r_1,r_2) =>
  some ((r_2&&(r_1==0)))

def GI (a:Ae) (b:Ae):Nat→Unit→Option (Ex (Unit) (Bool)):=fun q _ =>
  (getI a.XImages (q:Int)).bind fun x =>
  (getI b.XImages (q:Int)).bind fun x1 =>
  (gb (!(!((x.Phase==x1.Phase)&&((x.X==x1.X)&&((x.Z==x1.Z)&&true))))) (Aa.mk 0 0 0) (getI a.ZImages (q:Int))).bind fun x2 =>
  (gb (!(!((x.Phase==x1.Phase)&&((x.X==x1.X)&&((x.Z==x1.Z)&&true))))) (Aa.mk 0 0 0) (getI b.ZImages (q:Int))).bind fun x3 =>
  bif ((!((x.Phase==x1.Phase)&&((x.X==x1.X)&&((x.Z==x1.Z)&&true))))||(!((x2.Phase==x3.Phase)&&((x2.X==x3.X)&&((x2.Z==x3.Z)&&true))))) then (some (.rt false)) else (some (.nx ()))
def Ff (a:Ae) (b:Ae):Option (Bool) :=
  chk (a.Qubits.toNat≤9223372036854775807) <|
  (forX (GI a b) a.Qubits.toNat 0 ()).bind<|orR fun _ =>
  some ((a.Qubits==b.Qubits))

def Ed (a:Aj) (b:Aj):Option (Bool×Bool) :=
  (Df a).bind fun r_2 =>
  (gb (!(!r_2)) false (Df b)).bind fun r_3 =>
  bif (((!r_2)||(!r_3))||(a.Qubits != b.Qubits)) then (some ((false,false))) else ((Co a).bind fun r_4 =>
  (Co b).bind fun r_5 =>
  (Ff r_4 r_5).bind fun r_6 =>
  some ((r_6,true)))

def C9 (n:Int):Option (Bool) :=
  (A0 n 1 32).bind fun r_1 =>
  some ((r_1&&((bits .and .i64 n (IntKind.i64.wrap (n-1)))==0)))

def EW (cell:Int→Int→Option (Ad×Bool)) (i:Nat):Nat→(List Ad)→Option (Ex (List Ad) (Ex (List Ad) (Ag×Bool))):=fun i1 Cells1 =>
  (cell (i:Int) (i1:Int)).bind fun (r_4,r_5) =>
  bif (!r_5) then (some (.rt (.rt ((Ag.mk 0 0 []),false)))) else (chk (Cells1.length+1≤1099511627776) <|
  some (.nx (Cells1++[r_4])))
def ET (cols:Int) (cell:Int→Int→Option (Ad×Bool)):Nat→(List Ad)→Option (Ex (List Ad) (Ag×Bool)):=fun i Cells =>
  chk (cols.toNat≤9223372036854775807) <|
  (forX (EW cell i) cols.toNat 0 Cells).bind<|orR fun Cells1 =>
  some (.nx Cells1)
def Ck (rows:Int) (cols:Int) (cell:Int→Int→Option (Ad×Bool)):Option (Ag×Bool) :=
  (C9 rows).bind fun r_2 =>
  (gb (!(!r_2)) false (C9 cols)).bind fun r_3 =>
  bif ((!r_2)||(!r_3)) then (some (((Ag.mk 0 0 []),false))) else (chk (rows.toNat≤9223372036854775807) <|
  (forX (ET cols cell) rows.toNat 0 []).bind<|orR fun Cells =>
  some (((Ag.mk rows cols Cells),true)))

def FE (n:Int):Option (Ad) :=
  some ((Ad.mk (Ac.mk n 0 0 0) 0))

def Gq (i:Int) (j:Int):Option (Ad×Bool) :=
  bif (i==j) then ((FE 1).bind fun r_2 =>
  some ((r_2,true))) else (some (((Ad.mk (Ac.mk 0 0 0 0) 0),true)))

def F6 (n:Int):Option (Ag×Bool) :=
  (Ck n n Gq).bind fun (r_2,r_3) =>
  some ((r_2,r_3))

def Dm (n:Int):Option (Bool) :=
  (A0 n (-1000000000) 1000000000).bind fun r_1 =>
  some (r_1)

def Cc (x:Ac):Option (Bool) :=
  (Dm x.A).bind fun r_1 =>
  (gb r_1 false (Dm x.B)).bind fun r_2 =>
  (gb (r_1&&r_2) false (Dm x.C)).bind fun r_3 =>
  (gb ((r_1&&r_2)&&r_3) false (Dm x.D)).bind fun r_4 =>
  some ((((r_1&&r_2)&&r_3)&&r_4))

def IE:Nat→(Int×Int×Int×Int)→Option (Int×Int×Int×Int):=fun i (A,B,C,D) =>
  some ((IntKind.i64.wrap (-D)),A,B,C)
def H7 (x:Ac) (k_:Int):Option (Ac×Bool) :=
  (A0 k_ (-1000) 1000).bind fun r_2 =>
  (gb (!(!r_2)) false (Cc x)).bind fun r_3 =>
  bif ((!r_2)||(!r_3)) then (some (((Ac.mk 0 0 0 0),false))) else (chk (((Int.tmod (IntKind.i64.wrap ((Int.tmod k_ 8)+8)) 8).toNat)≤9223372036854775807) <|
  (forN IE ((Int.tmod (IntKind.i64.wrap ((Int.tmod k_ 8)+8)) 8).toNat) 0 (x.A,x.B,x.C,x.D)).bind fun (A,B,C,D) =>
  some (((Ac.mk A B C D),true)))

def AR (k_:Int):Option (Ad) :=
  (H7 (Ac.mk 1 0 0 0) k_).bind fun (r_1,r_2) =>
  some ((Ad.mk r_1 0))

def BX (n:Int) (state:Int) (q:Int):Option (Int) :=
  chk ((0:Int)≤(IntKind.i64.wrap ((IntKind.i64.wrap (n-1))-q))) <|
  some ((bits .and .i64 (shrK .i64 state (IntKind.i64.wrap ((IntKind.i64.wrap (n-1))-q))) 1))

def CP (n:Int) (state:Int) (q:Int):Option (Int) :=
  chk ((0:Int)≤(IntKind.i64.wrap ((IntKind.i64.wrap (n-1))-q))) <|
  some ((bits .xor .i64 state (shlK .i64 1 (IntKind.i64.wrap ((IntKind.i64.wrap (n-1))-q)))))

def FU (n:Int) (g:Ab) (state:Int):Option (Int) :=
  (BX n state g.A).bind fun r_1 =>
  (BX n state g.B).bind fun r_2 =>
  bif ((g.Kind==9)&&(r_1==1)) then ((CP n state g.B).bind fun r_3 =>
  some (r_3)) else (bif ((g.Kind==11)&&(r_1 != r_2)) then ((CP n state g.A).bind fun r_4 =>
  (CP n r_4 g.B).bind fun r_5 =>
  some (r_5)) else (some (state)))

def Cb (holds:Bool):Option (Int) :=
  bif holds then (some (1)) else (some (0))

def EO (kind:Int) (i:Int) (j:Int):Option (Ad) :=
  bif (kind==1) then (((bif ((i==1)&&(j==1)) then (some (-1)) else (some 1)):Option (Int)).bind fun A =>
  some ((Ad.mk (Ac.mk A 0 0 0) 1))) else (bif ((kind==2)&&(i != j)) then ((FE 1).bind fun r_1 =>
  some (r_1)) else (bif ((kind==3)&&(i != j)) then ((AR (IntKind.i64.wrap (2+(IntKind.i64.wrap (4*j))))).bind fun r_2 =>
  some (r_2)) else (bif (((kind==2)||(kind==3))||(i != j)) then (some ((Ad.mk (Ac.mk 0 0 0 0) 0))) else (bif (i==0) then ((FE 1).bind fun r_3 =>
  some (r_3)) else ((AR (mgt (mput (mput (mput (mput (mput ([]:List (Int×Int)) 4 4) 5 2) 6 6) 7 1) 8 7) kind 0)).bind fun r_4 =>
  some (r_4))))))

def C2 (i:Int) (j:Int) (p:Ab) (p1:Int):Option (Ad×Bool) :=
  ((bif (p.Kind==12) then (bif (i==j) then ((AR 1).bind fun r_2 =>
  some (.inr (r_2,true))) else (some (.inl ()))) else ((Cd p.Kind).bind fun r_3 =>
  bif r_3 then ((FU p1 p i).bind fun r_4 =>
  bif (r_4==j) then ((gb (p.Kind==10) 0 (BX p1 i p.A)).bind fun r_5 =>
  (gb ((p.Kind==10)&&(r_5==1)) 0 (BX p1 i p.B)).bind fun r_6 =>
  (Cb (((p.Kind==10)&&(r_5==1))&&(r_6==1))).bind fun r_7 =>
  (AR (IntKind.i64.wrap (4*r_7))).bind fun r_8 =>
  some (.inr (r_8,true))) else (some (.inl ()))) else ((gb (!(i==j)) 0 (CP p1 i p.A)).bind fun r_9 =>
  bif ((i==j)||(r_9==j)) then ((BX p1 i p.A).bind fun r_10 =>
  (BX p1 j p.A).bind fun r_11 =>
  (EO p.Kind r_10 r_11).bind fun r_12 =>
  some (.inr (r_12,true))) else (some (.inl ()))))):Option ((Unit) ⊕ (Ad×Bool))).bind<|orR fun _ =>
  some (((Ad.mk (Ac.mk 0 0 0 0) 0),true))

def Ds (n:Int) (g:Ab):Option (Ag×Bool) :=
  (Cq n g).bind fun r_2 =>
  bif (!r_2) then (some (((Ag.mk 0 0 []),false))) else (chk ((0:Int)≤n) <|
  chk ((0:Int)≤n) <|
  (Ck (shlK .i64 1 n) (shlK .i64 1 n) (fun x_0 x_1=>C2 x_0 x_1 g n)).bind fun (r_3,r_4) =>
  some ((r_3,r_4)))

def Gf (s:List Ad) (f_:Ad→Option (Bool)):Nat→Unit→Option (Ex (Unit) (Int)):=fun i _ =>
  (getI s (i:Int)).bind fun x1 =>
  (f_ x1).bind fun r_1 =>
  bif r_1 then (some (.rt (i:Int))) else (some (.nx ()))
def FG (s:List Ad) (f_:Ad→Option (Bool)):Option (Int) :=
  chk (s.length≤9223372036854775807) <|
  (forX (Gf s f_) s.length 0 ()).bind<|orR fun _ =>
  some ((-1))

def F8 (s:List Ad) (f_:Ad→Option (Bool)):Option (Bool) :=
  (FG s f_).bind fun r_1 =>
  some ((decide (0≤r_1)))

def DI (x:Ac):Option (Bool) :=
  some ((((Int.tmod (IntKind.i64.wrap (x.A+x.C)) 2)==0)&&((Int.tmod (IntKind.i64.wrap (x.B+x.D)) 2)==0)))

def BU (x:Ad):Option (Bool) :=
  (Cc x.Num).bind fun r_1 =>
  (gb r_1 false (A0 x.Exp 0 60)).bind fun r_2 =>
  (gb ((r_1&&r_2)&&(!(x.Exp==0))) false (DI x.Num)).bind fun r_3 =>
  some (((r_1&&r_2)&&((x.Exp==0)||(!r_3))))

def Fj (x:Ad):Option (Bool) :=
  (BU x).bind fun r_1 =>
  some ((!r_1))

def BW (m:Ag):Option (Bool) :=
  (C9 m.Rows).bind fun r_1 =>
  (gb r_1 false (C9 m.Cols)).bind fun r_2 =>
  (gb ((r_1&&r_2)&&((m.Cells.length:Int)==(IntKind.i64.wrap (m.Rows*m.Cols)))) false (F8 m.Cells Fj)).bind fun r_3 =>
  some ((((r_1&&r_2)&&((m.Cells.length:Int)==(IntKind.i64.wrap (m.Rows*m.Cols))))&&(!r_3)))

def Gr (args:List Ac) (out:Ac):Nat→Unit→Option (Ex (Unit) (Ac×Bool)):=fun i _ =>
  (getI (args++[out]) (i:Int)).bind fun x =>
  (Cc x).bind fun r_2 =>
  bif (!r_2) then (some (.rt ((Ac.mk 0 0 0 0),false))) else (some (.nx ()))
def BF (out:Ac) (args:List Ac):Option (Ac×Bool) :=
  chk (args.length+1≤1099511627776) <|
  chk (((args++[out]).length)≤9223372036854775807) <|
  (forX (Gr args out) ((args++[out]).length) 0 ()).bind<|orR fun _ =>
  some ((out,true))

def Dv (x:Ac) (y:Ac):Option (Ac×Bool) :=
  (BF (Ac.mk (IntKind.i64.wrap ((IntKind.i64.wrap ((IntKind.i64.wrap ((IntKind.i64.wrap (x.A*y.A))-(IntKind.i64.wrap (x.B*y.D))))-(IntKind.i64.wrap (x.C*y.C))))-(IntKind.i64.wrap (x.D*y.B)))) (IntKind.i64.wrap ((IntKind.i64.wrap ((IntKind.i64.wrap ((IntKind.i64.wrap (x.A*y.B))+(IntKind.i64.wrap (x.B*y.A))))-(IntKind.i64.wrap (x.C*y.D))))-(IntKind.i64.wrap (x.D*y.C)))) (IntKind.i64.wrap ((IntKind.i64.wrap ((IntKind.i64.wrap ((IntKind.i64.wrap (x.A*y.C))+(IntKind.i64.wrap (x.B*y.B))))+(IntKind.i64.wrap (x.C*y.A))))-(IntKind.i64.wrap (x.D*y.D)))) (IntKind.i64.wrap ((IntKind.i64.wrap ((IntKind.i64.wrap ((IntKind.i64.wrap (x.A*y.D))+(IntKind.i64.wrap (x.B*y.C))))+(IntKind.i64.wrap (x.C*y.B))))+(IntKind.i64.wrap (x.D*y.A))))) [x,y]).bind fun (r_2,r_3) =>
  some ((r_2,r_3))

def Fd (x:Ac):Option (Ac×Bool) :=
  (Cc x).bind fun r_2 =>
  (gb (!(!r_2)) false (DI x)).bind fun r_3 =>
  bif ((!r_2)||(!r_3)) then (some (((Ac.mk 0 0 0 0),false))) else ((BF (Ac.mk (IntKind.i64.wrap (Int.tdiv (IntKind.i64.wrap (x.B-x.D)) 2)) (IntKind.i64.wrap (Int.tdiv (IntKind.i64.wrap (x.A+x.C)) 2)) (IntKind.i64.wrap (Int.tdiv (IntKind.i64.wrap (x.B+x.D)) 2)) (IntKind.i64.wrap (Int.tdiv (IntKind.i64.wrap (x.C-x.A)) 2))) [x]).bind fun (r_4,r_5) =>
  some ((r_4,r_5)))

def Cy:(Int×Int×Int×Int×Int)→Option (Ex (Int×Int×Int×Int×Int) (Ad×Bool)):=fun (exp1,A,B,C,D) =>
  (gb (decide (0<exp1)) false (DI (Ac.mk A B C D))).bind fun r_4 =>
  bif ((decide (0<exp1))&&r_4) then ((Fd (Ac.mk A B C D)).bind fun (r_5,r_6) =>
  some (.nx ((IntKind.i64.wrap (exp1-1)),r_5.A,r_5.B,r_5.C,r_5.D))) else (some (.br (exp1,A,B,C,D)))
def AK (num:Ac) (exp:Int):Option (Ad×Bool) :=
  (Cc num).bind fun r_2 =>
  (gb (!(!r_2)) false (A0 exp 0 60)).bind fun r_3 =>
  bif ((!r_2)||(!r_3)) then (some (((Ad.mk (Ac.mk 0 0 0 0) 0),false))) else ((whX Cy fuel (exp,num.A,num.B,num.C,num.D)).bind<|orR fun (exp1,A,B,C,D) =>
  some (((Ad.mk (Ac.mk A B C D) exp1),true)))

def AT (x:Ad) (y:Ad):Option (Ad×Bool) :=
  (Dv x.Num y.Num).bind fun (r_2,r_3) =>
  (BU x).bind fun r_4 =>
  (gb (!(!r_4)) false (BU y)).bind fun r_5 =>
  bif (((!r_4)||(!r_5))||(!r_3)) then (some (((Ad.mk (Ac.mk 0 0 0 0) 0),false))) else ((AK r_2 (IntKind.i64.wrap (x.Exp+y.Exp))).bind fun (r_6,r_7) =>
  some ((r_6,r_7)))

def Du (m:Ag) (i:Int) (j:Int):Option (Ad) :=
  (getI m.Cells (IntKind.i64.wrap ((IntKind.i64.wrap (i*m.Cols))+j))).bind fun x =>
  some (x)

def EQ (x:Ac):Option (Ac×Bool) :=
  (BF (Ac.mk (IntKind.i64.wrap (x.B-x.D)) (IntKind.i64.wrap (x.A+x.C)) (IntKind.i64.wrap (x.B+x.D)) (IntKind.i64.wrap (x.C-x.A))) [x]).bind fun (r_2,r_3) =>
  some ((r_2,r_3))

def Cw (exp:Int):(Int×Int×Int×Int×Bool×Int)→Option (Ex (Int×Int×Int×Int×Bool×Int) (Ac×Bool)):=fun (A,B,C,D,ok,k_) =>
  bif ((decide (k_<exp))&&ok) then ((EQ (Ac.mk A B C D)).bind fun (r_2,r_3) =>
  some (.nx (r_2.A,r_2.B,r_2.C,r_2.D,r_3,(IntKind.i64.wrap (k_+1))))) else (some (.br (A,B,C,D,ok,k_)))
def Bg (x:Ad) (exp:Int):Option (Ac×Bool) :=
  (whX (Cw exp) fuel (x.Num.A,x.Num.B,x.Num.C,x.Num.D,true,x.Exp)).bind<|orR fun (A,B,C,D,ok,k_) =>
  some (((Ac.mk A B C D),ok))

def Gv (x:Ad) (y:Ad) (operation:Ac→Ac→Option (Ac×Bool)):Option (Ad×Bool) :=
  (BU x).bind fun r_2 =>
  (gb (!(!r_2)) false (BU y)).bind fun r_3 =>
  bif ((!r_2)||(!r_3)) then (some (((Ad.mk (Ac.mk 0 0 0 0) 0),false))) else ((Bg x (if x.Exp<y.Exp then y.Exp else x.Exp)).bind fun (r_4,r_5) =>
  (Bg y (if x.Exp<y.Exp then y.Exp else x.Exp)).bind fun (r_6,r_7) =>
  (operation r_4 r_6).bind fun (r_8,r_9) =>
  bif (((!r_5)||(!r_7))||(!r_9)) then (some (((Ad.mk (Ac.mk 0 0 0 0) 0),false))) else ((AK r_8 (if x.Exp<y.Exp then y.Exp else x.Exp)).bind fun (r_10,r_11) =>
  some ((r_10,r_11))))

def Ey (x:Ac) (y:Ac):Option (Ac×Bool) :=
  (BF (Ac.mk (IntKind.i64.wrap (x.A+y.A)) (IntKind.i64.wrap (x.B+y.B)) (IntKind.i64.wrap (x.C+y.C)) (IntKind.i64.wrap (x.D+y.D))) [x,y]).bind fun (r_2,r_3) =>
  some ((r_2,r_3))

def BS (x:Ad) (y:Ad):Option (Ad×Bool) :=
  (Gv x y Ey).bind fun (r_2,r_3) =>
  some ((r_2,r_3))

def EM (p:Ag) (i:Int) (p1:Ag) (j:Int):Nat→(Int×Int×Int×Int×Int)→Option (Ex (Int×Int×Int×Int×Int) (Ad×Bool)):=fun i1 (A,B4,C,D,Exp) =>
  (Du p i (i1:Int)).bind fun r_2 =>
  (Du p1 (i1:Int) j).bind fun r_3 =>
  (AT r_2 r_3).bind fun (r_4,r_5) =>
  (BS (Ad.mk (Ac.mk A B4 C D) Exp) r_4).bind fun (r_6,r_7) =>
  bif ((!r_5)||(!r_7)) then (some (.rt ((Ad.mk (Ac.mk 0 0 0 0) 0),false))) else (some (.nx (r_6.Num.A,r_6.Num.B,r_6.Num.C,r_6.Num.D,r_6.Exp)))
def Dk (i:Int) (j:Int) (p:Ag) (p1:Ag):Option (Ad×Bool) :=
  chk (p.Cols.toNat≤9223372036854775807) <|
  (forX (EM p i p1 j) p.Cols.toNat 0 (0,0,0,0,0)).bind<|orR fun (A,B4,C,D,Exp) =>
  some (((Ad.mk (Ac.mk A B4 C D) Exp),true))

def Fr (a:Ag) (b:Ag):Option (Ag×Bool) :=
  (BW a).bind fun r_2 =>
  (gb (!(!r_2)) false (BW b)).bind fun r_3 =>
  bif (((!r_2)||(!r_3))||(a.Cols != b.Rows)) then (some (((Ag.mk 0 0 []),false))) else ((Ck a.Rows b.Cols (fun x_0 x_1=>Dk x_0 x_1 a b)).bind fun (r_4,r_5) =>
  some ((r_4,r_5)))

def C6 (c:Aj):(Bool×Int×Int×List Ad×Int)→Option (Ex (Bool×Int×Int×List Ad×Int) (Ag×Bool)):=fun (ok1,Rows,Cols,Cells,i) =>
  bif ((decide (i<(c.Gates.length:Int)))&&ok1) then ((getI c.Gates i).bind fun x =>
  (Ds c.Qubits x).bind fun (r_2,r_3) =>
  (Fr r_2 (Ag.mk Rows Cols Cells)).bind fun (r_4,r_5) =>
  some (.nx (r_5,r_4.Rows,r_4.Cols,r_4.Cells,(IntKind.i64.wrap (i+1))))) else (some (.br (ok1,Rows,Cols,Cells,i)))
def Fh (c:Aj) (m:Ag) (ok:Bool):Option (Ag×Bool) :=
  (whX (C6 c) fuel (ok,m.Rows,m.Cols,m.Cells,0)).bind<|orR fun (ok1,Rows,Cols,Cells,i) =>
  some (((Ag.mk Rows Cols Cells),ok1))

def Dx (c:Aj):Option (Ag×Bool) :=
  (C0 c).bind fun r_2 =>
  bif (!r_2) then (some (((Ag.mk 0 0 []),false))) else (chk ((0:Int)≤c.Qubits) <|
  (F6 (shlK .i64 1 c.Qubits)).bind fun (r_3,r_4) =>
  (Fh c r_3 r_4).bind fun (r_5,r_6) =>
  some ((r_5,r_6)))

def E4 (i:Int) (j:Int) (p:Ag) (p1:Ad):Option (Ad×Bool) :=
  (Du p i j).bind fun r_2 =>
  (AT r_2 p1).bind fun (r_3,r_4) =>
  some ((r_3,r_4))

def Fe (m:Ag) (x:Ad):Option (Ag×Bool) :=
  (BW m).bind fun r_2 =>
  (gb (!(!r_2)) false (BU x)).bind fun r_3 =>
  bif ((!r_2)||(!r_3)) then (some (((Ag.mk 0 0 []),false))) else ((Ck m.Rows m.Cols (fun x_0 x_1=>E4 x_0 x_1 m x)).bind fun (r_4,r_5) =>
  some ((r_4,r_5)))

def FI (s1:List Ad) (s2:List Ad):Nat→Unit→Option (Ex (Unit) (Bool)):=fun i _ =>
  (getI s1 (i:Int)).bind fun x =>
  (getI s2 (i:Int)).bind fun x1 =>
  bif (!(((x.Num.A==x1.Num.A)&&((x.Num.B==x1.Num.B)&&((x.Num.C==x1.Num.C)&&((x.Num.D==x1.Num.D)&&true))))&&((x.Exp==x1.Exp)&&true))) then (some (.rt false)) else (some (.nx ()))
def Fi (s1:List Ad) (s2:List Ad):Option (Bool) :=
  bif ((s1.length:Int) != (s2.length:Int)) then (some (false)) else (chk (s1.length≤9223372036854775807) <|
  (forX (FI s1 s2) s1.length 0 ()).bind<|orR fun _ =>
  some (true))

def EJ (a:Ag) (b:Ag):Option (Bool) :=
  (gb ((a.Rows==b.Rows)&&(a.Cols==b.Cols)) false (Fi a.Cells b.Cells)).bind fun r_1 =>
  some ((((a.Rows==b.Rows)&&(a.Cols==b.Cols))&&r_1))

def Gw (b:Ag) (a:Ag):Nat→Unit→Option (Ex (Unit) (Int×Bool×Bool)):=fun i _ =>
  (AR (i:Int)).bind fun r_5 =>
  (Fe b r_5).bind fun (r_6,r_7) =>
  (gb r_7 false (EJ a r_6)).bind fun r_8 =>
  bif (r_7&&r_8) then (some (.rt ((i:Int),true,true))) else (some (.nx ()))
def DZ (a:Ag) (b:Ag):Option (Int×Bool×Bool) :=
  (BW a).bind fun r_3 =>
  (gb (!(!r_3)) false (BW b)).bind fun r_4 =>
  bif ((!r_3)||(!r_4)) then (some ((0,false,false))) else ((forX (Gw b a) 8 0 ()).bind<|orR fun _ =>
  some ((0,false,true)))

def ED (a:Aj) (b:Aj):Option (Bool×Bool) :=
  (Dx a).bind fun (r_2,r_3) =>
  (Dx b).bind fun (r_4,r_5) =>
  bif (((!r_3)||(!r_5))||(a.Qubits != b.Qubits)) then (some ((false,false))) else ((DZ r_2 r_4).bind fun (r_6,r_7,r_8) =>
  some ((r_7,r_8)))

def FZ (a:List Aa) (b:List Aa):Nat→Unit→Option (Ex (Unit) (Bool)):=fun i _ =>
  (getI a (i:Int)).bind fun x =>
  (getI b (i:Int)).bind fun x1 =>
  bif (!((x.Phase==x1.Phase)&&((x.X==x1.X)&&((x.Z==x1.Z)&&true)))) then (some (.rt false)) else (some (.nx ()))
def DO (a:List Aa) (b:List Aa):Option (Bool) :=
  bif ((a.length:Int) != (b.length:Int)) then (some (false)) else (chk (a.length≤9223372036854775807) <|
  (forX (FZ a b) a.length 0 ()).bind<|orR fun _ =>
  some (true))

def Cs (t:Ae) (u:Ae):Option (Bool) :=
  (gb (t.Qubits==u.Qubits) false (DO t.XImages u.XImages)).bind fun r_1 =>
  (gb ((t.Qubits==u.Qubits)&&r_1) false (DO t.ZImages u.ZImages)).bind fun r_2 =>
  some ((((t.Qubits==u.Qubits)&&r_1)&&r_2))

def Dl (t:Ae):Option (A7) :=
  (DH ([t.XImages,t.ZImages]:List (List Aa))).bind fun r_1 =>
  some ((A7.mk (r_1.getD 0 (Aa.mk 0 0 0)) (r_1.getD 1 (Aa.mk 0 0 0)) (r_1.getD 2 (Aa.mk 0 0 0)) (r_1.getD 3 (Aa.mk 0 0 0))))

def FM (s:List Ab):Option (List Ab) :=
  chk (0+s.length≤1099511627776) <|
  some (s)

def F4 (letters1:List Ab) (t:Ae) (x1:Af):Nat→((List (A7×Bool))×List Af)→Option ((List (A7×Bool))×List Af):=fun i2 (seen2,next_1) =>
  (((getI letters1 (i2:Int)).bind fun x2 =>
  (AX t.Qubits x2).bind fun r_5 =>
  (Bb x1.t r_5).bind fun r_6 =>
  (Dl r_6).bind fun r_7 =>
  bif (!(mgt seen2 r_7 false)) then ((Dl r_6).bind fun r_8 =>
  (FM x1.word).bind fun r_9 =>
  chk (r_9.length+1≤1099511627776) <|
  chk (next_1.length+1≤1099511627776) <|
  some ((mput seen2 r_8 true),(next_1++([(Af.mk r_6 (r_9++[x2]))]:List Af)))) else (some (seen2,next_1))):Option ((List (A7×Bool))×List Af)).bind fun (seen3,next_2) =>
  some (seen3,next_2)
def E9 (level:List Af) (t:Ae) (letters1:List Ab):Nat→((List (A7×Bool))×List Af)→Option (Ex ((List (A7×Bool))×List Af) (Ex (List Af×(List (A7×Bool))×Int) (List Ab×Bool))):=fun i1 (seen1,next_) =>
  (getI level (i1:Int)).bind fun x1 =>
  (CN x1.t t).bind fun r_4 =>
  bif r_4 then (some (.rt (.rt (x1.word,true)))) else (chk (letters1.length≤9223372036854775807) <|
  (forN (F4 letters1 t x1) letters1.length 0 (seen1,next_)).bind fun (seen2,next_1) =>
  some (.nx (seen2,next_1)))
def FX (t:Ae) (letters1:List Ab):(List Af×(List (A7×Bool))×Int)→Option (Ex (List Af×(List (A7×Bool))×Int) (List Ab×Bool)):=fun (level,seen,length) =>
  bif (decide (length≤12)) then (chk (level.length≤9223372036854775807) <|
  (forX (E9 level t letters1) level.length 0 (seen,([]:List Af))).bind<|orR fun (seen1,next_) =>
  some (.nx (next_,seen1,(IntKind.i64.wrap (length+1))))) else (some (.br (level,seen,length)))
def GW:Nat→(List Ab)→Option (List Ab):=fun i letters =>
  chk (letters.length+2≤1099511627776) <|
  some (letters++[(Ab.mk 1 (i:Int) 0),(Ab.mk 5 (i:Int) 0)])
def F0 (t:Ae):Option (List Ab×Bool) :=
  chk (t.Qubits.toNat≤9223372036854775807) <|
  (forN GW t.Qubits.toNat 0 []).bind fun letters =>
  ((bif (t.Qubits==2) then (chk (letters.length+2≤1099511627776) <|
  some (letters++[(Ab.mk 9 0 1),(Ab.mk 9 1 0)])) else (some letters)):Option (List Ab)).bind fun letters1 =>
  (Bh t.Qubits).bind fun r_2 =>
  (getI ([(Af.mk r_2 [])]:List Af) 0).bind fun x =>
  (Dl x.t).bind fun r_3 =>
  (whX (FX t letters1) fuel (([(Af.mk r_2 [])]:List Af),(mput ([]:List (A7×Bool)) r_3 true),0)).bind<|orR fun (level,seen,length) =>
  some (([],false))

def Eb (t:Ae):Option (Aj×Bool) :=
  (AU t).bind fun r_2 =>
  bif ((!r_2)||(decide (2<t.Qubits))) then (some (((Aj.mk 0 []),false))) else ((F0 t).bind fun (r_3,r_4) =>
  bif (!r_4) then (some (((Aj.mk 0 []),false))) else ((CB t.Qubits r_3).bind fun (r_5,r_6) =>
  some ((r_5,r_6))))

def Fz (t:Ae):Option (Int×Bool) :=
  (Eb t).bind fun (r_2,r_3) =>
  some (((r_2.Gates.length:Int),r_3))

def G4 (r_3:Ae) (t:Ae):(Int×List Aa×List Aa×Int)→Option (Ex (Int×List Aa×List Aa×Int) (Int×Bool)):=fun (Qubits,XImages,ZImages,k_) =>
  bif (decide (k_≤1000)) then ((CN (Ae.mk Qubits XImages ZImages) r_3).bind fun r_4 =>
  bif r_4 then (some (.rt (k_,true))) else ((Bb (Ae.mk Qubits XImages ZImages) t).bind fun r_5 =>
  some (.nx (r_5.Qubits,r_5.XImages,r_5.ZImages,(IntKind.i64.wrap (k_+1)))))) else (some (.br (Qubits,XImages,ZImages,k_)))
def Fm (t:Ae):Option (Int×Bool) :=
  (AU t).bind fun r_2 =>
  bif (!r_2) then (some ((0,false))) else ((Bh t.Qubits).bind fun r_3 =>
  (whX (G4 r_3 t) fuel (t.Qubits,t.XImages,t.ZImages,1)).bind<|orR fun (Qubits,XImages,ZImages,k_) =>
  some ((0,false)))

def Fq (n:Int):Option (Ae×Bool) :=
  (A0 n 1 5).bind fun r_2 =>
  bif (!r_2) then (some (((Ae.mk 0 [] []),false))) else ((Bh n).bind fun r_3 =>
  some ((r_3,true)))

def ER (first:Ae) (second:Ae):Option (Ae×Bool) :=
  (AU first).bind fun r_2 =>
  (gb (!(!r_2)) false (AU second)).bind fun r_3 =>
  bif (((!r_2)||(!r_3))||(first.Qubits != second.Qubits)) then (some (((Ae.mk 0 [] []),false))) else ((Bb first second).bind fun r_4 =>
  some ((r_4,true)))

def F5 (r_1:Ae):(Int×Int×List Aa×List Aa)→Option (Ex (Int×Int×List Aa×List Aa) (Bool)):=fun (k_,Qubits,XImages,ZImages) =>
  bif (decide (0<k_)) then ((ER (Ae.mk Qubits XImages ZImages) r_1).bind fun (r_30,r_31) =>
  some (.nx ((IntKind.i64.wrap (k_-1)),r_30.Qubits,r_30.XImages,r_30.ZImages))) else (some (.br (k_,Qubits,XImages,ZImages)))
def GM (code:List Int) (more:List Int):Option (Bool) :=
  bif (decide (1048576<(IntKind.i64.wrap ((code.length:Int)+(more.length:Int))))) then (some (true)) else ((Eh code).bind fun r_1 =>
  (CS r_1).bind fun (r_2,r_3) =>
  (El r_1).bind fun (r_4,r_5) =>
  (gb (!(!(r_3==r_5))) false (E2 r_2 r_4)).bind fun r_6 =>
  (gb (!((!(r_3==r_5))||(!r_6))) false (AU r_1)).bind fun r_7 =>
  bif (((!(r_3==r_5))||(!r_6))||(!(r_7==r_3))) then (some (false)) else ((Ec more).bind fun (r_8,r_9) =>
  (E3 r_8 r_9).bind fun (r_10,r_11) =>
  (Ed r_8 r_9).bind fun (r_12,r_13) =>
  bif ((!(r_11==r_13))||(!(r_10==r_12))) then (some (false)) else (((bif (r_11&&(decide (r_8.Qubits≤3))) then ((ED r_8 r_9).bind fun (r_14,r_15) =>
  bif ((!r_15)||(!(r_14==r_10))) then (some (.inr false)) else (some (.inl ()))) else (some (.inl ()))):Option ((Unit) ⊕ (Bool))).bind<|orR fun _ =>
  bif (!r_3) then (some (true)) else ((Bi r_2).bind fun (r_16,r_17) =>
  (gb (!(!r_17)) false (Cs r_16 r_1)).bind fun r_18 =>
  bif ((!r_17)||(!r_18)) then (some (false)) else ((Eb r_1).bind fun (r_19,r_20) =>
  (Fz r_1).bind fun (r_21,r_22) =>
  bif (!(r_20==r_22)) then (some (false)) else (((bif r_20 then ((Bi r_19).bind fun (r_23,r_24) =>
  (gb (!(!r_24)) false (Cs r_23 r_1)).bind fun r_25 =>
  bif (((!r_24)||(!r_25))||((r_19.Gates.length:Int) != r_21)) then (some (.inr false)) else (some (.inl ()))) else (some (.inl ()))):Option ((Unit) ⊕ (Bool))).bind<|orR fun _ =>
  (Fm r_1).bind fun (r_26,r_27) =>
  bif (!r_27) then (some (true)) else ((Fq r_1.Qubits).bind fun (r_28,r_29) =>
  (whX (F5 r_1) fuel (r_26,r_28.Qubits,r_28.XImages,r_28.ZImages)).bind<|orR fun (k_,Qubits,XImages,ZImages) =>
  (Cs (Ae.mk Qubits XImages ZImages) r_28).bind fun r_32 =>
  some (r_32))))))))

def NC (c:Az) (m:Ag):Option (Ag×Bool) :=
  bif c.bad then (some (((Ag.mk 0 0 []),false))) else (some ((m,true)))

def SO:(Int×Int×Int×Int×Int)→Option (Ex (Int×Int×Int×Int×Int) (Ac)):=fun (K13,A,B,C,D) =>
  bif (decide (0<K13)) then (some (.nx ((IntKind.i64.wrap (K13-1)),(IntKind.i64.wrap (-D)),A,B,C))) else (some (.br (K13,A,B,C,D)))
def NJ (x:Ac) (k_:Int):Option (Ac) :=
  (whX SO fuel ((Int.tmod (IntKind.i64.wrap ((Int.tmod k_ 8)+8)) 8),x.A,x.B,x.C,x.D)).bind<|orR fun (K13,A,B,C,D) =>
  some ((Ac.mk A B C D))

def AY (k_:Int):Option (Ad) :=
  (NJ (Ac.mk 1 0 0 0) k_).bind fun r_1 =>
  some ((Ad.mk r_1 0))

def Qa (n:Int):Nat→(List Ad)→Option (List Ad):=fun i1 Cells =>
  (AY 0).bind fun r_1 =>
  (getI Cells (IntKind.i64.wrap ((IntKind.i64.wrap ((i1:Int)*n))+(i1:Int)))).bind fun x =>
  some (Cells.set (IntKind.i64.wrap ((IntKind.i64.wrap ((i1:Int)*n))+(i1:Int))).toNat r_1)
def Mx (n:Int):Option (Ag) :=
  chk ((0:Int)≤(IntKind.i64.wrap (n*n))∧(IntKind.i64.wrap (n*n))≤1099511627776) <|
  chk (n.toNat≤9223372036854775807) <|
  (forN (Qa n) n.toNat 0 (List.replicate ((IntKind.i64.wrap (n*n)).toNat) (Ad.mk (Ac.mk 0 0 0 0) 0))).bind fun Cells =>
  some ((Ag.mk n n Cells))

def LO (x:Ac):Option (Bool) :=
  some ((((Int.tmod (IntKind.i64.wrap (x.A+x.C)) 2)==0)&&((Int.tmod (IntKind.i64.wrap (x.B+x.D)) 2)==0)))

def Gx (x:Ac):Option (Ac) :=
  some ((Ac.mk (IntKind.i64.wrap (x.B-x.D)) (IntKind.i64.wrap (x.A+x.C)) (IntKind.i64.wrap (x.B+x.D)) (IntKind.i64.wrap (x.C-x.A))))

def J9 (x:Ac):Option (Ac) :=
  (Gx x).bind fun r_1 =>
  some ((Ac.mk (IntKind.i64.wrap (Int.tdiv r_1.A 2)) (IntKind.i64.wrap (Int.tdiv r_1.B 2)) (IntKind.i64.wrap (Int.tdiv r_1.C 2)) (IntKind.i64.wrap (Int.tdiv r_1.D 2))))

def Id:(Int×Int×Int×Int×Int)→Option (Ex (Int×Int×Int×Int×Int) (Ad)):=fun (exp1,A,B,C,D) =>
  (gb (decide (0<exp1)) false (LO (Ac.mk A B C D))).bind fun r_1 =>
  bif ((decide (0<exp1))&&r_1) then ((J9 (Ac.mk A B C D)).bind fun r_2 =>
  some (.nx ((IntKind.i64.wrap (exp1-1)),r_2.A,r_2.B,r_2.C,r_2.D))) else (some (.br (exp1,A,B,C,D)))
def EY (num:Ac) (exp:Int):Option (Ad) :=
  (whX Id fuel (exp,num.A,num.B,num.C,num.D)).bind<|orR fun (exp1,A,B,C,D) =>
  some ((Ad.mk (Ac.mk A B C D) exp1))

def Jg (l:List Int) (lo:Int) (hi:Int):Nat→Unit→Option (Ex (Unit) (Bool)):=fun i _ =>
  (getI l (i:Int)).bind fun x =>
  (AG x lo hi).bind fun r_1 =>
  bif (!r_1) then (some (.rt false)) else (some (.nx ()))
def Mu (l:List Int) (lo:Int) (hi:Int):Option (Bool) :=
  chk (l.length≤9223372036854775807) <|
  (forX (Jg l lo hi) l.length 0 ()).bind<|orR fun _ =>
  some (true)

def J5 (x:Ac):Option (Bool) :=
  (Mu [x.A,x.B,x.C,x.D] (-1000000000) 1000000000).bind fun r_1 =>
  some (r_1)

def Dt (c:Az) (x:Ac):Option (Ac×Az) :=
  (J5 x).bind fun r_1 =>
  bif (!r_1) then (some (((Ac.mk 0 0 0 0),(Az.mk true)))) else (some ((x,c)))

def Hj (x:Ac) (y:Ac):Option (Ac) :=
  some ((Ac.mk (IntKind.i64.wrap ((IntKind.i64.wrap ((IntKind.i64.wrap ((IntKind.i64.wrap (x.A*y.A))-(IntKind.i64.wrap (x.B*y.D))))-(IntKind.i64.wrap (x.C*y.C))))-(IntKind.i64.wrap (x.D*y.B)))) (IntKind.i64.wrap ((IntKind.i64.wrap ((IntKind.i64.wrap ((IntKind.i64.wrap (x.A*y.B))+(IntKind.i64.wrap (x.B*y.A))))-(IntKind.i64.wrap (x.C*y.D))))-(IntKind.i64.wrap (x.D*y.C)))) (IntKind.i64.wrap ((IntKind.i64.wrap ((IntKind.i64.wrap ((IntKind.i64.wrap (x.A*y.C))+(IntKind.i64.wrap (x.B*y.B))))+(IntKind.i64.wrap (x.C*y.A))))-(IntKind.i64.wrap (x.D*y.D)))) (IntKind.i64.wrap ((IntKind.i64.wrap ((IntKind.i64.wrap ((IntKind.i64.wrap (x.A*y.D))+(IntKind.i64.wrap (x.B*y.C))))+(IntKind.i64.wrap (x.C*y.B))))+(IntKind.i64.wrap (x.D*y.A))))))

def Cn (c:Az) (x:Ad) (y:Ad):Option (Ad×Az) :=
  bif (decide (60<(IntKind.i64.wrap (x.Exp+y.Exp)))) then (some (((Ad.mk (Ac.mk 0 0 0 0) 0),(Az.mk true)))) else ((Hj x.Num y.Num).bind fun r_1 =>
  (Dt c r_1).bind fun (r_2,m1) =>
  (EY r_2 (IntKind.i64.wrap (x.Exp+y.Exp))).bind fun r_3 =>
  some ((r_3,m1)))

def Hr (x:Ac) (y:Ac):Option (Ac) :=
  some ((Ac.mk (IntKind.i64.wrap (x.A+y.A)) (IntKind.i64.wrap (x.B+y.B)) (IntKind.i64.wrap (x.C+y.C)) (IntKind.i64.wrap (x.D+y.D))))

def Fy (Exp:Int) (bad:Bool) (A:Int) (C:Int) (D:Int):(Bool×Int×Int×Int×Int×Int)→Option (Ex (Bool×Int×Int×Int×Int×Int) (Ad×Az)):=fun (bad1,A1,B2,C1,D1,Exp1) =>
  bif (decide (Exp1<Exp)) then ((Gx (Ac.mk A1 B2 C1 D1)).bind fun r_3 =>
  (Dt (Az.mk bad1) r_3).bind fun (r_4,m2) =>
  some (.nx (m2.bad,r_4.A,r_4.B,r_4.C,r_4.D,(IntKind.i64.wrap (Exp1+1))))) else (some (.br (bad1,A1,B2,C1,D1,Exp1)))
def DS (y:Ad):(Bool×Int×Int×Int×Int×Int)→Option (Ex (Bool×Int×Int×Int×Int×Int) (Ad×Az)):=fun (bad,A,B1,C,D,Exp) =>
  bif (decide (Exp<y.Exp)) then ((Gx (Ac.mk A B1 C D)).bind fun r_1 =>
  (Dt (Az.mk bad) r_1).bind fun (r_2,m1) =>
  some (.nx (m1.bad,r_2.A,r_2.B,r_2.C,r_2.D,(IntKind.i64.wrap (Exp+1))))) else (some (.br (bad,A,B1,C,D,Exp)))
def Cj (c:Az) (x:Ad) (y:Ad):Option (Ad×Az) :=
  (whX (DS y) fuel (c.bad,x.Num.A,x.Num.B,x.Num.C,x.Num.D,x.Exp)).bind<|orR fun (bad,A,B1,C,D,Exp) =>
  (whX (Fy Exp bad A C D) fuel (bad,y.Num.A,y.Num.B,y.Num.C,y.Num.D,y.Exp)).bind<|orR fun (bad1,A1,B2,C1,D1,Exp1) =>
  (Hr (Ac.mk A B1 C D) (Ac.mk A1 B2 C1 D1)).bind fun r_5 =>
  (Dt (Az.mk bad1) r_5).bind fun (r_6,m3) =>
  (EY r_6 Exp).bind fun r_7 =>
  some ((r_7,m3))

def EI (a:Ag) (Cells:List Ad) (i1:Nat) (b:Ag) (j:Nat) (bad:Bool):(Bool×Int×Int×Int×Int×Int×Int)→Option (Ex (Bool×Int×Int×Int×Int×Int×Int) (Bool×List Ad)):=fun (bad2,A,B6,C,D,Exp,K126) =>
  bif ((decide (K126<a.Cols))&&(!bad2)) then ((getI a.Cells (IntKind.i64.wrap ((IntKind.i64.wrap ((i1:Int)*a.Cols))+K126))).bind fun x =>
  (getI b.Cells (IntKind.i64.wrap ((IntKind.i64.wrap (K126*b.Cols))+(j:Int)))).bind fun x1 =>
  (Cn (Az.mk bad2) x x1).bind fun (r_1,m1) =>
  (Cj m1 (Ad.mk (Ac.mk A B6 C D) Exp) r_1).bind fun (r_2,m2) =>
  some (.nx (m2.bad,r_2.Num.A,r_2.Num.B,r_2.Num.C,r_2.Num.D,r_2.Exp,(IntKind.i64.wrap (K126+1))))) else (some (.br (bad2,A,B6,C,D,Exp,K126)))
def He (a:Ag) (Cells:List Ad) (i1:Nat) (b:Ag) (bad:Bool):Nat→(Bool×List Ad)→Option (Bool×List Ad):=fun j (bad1,Cells1) =>
  (whX (EI a Cells i1 b j bad) fuel (bad1,0,0,0,0,0,0)).bind<|orR fun (bad2,A,B6,C,D,Exp,K126) =>
  chk (Cells1.length+1≤1099511627776) <|
  some (bad2,(Cells1++[(Ad.mk (Ac.mk A B6 C D) Exp)]))
def Hf (b:Ag) (a:Ag):Nat→(Bool×List Ad)→Option (Bool×List Ad):=fun i1 (bad,Cells) =>
  chk (b.Cols.toNat≤9223372036854775807) <|
  (forN (He a Cells i1 b bad) b.Cols.toNat 0 (bad,Cells)).bind fun (bad1,Cells1) =>
  some (bad1,Cells1)
def HI (c:Az) (a:Ag) (b:Ag):Option (Ag×Az) :=
  chk (a.Rows.toNat≤9223372036854775807) <|
  (forN (Hf b a) a.Rows.toNat 0 (c.bad,[])).bind fun (bad,Cells) =>
  some (((Ag.mk a.Rows b.Cols Cells),(Az.mk bad)))

def CO (n:Int) (k_:Int) (q:Int):Option (Int) :=
  chk ((0:Int)≤(IntKind.u64.wrap (IntKind.i64.wrap ((IntKind.i64.wrap (n-1))-q)))) <|
  some ((bits .and .i64 (shrK .i64 k_ (IntKind.u64.wrap (IntKind.i64.wrap ((IntKind.i64.wrap (n-1))-q)))) 1))

def PP (x:Ac):Option (Ac) :=
  some ((Ac.mk (IntKind.i64.wrap (-x.A)) (IntKind.i64.wrap (-x.B)) (IntKind.i64.wrap (-x.C)) (IntKind.i64.wrap (-x.D))))

def T8 (x:Ad):Option (Ad) :=
  (PP x.Num).bind fun r_1 =>
  some ((Ad.mk r_1 x.Exp))

def JS (kind:Int):Option (List Ad) :=
  (AY 0).bind fun r_1 =>
  bif (kind==1) then ((T8 (Ad.mk (Ac.mk 1 0 0 0) 1)).bind fun r_2 =>
  some ([(Ad.mk (Ac.mk 1 0 0 0) 1),(Ad.mk (Ac.mk 1 0 0 0) 1),(Ad.mk (Ac.mk 1 0 0 0) 1),r_2])) else (bif (kind==2) then (some ([(Ad.mk (Ac.mk 0 0 0 0) 0),r_1,r_1,(Ad.mk (Ac.mk 0 0 0 0) 0)])) else (bif (kind==3) then ((AY 6).bind fun r_3 =>
  (AY 2).bind fun r_4 =>
  some ([(Ad.mk (Ac.mk 0 0 0 0) 0),r_3,r_4,(Ad.mk (Ac.mk 0 0 0 0) 0)])) else ((getI [4,2,6,1,7] (IntKind.i64.wrap (kind-4))).bind fun x =>
  (AY x).bind fun r_5 =>
  some ([r_1,(Ad.mk (Ac.mk 0 0 0 0) 0),(Ad.mk (Ac.mk 0 0 0 0) 0),r_5]))))

def DN (n:Int) (g:Ab) (row:Int) (col:Int):Option (Ad) :=
  (AY 0).bind fun r_1 =>
  ((bif (g.Kind==12) then ((AY 1).bind fun r_2 =>
  some (.inl (r_2.Num.A,r_2.Num.B,r_2.Num.C,r_2.Num.D,r_2.Exp,col))) else (bif (g.Kind==9) then ((CO n col g.A).bind fun r_3 =>
  bif (r_3==1) then (chk ((0:Int)≤(IntKind.u64.wrap (IntKind.i64.wrap ((IntKind.i64.wrap (n-1))-g.B)))) <|
  some (.inl (r_1.Num.A,r_1.Num.B,r_1.Num.C,r_1.Num.D,r_1.Exp,(bits .xor .i64 col (shlK .i64 1 (IntKind.u64.wrap (IntKind.i64.wrap ((IntKind.i64.wrap (n-1))-g.B)))))))) else (some (.inl (r_1.Num.A,r_1.Num.B,r_1.Num.C,r_1.Num.D,r_1.Exp,col)))) else (bif (g.Kind==10) then ((CO n col g.A).bind fun r_4 =>
  (gb (r_4==1) 0 (CO n col g.B)).bind fun r_5 =>
  bif ((r_4==1)&&(r_5==1)) then ((AY 4).bind fun r_6 =>
  some (.inl (r_6.Num.A,r_6.Num.B,r_6.Num.C,r_6.Num.D,r_6.Exp,col))) else (some (.inl (r_1.Num.A,r_1.Num.B,r_1.Num.C,r_1.Num.D,r_1.Exp,col)))) else (bif (g.Kind==11) then ((CO n col g.A).bind fun r_7 =>
  (CO n col g.B).bind fun r_8 =>
  bif (r_7 != r_8) then (chk ((0:Int)≤(IntKind.u64.wrap (IntKind.i64.wrap ((IntKind.i64.wrap (n-1))-g.A)))) <|
  chk ((0:Int)≤(IntKind.u64.wrap (IntKind.i64.wrap ((IntKind.i64.wrap (n-1))-g.B)))) <|
  some (.inl (r_1.Num.A,r_1.Num.B,r_1.Num.C,r_1.Num.D,r_1.Exp,(bits .xor .i64 (bits .xor .i64 col (shlK .i64 1 (IntKind.u64.wrap (IntKind.i64.wrap ((IntKind.i64.wrap (n-1))-g.A))))) (shlK .i64 1 (IntKind.u64.wrap (IntKind.i64.wrap ((IntKind.i64.wrap (n-1))-g.B)))))))) else (some (.inl (r_1.Num.A,r_1.Num.B,r_1.Num.C,r_1.Num.D,r_1.Exp,col)))) else (chk ((0:Int)≤(IntKind.u64.wrap (IntKind.i64.wrap ((IntKind.i64.wrap (n-1))-g.A)))) <|
  bif ((bits .andNot .i64 (bits .xor .i64 row col) (shlK .i64 1 (IntKind.u64.wrap (IntKind.i64.wrap ((IntKind.i64.wrap (n-1))-g.A))))) != 0) then (some (.inr (Ad.mk (Ac.mk 0 0 0 0) 0))) else ((JS g.Kind).bind fun r_9 =>
  (CO n row g.A).bind fun r_10 =>
  (CO n col g.A).bind fun r_11 =>
  (getI r_9 (IntKind.i64.wrap ((IntKind.i64.wrap (2*r_10))+r_11))).bind fun x =>
  some (.inr x))))))):Option ((Int×Int×Int×Int×Int×Int) ⊕ (Ad))).bind<|orR fun (A,B,C,D,Exp,to_) =>
  bif (row==to_) then (some ((Ad.mk (Ac.mk A B C D) Exp))) else (some ((Ad.mk (Ac.mk 0 0 0 0) 0)))

def I4 (n:Int) (g:Ab) (i1:Nat):Nat→(List Ad)→Option (List Ad):=fun j Cells1 =>
  (DN n g (i1:Int) (j:Int)).bind fun r_1 =>
  chk (Cells1.length+1≤1099511627776) <|
  some (Cells1++[r_1])
def Jo (n:Int) (g:Ab):Nat→(List Ad)→Option (List Ad):=fun i1 Cells =>
  chk (((shlK .i64 1 (IntKind.u64.wrap n)).toNat)≤9223372036854775807) <|
  (forN (I4 n g i1) ((shlK .i64 1 (IntKind.u64.wrap n)).toNat) 0 Cells).bind fun Cells1 =>
  some Cells1
def Gn (n:Int) (g:Ab):Option (Ag) :=
  chk ((0:Int)≤(IntKind.u64.wrap n)) <|
  chk (((shlK .i64 1 (IntKind.u64.wrap n)).toNat)≤9223372036854775807) <|
  (forN (Jo n g) ((shlK .i64 1 (IntKind.u64.wrap n)).toNat) 0 []).bind fun Cells =>
  some ((Ag.mk (shlK .i64 1 (IntKind.u64.wrap n)) (shlK .i64 1 (IntKind.u64.wrap n)) Cells))

def GX (x:Aj):Nat→(Bool×Int×Int×List Ad)→Option (Bool×Int×Int×List Ad):=fun i (bad,Rows,Cols,Cells) =>
  (((getI x.Gates (i:Int)).bind fun x1 =>
  bif (!bad) then ((Gn x.Qubits x1).bind fun r_1 =>
  (HI (Az.mk bad) r_1 (Ag.mk Rows Cols Cells)).bind fun (r_2,m2) =>
  some (m2.bad,r_2.Rows,r_2.Cols,r_2.Cells)) else (some (bad,Rows,Cols,Cells))):Option (Bool×Int×Int×List Ad)).bind fun (bad1,Rows1,Cols1,Cells1) =>
  some (bad1,Rows1,Cols1,Cells1)
def Hx (c:Az) (x:Aj) (m:Ag):Option (Ag×Az) :=
  chk (x.Gates.length≤9223372036854775807) <|
  (forN (GX x) x.Gates.length 0 (c.bad,m.Rows,m.Cols,m.Cells)).bind fun (bad,Rows,Cols,Cells) =>
  some (((Ag.mk Rows Cols Cells),(Az.mk bad)))

def Lp (c:Aj):Option (Ag×Bool) :=
  (Ef c).bind fun r_2 =>
  bif (!r_2) then (some (((Ag.mk 0 0 []),false))) else (chk ((0:Int)≤(IntKind.u64.wrap c.Qubits)) <|
  (Mx (shlK .i64 1 (IntKind.u64.wrap c.Qubits))).bind fun r_3 =>
  (Hx (Az.mk false) c r_3).bind fun (r_4,m) =>
  (NC m r_4).bind fun (r_5,r_6) =>
  some ((r_5,r_6)))
end Go.VK
