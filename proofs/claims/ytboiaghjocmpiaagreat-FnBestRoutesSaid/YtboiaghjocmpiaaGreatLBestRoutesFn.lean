/- What each Go function computes, by program. -/
import Derived.Test.YtboiaghjocmpiaaGreatLBestRoutesTy
set_option linter.unusedVariables false
namespace Go.VK
open Go.RowKit
def Ea (c:Ag):Option (Int×Ag) :=
  ((bif (decide (c.at_<(c.code.length:Int))) then ((getI c.code c.at_).bind fun x =>
  some (IntKind.i64.wrap x)) else (some 0)):Option (Int)).bind fun b =>
  bif (decide ((IntKind.i64.wrap (c.at_+1))≤(c.code.length:Int))) then (some ((b,(Ag.mk c.code (IntKind.i64.wrap (c.at_+1)) (IntKind.u64.wrap ((IntKind.u64.wrap ((IntKind.u64.wrap (c.seed*6364136223846793005))+(IntKind.u64.wrap b)))+1442695040888963407)))))) else (some (((IntKind.i64.wrap (bits .and .u64 (shrK .u64 (IntKind.u64.wrap ((IntKind.u64.wrap ((IntKind.u64.wrap (c.seed*6364136223846793005))+(IntKind.u64.wrap b)))+1442695040888963407)) 40) 255)),(Ag.mk c.code (IntKind.i64.wrap (c.at_+1)) (IntKind.u64.wrap ((IntKind.u64.wrap ((IntKind.u64.wrap (c.seed*6364136223846793005))+(IntKind.u64.wrap b)))+1442695040888963407))))))

def AD (c:Ag) (n1:Int):Option (Int×Ag) :=
  bif (decide (n1≤1)) then (some ((0,c))) else ((Ea c).bind fun (r_1,m1) =>
  ((bif (decide (200<n1)) then ((Ea (Ag.mk c.code m1.at_ m1.seed)).bind fun (r_2,m2) =>
  some (m2.at_,m2.seed,(IntKind.i64.wrap ((IntKind.i64.wrap (r_1*256))+r_2)))) else (some (m1.at_,m1.seed,r_1))):Option (Int×Int×Int)).bind fun (at_,seed,x) =>
  chk (n1≠(0:Int)) <|
  some (((Int.tmod x n1),(Ag.mk c.code at_ seed))))

def AF (n:Int) (lo:Int) (hi:Int):Option (Bool) :=
  some (((decide (lo≤n))&&(decide (n≤hi))))

def FI (c:Ag) (n1:Int) (kinds:List Int):Option (Ac×Ag) :=
  (AD c (kinds.length:Int)).bind fun (r_1,m1) =>
  (getI kinds r_1).bind fun x =>
  bif (x==12) then (some (((Ac.mk x 0 0),(Ag.mk c.code m1.at_ m1.seed)))) else ((AD (Ag.mk c.code m1.at_ m1.seed) n1).bind fun (r_2,m2) =>
  (((AF x 9 11).bind fun r_3 =>
  bif r_3 then (bif (n1==1) then (some (.inr ((Ac.mk 1 0 0),(Ag.mk c.code m2.at_ m2.seed)))) else ((AD (Ag.mk c.code m2.at_ m2.seed) (IntKind.i64.wrap (n1-1))).bind fun (r_4,m3) =>
  chk (n1≠(0:Int)) <|
  some (.inl (m3.at_,m3.seed,(Int.tmod (IntKind.i64.wrap ((IntKind.i64.wrap (r_2+1))+r_4)) n1))))) else (some (.inl (m2.at_,m2.seed,0)))):Option ((Int×Int×Int) ⊕ (Ac×Ag))).bind<|orR fun (at_,seed,B3) =>
  some (((Ac.mk x r_2 B3),(Ag.mk c.code at_ seed))))

def GU (c:Ag) (n1:Int) (kinds:List Int):(Int×Int×List Ac×Int)→Option (Ex (Int×Int×List Ac×Int) (Ad×Ag)):=fun (at_,seed,Gates,k_) =>
  bif (decide (0<k_)) then ((FI (Ag.mk c.code at_ seed) n1 kinds).bind fun (r_2,m2) =>
  chk (Gates.length+1≤1099511627776) <|
  some (.nx (m2.at_,m2.seed,(Gates++[r_2]),(IntKind.i64.wrap (k_-1))))) else (some (.br (at_,seed,Gates,k_)))
def Cn (c:Ag) (n1:Int) (most:Int) (kinds:List Int):Option (Ad×Ag) :=
  (AD c (IntKind.i64.wrap (most+1))).bind fun (r_1,m1) =>
  (whX (GU c n1 kinds) fuel (m1.at_,m1.seed,[],r_1)).bind<|orR fun (at_,seed,Gates,k_) =>
  some (((Ad.mk n1 Gates),(Ag.mk c.code at_ seed)))

def Cb (c:Ag) (n1:Int):Option (Bool×Ag) :=
  (AD c n1).bind fun (r_1,m1) =>
  some (((r_1==0),(Ag.mk c.code m1.at_ m1.seed)))

def Kc (n:Int):(List Ah×Int)→Option (Ex (List Ah×Int) (Ae×Bool)):=fun (Edges,i) =>
  bif (decide ((IntKind.i64.wrap (i+1))<n)) then (chk (Edges.length+1≤1099511627776) <|
  some (.nx ((Edges++[(Ah.mk i (IntKind.i64.wrap (i+1)))]),(IntKind.i64.wrap (i+1))))) else (some (.br (Edges,i)))
def Ep (n:Int):Option (Ae×Bool) :=
  (AF n 1 8).bind fun r_2 =>
  bif (!r_2) then (some (((Ae.mk 0 []),false))) else ((whX (Kc n) fuel ([],0)).bind<|orR fun (Edges,i) =>
  some (((Ae.mk n Edges),true)))

def Le (n:Int) (a:Nat):(List Ah×Int)→Option (Ex (List Ah×Int) (List Ah)):=fun (Edges1,b2) =>
  bif (decide (b2<n)) then (((bif ((b2==(IntKind.i64.wrap ((a:Int)+1)))||(((a:Int)==0)&&(b2==(IntKind.i64.wrap (n-1))))) then (chk (Edges1.length+1≤1099511627776) <|
  some (Edges1++[(Ah.mk (a:Int) b2)])) else (some Edges1)):Option (List Ah)).bind fun Edges2 =>
  some (.nx (Edges2,(IntKind.i64.wrap (b2+1))))) else (some (.br (Edges1,b2)))
def Kg (n:Int):Nat→(List Ah)→Option (List Ah):=fun a Edges =>
  (whX (Le n a) fuel (Edges,(IntKind.i64.wrap ((a:Int)+1)))).bind<|orR fun (Edges1,b2) =>
  some Edges1
def Di (n:Int):Option (Ae×Bool) :=
  (AF n 3 8).bind fun r_2 =>
  bif (!r_2) then (some (((Ae.mk 0 []),false))) else (chk (n.toNat≤9223372036854775807) <|
  (forN (Kg n) n.toNat 0 []).bind fun Edges =>
  some (((Ae.mk n Edges),true)))

def Gj (pairs:List (List Int)) (a:Nat) (b:Int):Nat→(List Ah)→Option (Ex (List Ah) (Ex (List Ah×Int) (List Ah))):=fun i1 out3 =>
  (getI pairs (i1:Int)).bind fun x =>
  bif ((((x.getD 0 0)==(a:Int))&&(((x.getD 1 0)==b)&&true))||(((x.getD 0 0)==b)&&(((x.getD 1 0)==(a:Int))&&true))) then (chk (out3.length+1≤1099511627776) <|
  some (.br (out3++[(Ah.mk (a:Int) b)]))) else (some (.nx out3))
def Gu (nodes:Int) (pairs:List (List Int)) (a:Nat):(List Ah×Int)→Option (Ex (List Ah×Int) (List Ah)):=fun (out1,b) =>
  bif (decide (b<nodes)) then (chk (pairs.length≤9223372036854775807) <|
  (forX (Gj pairs a b) pairs.length 0 out1).bind<|orR fun out2 =>
  some (.nx (out2,(IntKind.i64.wrap (b+1))))) else (some (.br (out1,b)))
def Hk (nodes:Int) (pairs:List (List Int)):Nat→(List Ah)→Option (List Ah):=fun a out =>
  (whX (Gu nodes pairs a) fuel (out,(IntKind.i64.wrap ((a:Int)+1)))).bind<|orR fun (out1,b) =>
  some out1
def Fh (nodes:Int) (pairs:List (List Int)):Option (List Ah) :=
  chk (nodes.toNat≤9223372036854775807) <|
  (forN (Hk nodes pairs) nodes.toNat 0 []).bind fun out =>
  some (out)

def H3 (lo:Int) (r_1:Int) (c:Ag):(Int×Int×List (List Int)×Int)→Option (Ex (Int×Int×List (List Int)×Int) (Int×Int×List Ah)):=fun (at_2,seed2,pairs,a) =>
  bif (decide (a<(IntKind.i64.wrap (lo+r_1)))) then ((AD (Ag.mk c.code at_2 seed2) a).bind fun (r_8,m4) =>
  chk (pairs.length+1≤1099511627776) <|
  some (.nx (m4.at_,m4.seed,(pairs++[([r_8,a]:List Int)]),(IntKind.i64.wrap (a+1))))) else (some (.br (at_2,seed2,pairs,a)))
def CY (c:Ag) (lo:Int) (hi:Int):Option (Ae×Ag) :=
  (AD c (IntKind.i64.wrap ((IntKind.i64.wrap (hi-lo))+1))).bind fun (r_1,m1) =>
  (Ep (IntKind.i64.wrap (lo+r_1))).bind fun (r_2,r_3) =>
  ((bif (decide (3≤(IntKind.i64.wrap (lo+r_1)))) then ((Cb (Ag.mk c.code m1.at_ m1.seed) 4).bind fun (r_4,m2) =>
  bif r_4 then ((Di (IntKind.i64.wrap (lo+r_1))).bind fun (r_5,r_6) =>
  some (m2.at_,m2.seed,r_5.Nodes,r_5.Edges)) else (some (m2.at_,m2.seed,r_2.Nodes,r_2.Edges))) else (some (m1.at_,m1.seed,r_2.Nodes,r_2.Edges))):Option (Int×Int×Int×List Ah)).bind fun (at_,seed,Nodes,Edges) =>
  (((Cb (Ag.mk c.code at_ seed) 3).bind fun (r_7,m3) =>
  bif r_7 then ((whX (H3 lo r_1 c) fuel (m3.at_,m3.seed,[],1)).bind<|orR fun (at_2,seed2,pairs,a) =>
  (((Cb (Ag.mk c.code at_2 seed2) 3).bind fun (r_9,m5) =>
  bif r_9 then ((AD (Ag.mk c.code m5.at_ m5.seed) (IntKind.i64.wrap (lo+r_1))).bind fun (r_10,m6) =>
  (AD (Ag.mk c.code m6.at_ m6.seed) (IntKind.i64.wrap (lo+r_1))).bind fun (r_11,m7) =>
  chk (pairs.length+1≤1099511627776) <|
  some (m7.at_,m7.seed,(pairs++[([r_10,r_11]:List Int)]))) else (some (m5.at_,m5.seed,pairs))):Option (Int×Int×List (List Int))).bind fun (at_3,seed3,pairs1) =>
  ((bif (decide (0<(pairs1.length:Int))) then ((Cb (Ag.mk c.code at_3 seed3) 6).bind fun (r_12,m8) =>
  bif r_12 then (chk ((0:Int)≤1∧1≤(pairs1.length:Int)) <|
  some (m8.at_,m8.seed,(List.drop 1 pairs1))) else (some (m8.at_,m8.seed,pairs1))) else (some (at_3,seed3,pairs1))):Option (Int×Int×List (List Int))).bind fun (at_4,seed4,pairs2) =>
  (Fh (IntKind.i64.wrap (lo+r_1)) pairs2).bind fun r_13 =>
  some (at_4,seed4,r_13)) else (some (m3.at_,m3.seed,Edges))):Option (Int×Int×List Ah)).bind fun (at_1,seed1,Edges1) =>
  some (((Ae.mk Nodes Edges1),(Ag.mk c.code at_1 seed1)))

def HU (l:List Int) (n1:Int):Nat→Unit→Option (Ex (Unit) (Bool)):=fun i _ =>
  (getI l (i:Int)).bind fun x =>
  bif (x==n1) then (some (.rt true)) else (some (.nx ()))
def Ce (l:List Int) (n1:Int):Option (Bool) :=
  chk (l.length≤9223372036854775807) <|
  (forX (HU l n1) l.length 0 ()).bind<|orR fun _ =>
  some (false)

def E0 (c:Ag) (list:List Int):Option (Int×Ag) :=
  (AD c (list.length:Int)).bind fun (r_1,m1) =>
  (getI list r_1).bind fun x =>
  some ((x,(Ag.mk c.code m1.at_ m1.seed)))

def FJ (c:Ag):Option (Ad×Ag) :=
  (E0 c [1,2,2,3]).bind fun (r_1,m1) =>
  (Cn (Ag.mk c.code m1.at_ m1.seed) r_1 8 [1,2,3,4,5,6,7,8,9,9,10,11,12,7,1]).bind fun (r_2,m2) =>
  some ((r_2,(Ag.mk c.code m2.at_ m2.seed)))

def FB (c:Ag):Option (Ad×Ag) :=
  (FJ c).bind fun (r_1,m1) =>
  (((AD (Ag.mk c.code m1.at_ m1.seed) 14).bind fun (r_2,m2) =>
  bif (r_2==0) then ((E0 (Ag.mk c.code m2.at_ m2.seed) [0,1,5,6]).bind fun (r_3,m3) =>
  some (m3.at_,m3.seed,r_3,r_1.Gates)) else (bif (r_2==1) then ((AD (Ag.mk c.code m2.at_ m2.seed) 14).bind fun (r_4,m4) =>
  (AD (Ag.mk c.code m4.at_ m4.seed) 4).bind fun (r_5,m5) =>
  (AD (Ag.mk c.code m5.at_ m5.seed) 4).bind fun (r_6,m6) =>
  chk (r_1.Gates.length+1≤1099511627776) <|
  some (m6.at_,m6.seed,r_1.Qubits,(r_1.Gates++[(Ac.mk r_4 (IntKind.i64.wrap (r_5-1)) (IntKind.i64.wrap (r_6-1)))]))) else (some (m2.at_,m2.seed,r_1.Qubits,r_1.Gates)))):Option (Int×Int×Int×List Ac)).bind fun (at_,seed,Qubits,Gates) =>
  some (((Ad.mk Qubits Gates),(Ag.mk c.code at_ seed)))

def Gm (start:List Int) (r_5:Ae):Int→Option (Ex (Int) (Int×Int×List Int)):=fun K11 =>
  (Ce start K11).bind fun r_7 =>
  bif r_7 then (chk (r_5.Nodes≠(0:Int)) <|
  some (.nx (Int.tmod (IntKind.i64.wrap (K11+1)) r_5.Nodes))) else (some (.br K11))
def GM (c:Ag) (r_5:Ae):Nat→(Int×Int×List Int)→Option (Int×Int×List Int):=fun q (at_,seed,start) =>
  (AD (Ag.mk c.code at_ seed) r_5.Nodes).bind fun (r_6,m4) =>
  (whX (Gm start r_5) fuel r_6).bind<|orR fun K11 =>
  chk (start.length+1≤1099511627776) <|
  some (m4.at_,m4.seed,(start++[K11]))
def DG (c:Ag):Option (Ae×Ad×List Int×Ag) :=
  (AD c 3).bind fun (r_3,m1) =>
  (Cn (Ag.mk c.code m1.at_ m1.seed) (IntKind.i64.wrap (2+r_3)) 9 [1,7,9,9,9,9,10,11,12]).bind fun (r_4,m2) =>
  (CY (Ag.mk c.code m2.at_ m2.seed) (IntKind.i64.wrap (2+r_3)) 5).bind fun (r_5,m3) =>
  chk (((IntKind.i64.wrap (2+r_3)).toNat)≤9223372036854775807) <|
  (forN (GM c r_5) ((IntKind.i64.wrap (2+r_3)).toNat) 0 (m3.at_,m3.seed,[])).bind fun (at_,seed,start) =>
  (((AD (Ag.mk c.code at_ seed) 16).bind fun (r_8,m5) =>
  bif (r_8==0) then ((FB (Ag.mk c.code m5.at_ m5.seed)).bind fun (r_9,m6) =>
  some (m6.at_,m6.seed,r_9.Qubits,r_9.Gates,r_5.Edges,start)) else (bif (r_8==1) then ((AD (Ag.mk c.code m5.at_ m5.seed) 4).bind fun (r_10,m7) =>
  (AD (Ag.mk c.code m7.at_ m7.seed) 6).bind fun (r_11,m8) =>
  chk (r_5.Edges.length+1≤1099511627776) <|
  some (m8.at_,m8.seed,r_4.Qubits,r_4.Gates,(r_5.Edges++[(Ah.mk r_10 r_11)]),start)) else (bif (r_8==2) then ((AD (Ag.mk c.code m5.at_ m5.seed) (IntKind.i64.wrap (2+r_3))).bind fun (r_12,m9) =>
  (AD (Ag.mk c.code m9.at_ m9.seed) 7).bind fun (r_13,m10) =>
  (getI start r_12).bind fun x =>
  some (m10.at_,m10.seed,r_4.Qubits,r_4.Gates,r_5.Edges,(start.set r_12.toNat (IntKind.i64.wrap (r_13-1))))) else (bif (r_8==3) then (chk ((0:Int)≤1∧1≤(start.length:Int)) <|
  some (m5.at_,m5.seed,r_4.Qubits,r_4.Gates,r_5.Edges,(List.drop 1 start))) else (some (m5.at_,m5.seed,r_4.Qubits,r_4.Gates,r_5.Edges,start)))))):Option (Int×Int×Int×List Ac×List Ah×List Int)).bind fun (at_1,seed1,Qubits,Gates,Edges,start1) =>
  some (((Ae.mk r_5.Nodes Edges),(Ad.mk Qubits Gates),start1,(Ag.mk c.code at_1 seed1)))

def Hi:(List Ac×Int)→Option (Ex (List Ac×Int) (Ae×Ad×List Int)):=fun (Gates,k_) =>
  bif (decide (0<k_)) then (chk (Gates.length+1≤1099511627776) <|
  some (.nx ((Gates++[(Ac.mk 10 (Int.tmod k_ 2) (IntKind.i64.wrap (1-(Int.tmod k_ 2))))]),(IntKind.i64.wrap (k_-1))))) else (some (.br (Gates,k_)))
def Gg (code:List Int):Option (Ae×Ad×List Int) :=
  (Cb (Ag.mk code 0 0) 14).bind fun (r_3,m) =>
  bif r_3 then ((Cn (Ag.mk code m.at_ m.seed) 2 9 [7,9]).bind fun (r_4,m1) =>
  (AD (Ag.mk code m1.at_ m1.seed) 6).bind fun (r_5,m2) =>
  (whX Hi fuel (r_4.Gates,(IntKind.i64.wrap (5+r_5)))).bind<|orR fun (Gates,k_) =>
  (CY (Ag.mk code m2.at_ m2.seed) 2 6).bind fun (r_6,m3) =>
  some ((r_6,(Ad.mk r_4.Qubits Gates),[0,(IntKind.i64.wrap (r_6.Nodes-1))]))) else ((DG (Ag.mk code m.at_ m.seed)).bind fun (r_7,r_8,r_9,m4) =>
  some ((r_7,r_8,r_9)))

def FG (code:List Int):Option (Ae×Ad) :=
  (Gg code).bind fun (r_2,r_3,r_4) =>
  some ((r_2,r_3))

def A2 (n:Int) (low:Int) (high:Int):Option (Bool) :=
  some (((decide (low≤n))&&(decide (n≤high))))

def Fb (edges:List Ah) (n:Int):Nat→Unit→Option (Ex (Unit) (Bool)):=fun i _ =>
  (getI edges (i:Int)).bind fun x =>
  (gb ((!(((decide (x.A<0))||(decide (x.B≤x.A)))||(decide (n≤x.B))))&&(decide (0<(i:Int)))) (Ah.mk 0 0) (getI edges (IntKind.i64.wrap ((i:Int)-1)))).bind fun x1 =>
  (gb (((!(((decide (x.A<0))||(decide (x.B≤x.A)))||(decide (n≤x.B))))&&(decide (0<(i:Int))))&&(!(decide (x.A<x1.A)))) (Ah.mk 0 0) (getI edges (IntKind.i64.wrap ((i:Int)-1)))).bind fun x2 =>
  (gb ((((!(((decide (x.A<0))||(decide (x.B≤x.A)))||(decide (n≤x.B))))&&(decide (0<(i:Int))))&&(!(decide (x.A<x1.A))))&&(x2.A==x.A)) (Ah.mk 0 0) (getI edges (IntKind.i64.wrap ((i:Int)-1)))).bind fun x3 =>
  bif ((((decide (x.A<0))||(decide (x.B≤x.A)))||(decide (n≤x.B)))||((decide (0<(i:Int)))&&((decide (x.A<x1.A))||((x2.A==x.A)&&(decide (x.B≤x3.B)))))) then (some (.rt false)) else (some (.nx ()))
def G1 (n:Int) (edges:List Ah):Option (Bool) :=
  chk (edges.length≤9223372036854775807) <|
  (forX (Fb edges n) edges.length 0 ()).bind<|orR fun _ =>
  some (true)

def Ck (g:Ae):Option (Bool) :=
  (A2 g.Nodes 1 8).bind fun r_1 =>
  (gb r_1 false (G1 g.Nodes g.Edges)).bind fun r_2 =>
  some ((r_1&&r_2))

def Ed (s:List Ac) (f_:Ac→Option (Bool)):Nat→Unit→Option (Ex (Unit) (Int)):=fun i _ =>
  (getI s (i:Int)).bind fun x1 =>
  (f_ x1).bind fun r_1 =>
  bif r_1 then (some (.rt (i:Int))) else (some (.nx ()))
def Fq (s:List Ac) (f_:Ac→Option (Bool)):Option (Int) :=
  chk (s.length≤9223372036854775807) <|
  (forX (Ed s f_) s.length 0 ()).bind<|orR fun _ =>
  some ((-1))

def Du (s:List Ac) (f_:Ac→Option (Bool)):Option (Bool) :=
  (Fq s f_).bind fun r_1 =>
  some ((decide (0≤r_1)))

def AX (kind:Int):Option (Bool) :=
  (A2 kind 9 11).bind fun r_1 =>
  some (r_1)

def C7 (n:Int) (g:Ac):Option (Bool) :=
  (A2 n 1 5).bind fun r_1 =>
  (gb (!(!r_1)) false (A2 g.Kind 1 12)).bind fun r_2 =>
  bif ((!r_1)||(!r_2)) then (some (false)) else (bif (g.Kind==12) then (some (((g.A==0)&&(g.B==0)))) else ((AX g.Kind).bind fun r_3 =>
  bif r_3 then ((A2 g.A 0 (IntKind.i64.wrap (n-1))).bind fun r_4 =>
  (gb r_4 false (A2 g.B 0 (IntKind.i64.wrap (n-1)))).bind fun r_5 =>
  some (((r_4&&r_5)&&(g.A != g.B)))) else ((A2 g.A 0 (IntKind.i64.wrap (n-1))).bind fun r_6 =>
  some ((r_6&&(g.B==0))))))

def EF (g:Ac) (p:Ad):Option (Bool) :=
  (C7 p.Qubits g).bind fun r_1 =>
  some ((!r_1))

def BI (c:Ad):Option (Bool) :=
  (A2 c.Qubits 1 5).bind fun r_1 =>
  (gb (r_1&&(decide ((c.Gates.length:Int)≤400))) false (Du c.Gates (fun x_0=>EF x_0 c))).bind fun r_2 =>
  some (((r_1&&(decide ((c.Gates.length:Int)≤400)))&&(!r_2)))

def BZ (g:Ae) (c1:Ad):Option (Bool) :=
  (Ck g).bind fun r_1 =>
  (gb r_1 false (BI c1)).bind fun r_2 =>
  some (((r_1&&r_2)&&(decide (c1.Qubits≤g.Nodes))))

def H1 (c:Ad) (is_:Int→Option (Bool)):Nat→Int→Option (Int):=fun i count =>
  (((getI c.Gates (i:Int)).bind fun x1 =>
  (is_ x1.Kind).bind fun r_3 =>
  bif r_3 then (some (IntKind.i64.wrap (count+1))) else (some count)):Option (Int)).bind fun count1 =>
  some count1
def HD (c:Ad) (is_:Int→Option (Bool)):Option (Int×Bool) :=
  (BI c).bind fun r_2 =>
  bif (!r_2) then (some ((0,false))) else (chk (c.Gates.length≤9223372036854775807) <|
  (forN (H1 c is_) c.Gates.length 0 0).bind fun count =>
  some ((count,true)))

def FE (c:Ad):Option (Int×Bool) :=
  (HD c AX).bind fun (r_2,r_3) =>
  some ((r_2,r_3))

def BG (g:Ae) (c1:Ad):Option (Bool) :=
  (FE c1).bind fun (r_1,r_2) =>
  (gb r_2 false (BZ g c1)).bind fun r_3 =>
  some (((((r_2&&r_3)&&(decide (g.Nodes≤5)))&&(decide ((c1.Gates.length:Int)≤40)))&&(decide (r_1≤12))))

def Bv (s:List Int):Option (List Int) :=
  chk (0+s.length≤1099511627776) <|
  some (s)

def Cs (g:Ae) (c1:Ad) (start:List Int):Option (Ap) :=
  (Bv start).bind fun r_1 =>
  chk ((0:Int)≤(c1.Gates.length:Int)∧(c1.Gates.length:Int)≤1099511627776) <|
  some ((Ap.mk g c1 r_1 (List.replicate c1.Gates.length false)))

def Et (s:List Int) (v_:Int):Nat→Unit→Option (Ex (Unit) (Int)):=fun i _ =>
  (getI s (i:Int)).bind fun x =>
  bif (v_==x) then (some (.rt (i:Int))) else (some (.nx ()))
def C4 (s:List Int) (v_:Int):Option (Int) :=
  chk (s.length≤9223372036854775807) <|
  (forX (Et s v_) s.length 0 ()).bind<|orR fun _ =>
  some ((-1))

def BT (s:List Int) (v_:Int):Option (Bool) :=
  (C4 s v_).bind fun r_1 =>
  some ((decide (0≤r_1)))

def H5 (place:List Int) (g:Ae):Nat→Unit→Option (Ex (Unit) (Bool)):=fun i _ =>
  (getI place (i:Int)).bind fun x =>
  (A2 x 0 (IntKind.i64.wrap (g.Nodes-1))).bind fun r_1 =>
  bif (!(!r_1)) then (chk ((0:Int)≤(i:Int)∧(i:Int)≤(place.length:Int)) <|
  (BT (List.take i place) x).bind fun r_2 =>
  bif r_2 then (some (.rt false)) else (some (.nx ()))) else (some (.rt false))
def CI (g:Ae) (n1:Int) (place:List Int):Option (Bool) :=
  chk (place.length≤9223372036854775807) <|
  (forX (H5 place g) place.length 0 ()).bind<|orR fun _ =>
  some (((place.length:Int)==n1))

def Hx (s:List Int) (f_:Int→Option (Bool)):Nat→Unit→Option (Ex (Unit) (Int)):=fun i _ =>
  (getI s (i:Int)).bind fun x1 =>
  (f_ x1).bind fun r_1 =>
  bif r_1 then (some (.rt (i:Int))) else (some (.nx ()))
def Ho (s:List Int) (f_:Int→Option (Bool)):Option (Int) :=
  chk (s.length≤9223372036854775807) <|
  (forX (Hx s f_) s.length 0 ()).bind<|orR fun _ =>
  some ((-1))

def Hm (s:List Int) (f_:Int→Option (Bool)):Option (Bool) :=
  (Ho s f_).bind fun r_1 =>
  some ((decide (0≤r_1)))

def EU (g:Ac):Option (List Int) :=
  bif (g.Kind==12) then (some ([])) else ((AX g.Kind).bind fun r_1 =>
  bif r_1 then (some ([g.A,g.B])) else (some ([g.A])))

def EP (q:Int) (p:Ac):Option (Bool) :=
  (EU p).bind fun r_1 =>
  (BT r_1 q).bind fun r_2 =>
  some (r_2)

def FV (g:Ac) (h:Ac):Option (Bool) :=
  (EU g).bind fun r_1 =>
  (Hm r_1 (fun x_0=>EP x_0 h)).bind fun r_2 =>
  some (r_2)

def IQ (k_:Int) (r_:Ap):Nat→Unit→Option (Ex (Unit) (Bool)):=fun i _ =>
  (getI (List.take k_.toNat r_.c.Gates) (i:Int)).bind fun x1 =>
  (getI r_.done (i:Int)).bind fun x2 =>
  (gb (!x2) (Ac.mk 0 0 0) (getI r_.c.Gates k_)).bind fun x3 =>
  (gb (!x2) false (FV x1 x3)).bind fun r_3 =>
  bif ((!x2)&&r_3) then (some (.rt false)) else (some (.nx ()))
def DC (r_:Ap) (k_:Int):Option (Bool) :=
  (A2 k_ 0 (IntKind.i64.wrap ((r_.c.Gates.length:Int)-1))).bind fun r_2 =>
  (gb (!(!r_2)) false (getI r_.done k_)).bind fun x =>
  bif ((!r_2)||x) then (some (false)) else (chk ((0:Int)≤k_∧k_≤(r_.c.Gates.length:Int)) <|
  chk (k_.toNat≤9223372036854775807) <|
  (forX (IQ k_ r_) k_.toNat 0 ()).bind<|orR fun _ =>
  some (true))

def GV (s:List Ah) (v_:Ah):Nat→Unit→Option (Ex (Unit) (Int)):=fun i _ =>
  (getI s (i:Int)).bind fun x =>
  bif ((v_.A==x.A)&&((v_.B==x.B)&&true)) then (some (.rt (i:Int))) else (some (.nx ()))
def Gz (s:List Ah) (v_:Ah):Option (Int) :=
  chk (s.length≤9223372036854775807) <|
  (forX (GV s v_) s.length 0 ()).bind<|orR fun _ =>
  some ((-1))

def HH (s:List Ah) (v_:Ah):Option (Bool) :=
  (Gz s v_).bind fun r_1 =>
  some ((decide (0≤r_1)))

def C2 (g:Ae) (a:Int) (b:Int):Option (Bool) :=
  (HH g.Edges (Ah.mk (if b<a then b else a) (if a<b then b else a))).bind fun r_1 =>
  some (r_1)

def Dz (r_:Ap) (k_:Int):Option (Bool) :=
  (getI r_.c.Gates k_).bind fun x =>
  (AX x.Kind).bind fun r_2 =>
  (gb (!(!r_2)) 0 (getI r_.place x.A)).bind fun x1 =>
  (gb (!(!r_2)) 0 (getI r_.place x.B)).bind fun x2 =>
  (gb (!(!r_2)) false (C2 r_.g x1 x2)).bind fun r_3 =>
  some (((!r_2)||r_3))

def E6 (n:Al):(List Bool×List Ak×Int)→Option (Ex (List Bool×List Ak×Int) (Al×List Bool)):=fun (done,steps,k_) =>
  bif (decide (k_<(n.work.c.Gates.length:Int))) then ((((DC (Ap.mk n.work.g n.work.c n.work.place done) k_).bind fun r_ =>
  (gb r_ false (Dz (Ap.mk n.work.g n.work.c n.work.place done) k_)).bind fun r_1 =>
  bif (r_&&r_1) then ((getI done k_).bind fun x =>
  chk (steps.length+1≤1099511627776) <|
  some ((done.set k_.toNat true),(steps++[(Ak.mk k_ 0 0)]),(-1))) else (some (done,steps,k_))):Option (List Bool×List Ak×Int)).bind fun (done1,steps1,K22) =>
  some (.nx (done1,steps1,(IntKind.i64.wrap (K22+1))))) else (some (.br (done,steps,k_)))
def DP (n:Al):Option (Al×List Bool) :=
  (whX (E6 n) fuel (n.work.done,n.steps,0)).bind<|orR fun (done,steps,k_) =>
  some (((Al.mk (Ap.mk n.work.g n.work.c n.work.place done) steps),done))

def HN (n:Al):(Int×Int)→Option (Ex (Int×Int) (AB)):=fun (done,t) =>
  bif (decide (t<(n.work.done.length:Int))) then ((((getI n.work.done t).bind fun x =>
  bif x then (chk ((0:Int)≤t) <|
  some (bits .or .u64 done (shlK .u64 1 t))) else (some done)):Option (Int)).bind fun done1 =>
  some (.nx (done1,(IntKind.i64.wrap (t+1))))) else (some (.br (done,t)))
def CU (n:Al):Option (AB) :=
  (whX (HN n) fuel (0,0)).bind<|orR fun (done,t) =>
  some ((AB.mk ((n.work.place.getD 0 0),(n.work.place.getD 1 0),(n.work.place.getD 2 0),(n.work.place.getD 3 0),(n.work.place.getD 4 0)) done))

def HE (s:List Bool) (v_:Bool):Nat→Unit→Option (Ex (Unit) (Int)):=fun i _ =>
  (getI s (i:Int)).bind fun x =>
  bif (v_==x) then (some (.rt (i:Int))) else (some (.nx ()))
def Hz (s:List Bool) (v_:Bool):Option (Int) :=
  chk (s.length≤9223372036854775807) <|
  (forX (HE s v_) s.length 0 ()).bind<|orR fun _ =>
  some ((-1))

def Co (s:List Bool) (v_:Bool):Option (Bool) :=
  (Hz s v_).bind fun r_1 =>
  some ((decide (0≤r_1)))

def Hl (a:Int) (b:Int):Nat→(List Int)→Option (List Int):=fun i m1 =>
  (((getI m1 (i:Int)).bind fun x =>
  bif (x==a) then (some (m1.set (i:Int).toNat b)) else (bif (x==b) then (some (m1.set (i:Int).toNat a)) else (some m1))):Option (List Int)).bind fun m2 =>
  some m2
def CX (r_:Ap) (a:Int) (b:Int):Option (List Int) :=
  chk (r_.place.length≤9223372036854775807) <|
  (forN (Hl a b) r_.place.length 0 r_.place).bind fun m1 =>
  some (m1)

def F5 (s:List Bool):Option (List Bool) :=
  chk (0+s.length≤1099511627776) <|
  some (s)

def G3 (s:List Ak):Option (List Ak) :=
  chk (0+s.length≤1099511627776) <|
  some (s)

def Ez (n:Al) (e:Ah):Option (Al) :=
  (Bv n.work.place).bind fun r_1 =>
  (F5 n.work.done).bind fun r_2 =>
  (CX (Ap.mk n.work.g n.work.c r_1 r_2) e.A e.B).bind fun m =>
  (G3 n.steps).bind fun r_3 =>
  chk (r_3.length+1≤1099511627776) <|
  (DP (Al.mk (Ap.mk n.work.g n.work.c m r_2) (r_3++[(Ak.mk (-1) e.A e.B)]))).bind fun (m1,m2) =>
  some ((Al.mk (Ap.mk (Ae.mk m1.work.g.Nodes n.work.g.Edges) (Ad.mk m1.work.c.Qubits n.work.c.Gates) m m2) m1.steps))

def Do (g:Ae) (x:Al):Nat→((List (AB×Bool))×List Al)→Option ((List (AB×Bool))×List Al):=fun i1 (seen1,queue1) =>
  (((getI g.Edges (i1:Int)).bind fun x1 =>
  (Ez x x1).bind fun r_8 =>
  (CU r_8).bind fun r_9 =>
  bif (!(mgt seen1 r_9 false)) then ((CU r_8).bind fun r_10 =>
  chk (queue1.length+1≤549755813888) <|
  some ((mput seen1 r_10 true),(queue1++([r_8]:List Al)))) else (some (seen1,queue1))):Option ((List (AB×Bool))×List Al)).bind fun (seen2,queue2) =>
  some (seen2,queue2)
def Cd (start:List Int) (g:Ae):((List (AB×Bool))×List Al×Int)→Option (Ex ((List (AB×Bool))×List Al×Int) (Am×Bool)):=fun (seen,queue,at_1) =>
  bif (decide (at_1<(queue.length:Int))) then ((getI queue at_1).bind fun x =>
  (Co x.work.done false).bind fun r_6 =>
  bif (!r_6) then ((Bv start).bind fun r_7 =>
  some (.rt ((Am.mk r_7 x.steps),true))) else (chk (g.Edges.length≤9223372036854775807) <|
  (forN (Do g x) g.Edges.length 0 (seen,queue)).bind fun (seen1,queue1) =>
  some (.nx (seen1,queue1,(IntKind.i64.wrap (at_1+1)))))) else (some (.br (seen,queue,at_1)))
def Dq (g:Ae) (c1:Ad) (start:List Int):Option (Am×Bool) :=
  (BG g c1).bind fun r_2 =>
  (gb (!(!r_2)) false (CI g c1.Qubits start)).bind fun r_3 =>
  bif ((!r_2)||(!r_3)) then (some (((Am.mk [] []),false))) else ((Cs g c1 start).bind fun r_4 =>
  (DP (Al.mk r_4 [])).bind fun (m,m1) =>
  (CU (Al.mk (Ap.mk (Ae.mk m.work.g.Nodes r_4.g.Edges) (Ad.mk m.work.c.Qubits r_4.c.Gates) r_4.place m1) m.steps)).bind fun r_5 =>
  (whX (Cd start g) fuel ((mput ([]:List (AB×Bool)) r_5 true),([(Al.mk (Ap.mk (Ae.mk m.work.g.Nodes r_4.g.Edges) (Ad.mk m.work.c.Qubits r_4.c.Gates) r_4.place m1) m.steps)]:List Al),0)).bind<|orR fun (seen,queue,at_1) =>
  some (((Am.mk [] []),false)))

def BN (holds:Bool):Option (Int) :=
  bif holds then (some (1)) else (some (0))

def G5 (r_:Am):Nat→Int→Option (Int):=fun i count =>
  (getI r_.Steps (i:Int)).bind fun x =>
  (BN (x.Gate==(-1))).bind fun r_2 =>
  some (IntKind.i64.wrap (count+r_2))
def CJ (r_:Am):Option (Int) :=
  chk (r_.Steps.length≤9223372036854775807) <|
  (forN (G5 r_) r_.Steps.length 0 0).bind fun count =>
  some (count)

def Cq (g:Ae) (c1:Ad) (s:Am×Bool) (start:List Int):Option (Am×Bool) :=
  (Dq g c1 start).bind fun (r_,r_1) =>
  (gb (r_1&&(!(!s.2))) 0 (CJ r_)).bind fun r_2 =>
  (gb (r_1&&(!(!s.2))) 0 (CJ s.1)).bind fun r_3 =>
  bif (r_1&&((!s.2)||(decide (r_2<r_3)))) then (some (r_,true)) else (some s)
def CZ (g:Ae) (c1:Ad) (n count:Int):Nat→List Int→(Am×Bool)→Option (Am×Bool)
  | 0,_,_=>none
  | d+1,list,s =>
    bif ((list.length:Int)==count) then ((Bv list).bind fun st=>Cq g c1 s st) else
    (chk (n.toNat≤9223372036854775807) <|
    (forN (fun i s1=>(BT list (i:Int)).bind fun r =>
      bif (!r) then (chk (list.length+1≤1099511627776)<|CZ g c1 n count d (list++[(i:Int)]) s1) else (some s1)) n.toNat 0 s))
def Eh (g:Ae) (c1:Ad):Option (Am×Bool) :=
  (BG g c1).bind fun r_2 =>
  bif (!r_2) then (some (((Am.mk [] []),false))) else (CZ g c1 g.Nodes c1.Qubits fuel [] ((Am.mk [] []),false))

def DJ (g:Ac):Option (Bool) :=
  some ((((g.Kind==9)||(g.Kind==10))||(g.Kind==11)))

def DU (g:Ae):Nat→Unit→Option (Ex (Unit) (Bool)):=fun i _ =>
  (getI g.Edges (i:Int)).bind fun x =>
  (AF x.A 0 (IntKind.i64.wrap (x.B-1))).bind fun r_1 =>
  (gb (!(!r_1)) false (AF x.B 0 (IntKind.i64.wrap (g.Nodes-1)))).bind fun r_2 =>
  bif ((!r_1)||(!r_2)) then (some (.rt false)) else ((gb (decide (0<(i:Int))) (Ah.mk 0 0) (getI g.Edges (IntKind.i64.wrap ((i:Int)-1)))).bind fun x1 =>
  (gb ((decide (0<(i:Int)))&&(!(decide (x.A<x1.A)))) (Ah.mk 0 0) (getI g.Edges (IntKind.i64.wrap ((i:Int)-1)))).bind fun x2 =>
  (gb (((decide (0<(i:Int)))&&(!(decide (x.A<x1.A))))&&(x2.A==x.A)) (Ah.mk 0 0) (getI g.Edges (IntKind.i64.wrap ((i:Int)-1)))).bind fun x3 =>
  bif ((decide (0<(i:Int)))&&((decide (x.A<x1.A))||((x2.A==x.A)&&(decide (x.B≤x3.B))))) then (some (.rt false)) else (some (.nx ())))
def Dd (g:Ae):Option (Bool) :=
  chk (g.Edges.length≤9223372036854775807) <|
  (forX (DU g) g.Edges.length 0 ()).bind<|orR fun _ =>
  (AF g.Nodes 1 8).bind fun r_3 =>
  some (r_3)

def FR (n:Int) (g:Ac):Option (Bool) :=
  (AF g.Kind 1 8).bind fun r_1 =>
  bif r_1 then ((AF g.A 0 (IntKind.i64.wrap (n-1))).bind fun r_2 =>
  some ((r_2&&(g.B==0)))) else ((AF g.Kind 9 11).bind fun r_3 =>
  bif r_3 then ((AF g.A 0 (IntKind.i64.wrap (n-1))).bind fun r_4 =>
  (gb r_4 false (AF g.B 0 (IntKind.i64.wrap (n-1)))).bind fun r_5 =>
  some (((r_4&&r_5)&&(g.A != g.B)))) else (some ((((g.Kind==12)&&(g.A==0))&&(g.B==0)))))

def GI (c:Ad):Nat→Unit→Option (Ex (Unit) (Bool)):=fun i _ =>
  (getI c.Gates (i:Int)).bind fun x =>
  (FR c.Qubits x).bind fun r_2 =>
  bif (!r_2) then (some (.rt false)) else (some (.nx ()))
def ES (c:Ad):Option (Bool) :=
  (AF c.Qubits 1 5).bind fun r_1 =>
  bif ((!r_1)||(decide (400<(c.Gates.length:Int)))) then (some (false)) else (chk (c.Gates.length≤9223372036854775807) <|
  (forX (GI c) c.Gates.length 0 ()).bind<|orR fun _ =>
  some (true))

def Fe (g:Ae) (c1:Ad):Option (Bool) :=
  (Dd g).bind fun r_1 =>
  (gb r_1 false (ES c1)).bind fun r_2 =>
  some (((r_1&&r_2)&&(decide (c1.Qubits≤g.Nodes))))

def Hj (c1:Ad):Nat→Int→Option (Int):=fun i two =>
  (((getI c1.Gates (i:Int)).bind fun x =>
  (DJ x).bind fun r_1 =>
  bif r_1 then (some (IntKind.i64.wrap (two+1))) else (some two)):Option (Int)).bind fun two1 =>
  some two1
def DH (g:Ae) (c1:Ad):Option (Bool) :=
  chk (c1.Gates.length≤9223372036854775807) <|
  (forN (Hj c1) c1.Gates.length 0 0).bind fun two =>
  (Fe g c1).bind fun r_2 =>
  some ((((r_2&&(decide (g.Nodes≤5)))&&(decide ((c1.Gates.length:Int)≤40)))&&(decide (two≤12))))

def BJ (l:List Int):Option (List Int) :=
  chk (0+l.length≤1099511627776) <|
  some (l)

def GF (place:List Int) (a:Int) (b:Int):Nat→(List Int)→Option (List Int):=fun i out =>
  (((getI place (i:Int)).bind fun x =>
  bif (x==a) then ((getI out (i:Int)).bind fun x1 =>
  some (out.set (i:Int).toNat b)) else (bif (x==b) then ((getI out (i:Int)).bind fun x2 =>
  some (out.set (i:Int).toNat a)) else (some out))):Option (List Int)).bind fun out1 =>
  some out1
def Cg (place:List Int) (a:Int) (b:Int):Option (List Int) :=
  (BJ place).bind fun r_1 =>
  chk (place.length≤9223372036854775807) <|
  (forN (GF place a b) place.length 0 r_1).bind fun out =>
  some (out)

def Eu (x:Ac):Option (List Int) :=
  bif (x.Kind==12) then (some ([])) else ((DJ x).bind fun r_1 =>
  bif r_1 then (some ([x.A,x.B])) else (some ([x.A])))

def G0 (r_3:List Int) (done:List Bool) (i1:Nat) (r_2:List Int):Nat→Unit→Option (Ex (Unit) (Ex (Unit) (Bool))):=fun i2 _ =>
  (getI r_3 (i2:Int)).bind fun x3 =>
  (getI done (i1:Int)).bind fun x4 =>
  (gb (!x4) false (Ce r_2 x3)).bind fun r_4 =>
  bif ((!x4)&&r_4) then (some (.rt (.rt false))) else (some (.nx ()))
def I1 (c:Ad) (done:List Bool) (r_2:List Int):Nat→Unit→Option (Ex (Unit) (Bool)):=fun i1 _ =>
  (getI c.Gates (i1:Int)).bind fun x2 =>
  (Eu x2).bind fun r_3 =>
  chk (r_3.length≤9223372036854775807) <|
  (forX (G0 r_3 done i1 r_2) r_3.length 0 ()).bind<|orR fun _ =>
  some (.nx ())
def F6 (c:Ad) (done:List Bool) (k_:Int):Option (Bool) :=
  (AF k_ 0 (IntKind.i64.wrap ((c.Gates.length:Int)-1))).bind fun r_1 =>
  (gb (!(!r_1)) false (getI done k_)).bind fun x =>
  bif ((!r_1)||x) then (some (false)) else ((getI c.Gates k_).bind fun x1 =>
  (Eu x1).bind fun r_2 =>
  chk (k_.toNat≤9223372036854775807) <|
  (forX (I1 c done r_2) k_.toNat 0 ()).bind<|orR fun _ =>
  some (true))

def Hf (g:Ae) (a:Int) (b:Int):Nat→Unit→Option (Ex (Unit) (Bool)):=fun i _ =>
  (getI g.Edges (i:Int)).bind fun x =>
  bif (((x.A==a)&&(x.B==b))||((x.A==b)&&(x.B==a))) then (some (.rt true)) else (some (.nx ()))
def Gl (g:Ae) (a:Int) (b:Int):Option (Bool) :=
  chk (g.Edges.length≤9223372036854775807) <|
  (forX (Hf g a b) g.Edges.length 0 ()).bind<|orR fun _ =>
  some (false)

def F0 (g:Ae) (place:List Int) (x:Ac):Option (Bool) :=
  (DJ x).bind fun r_1 =>
  (gb (!(!r_1)) 0 (getI place x.A)).bind fun x1 =>
  (gb (!(!r_1)) 0 (getI place x.B)).bind fun x2 =>
  (gb (!(!r_1)) false (Gl g x1 x2)).bind fun r_2 =>
  some (((!r_1)||r_2))

def DW (c1:Ad) (g:Ae) (x:Ai):(List Bool×List Ak×Int)→Option (Ex (List Bool×List Ak×Int) (Ai)):=fun (done,steps,k_) =>
  bif (decide (k_<(c1.Gates.length:Int))) then ((((F6 c1 done k_).bind fun r_1 =>
  (gb r_1 (Ac.mk 0 0 0) (getI c1.Gates k_)).bind fun x1 =>
  (gb r_1 false (F0 g x.place x1)).bind fun r_2 =>
  bif (r_1&&r_2) then ((getI done k_).bind fun x2 =>
  chk (steps.length+1≤1099511627776) <|
  some ((done.set k_.toNat true),(steps++[(Ak.mk k_ 0 0)]),(-1))) else (some (done,steps,k_))):Option (List Bool×List Ak×Int)).bind fun (done1,steps1,K22) =>
  some (.nx (done1,steps1,(IntKind.i64.wrap (K22+1))))) else (some (.br (done,steps,k_)))
def CA (g:Ae) (c1:Ad) (x:Ai):Option (Ai) :=
  chk (0+x.done.length≤1099511627776) <|
  (whX (DW c1 g x) fuel (x.done,x.steps,0)).bind<|orR fun (done,steps,k_) =>
  some ((Ai.mk x.place done x.from_ steps))

def HP (place:List Int):Nat→Int→Option (Int):=fun i n1 =>
  (getI place (i:Int)).bind fun x =>
  some (IntKind.i64.wrap ((IntKind.i64.wrap (n1*5))+x))
def DL (place:List Int):Option (Int) :=
  chk (place.length≤9223372036854775807) <|
  (forN (HP place) place.length 0 0).bind fun n1 =>
  some (n1)

def G8 (done:List Bool):Nat→Int→Option (Int):=fun i set_ =>
  (((getI done (i:Int)).bind fun x =>
  bif x then (chk ((0:Int)≤(IntKind.u64.wrap (i:Int))) <|
  some (bits .or .i64 set_ (shlK .i64 1 (IntKind.u64.wrap (i:Int))))) else (some set_)):Option (Int)).bind fun set_1 =>
  some set_1
def Cm (done:List Bool):Option (Int) :=
  chk (done.length≤9223372036854775807) <|
  (forN (G8 done) done.length 0 0).bind fun set_ =>
  some (set_)

def Dk (list1:List Ai):(List Int×List Ak×Int)→Option (Ex (List Int×List Ak×Int) (Ex (List (List Int)×List Ai×Int) (Am×Bool))):=fun (Start,Steps,K4) =>
  bif (decide (0≤K4)) then ((getI list1 K4).bind fun x3 =>
  (BJ x3.place).bind fun r_8 =>
  chk (0+x3.steps.length≤1099511627776) <|
  chk (x3.steps.length+Steps.length≤1099511627776) <|
  (getI list1 K4).bind fun x4 =>
  some (.nx (r_8,(x3.steps++Steps),x4.from_))) else (some (.br (Start,Steps,K4)))
def DO (g:Ae) (i3:Int) (c1:Ad):Nat→(List (List Int)×List Ai)→Option (List (List Int)×List Ai):=fun i4 (met2,list2) =>
  (((getI g.Edges (i4:Int)).bind fun x5 =>
  (getI list2 i3).bind fun x6 =>
  (Cg x6.place x5.A x5.B).bind fun r_9 =>
  (CA g c1 (Ai.mk r_9 x6.done i3 [(Ak.mk (-1) x5.A x5.B)])).bind fun r_10 =>
  (DL r_10.place).bind fun r_11 =>
  (Cm r_10.done).bind fun r_12 =>
  (getI met2 r_11).bind fun x7 =>
  (Ce x7 r_12).bind fun r_13 =>
  bif (!r_13) then (chk (x7.length+1≤1099511627776) <|
  chk (list2.length+1≤1099511627776) <|
  some ((met2.set r_11.toNat (x7++[r_12])),(list2++([r_10]:List Ai)))) else (some (met2,list2))):Option (List (List Int)×List Ai)).bind fun (met3,list3) =>
  some (met3,list3)
def BY (c1:Ad) (g:Ae):(List (List Int)×List Ai×Int)→Option (Ex (List (List Int)×List Ai×Int) (Am×Bool)):=fun (met1,list1,i3) =>
  bif (decide (i3<(list1.length:Int))) then ((getI list1 i3).bind fun x2 =>
  (Cm x2.done).bind fun r_7 =>
  bif (r_7==(IntKind.i64.wrap ((shlK .i64 1 (IntKind.u64.wrap (c1.Gates.length:Int)))-1))) then ((whX (Dk list1) fuel ([],[],i3)).bind<|orR fun (Start,Steps,K4) =>
  some (.rt ((Am.mk Start Steps),true))) else (chk (g.Edges.length≤9223372036854775807) <|
  (forN (DO g i3 c1) g.Edges.length 0 (met1,list1)).bind fun (met2,list2) =>
  some (.nx (met2,list2,(IntKind.i64.wrap (i3+1)))))) else (some (.br (met1,list1,i3)))
def Dl (starts:List (List Int)) (c1:Ad) (g:Ae):Nat→(List (List Int)×List Ai)→Option (List (List Int)×List Ai):=fun i (met,list) =>
  (getI starts (i:Int)).bind fun x =>
  (BJ x).bind fun r_2 =>
  chk ((0:Int)≤(c1.Gates.length:Int)∧(c1.Gates.length:Int)≤1099511627776) <|
  (CA g c1 (Ai.mk r_2 (List.replicate c1.Gates.length false) (-1) [])).bind fun r_3 =>
  (DL r_3.place).bind fun r_4 =>
  (getI met r_4).bind fun x1 =>
  (Cm r_3.done).bind fun r_6 =>
  chk (x1.length+1≤1099511627776) <|
  chk (list.length+1≤1099511627776) <|
  some ((met.set r_4.toNat (x1++[r_6])),(list++([r_3]:List Ai)))
def EK (g:Ae) (c1:Ad) (starts:List (List Int)):Option (Am×Bool) :=
  chk (starts.length≤9223372036854775807) <|
  (forN (Dl starts c1 g) starts.length 0 ((List.replicate 3125 ([]:List Int)),([]:List Ai))).bind fun (met,list) =>
  chk ((0:Int)≤(IntKind.u64.wrap (c1.Gates.length:Int))) <|
  (whX (BY c1 g) fuel (met,list,0)).bind<|orR fun (met1,list1,i3) =>
  some (((Am.mk [] []),false))

def DN (x:List Int):Nat→(List (List Int))→Option (List (List Int)):=fun K4 next_1 =>
  (((Ce x (K4:Int)).bind fun r_1 =>
  bif (!r_1) then ((BJ x).bind fun r_2 =>
  chk (r_2.length+1≤1099511627776) <|
  chk (next_1.length+1≤1099511627776) <|
  some (next_1++([(r_2++[(K4:Int)])]:List (List Int)))) else (some next_1)):Option (List (List Int))).bind fun next_2 =>
  some next_2
def FY (out:List (List Int)) (g:Ae):Nat→(List (List Int))→Option (List (List Int)):=fun i next_ =>
  (getI out (i:Int)).bind fun x =>
  chk (g.Nodes.toNat≤9223372036854775807) <|
  (forN (DN x) g.Nodes.toNat 0 next_).bind fun next_1 =>
  some next_1
def E7 (g:Ae):(Int×List (List Int))→Option (Ex (Int×List (List Int)) (List (List Int))):=fun (n2,out) =>
  bif (decide (0<n2)) then (chk (out.length≤9223372036854775807) <|
  (forN (FY out g) out.length 0 ([]:List (List Int))).bind fun next_ =>
  some (.nx ((IntKind.i64.wrap (n2-1)),next_))) else (some (.br (n2,out)))
def EG (g:Ae) (n1:Int):Option (List (List Int)) :=
  (whX (E7 g) fuel (n1,([[]]:List (List Int)))).bind<|orR fun (n2,out) =>
  some (out)

def Ee (g:Ae) (c1:Ad):Option (Am×Bool) :=
  (DH g c1).bind fun r_2 =>
  bif (!r_2) then (some (((Am.mk [] []),false))) else ((EG g c1.Qubits).bind fun r_3 =>
  (EK g c1 r_3).bind fun (r_4,r_5) =>
  some ((r_4,r_5)))

def GL (a:List Int) (b:List Int):Nat→Unit→Option (Ex (Unit) (Bool)):=fun i _ =>
  (getI a (i:Int)).bind fun x =>
  (getI b (i:Int)).bind fun x1 =>
  bif (x != x1) then (some (.rt false)) else (some (.nx ()))
def DX (a:List Int) (b:List Int):Option (Bool) :=
  bif ((a.length:Int) != (b.length:Int)) then (some (false)) else (chk (a.length≤9223372036854775807) <|
  (forX (GL a b) a.length 0 ()).bind<|orR fun _ =>
  some (true))

def Eg (code:List Int):Option (Ae×Ad×List Int) :=
  (DG (Ag.mk code 0 0)).bind fun (r_3,r_4,r_5,m) =>
  some ((r_3,r_4,r_5))

def F7 (code:List Int):Option (Ae×Ad×List Int) :=
  (Eg code).bind fun (r_3,r_4,r_5) =>
  some ((r_3,r_4,r_5))

def DY (list:List Int):Nat→Unit→Option (Ex (Unit) (Bool)):=fun i _ =>
  (getI list (i:Int)).bind fun x =>
  (A2 x 0 4).bind fun r_1 =>
  bif (!(!r_1)) then (chk ((0:Int)≤(i:Int)∧(i:Int)≤(list.length:Int)) <|
  (BT (List.take i list) x).bind fun r_2 =>
  bif r_2 then (some (.rt false)) else (some (.nx ()))) else (some (.rt false))
def CO (list:List Int):Option (Bool) :=
  chk (list.length≤9223372036854775807) <|
  (forX (DY list) list.length 0 ()).bind<|orR fun _ =>
  some (true)

def Dg (to_:List Int):Nat→(List Int×List Ac)→Option (List Int×List Ac):=fun i (at_,out) =>
  (((getI to_ (i:Int)).bind fun x =>
  (getI at_ (i:Int)).bind fun x1 =>
  bif (x1==x) then (some (at_,out)) else (chk (out.length+1≤1099511627776) <|
  (((C4 at_ x).bind fun r_5 =>
  bif (decide (0≤r_5)) then ((getI at_ r_5).bind fun x2 =>
  some (at_.set r_5.toNat x1)) else (some at_)):Option (List Int)).bind fun at_2 =>
  (getI at_2 (i:Int)).bind fun x3 =>
  some ((at_2.set (i:Int).toNat x),(out++[(Ac.mk 11 x1 x)])))):Option (List Int×List Ac)).bind fun (at_1,out1) =>
  some (at_1,out1)
def BS (from_:List Int) (to_:List Int):Option (List Ac×Bool) :=
  (gb (!((from_.length:Int) != (to_.length:Int))) false (CO from_)).bind fun r_2 =>
  (gb (!(((from_.length:Int) != (to_.length:Int))||(!r_2))) false (CO to_)).bind fun r_3 =>
  bif ((((from_.length:Int) != (to_.length:Int))||(!r_2))||(!r_3)) then (some (([],false))) else ((Bv from_).bind fun r_4 =>
  chk (to_.length≤9223372036854775807) <|
  (forN (Dg to_) to_.length 0 (r_4,[])).bind fun (at_,out) =>
  some ((out,true)))

def G4 (l:List Int):Nat→Unit→Option (Ex (Unit) (Bool)):=fun i _ =>
  (getI l (i:Int)).bind fun x =>
  (AF x 0 4).bind fun r_1 =>
  bif (!(!r_1)) then (chk ((0:Int)≤(i:Int)∧(i:Int)≤(l.length:Int)) <|
  (Ce (List.take i l) x).bind fun r_2 =>
  bif r_2 then (some (.rt false)) else (some (.nx ()))) else (some (.rt false))
def Ew (l:List Int):Option (Bool) :=
  chk (l.length≤9223372036854775807) <|
  (forX (G4 l) l.length 0 ()).bind<|orR fun _ =>
  some (true)

def De (to_:List Int):Nat→(List Ac×List Int)→Option (List Ac×List Int):=fun i (out,at_) =>
  (((getI to_ (i:Int)).bind fun x =>
  (getI at_ (i:Int)).bind fun x1 =>
  bif (x1 != x) then (chk (out.length+1≤1099511627776) <|
  (Cg at_ x1 x).bind fun r_5 =>
  some ((out++[(Ac.mk 11 x1 x)]),r_5)) else (some (out,at_))):Option (List Ac×List Int)).bind fun (out1,at_1) =>
  some (out1,at_1)
def Ch (from_:List Int) (to_:List Int):Option (List Ac×Bool) :=
  (gb (!((from_.length:Int) != (to_.length:Int))) false (Ew from_)).bind fun r_2 =>
  (gb (!(((from_.length:Int) != (to_.length:Int))||(!r_2))) false (Ew to_)).bind fun r_3 =>
  bif ((((from_.length:Int) != (to_.length:Int))||(!r_2))||(!r_3)) then (some (([],false))) else ((BJ from_).bind fun r_4 =>
  chk (to_.length≤9223372036854775807) <|
  (forN (De to_) to_.length 0 ([],r_4)).bind fun (out,at_) =>
  some ((out,true)))

def Fv (g:Ae):Option (Bool) :=
  (Dd g).bind fun r_1 =>
  some (r_1)

def Dy (g:Ae) (c1:Ad) (start:List Int):Option (Int×Bool) :=
  (Dq g c1 start).bind fun (r_2,r_3) =>
  (CJ r_2).bind fun r_4 =>
  some ((r_4,r_3))

def HF (r_:Am):Nat→Int→Option (Int):=fun i n2 =>
  (((getI r_.Steps (i:Int)).bind fun x =>
  bif (x.Gate==(-1)) then (some (IntKind.i64.wrap (n2+1))) else (some n2)):Option (Int)).bind fun n3 =>
  some n3
def DZ (r_:Am):Option (Int) :=
  chk (r_.Steps.length≤9223372036854775807) <|
  (forN (HF r_) r_.Steps.length 0 0).bind fun n2 =>
  some (n2)

def DR (r_:Ap) (s:Ak):Option (Int×List Int×List Bool) :=
  bif (s.Gate==(-1)) then ((C2 r_.g s.A s.B).bind fun r_2 =>
  bif (!r_2) then (some ((2,r_.place,r_.done))) else ((CX r_ s.A s.B).bind fun m2 =>
  some ((0,m2,r_.done)))) else ((gb (!((s.A != 0)||(s.B != 0))) false (DC r_ s.Gate)).bind fun r_3 =>
  bif (((s.A != 0)||(s.B != 0))||(!r_3)) then (some ((3,r_.place,r_.done))) else ((Dz r_ s.Gate).bind fun r_4 =>
  bif (!r_4) then (some ((4,r_.place,r_.done))) else ((getI r_.done s.Gate).bind fun x =>
  some ((0,r_.place,(r_.done.set s.Gate.toNat true))))))

def EQ (route:Am) (r_4:Ap) (g:Ae):Nat→(List Int×List Bool)→Option (Ex (List Int×List Bool) (Int×Int×Ap)):=fun i (place,done) =>
  (getI route.Steps (i:Int)).bind fun x =>
  (DR (Ap.mk r_4.g r_4.c place done) x).bind fun (r_5,m,m1) =>
  bif (r_5 != 0) then (some (.rt (r_5,(i:Int),(Ap.mk r_4.g r_4.c m m1)))) else (some (.nx (m,m1)))
def EI (g:Ae) (c1:Ad) (route:Am):Option (Int×Int×Ap) :=
  (CI g c1.Qubits route.Start).bind fun r_3 =>
  bif (!r_3) then (some ((1,0,(Ap.mk (Ae.mk 0 []) (Ad.mk 0 []) [] [])))) else ((Cs g c1 route.Start).bind fun r_4 =>
  chk (route.Steps.length≤9223372036854775807) <|
  (forX (EQ route r_4 g) route.Steps.length 0 (r_4.place,r_4.done)).bind<|orR fun (place,done) =>
  (Co done false).bind fun r_6 =>
  bif r_6 then (some ((5,(route.Steps.length:Int),(Ap.mk r_4.g r_4.c place done)))) else (some ((0,0,(Ap.mk r_4.g r_4.c place done)))))

def GJ (g:Ae) (c1:Ad) (r_:Am):Option (Int×Int×Bool) :=
  (BZ g c1).bind fun r_4 =>
  bif (!r_4) then (some ((0,0,false))) else ((EI g c1 r_).bind fun (r_5,r_6,r_7) =>
  some ((r_5,r_6,true)))

def HA (gates:List Ac) (to_:List Int):Nat→(List Ac)→Option (List Ac):=fun i out =>
  (getI gates (i:Int)).bind fun x =>
  ((bif (x.Kind != 12) then ((getI to_ x.A).bind fun x1 =>
  some x1) else (some x.A)):Option (Int)).bind fun A =>
  (((AX x.Kind).bind fun r_1 =>
  bif r_1 then ((getI to_ x.B).bind fun x2 =>
  some x2) else (some x.B)):Option (Int)).bind fun B4 =>
  chk (out.length+1≤1099511627776) <|
  some (out++[(Ac.mk x.Kind A B4)])
def E9 (gates:List Ac) (to_:List Int):Option (List Ac) :=
  chk (gates.length≤9223372036854775807) <|
  (forN (HA gates to_) gates.length 0 []).bind fun out =>
  some (out)

def Ej (n:Int) (gates:List Ac):Option (Ad×Bool) :=
  chk (0+gates.length≤1099511627776) <|
  (BI (Ad.mk n gates)).bind fun r_2 =>
  bif (!r_2) then (some (((Ad.mk 0 []),false))) else (some (((Ad.mk n gates),true)))

def E2 (r_:Am) (c1:Ad) (r_6:Ap):Nat→(List Int×List Bool×List Ac)→Option (List Int×List Bool×List Ac):=fun i (place,done,out) =>
  (getI r_.Steps (i:Int)).bind fun x =>
  ((bif (x.Gate==(-1)) then (chk (out.length+1≤1099511627776) <|
  some (out++[(Ac.mk 11 x.A x.B)])) else (chk ((0:Int)≤x.Gate∧x.Gate≤(IntKind.i64.wrap (x.Gate+1))∧(IntKind.i64.wrap (x.Gate+1))≤(c1.Gates.length:Int)) <|
  (E9 (List.drop x.Gate.toNat (List.take ((IntKind.i64.wrap (x.Gate+1)).toNat) c1.Gates)) place).bind fun r_7 =>
  chk (out.length+r_7.length≤1099511627776) <|
  some (out++r_7))):Option (List Ac)).bind fun out1 =>
  (DR (Ap.mk r_6.g r_6.c place done) x).bind fun (r_8,m,m1) =>
  some (m,m1,out1)
def E8 (g:Ae) (c1:Ad) (r_:Am):Option (Ad×Bool) :=
  (GJ g c1 r_).bind fun (r_3,r_4,r_5) =>
  bif (((!r_5)||(r_3 != 0))||(decide (5<g.Nodes))) then (some (((Ad.mk 0 []),false))) else ((Cs g c1 r_.Start).bind fun r_6 =>
  chk (r_.Steps.length≤9223372036854775807) <|
  (forN (E2 r_ c1 r_6) r_.Steps.length 0 (r_6.place,r_6.done,[])).bind fun (place,done,out) =>
  (Ej g.Nodes out).bind fun (r_9,r_10) =>
  some ((r_9,r_10)))

def Eb (g:Ae) (c1:Ad) (r_:Am):Option (List Int×Bool) :=
  (BZ g c1).bind fun r_3 =>
  bif (!r_3) then (some (([],false))) else ((EI g c1 r_).bind fun (r_4,r_5,r_6) =>
  bif (r_4 != 0) then (some (([],false))) else (some ((r_6.place,true))))

def Dn (slices:List (List Ac)):Nat→(List Ac)→Option (List Ac):=fun i1 newslice =>
  (getI slices (i1:Int)).bind fun x1 =>
  chk (newslice.length+x1.length≤1099511627776) <|
  some (newslice++x1)
def Ds (slices:List (List Ac)):Nat→Int→Option (Int):=fun i size =>
  (getI slices (i:Int)).bind fun x =>
  bif (decide ((IntKind.i64.wrap (size+(x.length:Int)))<0)) then (none) else (some (IntKind.i64.wrap (size+(x.length:Int))))
def F3 (slices:List (List Ac)):Option (List Ac) :=
  chk (slices.length≤9223372036854775807) <|
  (forN (Ds slices) slices.length 0 0).bind fun size =>
  chk ((0:Int)≤size∧size≤1099511627776) <|
  chk (slices.length≤9223372036854775807) <|
  (forN (Dn slices) slices.length 0 ([]:List Ac)).bind fun newslice =>
  some (newslice)

def EV (a:Ad) (b:Ad):Option (Ad×Bool) :=
  (BI a).bind fun r_2 =>
  (gb (!(!r_2)) false (BI b)).bind fun r_3 =>
  bif (((!r_2)||(!r_3))||(a.Qubits != b.Qubits)) then (some (((Ad.mk 0 []),false))) else ((F3 ([a.Gates,b.Gates]:List (List Ac))).bind fun r_4 =>
  (Ej a.Qubits r_4).bind fun (r_5,r_6) =>
  some ((r_5,r_6)))

def GB (to_:List Int) (n2:Int):Nat→Unit→Option (Ex (Unit) (Ad×Bool)):=fun i _ =>
  (getI to_ (i:Int)).bind fun x =>
  (A2 x 0 (IntKind.i64.wrap (n2-1))).bind fun r_4 =>
  bif (!(!r_4)) then (chk ((0:Int)≤(i:Int)∧(i:Int)≤(to_.length:Int)) <|
  (BT (List.take i to_) x).bind fun r_5 =>
  bif r_5 then (some (.rt ((Ad.mk 0 []),false))) else (some (.nx ()))) else (some (.rt ((Ad.mk 0 []),false)))
def Ey (c:Ad) (to_:List Int) (n2:Int):Option (Ad×Bool) :=
  (BI c).bind fun r_2 =>
  (gb (!(!r_2)) false (A2 n2 1 5)).bind fun r_3 =>
  bif (((!r_2)||(!r_3))||((to_.length:Int) != c.Qubits)) then (some (((Ad.mk 0 []),false))) else (chk (to_.length≤9223372036854775807) <|
  (forX (GB to_ n2) to_.length 0 ()).bind<|orR fun _ =>
  (E9 c.Gates to_).bind fun r_6 =>
  some (((Ad.mk n2 r_6),true)))

def Cz (n:Int):Option (Bool) :=
  (A2 n 1 32).bind fun r_1 =>
  some ((r_1&&((bits .and .i64 n (IntKind.i64.wrap (n-1)))==0)))

def Ga (cell:Int→Int→Option (Ab×Bool)) (i:Nat):Nat→(List Ab)→Option (Ex (List Ab) (Ex (List Ab) (Af×Bool))):=fun i1 Cells1 =>
  (cell (i:Int) (i1:Int)).bind fun (r_4,r_5) =>
  bif (!r_5) then (some (.rt (.rt ((Af.mk 0 0 []),false)))) else (chk (Cells1.length+1≤1099511627776) <|
  some (.nx (Cells1++[r_4])))
def FT (cols:Int) (cell:Int→Int→Option (Ab×Bool)):Nat→(List Ab)→Option (Ex (List Ab) (Af×Bool)):=fun i Cells =>
  chk (cols.toNat≤9223372036854775807) <|
  (forX (Ga cell i) cols.toNat 0 Cells).bind<|orR fun Cells1 =>
  some (.nx Cells1)
def CE (rows:Int) (cols:Int) (cell:Int→Int→Option (Ab×Bool)):Option (Af×Bool) :=
  (Cz rows).bind fun r_2 =>
  (gb (!(!r_2)) false (Cz cols)).bind fun r_3 =>
  bif ((!r_2)||(!r_3)) then (some (((Af.mk 0 0 []),false))) else (chk (rows.toNat≤9223372036854775807) <|
  (forX (FT cols cell) rows.toNat 0 []).bind<|orR fun Cells =>
  some (((Af.mk rows cols Cells),true)))

def FZ (n:Int):Option (Ab) :=
  some ((Ab.mk (Aa.mk n 0 0 0) 0))

def H6 (i:Int) (j:Int):Option (Ab×Bool) :=
  bif (i==j) then ((FZ 1).bind fun r_2 =>
  some ((r_2,true))) else (some (((Ab.mk (Aa.mk 0 0 0 0) 0),true)))

def GW (n:Int):Option (Af×Bool) :=
  (CE n n H6).bind fun (r_2,r_3) =>
  some ((r_2,r_3))

def DF (n:Int):Option (Bool) :=
  (A2 n (-1000000000) 1000000000).bind fun r_1 =>
  some (r_1)

def CD (x:Aa):Option (Bool) :=
  (DF x.A).bind fun r_1 =>
  (gb r_1 false (DF x.B)).bind fun r_2 =>
  (gb (r_1&&r_2) false (DF x.C)).bind fun r_3 =>
  (gb ((r_1&&r_2)&&r_3) false (DF x.D)).bind fun r_4 =>
  some ((((r_1&&r_2)&&r_3)&&r_4))

def Lm:Nat→(Int×Int×Int×Int)→Option (Int×Int×Int×Int):=fun i (A,B,C,D) =>
  some ((IntKind.i64.wrap (-D)),A,B,C)
def IM (x:Aa) (k_:Int):Option (Aa×Bool) :=
  (A2 k_ (-1000) 1000).bind fun r_2 =>
  (gb (!(!r_2)) false (CD x)).bind fun r_3 =>
  bif ((!r_2)||(!r_3)) then (some (((Aa.mk 0 0 0 0),false))) else (chk (((Int.tmod (IntKind.i64.wrap ((Int.tmod k_ 8)+8)) 8).toNat)≤9223372036854775807) <|
  (forN Lm ((Int.tmod (IntKind.i64.wrap ((Int.tmod k_ 8)+8)) 8).toNat) 0 (x.A,x.B,x.C,x.D)).bind fun (A,B,C,D) =>
  some (((Aa.mk A B C D),true)))

def Bm (k_:Int):Option (Ab) :=
  (IM (Aa.mk 1 0 0 0) k_).bind fun (r_1,r_2) =>
  some ((Ab.mk r_1 0))

def Cl (n:Int) (state:Int) (q:Int):Option (Int) :=
  chk ((0:Int)≤(IntKind.i64.wrap ((IntKind.i64.wrap (n-1))-q))) <|
  some ((bits .and .i64 (shrK .i64 state (IntKind.i64.wrap ((IntKind.i64.wrap (n-1))-q))) 1))

def CG (n:Int) (state:Int) (q:Int):Option (Int) :=
  chk ((0:Int)≤(IntKind.i64.wrap ((IntKind.i64.wrap (n-1))-q))) <|
  some ((bits .xor .i64 state (shlK .i64 1 (IntKind.i64.wrap ((IntKind.i64.wrap (n-1))-q)))))

def GO (n:Int) (g:Ac) (state:Int):Option (Int) :=
  (Cl n state g.A).bind fun r_1 =>
  (Cl n state g.B).bind fun r_2 =>
  bif ((g.Kind==9)&&(r_1==1)) then ((CG n state g.B).bind fun r_3 =>
  some (r_3)) else (bif ((g.Kind==11)&&(r_1 != r_2)) then ((CG n state g.A).bind fun r_4 =>
  (CG n r_4 g.B).bind fun r_5 =>
  some (r_5)) else (some (state)))

def Gf (kind:Int) (i:Int) (j:Int):Option (Ab) :=
  bif (kind==1) then (((bif ((i==1)&&(j==1)) then (some (-1)) else (some 1)):Option (Int)).bind fun A =>
  some ((Ab.mk (Aa.mk A 0 0 0) 1))) else (bif ((kind==2)&&(i != j)) then ((FZ 1).bind fun r_1 =>
  some (r_1)) else (bif ((kind==3)&&(i != j)) then ((Bm (IntKind.i64.wrap (2+(IntKind.i64.wrap (4*j))))).bind fun r_2 =>
  some (r_2)) else (bif (((kind==2)||(kind==3))||(i != j)) then (some ((Ab.mk (Aa.mk 0 0 0 0) 0))) else (bif (i==0) then ((FZ 1).bind fun r_3 =>
  some (r_3)) else ((Bm (mgt (mput (mput (mput (mput (mput ([]:List (Int×Int)) 4 4) 5 2) 6 6) 7 1) 8 7) kind 0)).bind fun r_4 =>
  some (r_4))))))

def Cv (i:Int) (j:Int) (p:Ac) (p1:Int):Option (Ab×Bool) :=
  ((bif (p.Kind==12) then (bif (i==j) then ((Bm 1).bind fun r_2 =>
  some (.inr (r_2,true))) else (some (.inl ()))) else ((AX p.Kind).bind fun r_3 =>
  bif r_3 then ((GO p1 p i).bind fun r_4 =>
  bif (r_4==j) then ((gb (p.Kind==10) 0 (Cl p1 i p.A)).bind fun r_5 =>
  (gb ((p.Kind==10)&&(r_5==1)) 0 (Cl p1 i p.B)).bind fun r_6 =>
  (BN (((p.Kind==10)&&(r_5==1))&&(r_6==1))).bind fun r_7 =>
  (Bm (IntKind.i64.wrap (4*r_7))).bind fun r_8 =>
  some (.inr (r_8,true))) else (some (.inl ()))) else ((gb (!(i==j)) 0 (CG p1 i p.A)).bind fun r_9 =>
  bif ((i==j)||(r_9==j)) then ((Cl p1 i p.A).bind fun r_10 =>
  (Cl p1 j p.A).bind fun r_11 =>
  (Gf p.Kind r_10 r_11).bind fun r_12 =>
  some (.inr (r_12,true))) else (some (.inl ()))))):Option ((Unit) ⊕ (Ab×Bool))).bind<|orR fun _ =>
  some (((Ab.mk (Aa.mk 0 0 0 0) 0),true))

def E4 (n:Int) (g:Ac):Option (Af×Bool) :=
  (C7 n g).bind fun r_2 =>
  bif (!r_2) then (some (((Af.mk 0 0 []),false))) else (chk ((0:Int)≤n) <|
  chk ((0:Int)≤n) <|
  (CE (shlK .i64 1 n) (shlK .i64 1 n) (fun x_0 x_1=>Cv x_0 x_1 g n)).bind fun (r_3,r_4) =>
  some ((r_3,r_4)))

def Hs (s:List Ab) (f_:Ab→Option (Bool)):Nat→Unit→Option (Ex (Unit) (Int)):=fun i _ =>
  (getI s (i:Int)).bind fun x1 =>
  (f_ x1).bind fun r_1 =>
  bif r_1 then (some (.rt (i:Int))) else (some (.nx ()))
def F8 (s:List Ab) (f_:Ab→Option (Bool)):Option (Int) :=
  chk (s.length≤9223372036854775807) <|
  (forX (Hs s f_) s.length 0 ()).bind<|orR fun _ =>
  some ((-1))

def Gc (s:List Ab) (f_:Ab→Option (Bool)):Option (Bool) :=
  (F8 s f_).bind fun r_1 =>
  some ((decide (0≤r_1)))

def EN (x:Aa):Option (Bool) :=
  some ((((Int.tmod (IntKind.i64.wrap (x.A+x.C)) 2)==0)&&((Int.tmod (IntKind.i64.wrap (x.B+x.D)) 2)==0)))

def Cp (x:Ab):Option (Bool) :=
  (CD x.Num).bind fun r_1 =>
  (gb r_1 false (A2 x.Exp 0 60)).bind fun r_2 =>
  (gb ((r_1&&r_2)&&(!(x.Exp==0))) false (EN x.Num)).bind fun r_3 =>
  some (((r_1&&r_2)&&((x.Exp==0)||(!r_3))))

def Fu (x:Ab):Option (Bool) :=
  (Cp x).bind fun r_1 =>
  some ((!r_1))

def C6 (m:Af):Option (Bool) :=
  (Cz m.Rows).bind fun r_1 =>
  (gb r_1 false (Cz m.Cols)).bind fun r_2 =>
  (gb ((r_1&&r_2)&&((m.Cells.length:Int)==(IntKind.i64.wrap (m.Rows*m.Cols)))) false (Gc m.Cells Fu)).bind fun r_3 =>
  some ((((r_1&&r_2)&&((m.Cells.length:Int)==(IntKind.i64.wrap (m.Rows*m.Cols))))&&(!r_3)))

def GP (args:List Aa) (out:Aa):Nat→Unit→Option (Ex (Unit) (Aa×Bool)):=fun i _ =>
  (getI (args++[out]) (i:Int)).bind fun x =>
  (CD x).bind fun r_2 =>
  bif (!r_2) then (some (.rt ((Aa.mk 0 0 0 0),false))) else (some (.nx ()))
def Ca (out:Aa) (args:List Aa):Option (Aa×Bool) :=
  chk (args.length+1≤1099511627776) <|
  chk (((args++[out]).length)≤9223372036854775807) <|
  (forX (GP args out) ((args++[out]).length) 0 ()).bind<|orR fun _ =>
  some ((out,true))

def Dh (x:Aa) (y:Aa):Option (Aa×Bool) :=
  (Ca (Aa.mk (IntKind.i64.wrap ((IntKind.i64.wrap ((IntKind.i64.wrap ((IntKind.i64.wrap (x.A*y.A))-(IntKind.i64.wrap (x.B*y.D))))-(IntKind.i64.wrap (x.C*y.C))))-(IntKind.i64.wrap (x.D*y.B)))) (IntKind.i64.wrap ((IntKind.i64.wrap ((IntKind.i64.wrap ((IntKind.i64.wrap (x.A*y.B))+(IntKind.i64.wrap (x.B*y.A))))-(IntKind.i64.wrap (x.C*y.D))))-(IntKind.i64.wrap (x.D*y.C)))) (IntKind.i64.wrap ((IntKind.i64.wrap ((IntKind.i64.wrap ((IntKind.i64.wrap (x.A*y.C))+(IntKind.i64.wrap (x.B*y.B))))+(IntKind.i64.wrap (x.C*y.A))))-(IntKind.i64.wrap (x.D*y.D)))) (IntKind.i64.wrap ((IntKind.i64.wrap ((IntKind.i64.wrap ((IntKind.i64.wrap (x.A*y.D))+(IntKind.i64.wrap (x.B*y.C))))+(IntKind.i64.wrap (x.C*y.B))))+(IntKind.i64.wrap (x.D*y.A))))) [x,y]).bind fun (r_2,r_3) =>
  some ((r_2,r_3))

def Gb (x:Aa):Option (Aa×Bool) :=
  (CD x).bind fun r_2 =>
  (gb (!(!r_2)) false (EN x)).bind fun r_3 =>
  bif ((!r_2)||(!r_3)) then (some (((Aa.mk 0 0 0 0),false))) else ((Ca (Aa.mk (IntKind.i64.wrap (Int.tdiv (IntKind.i64.wrap (x.B-x.D)) 2)) (IntKind.i64.wrap (Int.tdiv (IntKind.i64.wrap (x.A+x.C)) 2)) (IntKind.i64.wrap (Int.tdiv (IntKind.i64.wrap (x.B+x.D)) 2)) (IntKind.i64.wrap (Int.tdiv (IntKind.i64.wrap (x.C-x.A)) 2))) [x]).bind fun (r_4,r_5) =>
  some ((r_4,r_5)))

def Cx:(Int×Int×Int×Int×Int)→Option (Ex (Int×Int×Int×Int×Int) (Ab×Bool)):=fun (exp1,A,B,C,D) =>
  (gb (decide (0<exp1)) false (EN (Aa.mk A B C D))).bind fun r_4 =>
  bif ((decide (0<exp1))&&r_4) then ((Gb (Aa.mk A B C D)).bind fun (r_5,r_6) =>
  some (.nx ((IntKind.i64.wrap (exp1-1)),r_5.A,r_5.B,r_5.C,r_5.D))) else (some (.br (exp1,A,B,C,D)))
def AR (num:Aa) (exp:Int):Option (Ab×Bool) :=
  (CD num).bind fun r_2 =>
  (gb (!(!r_2)) false (A2 exp 0 60)).bind fun r_3 =>
  bif ((!r_2)||(!r_3)) then (some (((Ab.mk (Aa.mk 0 0 0 0) 0),false))) else ((whX Cx fuel (exp,num.A,num.B,num.C,num.D)).bind<|orR fun (exp1,A,B,C,D) =>
  some (((Ab.mk (Aa.mk A B C D) exp1),true)))

def Bf (x:Ab) (y:Ab):Option (Ab×Bool) :=
  (Dh x.Num y.Num).bind fun (r_2,r_3) =>
  (Cp x).bind fun r_4 =>
  (gb (!(!r_4)) false (Cp y)).bind fun r_5 =>
  bif (((!r_4)||(!r_5))||(!r_3)) then (some (((Ab.mk (Aa.mk 0 0 0 0) 0),false))) else ((AR r_2 (IntKind.i64.wrap (x.Exp+y.Exp))).bind fun (r_6,r_7) =>
  some ((r_6,r_7)))

def Dw (m:Af) (i:Int) (j:Int):Option (Ab) :=
  (getI m.Cells (IntKind.i64.wrap ((IntKind.i64.wrap (i*m.Cols))+j))).bind fun x =>
  some (x)

def Fr (x:Aa):Option (Aa×Bool) :=
  (Ca (Aa.mk (IntKind.i64.wrap (x.B-x.D)) (IntKind.i64.wrap (x.A+x.C)) (IntKind.i64.wrap (x.B+x.D)) (IntKind.i64.wrap (x.C-x.A))) [x]).bind fun (r_2,r_3) =>
  some ((r_2,r_3))

def Cw (exp:Int):(Int×Int×Int×Int×Bool×Int)→Option (Ex (Int×Int×Int×Int×Bool×Int) (Aa×Bool)):=fun (A,B,C,D,ok,k_) =>
  bif ((decide (k_<exp))&&ok) then ((Fr (Aa.mk A B C D)).bind fun (r_2,r_3) =>
  some (.nx (r_2.A,r_2.B,r_2.C,r_2.D,r_3,(IntKind.i64.wrap (k_+1))))) else (some (.br (A,B,C,D,ok,k_)))
def BE (x:Ab) (exp:Int):Option (Aa×Bool) :=
  (whX (Cw exp) fuel (x.Num.A,x.Num.B,x.Num.C,x.Num.D,true,x.Exp)).bind<|orR fun (A,B,C,D,ok,k_) =>
  some (((Aa.mk A B C D),ok))

def GA (x:Ab) (y:Ab) (operation:Aa→Aa→Option (Aa×Bool)):Option (Ab×Bool) :=
  (Cp x).bind fun r_2 =>
  (gb (!(!r_2)) false (Cp y)).bind fun r_3 =>
  bif ((!r_2)||(!r_3)) then (some (((Ab.mk (Aa.mk 0 0 0 0) 0),false))) else ((BE x (if x.Exp<y.Exp then y.Exp else x.Exp)).bind fun (r_4,r_5) =>
  (BE y (if x.Exp<y.Exp then y.Exp else x.Exp)).bind fun (r_6,r_7) =>
  (operation r_4 r_6).bind fun (r_8,r_9) =>
  bif (((!r_5)||(!r_7))||(!r_9)) then (some (((Ab.mk (Aa.mk 0 0 0 0) 0),false))) else ((AR r_8 (if x.Exp<y.Exp then y.Exp else x.Exp)).bind fun (r_10,r_11) =>
  some ((r_10,r_11))))

def Ev (x:Aa) (y:Aa):Option (Aa×Bool) :=
  (Ca (Aa.mk (IntKind.i64.wrap (x.A+y.A)) (IntKind.i64.wrap (x.B+y.B)) (IntKind.i64.wrap (x.C+y.C)) (IntKind.i64.wrap (x.D+y.D))) [x,y]).bind fun (r_2,r_3) =>
  some ((r_2,r_3))

def Cc (x:Ab) (y:Ab):Option (Ab×Bool) :=
  (GA x y Ev).bind fun (r_2,r_3) =>
  some ((r_2,r_3))

def FS (p:Af) (i:Int) (p1:Af) (j:Int):Nat→(Int×Int×Int×Int×Int)→Option (Ex (Int×Int×Int×Int×Int) (Ab×Bool)):=fun i1 (A,B4,C,D,Exp) =>
  (Dw p i (i1:Int)).bind fun r_2 =>
  (Dw p1 (i1:Int) j).bind fun r_3 =>
  (Bf r_2 r_3).bind fun (r_4,r_5) =>
  (Cc (Ab.mk (Aa.mk A B4 C D) Exp) r_4).bind fun (r_6,r_7) =>
  bif ((!r_5)||(!r_7)) then (some (.rt ((Ab.mk (Aa.mk 0 0 0 0) 0),false))) else (some (.nx (r_6.Num.A,r_6.Num.B,r_6.Num.C,r_6.Num.D,r_6.Exp)))
def Dm (i:Int) (j:Int) (p:Af) (p1:Af):Option (Ab×Bool) :=
  chk (p.Cols.toNat≤9223372036854775807) <|
  (forX (FS p i p1 j) p.Cols.toNat 0 (0,0,0,0,0)).bind<|orR fun (A,B4,C,D,Exp) =>
  some (((Ab.mk (Aa.mk A B4 C D) Exp),true))

def Gh (a:Af) (b:Af):Option (Af×Bool) :=
  (C6 a).bind fun r_2 =>
  (gb (!(!r_2)) false (C6 b)).bind fun r_3 =>
  bif (((!r_2)||(!r_3))||(a.Cols != b.Rows)) then (some (((Af.mk 0 0 []),false))) else ((CE a.Rows b.Cols (fun x_0 x_1=>Dm x_0 x_1 a b)).bind fun (r_4,r_5) =>
  some ((r_4,r_5)))

def CM (c:Ad):(Bool×Int×Int×List Ab×Int)→Option (Ex (Bool×Int×Int×List Ab×Int) (Af×Bool)):=fun (ok1,Rows,Cols,Cells,i) =>
  bif ((decide (i<(c.Gates.length:Int)))&&ok1) then ((getI c.Gates i).bind fun x =>
  (E4 c.Qubits x).bind fun (r_2,r_3) =>
  (Gh r_2 (Af.mk Rows Cols Cells)).bind fun (r_4,r_5) =>
  some (.nx (r_5,r_4.Rows,r_4.Cols,r_4.Cells,(IntKind.i64.wrap (i+1))))) else (some (.br (ok1,Rows,Cols,Cells,i)))
def FK (c:Ad) (m:Af) (ok:Bool):Option (Af×Bool) :=
  (whX (CM c) fuel (ok,m.Rows,m.Cols,m.Cells,0)).bind<|orR fun (ok1,Rows,Cols,Cells,i) =>
  some (((Af.mk Rows Cols Cells),ok1))

def Dc (c:Ad):Option (Af×Bool) :=
  (BI c).bind fun r_2 =>
  bif (!r_2) then (some (((Af.mk 0 0 []),false))) else (chk ((0:Int)≤c.Qubits) <|
  (GW (shlK .i64 1 c.Qubits)).bind fun (r_3,r_4) =>
  (FK c r_3 r_4).bind fun (r_5,r_6) =>
  some ((r_5,r_6)))

def E3 (i:Int) (j:Int) (p:Af) (p1:Ab):Option (Ab×Bool) :=
  (Dw p i j).bind fun r_2 =>
  (Bf r_2 p1).bind fun (r_3,r_4) =>
  some ((r_3,r_4))

def FO (m:Af) (x:Ab):Option (Af×Bool) :=
  (C6 m).bind fun r_2 =>
  (gb (!(!r_2)) false (Cp x)).bind fun r_3 =>
  bif ((!r_2)||(!r_3)) then (some (((Af.mk 0 0 []),false))) else ((CE m.Rows m.Cols (fun x_0 x_1=>E3 x_0 x_1 m x)).bind fun (r_4,r_5) =>
  some ((r_4,r_5)))

def Hu (s1:List Ab) (s2:List Ab):Nat→Unit→Option (Ex (Unit) (Bool)):=fun i _ =>
  (getI s1 (i:Int)).bind fun x =>
  (getI s2 (i:Int)).bind fun x1 =>
  bif (!(((x.Num.A==x1.Num.A)&&((x.Num.B==x1.Num.B)&&((x.Num.C==x1.Num.C)&&((x.Num.D==x1.Num.D)&&true))))&&((x.Exp==x1.Exp)&&true))) then (some (.rt false)) else (some (.nx ()))
def FL (s1:List Ab) (s2:List Ab):Option (Bool) :=
  bif ((s1.length:Int) != (s2.length:Int)) then (some (false)) else (chk (s1.length≤9223372036854775807) <|
  (forX (Hu s1 s2) s1.length 0 ()).bind<|orR fun _ =>
  some (true))

def Fo (a:Af) (b:Af):Option (Bool) :=
  (gb ((a.Rows==b.Rows)&&(a.Cols==b.Cols)) false (FL a.Cells b.Cells)).bind fun r_1 =>
  some ((((a.Rows==b.Rows)&&(a.Cols==b.Cols))&&r_1))

def HB (b:Af) (a:Af):Nat→Unit→Option (Ex (Unit) (Int×Bool×Bool)):=fun i _ =>
  (Bm (i:Int)).bind fun r_5 =>
  (FO b r_5).bind fun (r_6,r_7) =>
  (gb r_7 false (Fo a r_6)).bind fun r_8 =>
  bif (r_7&&r_8) then (some (.rt ((i:Int),true,true))) else (some (.nx ()))
def Fj (a:Af) (b:Af):Option (Int×Bool×Bool) :=
  (C6 a).bind fun r_3 =>
  (gb (!(!r_3)) false (C6 b)).bind fun r_4 =>
  bif ((!r_3)||(!r_4)) then (some ((0,false,false))) else ((forX (HB b a) 8 0 ()).bind<|orR fun _ =>
  some ((0,false,true)))

def EX (a:Ad) (b:Ad):Option (Bool×Bool) :=
  (Dc a).bind fun (r_2,r_3) =>
  (Dc b).bind fun (r_4,r_5) =>
  bif (((!r_3)||(!r_5))||(a.Qubits != b.Qubits)) then (some ((false,false))) else ((Fj r_2 r_4).bind fun (r_6,r_7,r_8) =>
  some ((r_7,r_8)))

def EE (own:Ac) (p:Ae):Option (Bool) :=
  (AX own.Kind).bind fun r_1 =>
  (gb r_1 false (C2 p own.A own.B)).bind fun r_2 =>
  some ((r_1&&(!r_2)))

def ED (g:Ae) (c1:Ad):Option (Bool×Bool) :=
  (Ck g).bind fun r_2 =>
  (gb (!(!r_2)) false (BI c1)).bind fun r_3 =>
  bif (((!r_2)||(!r_3))||(decide (g.Nodes<c1.Qubits))) then (some ((false,false))) else ((Du c1.Gates (fun x_0=>EE x_0 g)).bind fun r_4 =>
  some (((!r_4),true)))

def Ge:Nat→(List Int)→Option (List Int):=fun q first =>
  chk (first.length+1≤1099511627776) <|
  some (first++[(q:Int)])
def FD (r_3:Am) (r_5:Am):Nat→Unit→Option (Ex (Unit) (Bool)):=fun i _ =>
  (getI r_3.Steps (i:Int)).bind fun x =>
  (getI r_5.Steps (i:Int)).bind fun x1 =>
  bif (!((x.Gate==x1.Gate)&&((x.A==x1.A)&&((x.B==x1.B)&&true)))) then (some (.rt false)) else (some (.nx ()))
def GZ (code:List Int) (more:List Int):Option (Bool) :=
  bif (decide (1048576<(IntKind.i64.wrap ((code.length:Int)+(more.length:Int))))) then (some (true)) else ((FG code).bind fun (r_1,r_2) =>
  (Eh r_1 r_2).bind fun (r_3,r_4) =>
  (Ee r_1 r_2).bind fun (r_5,r_6) =>
  (gb (!(!(r_4==r_6))) false (DX r_3.Start r_5.Start)).bind fun r_7 =>
  bif (((!(r_4==r_6))||(!r_7))||((r_3.Steps.length:Int) != (r_5.Steps.length:Int))) then (some (false)) else (chk (r_3.Steps.length≤9223372036854775807) <|
  (forX (FD r_3 r_5) r_3.Steps.length 0 ()).bind<|orR fun _ =>
  (F7 more).bind fun (r_8,r_9,r_10) =>
  (Eg code).bind fun (r_11,r_12,r_13) =>
  (BS r_10 r_13).bind fun (r_14,r_15) =>
  (Ch r_10 r_13).bind fun (r_16,r_17) =>
  (gb (!((!(r_15==r_17))||((r_14.length:Int) != (r_16.length:Int)))) false (Ck r_8)).bind fun r_18 =>
  (gb (!((!(r_15==r_17))||((r_14.length:Int) != (r_16.length:Int)))) false (Fv r_8)).bind fun r_19 =>
  bif (((!(r_15==r_17))||((r_14.length:Int) != (r_16.length:Int)))||(!(r_18==r_19))) then (some (false)) else (bif (!r_4) then (some (true)) else ((Dy r_1 r_2 r_3.Start).bind fun (r_20,r_21) =>
  chk (r_2.Qubits.toNat≤9223372036854775807) <|
  (forN Ge r_2.Qubits.toNat 0 []).bind fun first =>
  (Dy r_1 r_2 first).bind fun (r_22,r_23) =>
  (gb (!(!r_21)) 0 (DZ r_3)).bind fun r_24 =>
  bif (((!r_21)||(r_20 != r_24))||(r_23&&(decide (r_22<r_20)))) then (some (false)) else (bif ((decide (4<r_1.Nodes))||(decide ((IntKind.i64.wrap (r_2.Qubits+1))<r_1.Nodes))) then (some (true)) else ((E8 r_1 r_2 r_3).bind fun (r_25,r_26) =>
  (Eb r_1 r_2 r_3).bind fun (r_27,r_28) =>
  (BS r_27 r_3.Start).bind fun (r_29,r_30) =>
  bif (((!r_26)||(!r_28))||(!r_30)) then (some (false)) else ((EV r_25 (Ad.mk r_1.Nodes r_29)).bind fun (r_31,r_32) =>
  (Ey r_2 r_3.Start r_1.Nodes).bind fun (r_33,r_34) =>
  (EX r_31 r_33).bind fun (r_35,r_36) =>
  (ED r_1 r_25).bind fun (r_37,r_38) =>
  some ((((((r_32&&r_34)&&r_36)&&r_35)&&r_38)&&r_37)))))))))

def UE (c:A0) (m:Af):Option (Af×Bool) :=
  bif c.bad then (some (((Af.mk 0 0 []),false))) else (some ((m,true)))

def Va:(Int×Int×Int×Int×Int)→Option (Ex (Int×Int×Int×Int×Int) (Aa)):=fun (K2,A,B,C,D) =>
  bif (decide (0<K2)) then (some (.nx ((IntKind.i64.wrap (K2-1)),(IntKind.i64.wrap (-D)),A,B,C))) else (some (.br (K2,A,B,C,D)))
def Vt (x:Aa) (k_:Int):Option (Aa) :=
  (whX Va fuel ((Int.tmod (IntKind.i64.wrap ((Int.tmod k_ 8)+8)) 8),x.A,x.B,x.C,x.D)).bind<|orR fun (K2,A,B,C,D) =>
  some ((Aa.mk A B C D))

def Br (k_:Int):Option (Ab) :=
  (Vt (Aa.mk 1 0 0 0) k_).bind fun r_1 =>
  some ((Ab.mk r_1 0))

def VS (n:Int):Nat→(List Ab)→Option (List Ab):=fun i1 Cells =>
  (Br 0).bind fun r_1 =>
  (getI Cells (IntKind.i64.wrap ((IntKind.i64.wrap ((i1:Int)*n))+(i1:Int)))).bind fun x =>
  some (Cells.set (IntKind.i64.wrap ((IntKind.i64.wrap ((i1:Int)*n))+(i1:Int))).toNat r_1)
def Ou (n:Int):Option (Af) :=
  chk ((0:Int)≤(IntKind.i64.wrap (n*n))∧(IntKind.i64.wrap (n*n))≤1099511627776) <|
  chk (n.toNat≤9223372036854775807) <|
  (forN (VS n) n.toNat 0 (List.replicate ((IntKind.i64.wrap (n*n)).toNat) (Ab.mk (Aa.mk 0 0 0 0) 0))).bind fun Cells =>
  some ((Af.mk n n Cells))

def Uc (x:Aa):Option (Aa) :=
  some ((Aa.mk (IntKind.i64.wrap (-x.A)) (IntKind.i64.wrap (-x.B)) (IntKind.i64.wrap (-x.C)) (IntKind.i64.wrap (-x.D))))

def TJ (x:Ab):Option (Ab) :=
  (Uc x.Num).bind fun r_1 =>
  some ((Ab.mk r_1 x.Exp))

def Oq (kind:Int):Option (List Ab) :=
  (Br 0).bind fun r_1 =>
  bif (kind==1) then ((TJ (Ab.mk (Aa.mk 1 0 0 0) 1)).bind fun r_2 =>
  some ([(Ab.mk (Aa.mk 1 0 0 0) 1),(Ab.mk (Aa.mk 1 0 0 0) 1),(Ab.mk (Aa.mk 1 0 0 0) 1),r_2])) else (bif (kind==2) then (some ([(Ab.mk (Aa.mk 0 0 0 0) 0),r_1,r_1,(Ab.mk (Aa.mk 0 0 0 0) 0)])) else (bif (kind==3) then ((Br 6).bind fun r_3 =>
  (Br 2).bind fun r_4 =>
  some ([(Ab.mk (Aa.mk 0 0 0 0) 0),r_3,r_4,(Ab.mk (Aa.mk 0 0 0 0) 0)])) else ((getI [4,2,6,1,7] (IntKind.i64.wrap (kind-4))).bind fun x =>
  (Br x).bind fun r_5 =>
  some ([r_1,(Ab.mk (Aa.mk 0 0 0 0) 0),(Ab.mk (Aa.mk 0 0 0 0) 0),r_5]))))

def CQ (n:Int) (k_:Int) (q:Int):Option (Int) :=
  chk ((0:Int)≤(IntKind.u64.wrap (IntKind.i64.wrap ((IntKind.i64.wrap (n-1))-q)))) <|
  some ((bits .and .i64 (shrK .i64 k_ (IntKind.u64.wrap (IntKind.i64.wrap ((IntKind.i64.wrap (n-1))-q)))) 1))

def DE (n:Int) (g:Ac) (row:Int) (col:Int):Option (Ab) :=
  (Br 0).bind fun r_1 =>
  ((bif (g.Kind==12) then ((Br 1).bind fun r_2 =>
  some (.inl (r_2.Num.A,r_2.Num.B,r_2.Num.C,r_2.Num.D,r_2.Exp,col))) else (bif (g.Kind==9) then ((CQ n col g.A).bind fun r_3 =>
  bif (r_3==1) then (chk ((0:Int)≤(IntKind.u64.wrap (IntKind.i64.wrap ((IntKind.i64.wrap (n-1))-g.B)))) <|
  some (.inl (r_1.Num.A,r_1.Num.B,r_1.Num.C,r_1.Num.D,r_1.Exp,(bits .xor .i64 col (shlK .i64 1 (IntKind.u64.wrap (IntKind.i64.wrap ((IntKind.i64.wrap (n-1))-g.B)))))))) else (some (.inl (r_1.Num.A,r_1.Num.B,r_1.Num.C,r_1.Num.D,r_1.Exp,col)))) else (bif (g.Kind==10) then ((CQ n col g.A).bind fun r_4 =>
  (gb (r_4==1) 0 (CQ n col g.B)).bind fun r_5 =>
  bif ((r_4==1)&&(r_5==1)) then ((Br 4).bind fun r_6 =>
  some (.inl (r_6.Num.A,r_6.Num.B,r_6.Num.C,r_6.Num.D,r_6.Exp,col))) else (some (.inl (r_1.Num.A,r_1.Num.B,r_1.Num.C,r_1.Num.D,r_1.Exp,col)))) else (bif (g.Kind==11) then ((CQ n col g.A).bind fun r_7 =>
  (CQ n col g.B).bind fun r_8 =>
  bif (r_7 != r_8) then (chk ((0:Int)≤(IntKind.u64.wrap (IntKind.i64.wrap ((IntKind.i64.wrap (n-1))-g.A)))) <|
  chk ((0:Int)≤(IntKind.u64.wrap (IntKind.i64.wrap ((IntKind.i64.wrap (n-1))-g.B)))) <|
  some (.inl (r_1.Num.A,r_1.Num.B,r_1.Num.C,r_1.Num.D,r_1.Exp,(bits .xor .i64 (bits .xor .i64 col (shlK .i64 1 (IntKind.u64.wrap (IntKind.i64.wrap ((IntKind.i64.wrap (n-1))-g.A))))) (shlK .i64 1 (IntKind.u64.wrap (IntKind.i64.wrap ((IntKind.i64.wrap (n-1))-g.B)))))))) else (some (.inl (r_1.Num.A,r_1.Num.B,r_1.Num.C,r_1.Num.D,r_1.Exp,col)))) else (chk ((0:Int)≤(IntKind.u64.wrap (IntKind.i64.wrap ((IntKind.i64.wrap (n-1))-g.A)))) <|
  bif ((bits .andNot .i64 (bits .xor .i64 row col) (shlK .i64 1 (IntKind.u64.wrap (IntKind.i64.wrap ((IntKind.i64.wrap (n-1))-g.A))))) != 0) then (some (.inr (Ab.mk (Aa.mk 0 0 0 0) 0))) else ((Oq g.Kind).bind fun r_9 =>
  (CQ n row g.A).bind fun r_10 =>
  (CQ n col g.A).bind fun r_11 =>
  (getI r_9 (IntKind.i64.wrap ((IntKind.i64.wrap (2*r_10))+r_11))).bind fun x =>
  some (.inr x))))))):Option ((Int×Int×Int×Int×Int×Int) ⊕ (Ab))).bind<|orR fun (A,B,C,D,Exp,to_) =>
  bif (row==to_) then (some ((Ab.mk (Aa.mk A B C D) Exp))) else (some ((Ab.mk (Aa.mk 0 0 0 0) 0)))

def Ky (n:Int) (g:Ac) (i1:Nat):Nat→(List Ab)→Option (List Ab):=fun j Cells1 =>
  (DE n g (i1:Int) (j:Int)).bind fun r_1 =>
  chk (Cells1.length+1≤1099511627776) <|
  some (Cells1++[r_1])
def JV (n:Int) (g:Ac):Nat→(List Ab)→Option (List Ab):=fun i1 Cells =>
  chk (((shlK .i64 1 (IntKind.u64.wrap n)).toNat)≤9223372036854775807) <|
  (forN (Ky n g i1) ((shlK .i64 1 (IntKind.u64.wrap n)).toNat) 0 Cells).bind fun Cells1 =>
  some Cells1
def HR (n:Int) (g:Ac):Option (Af) :=
  chk ((0:Int)≤(IntKind.u64.wrap n)) <|
  chk (((shlK .i64 1 (IntKind.u64.wrap n)).toNat)≤9223372036854775807) <|
  (forN (JV n g) ((shlK .i64 1 (IntKind.u64.wrap n)).toNat) 0 []).bind fun Cells =>
  some ((Af.mk (shlK .i64 1 (IntKind.u64.wrap n)) (shlK .i64 1 (IntKind.u64.wrap n)) Cells))

def Nt (x:Aa):Option (Bool) :=
  some ((((Int.tmod (IntKind.i64.wrap (x.A+x.C)) 2)==0)&&((Int.tmod (IntKind.i64.wrap (x.B+x.D)) 2)==0)))

def HQ (x:Aa):Option (Aa) :=
  some ((Aa.mk (IntKind.i64.wrap (x.B-x.D)) (IntKind.i64.wrap (x.A+x.C)) (IntKind.i64.wrap (x.B+x.D)) (IntKind.i64.wrap (x.C-x.A))))

def Jx (x:Aa):Option (Aa) :=
  (HQ x).bind fun r_1 =>
  some ((Aa.mk (IntKind.i64.wrap (Int.tdiv r_1.A 2)) (IntKind.i64.wrap (Int.tdiv r_1.B 2)) (IntKind.i64.wrap (Int.tdiv r_1.C 2)) (IntKind.i64.wrap (Int.tdiv r_1.D 2))))

def KP:(Int×Int×Int×Int×Int)→Option (Ex (Int×Int×Int×Int×Int) (Ab)):=fun (exp1,A,B,C,D) =>
  (gb (decide (0<exp1)) false (Nt (Aa.mk A B C D))).bind fun r_1 =>
  bif ((decide (0<exp1))&&r_1) then ((Jx (Aa.mk A B C D)).bind fun r_2 =>
  some (.nx ((IntKind.i64.wrap (exp1-1)),r_2.A,r_2.B,r_2.C,r_2.D))) else (some (.br (exp1,A,B,C,D)))
def FA (num:Aa) (exp:Int):Option (Ab) :=
  (whX KP fuel (exp,num.A,num.B,num.C,num.D)).bind<|orR fun (exp1,A,B,C,D) =>
  some ((Ab.mk (Aa.mk A B C D) exp1))

def Im (x:Aa) (y:Aa):Option (Aa) :=
  some ((Aa.mk (IntKind.i64.wrap (x.A+y.A)) (IntKind.i64.wrap (x.B+y.B)) (IntKind.i64.wrap (x.C+y.C)) (IntKind.i64.wrap (x.D+y.D))))

def Ks (l:List Int) (lo:Int) (hi:Int):Nat→Unit→Option (Ex (Unit) (Bool)):=fun i _ =>
  (getI l (i:Int)).bind fun x =>
  (AF x lo hi).bind fun r_1 =>
  bif (!r_1) then (some (.rt false)) else (some (.nx ()))
def NF (l:List Int) (lo:Int) (hi:Int):Option (Bool) :=
  chk (l.length≤9223372036854775807) <|
  (forX (Ks l lo hi) l.length 0 ()).bind<|orR fun _ =>
  some (true)

def KC (x:Aa):Option (Bool) :=
  (NF [x.A,x.B,x.C,x.D] (-1000000000) 1000000000).bind fun r_1 =>
  some (r_1)

def DK (c:A0) (x:Aa):Option (Aa×A0) :=
  (KC x).bind fun r_1 =>
  bif (!r_1) then (some (((Aa.mk 0 0 0 0),(A0.mk true)))) else (some ((x,c)))

def Fd (Exp:Int) (bad:Bool) (A:Int) (C:Int) (D:Int):(Bool×Int×Int×Int×Int×Int)→Option (Ex (Bool×Int×Int×Int×Int×Int) (Ab×A0)):=fun (bad1,A1,B2,C1,D1,Exp1) =>
  bif (decide (Exp1<Exp)) then ((HQ (Aa.mk A1 B2 C1 D1)).bind fun r_3 =>
  (DK (A0.mk bad1) r_3).bind fun (r_4,m2) =>
  some (.nx (m2.bad,r_4.A,r_4.B,r_4.C,r_4.D,(IntKind.i64.wrap (Exp1+1))))) else (some (.br (bad1,A1,B2,C1,D1,Exp1)))
def Eo (y:Ab):(Bool×Int×Int×Int×Int×Int)→Option (Ex (Bool×Int×Int×Int×Int×Int) (Ab×A0)):=fun (bad,A,B1,C,D,Exp) =>
  bif (decide (Exp<y.Exp)) then ((HQ (Aa.mk A B1 C D)).bind fun r_1 =>
  (DK (A0.mk bad) r_1).bind fun (r_2,m1) =>
  some (.nx (m1.bad,r_2.A,r_2.B,r_2.C,r_2.D,(IntKind.i64.wrap (Exp+1))))) else (some (.br (bad,A,B1,C,D,Exp)))
def Cy (c:A0) (x:Ab) (y:Ab):Option (Ab×A0) :=
  (whX (Eo y) fuel (c.bad,x.Num.A,x.Num.B,x.Num.C,x.Num.D,x.Exp)).bind<|orR fun (bad,A,B1,C,D,Exp) =>
  (whX (Fd Exp bad A C D) fuel (bad,y.Num.A,y.Num.B,y.Num.C,y.Num.D,y.Exp)).bind<|orR fun (bad1,A1,B2,C1,D1,Exp1) =>
  (Im (Aa.mk A B1 C D) (Aa.mk A1 B2 C1 D1)).bind fun r_5 =>
  (DK (A0.mk bad1) r_5).bind fun (r_6,m3) =>
  (FA r_6 Exp).bind fun r_7 =>
  some ((r_7,m3))

def I5 (x:Aa) (y:Aa):Option (Aa) :=
  some ((Aa.mk (IntKind.i64.wrap ((IntKind.i64.wrap ((IntKind.i64.wrap ((IntKind.i64.wrap (x.A*y.A))-(IntKind.i64.wrap (x.B*y.D))))-(IntKind.i64.wrap (x.C*y.C))))-(IntKind.i64.wrap (x.D*y.B)))) (IntKind.i64.wrap ((IntKind.i64.wrap ((IntKind.i64.wrap ((IntKind.i64.wrap (x.A*y.B))+(IntKind.i64.wrap (x.B*y.A))))-(IntKind.i64.wrap (x.C*y.D))))-(IntKind.i64.wrap (x.D*y.C)))) (IntKind.i64.wrap ((IntKind.i64.wrap ((IntKind.i64.wrap ((IntKind.i64.wrap (x.A*y.C))+(IntKind.i64.wrap (x.B*y.B))))+(IntKind.i64.wrap (x.C*y.A))))-(IntKind.i64.wrap (x.D*y.D)))) (IntKind.i64.wrap ((IntKind.i64.wrap ((IntKind.i64.wrap ((IntKind.i64.wrap (x.A*y.D))+(IntKind.i64.wrap (x.B*y.C))))+(IntKind.i64.wrap (x.C*y.B))))+(IntKind.i64.wrap (x.D*y.A))))))

def CC (c:A0) (x:Ab) (y:Ab):Option (Ab×A0) :=
  bif (decide (60<(IntKind.i64.wrap (x.Exp+y.Exp)))) then (some (((Ab.mk (Aa.mk 0 0 0 0) 0),(A0.mk true)))) else ((I5 x.Num y.Num).bind fun r_1 =>
  (DK c r_1).bind fun (r_2,m1) =>
  (FA r_2 (IntKind.i64.wrap (x.Exp+y.Exp))).bind fun r_3 =>
  some ((r_3,m1)))

def F9 (a:Af) (Cells:List Ab) (i1:Nat) (b:Af) (j:Nat) (bad:Bool):(Bool×Int×Int×Int×Int×Int×Int)→Option (Ex (Bool×Int×Int×Int×Int×Int×Int) (Bool×List Ab)):=fun (bad2,A,B6,C,D,Exp,K4) =>
  bif ((decide (K4<a.Cols))&&(!bad2)) then ((getI a.Cells (IntKind.i64.wrap ((IntKind.i64.wrap ((i1:Int)*a.Cols))+K4))).bind fun x =>
  (getI b.Cells (IntKind.i64.wrap ((IntKind.i64.wrap (K4*b.Cols))+(j:Int)))).bind fun x1 =>
  (CC (A0.mk bad2) x x1).bind fun (r_1,m1) =>
  (Cy m1 (Ab.mk (Aa.mk A B6 C D) Exp) r_1).bind fun (r_2,m2) =>
  some (.nx (m2.bad,r_2.Num.A,r_2.Num.B,r_2.Num.C,r_2.Num.D,r_2.Exp,(IntKind.i64.wrap (K4+1))))) else (some (.br (bad2,A,B6,C,D,Exp,K4)))
def Jb (a:Af) (Cells:List Ab) (i1:Nat) (b:Af) (bad:Bool):Nat→(Bool×List Ab)→Option (Bool×List Ab):=fun j (bad1,Cells1) =>
  (whX (F9 a Cells i1 b j bad) fuel (bad1,0,0,0,0,0,0)).bind<|orR fun (bad2,A,B6,C,D,Exp,K4) =>
  chk (Cells1.length+1≤1099511627776) <|
  some (bad2,(Cells1++[(Ab.mk (Aa.mk A B6 C D) Exp)]))
def Id (b:Af) (a:Af):Nat→(Bool×List Ab)→Option (Bool×List Ab):=fun i1 (bad,Cells) =>
  chk (b.Cols.toNat≤9223372036854775807) <|
  (forN (Jb a Cells i1 b bad) b.Cols.toNat 0 (bad,Cells)).bind fun (bad1,Cells1) =>
  some (bad1,Cells1)
def Jc (c:A0) (a:Af) (b:Af):Option (Af×A0) :=
  chk (a.Rows.toNat≤9223372036854775807) <|
  (forN (Id b a) a.Rows.toNat 0 (c.bad,[])).bind fun (bad,Cells) =>
  some (((Af.mk a.Rows b.Cols Cells),(A0.mk bad)))

def Il (x:Ad):Nat→(Bool×Int×Int×List Ab)→Option (Bool×Int×Int×List Ab):=fun i (bad,Rows,Cols,Cells) =>
  (((getI x.Gates (i:Int)).bind fun x1 =>
  bif (!bad) then ((HR x.Qubits x1).bind fun r_1 =>
  (Jc (A0.mk bad) r_1 (Af.mk Rows Cols Cells)).bind fun (r_2,m2) =>
  some (m2.bad,r_2.Rows,r_2.Cols,r_2.Cells)) else (some (bad,Rows,Cols,Cells))):Option (Bool×Int×Int×List Ab)).bind fun (bad1,Rows1,Cols1,Cells1) =>
  some (bad1,Rows1,Cols1,Cells1)
def I8 (c:A0) (x:Ad) (m:Af):Option (Af×A0) :=
  chk (x.Gates.length≤9223372036854775807) <|
  (forN (Il x) x.Gates.length 0 (c.bad,m.Rows,m.Cols,m.Cells)).bind fun (bad,Rows,Cols,Cells) =>
  some (((Af.mk Rows Cols Cells),(A0.mk bad)))

def MB (c:Ad):Option (Af×Bool) :=
  (ES c).bind fun r_2 =>
  bif (!r_2) then (some (((Af.mk 0 0 []),false))) else (chk ((0:Int)≤(IntKind.u64.wrap c.Qubits)) <|
  (Ou (shlK .i64 1 (IntKind.u64.wrap c.Qubits))).bind fun r_3 =>
  (I8 (A0.mk false) c r_3).bind fun (r_4,m) =>
  (UE m r_4).bind fun (r_5,r_6) =>
  some ((r_5,r_6)))
end Go.VK
