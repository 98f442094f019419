/- What each Go function computes, by program. -/
import Derived.Test.YteafjgodcdlanaaLRoutesTy
set_option linter.unusedVariables false
namespace Go.VK
open Go.RowKit
def F_spec_l1Cur_next (c:Tl1Cur):Option (Int×Tl1Cur) :=
  ((bif (decide (c.at_<(c.code.length:Int))) then ((getI c.code c.at_).bind fun x =>
  some (IntKind.i64.wrap x)) else (some 0)):Option (Int)).bind fun b =>
  bif (decide ((IntKind.i64.wrap (c.at_+1))≤(c.code.length:Int))) then (some ((b,(Tl1Cur.mk c.code (IntKind.i64.wrap (c.at_+1)) (IntKind.u64.wrap ((IntKind.u64.wrap ((IntKind.u64.wrap (c.seed*6364136223846793005))+(IntKind.u64.wrap b)))+1442695040888963407)))))) else (some (((IntKind.i64.wrap (bits .and .u64 (shrK .u64 (IntKind.u64.wrap ((IntKind.u64.wrap ((IntKind.u64.wrap (c.seed*6364136223846793005))+(IntKind.u64.wrap b)))+1442695040888963407)) 40) 255)),(Tl1Cur.mk c.code (IntKind.i64.wrap (c.at_+1)) (IntKind.u64.wrap ((IntKind.u64.wrap ((IntKind.u64.wrap (c.seed*6364136223846793005))+(IntKind.u64.wrap b)))+1442695040888963407))))))

def F_spec_l1Cur_pick (c:Tl1Cur) (n1:Int):Option (Int×Tl1Cur) :=
  bif (decide (n1≤1)) then (some ((0,c))) else ((F_spec_l1Cur_next c).bind fun (r_1,m1) =>
  ((bif (decide (200<n1)) then ((F_spec_l1Cur_next (Tl1Cur.mk c.code m1.at_ m1.seed)).bind fun (r_2,m2) =>
  some (m2.at_,m2.seed,(IntKind.i64.wrap ((IntKind.i64.wrap (r_1*256))+r_2)))) else (some (m1.at_,m1.seed,r_1))):Option (Int×Int×Int)).bind fun (at_,seed,x) =>
  chk (n1≠(0:Int)) <|
  some (((Int.tmod x n1),(Tl1Cur.mk c.code at_ seed))))

def F_spec_l1Cur_one (c:Tl1Cur) (n1:Int):Option (Bool×Tl1Cur) :=
  (F_spec_l1Cur_pick c n1).bind fun (r_1,m1) =>
  some (((r_1==0),(Tl1Cur.mk c.code m1.at_ m1.seed)))

def F_spec_l1In (n:Int) (lo:Int) (hi:Int):Option (Bool) :=
  some (((decide (lo≤n))&&(decide (n≤hi))))

def F_spec_l1Cur_gate (c:Tl1Cur) (n1:Int) (kinds:List Int):Option (TGate×Tl1Cur) :=
  (F_spec_l1Cur_pick c (kinds.length:Int)).bind fun (r_1,m1) =>
  (getI kinds r_1).bind fun x =>
  bif (x==12) then (some (((TGate.mk x 0 0),(Tl1Cur.mk c.code m1.at_ m1.seed)))) else ((F_spec_l1Cur_pick (Tl1Cur.mk c.code m1.at_ m1.seed) n1).bind fun (r_2,m2) =>
  (((F_spec_l1In x 9 11).bind fun r_3 =>
  bif r_3 then (bif (n1==1) then (some (.inr ((TGate.mk 1 0 0),(Tl1Cur.mk c.code m2.at_ m2.seed)))) else ((F_spec_l1Cur_pick (Tl1Cur.mk c.code m2.at_ m2.seed) (IntKind.i64.wrap (n1-1))).bind fun (r_4,m3) =>
  chk (n1≠(0:Int)) <|
  some (.inl (m3.at_,m3.seed,(Int.tmod (IntKind.i64.wrap ((IntKind.i64.wrap (r_2+1))+r_4)) n1))))) else (some (.inl (m2.at_,m2.seed,0)))):Option ((Int×Int×Int) ⊕ (TGate×Tl1Cur))).bind<|orR fun (at_,seed,B3) =>
  some (((TGate.mk x r_2 B3),(Tl1Cur.mk c.code at_ seed))))

def F_spec_l1Cur_built_l1 (c:Tl1Cur) (n1:Int) (kinds:List Int):(Int×Int×List TGate×Int)→Option (Ex (Int×Int×List TGate×Int) (TCircuit×Tl1Cur)):=fun (at_,seed,Gates,k_) =>
  bif (decide (0<k_)) then ((F_spec_l1Cur_gate (Tl1Cur.mk c.code at_ seed) n1 kinds).bind fun (r_2,m2) =>
  chk (Gates.length+1≤1099511627776) <|
  some (.nx (m2.at_,m2.seed,(Gates++[r_2]),(IntKind.i64.wrap (k_-1))))) else (some (.br (at_,seed,Gates,k_)))
def F_spec_l1Cur_built (c:Tl1Cur) (n1:Int) (most:Int) (kinds:List Int):Option (TCircuit×Tl1Cur) :=
  (F_spec_l1Cur_pick c (IntKind.i64.wrap (most+1))).bind fun (r_1,m1) =>
  (whX (F_spec_l1Cur_built_l1 c n1 kinds) fuel (m1.at_,m1.seed,[],r_1)).bind<|orR fun (at_,seed,Gates,k_) =>
  some (((TCircuit.mk n1 Gates),(Tl1Cur.mk c.code at_ seed)))

def F_spec_LineGraph_l1 (n:Int):(List TEdge×Int)→Option (Ex (List TEdge×Int) (TCouplingGraph×Bool)):=fun (Edges,i) =>
  bif (decide ((IntKind.i64.wrap (i+1))<n)) then (chk (Edges.length+1≤1099511627776) <|
  some (.nx ((Edges++[(TEdge.mk i (IntKind.i64.wrap (i+1)))]),(IntKind.i64.wrap (i+1))))) else (some (.br (Edges,i)))
def F_spec_LineGraph (n:Int):Option (TCouplingGraph×Bool) :=
  (F_spec_l1In n 1 8).bind fun r_2 =>
  bif (!r_2) then (some (((TCouplingGraph.mk 0 []),false))) else ((whX (F_spec_LineGraph_l1 n) fuel ([],0)).bind<|orR fun (Edges,i) =>
  some (((TCouplingGraph.mk n Edges),true)))

def F_spec_RingGraph_l2 (n:Int) (a:Nat):(List TEdge×Int)→Option (Ex (List TEdge×Int) (List TEdge)):=fun (Edges1,b2) =>
  bif (decide (b2<n)) then (((bif ((b2==(IntKind.i64.wrap ((a:Int)+1)))||(((a:Int)==0)&&(b2==(IntKind.i64.wrap (n-1))))) then (chk (Edges1.length+1≤1099511627776) <|
  some (Edges1++[(TEdge.mk (a:Int) b2)])) else (some Edges1)):Option (List TEdge)).bind fun Edges2 =>
  some (.nx (Edges2,(IntKind.i64.wrap (b2+1))))) else (some (.br (Edges1,b2)))
def F_spec_RingGraph_l1 (n:Int):Nat→(List TEdge)→Option (List TEdge):=fun a Edges =>
  (whX (F_spec_RingGraph_l2 n a) fuel (Edges,(IntKind.i64.wrap ((a:Int)+1)))).bind<|orR fun (Edges1,b2) =>
  some Edges1
def F_spec_RingGraph (n:Int):Option (TCouplingGraph×Bool) :=
  (F_spec_l1In n 3 8).bind fun r_2 =>
  bif (!r_2) then (some (((TCouplingGraph.mk 0 []),false))) else (chk (n.toNat≤9223372036854775807) <|
  (forN (F_spec_RingGraph_l1 n) n.toNat 0 []).bind fun Edges =>
  some (((TCouplingGraph.mk n Edges),true)))

def F_spec_l19Edges_l3 (pairs:List (List Int)) (a:Nat) (b:Int):Nat→(List TEdge)→Option (Ex (List TEdge) (Ex (List TEdge×Int) (List TEdge))):=fun i1 out3 =>
  (getI pairs (i1:Int)).bind fun x =>
  bif ((((x.getD 0 0)==(a:Int))&&(((x.getD 1 0)==b)&&true))||(((x.getD 0 0)==b)&&(((x.getD 1 0)==(a:Int))&&true))) then (chk (out3.length+1≤1099511627776) <|
  some (.br (out3++[(TEdge.mk (a:Int) b)]))) else (some (.nx out3))
def F_spec_l19Edges_l2 (nodes:Int) (pairs:List (List Int)) (a:Nat):(List TEdge×Int)→Option (Ex (List TEdge×Int) (List TEdge)):=fun (out1,b) =>
  bif (decide (b<nodes)) then (chk (pairs.length≤9223372036854775807) <|
  (forX (F_spec_l19Edges_l3 pairs a b) pairs.length 0 out1).bind<|orR fun out2 =>
  some (.nx (out2,(IntKind.i64.wrap (b+1))))) else (some (.br (out1,b)))
def F_spec_l19Edges_l1 (nodes:Int) (pairs:List (List Int)):Nat→(List TEdge)→Option (List TEdge):=fun a out =>
  (whX (F_spec_l19Edges_l2 nodes pairs a) fuel (out,(IntKind.i64.wrap ((a:Int)+1)))).bind<|orR fun (out1,b) =>
  some out1
def F_spec_l19Edges (nodes:Int) (pairs:List (List Int)):Option (List TEdge) :=
  chk (nodes.toNat≤9223372036854775807) <|
  (forN (F_spec_l19Edges_l1 nodes pairs) nodes.toNat 0 []).bind fun out =>
  some (out)

def F_spec_l1Cur_device_l1 (lo:Int) (r_1:Int) (c:Tl1Cur):(Int×Int×List (List Int)×Int)→Option (Ex (Int×Int×List (List Int)×Int) (Int×Int×List TEdge)):=fun (at_2,seed2,pairs,a) =>
  bif (decide (a<(IntKind.i64.wrap (lo+r_1)))) then ((F_spec_l1Cur_pick (Tl1Cur.mk c.code at_2 seed2) a).bind fun (r_8,m4) =>
  chk (pairs.length+1≤1099511627776) <|
  some (.nx (m4.at_,m4.seed,(pairs++[([r_8,a]:List Int)]),(IntKind.i64.wrap (a+1))))) else (some (.br (at_2,seed2,pairs,a)))
def F_spec_l1Cur_device (c:Tl1Cur) (lo:Int) (hi:Int):Option (TCouplingGraph×Tl1Cur) :=
  (F_spec_l1Cur_pick c (IntKind.i64.wrap ((IntKind.i64.wrap (hi-lo))+1))).bind fun (r_1,m1) =>
  (F_spec_LineGraph (IntKind.i64.wrap (lo+r_1))).bind fun (r_2,r_3) =>
  ((bif (decide (3≤(IntKind.i64.wrap (lo+r_1)))) then ((F_spec_l1Cur_one (Tl1Cur.mk c.code m1.at_ m1.seed) 4).bind fun (r_4,m2) =>
  bif r_4 then ((F_spec_RingGraph (IntKind.i64.wrap (lo+r_1))).bind fun (r_5,r_6) =>
  some (m2.at_,m2.seed,r_5.Nodes,r_5.Edges)) else (some (m2.at_,m2.seed,r_2.Nodes,r_2.Edges))) else (some (m1.at_,m1.seed,r_2.Nodes,r_2.Edges))):Option (Int×Int×Int×List TEdge)).bind fun (at_,seed,Nodes,Edges) =>
  (((F_spec_l1Cur_one (Tl1Cur.mk c.code at_ seed) 3).bind fun (r_7,m3) =>
  bif r_7 then ((whX (F_spec_l1Cur_device_l1 lo r_1 c) fuel (m3.at_,m3.seed,[],1)).bind<|orR fun (at_2,seed2,pairs,a) =>
  (((F_spec_l1Cur_one (Tl1Cur.mk c.code at_2 seed2) 3).bind fun (r_9,m5) =>
  bif r_9 then ((F_spec_l1Cur_pick (Tl1Cur.mk c.code m5.at_ m5.seed) (IntKind.i64.wrap (lo+r_1))).bind fun (r_10,m6) =>
  (F_spec_l1Cur_pick (Tl1Cur.mk c.code m6.at_ m6.seed) (IntKind.i64.wrap (lo+r_1))).bind fun (r_11,m7) =>
  chk (pairs.length+1≤1099511627776) <|
  some (m7.at_,m7.seed,(pairs++[([r_10,r_11]:List Int)]))) else (some (m5.at_,m5.seed,pairs))):Option (Int×Int×List (List Int))).bind fun (at_3,seed3,pairs1) =>
  ((bif (decide (0<(pairs1.length:Int))) then ((F_spec_l1Cur_one (Tl1Cur.mk c.code at_3 seed3) 6).bind fun (r_12,m8) =>
  bif r_12 then (chk ((0:Int)≤1∧1≤(pairs1.length:Int)) <|
  some (m8.at_,m8.seed,(List.drop 1 pairs1))) else (some (m8.at_,m8.seed,pairs1))) else (some (at_3,seed3,pairs1))):Option (Int×Int×List (List Int))).bind fun (at_4,seed4,pairs2) =>
  (F_spec_l19Edges (IntKind.i64.wrap (lo+r_1)) pairs2).bind fun r_13 =>
  some (at_4,seed4,r_13)) else (some (m3.at_,m3.seed,Edges))):Option (Int×Int×List TEdge)).bind fun (at_1,seed1,Edges1) =>
  some (((TCouplingGraph.mk Nodes Edges1),(Tl1Cur.mk c.code at_1 seed1)))

def F_spec_l1Has_l1 (l:List Int) (n1:Int):Nat→Unit→Option (Ex (Unit) (Bool)):=fun i _ =>
  (getI l (i:Int)).bind fun x =>
  bif (x==n1) then (some (.rt true)) else (some (.nx ()))
def F_spec_l1Has (l:List Int) (n1:Int):Option (Bool) :=
  chk (l.length≤9223372036854775807) <|
  (forX (F_spec_l1Has_l1 l n1) l.length 0 ()).bind<|orR fun _ =>
  some (false)

def F_spec_l1Cur_among (c:Tl1Cur) (list:List Int):Option (Int×Tl1Cur) :=
  (F_spec_l1Cur_pick c (list.length:Int)).bind fun (r_1,m1) =>
  (getI list r_1).bind fun x =>
  some ((x,(Tl1Cur.mk c.code m1.at_ m1.seed)))

def F_spec_l1Cur_circuit (c:Tl1Cur):Option (TCircuit×Tl1Cur) :=
  (F_spec_l1Cur_among c [1,2,2,3]).bind fun (r_1,m1) =>
  (F_spec_l1Cur_built (Tl1Cur.mk c.code m1.at_ m1.seed) r_1 8 [1,2,3,4,5,6,7,8,9,9,10,11,12,7,1]).bind fun (r_2,m2) =>
  some ((r_2,(Tl1Cur.mk c.code m2.at_ m2.seed)))

def F_spec_l1Cur_anyCircuit (c:Tl1Cur):Option (TCircuit×Tl1Cur) :=
  (F_spec_l1Cur_circuit c).bind fun (r_1,m1) =>
  (((F_spec_l1Cur_pick (Tl1Cur.mk c.code m1.at_ m1.seed) 14).bind fun (r_2,m2) =>
  bif (r_2==0) then ((F_spec_l1Cur_among (Tl1Cur.mk c.code m2.at_ m2.seed) [0,1,5,6]).bind fun (r_3,m3) =>
  some (m3.at_,m3.seed,r_3,r_1.Gates)) else (bif (r_2==1) then ((F_spec_l1Cur_pick (Tl1Cur.mk c.code m2.at_ m2.seed) 14).bind fun (r_4,m4) =>
  (F_spec_l1Cur_pick (Tl1Cur.mk c.code m4.at_ m4.seed) 4).bind fun (r_5,m5) =>
  (F_spec_l1Cur_pick (Tl1Cur.mk c.code m5.at_ m5.seed) 4).bind fun (r_6,m6) =>
  chk (r_1.Gates.length+1≤1099511627776) <|
  some (m6.at_,m6.seed,r_1.Qubits,(r_1.Gates++[(TGate.mk r_4 (IntKind.i64.wrap (r_5-1)) (IntKind.i64.wrap (r_6-1)))]))) else (some (m2.at_,m2.seed,r_1.Qubits,r_1.Gates)))):Option (Int×Int×Int×List TGate)).bind fun (at_,seed,Qubits,Gates) =>
  some (((TCircuit.mk Qubits Gates),(Tl1Cur.mk c.code at_ seed)))

def F_spec_l1Cur_routed_l2 (start:List Int) (r_5:TCouplingGraph):Int→Option (Ex (Int) (Int×Int×List Int)):=fun K10 =>
  (F_spec_l1Has start K10).bind fun r_7 =>
  bif r_7 then (chk (r_5.Nodes≠(0:Int)) <|
  some (.nx (Int.tmod (IntKind.i64.wrap (K10+1)) r_5.Nodes))) else (some (.br K10))
def F_spec_l1Cur_routed_l1 (c:Tl1Cur) (r_5:TCouplingGraph):Nat→(Int×Int×List Int)→Option (Int×Int×List Int):=fun q (at_,seed,start) =>
  (F_spec_l1Cur_pick (Tl1Cur.mk c.code at_ seed) r_5.Nodes).bind fun (r_6,m4) =>
  (whX (F_spec_l1Cur_routed_l2 start r_5) fuel r_6).bind<|orR fun K10 =>
  chk (start.length+1≤1099511627776) <|
  some (m4.at_,m4.seed,(start++[K10]))
def F_spec_l1Cur_routed (c:Tl1Cur):Option (TCouplingGraph×TCircuit×List Int×Tl1Cur) :=
  (F_spec_l1Cur_pick c 3).bind fun (r_3,m1) =>
  (F_spec_l1Cur_built (Tl1Cur.mk c.code m1.at_ m1.seed) (IntKind.i64.wrap (2+r_3)) 9 [1,7,9,9,9,9,10,11,12]).bind fun (r_4,m2) =>
  (F_spec_l1Cur_device (Tl1Cur.mk c.code m2.at_ m2.seed) (IntKind.i64.wrap (2+r_3)) 5).bind fun (r_5,m3) =>
  chk (((IntKind.i64.wrap (2+r_3)).toNat)≤9223372036854775807) <|
  (forN (F_spec_l1Cur_routed_l1 c r_5) ((IntKind.i64.wrap (2+r_3)).toNat) 0 (m3.at_,m3.seed,[])).bind fun (at_,seed,start) =>
  (((F_spec_l1Cur_pick (Tl1Cur.mk c.code at_ seed) 16).bind fun (r_8,m5) =>
  bif (r_8==0) then ((F_spec_l1Cur_anyCircuit (Tl1Cur.mk c.code m5.at_ m5.seed)).bind fun (r_9,m6) =>
  some (m6.at_,m6.seed,r_9.Qubits,r_9.Gates,r_5.Edges,start)) else (bif (r_8==1) then ((F_spec_l1Cur_pick (Tl1Cur.mk c.code m5.at_ m5.seed) 4).bind fun (r_10,m7) =>
  (F_spec_l1Cur_pick (Tl1Cur.mk c.code m7.at_ m7.seed) 6).bind fun (r_11,m8) =>
  chk (r_5.Edges.length+1≤1099511627776) <|
  some (m8.at_,m8.seed,r_4.Qubits,r_4.Gates,(r_5.Edges++[(TEdge.mk r_10 r_11)]),start)) else (bif (r_8==2) then ((F_spec_l1Cur_pick (Tl1Cur.mk c.code m5.at_ m5.seed) (IntKind.i64.wrap (2+r_3))).bind fun (r_12,m9) =>
  (F_spec_l1Cur_pick (Tl1Cur.mk c.code m9.at_ m9.seed) 7).bind fun (r_13,m10) =>
  (getI start r_12).bind fun x =>
  some (m10.at_,m10.seed,r_4.Qubits,r_4.Gates,r_5.Edges,(start.set r_12.toNat (IntKind.i64.wrap (r_13-1))))) else (bif (r_8==3) then (chk ((0:Int)≤1∧1≤(start.length:Int)) <|
  some (m5.at_,m5.seed,r_4.Qubits,r_4.Gates,r_5.Edges,(List.drop 1 start))) else (some (m5.at_,m5.seed,r_4.Qubits,r_4.Gates,r_5.Edges,start)))))):Option (Int×Int×Int×List TGate×List TEdge×List Int)).bind fun (at_1,seed1,Qubits,Gates,Edges,start1) =>
  some (((TCouplingGraph.mk r_5.Nodes Edges),(TCircuit.mk Qubits Gates),start1,(Tl1Cur.mk c.code at_1 seed1)))

def F_spec_DrawLeastSwaps_l1:(List TGate×Int)→Option (Ex (List TGate×Int) (TCouplingGraph×TCircuit×List Int)):=fun (Gates,k_) =>
  bif (decide (0<k_)) then (chk (Gates.length+1≤1099511627776) <|
  some (.nx ((Gates++[(TGate.mk 10 (Int.tmod k_ 2) (IntKind.i64.wrap (1-(Int.tmod k_ 2))))]),(IntKind.i64.wrap (k_-1))))) else (some (.br (Gates,k_)))
def F_spec_DrawLeastSwaps (code:List Int):Option (TCouplingGraph×TCircuit×List Int) :=
  (F_spec_l1Cur_one (Tl1Cur.mk code 0 0) 14).bind fun (r_3,m) =>
  bif r_3 then ((F_spec_l1Cur_built (Tl1Cur.mk code m.at_ m.seed) 2 9 [7,9]).bind fun (r_4,m1) =>
  (F_spec_l1Cur_pick (Tl1Cur.mk code m1.at_ m1.seed) 6).bind fun (r_5,m2) =>
  (whX F_spec_DrawLeastSwaps_l1 fuel (r_4.Gates,(IntKind.i64.wrap (5+r_5)))).bind<|orR fun (Gates,k_) =>
  (F_spec_l1Cur_device (Tl1Cur.mk code m2.at_ m2.seed) 2 6).bind fun (r_6,m3) =>
  some ((r_6,(TCircuit.mk r_4.Qubits Gates),[0,(IntKind.i64.wrap (r_6.Nodes-1))]))) else ((F_spec_l1Cur_routed (Tl1Cur.mk code m.at_ m.seed)).bind fun (r_7,r_8,r_9,m4) =>
  some ((r_7,r_8,r_9)))

def F_impl_within (n:Int) (low:Int) (high:Int):Option (Bool) :=
  some (((decide (low≤n))&&(decide (n≤high))))

def F_slices_Index_int_int_l1 (s:List Int) (v_:Int):Nat→Unit→Option (Ex (Unit) (Int)):=fun i _ =>
  (getI s (i:Int)).bind fun x =>
  bif (v_==x) then (some (.rt (i:Int))) else (some (.nx ()))
def F_slices_Index_int_int (s:List Int) (v_:Int):Option (Int) :=
  chk (s.length≤9223372036854775807) <|
  (forX (F_slices_Index_int_int_l1 s v_) s.length 0 ()).bind<|orR fun _ =>
  some ((-1))

def F_slices_Contains_int_int (s:List Int) (v_:Int):Option (Bool) :=
  (F_slices_Index_int_int s v_).bind fun r_1 =>
  some ((decide (0≤r_1)))

def F_impl_CouplingGraph_isPlacement_l1 (place:List Int) (g:TCouplingGraph):Nat→Unit→Option (Ex (Unit) (Bool)):=fun i _ =>
  (getI place (i:Int)).bind fun x =>
  (F_impl_within x 0 (IntKind.i64.wrap (g.Nodes-1))).bind fun r_1 =>
  bif (!(!r_1)) then (chk ((0:Int)≤(i:Int)∧(i:Int)≤(place.length:Int)) <|
  (F_slices_Contains_int_int (List.take i place) x).bind fun r_2 =>
  bif r_2 then (some (.rt false)) else (some (.nx ()))) else (some (.rt false))
def F_impl_CouplingGraph_isPlacement (g:TCouplingGraph) (n1:Int) (place:List Int):Option (Bool) :=
  chk (place.length≤9223372036854775807) <|
  (forX (F_impl_CouplingGraph_isPlacement_l1 place g) place.length 0 ()).bind<|orR fun _ =>
  some (((place.length:Int)==n1))

def F_slices_Clone_int_int (s:List Int):Option (List Int) :=
  chk (0+s.length≤1099511627776) <|
  some (s)

def F_impl_newRouting (g:TCouplingGraph) (c1:TCircuit) (start:List Int):Option (Trouting) :=
  (F_slices_Clone_int_int start).bind fun r_1 =>
  chk ((0:Int)≤(c1.Gates.length:Int)∧(c1.Gates.length:Int)≤1099511627776) <|
  some ((Trouting.mk g c1 r_1 (List.replicate c1.Gates.length false)))

def F_impl_areEdges_l1 (edges:List TEdge) (n:Int):Nat→Unit→Option (Ex (Unit) (Bool)):=fun i _ =>
  (getI edges (i:Int)).bind fun x =>
  (gb ((!(((decide (x.A<0))||(decide (x.B≤x.A)))||(decide (n≤x.B))))&&(decide (0<(i:Int)))) (TEdge.mk 0 0) (getI edges (IntKind.i64.wrap ((i:Int)-1)))).bind fun x1 =>
  (gb (((!(((decide (x.A<0))||(decide (x.B≤x.A)))||(decide (n≤x.B))))&&(decide (0<(i:Int))))&&(!(decide (x.A<x1.A)))) (TEdge.mk 0 0) (getI edges (IntKind.i64.wrap ((i:Int)-1)))).bind fun x2 =>
  (gb ((((!(((decide (x.A<0))||(decide (x.B≤x.A)))||(decide (n≤x.B))))&&(decide (0<(i:Int))))&&(!(decide (x.A<x1.A))))&&(x2.A==x.A)) (TEdge.mk 0 0) (getI edges (IntKind.i64.wrap ((i:Int)-1)))).bind fun x3 =>
  bif ((((decide (x.A<0))||(decide (x.B≤x.A)))||(decide (n≤x.B)))||((decide (0<(i:Int)))&&((decide (x.A<x1.A))||((x2.A==x.A)&&(decide (x.B≤x3.B)))))) then (some (.rt false)) else (some (.nx ()))
def F_impl_areEdges (n:Int) (edges:List TEdge):Option (Bool) :=
  chk (edges.length≤9223372036854775807) <|
  (forX (F_impl_areEdges_l1 edges n) edges.length 0 ()).bind<|orR fun _ =>
  some (true)

def F_impl_IsValidCouplingGraph (g:TCouplingGraph):Option (Bool) :=
  (F_impl_within g.Nodes 1 8).bind fun r_1 =>
  (gb r_1 false (F_impl_areEdges g.Nodes g.Edges)).bind fun r_2 =>
  some ((r_1&&r_2))

def F_slices_IndexFunc_impl_Gate_impl_Gate_l1 (s:List TGate) (f_:TGate→Option (Bool)):Nat→Unit→Option (Ex (Unit) (Int)):=fun i _ =>
  (getI s (i:Int)).bind fun x1 =>
  (f_ x1).bind fun r_1 =>
  bif r_1 then (some (.rt (i:Int))) else (some (.nx ()))
def F_slices_IndexFunc_impl_Gate_impl_Gate (s:List TGate) (f_:TGate→Option (Bool)):Option (Int) :=
  chk (s.length≤9223372036854775807) <|
  (forX (F_slices_IndexFunc_impl_Gate_impl_Gate_l1 s f_) s.length 0 ()).bind<|orR fun _ =>
  some ((-1))

def F_slices_ContainsFunc_impl_Gate_impl_Gate (s:List TGate) (f_:TGate→Option (Bool)):Option (Bool) :=
  (F_slices_IndexFunc_impl_Gate_impl_Gate s f_).bind fun r_1 =>
  some ((decide (0≤r_1)))

def F_impl_isTwo (kind:Int):Option (Bool) :=
  (F_impl_within kind 9 11).bind fun r_1 =>
  some (r_1)

def F_impl_IsValidGate (n:Int) (g:TGate):Option (Bool) :=
  (F_impl_within n 1 5).bind fun r_1 =>
  (gb (!(!r_1)) false (F_impl_within g.Kind 1 12)).bind fun r_2 =>
  bif ((!r_1)||(!r_2)) then (some (false)) else (bif (g.Kind==12) then (some (((g.A==0)&&(g.B==0)))) else ((F_impl_isTwo g.Kind).bind fun r_3 =>
  bif r_3 then ((F_impl_within g.A 0 (IntKind.i64.wrap (n-1))).bind fun r_4 =>
  (gb r_4 false (F_impl_within g.B 0 (IntKind.i64.wrap (n-1)))).bind fun r_5 =>
  some (((r_4&&r_5)&&(g.A != g.B)))) else ((F_impl_within g.A 0 (IntKind.i64.wrap (n-1))).bind fun r_6 =>
  some ((r_6&&(g.B==0))))))

def F_impl_IsValidCircuit_1 (g:TGate) (p:TCircuit):Option (Bool) :=
  (F_impl_IsValidGate p.Qubits g).bind fun r_1 =>
  some ((!r_1))

def F_impl_IsValidCircuit (c:TCircuit):Option (Bool) :=
  (F_impl_within c.Qubits 1 5).bind fun r_1 =>
  (gb (r_1&&(decide ((c.Gates.length:Int)≤400))) false (F_slices_ContainsFunc_impl_Gate_impl_Gate c.Gates (fun x_0=>F_impl_IsValidCircuit_1 x_0 c))).bind fun r_2 =>
  some (((r_1&&(decide ((c.Gates.length:Int)≤400)))&&(!r_2)))

def F_impl_canRoute (g:TCouplingGraph) (c1:TCircuit):Option (Bool) :=
  (F_impl_IsValidCouplingGraph g).bind fun r_1 =>
  (gb r_1 false (F_impl_IsValidCircuit c1)).bind fun r_2 =>
  some (((r_1&&r_2)&&(decide (c1.Qubits≤g.Nodes))))

def F_impl_counted_l1 (c:TCircuit) (is_:Int→Option (Bool)):Nat→Int→Option (Int):=fun i count =>
  (((getI c.Gates (i:Int)).bind fun x1 =>
  (is_ x1.Kind).bind fun r_3 =>
  bif r_3 then (some (IntKind.i64.wrap (count+1))) else (some count)):Option (Int)).bind fun count1 =>
  some count1
def F_impl_counted (c:TCircuit) (is_:Int→Option (Bool)):Option (Int×Bool) :=
  (F_impl_IsValidCircuit c).bind fun r_2 =>
  bif (!r_2) then (some ((0,false))) else (chk (c.Gates.length≤9223372036854775807) <|
  (forN (F_impl_counted_l1 c is_) c.Gates.length 0 0).bind fun count =>
  some ((count,true)))

def F_impl_CountTwo (c:TCircuit):Option (Int×Bool) :=
  (F_impl_counted c F_impl_isTwo).bind fun (r_2,r_3) =>
  some ((r_2,r_3))

def F_impl_canSearch (g:TCouplingGraph) (c1:TCircuit):Option (Bool) :=
  (F_impl_CountTwo c1).bind fun (r_1,r_2) =>
  (gb r_2 false (F_impl_canRoute g c1)).bind fun r_3 =>
  some (((((r_2&&r_3)&&(decide (g.Nodes≤5)))&&(decide ((c1.Gates.length:Int)≤40)))&&(decide (r_1≤12))))

def F_slices_Index_impl_Edge_impl_Edge_l1 (s:List TEdge) (v_:TEdge):Nat→Unit→Option (Ex (Unit) (Int)):=fun i _ =>
  (getI s (i:Int)).bind fun x =>
  bif ((v_.A==x.A)&&((v_.B==x.B)&&true)) then (some (.rt (i:Int))) else (some (.nx ()))
def F_slices_Index_impl_Edge_impl_Edge (s:List TEdge) (v_:TEdge):Option (Int) :=
  chk (s.length≤9223372036854775807) <|
  (forX (F_slices_Index_impl_Edge_impl_Edge_l1 s v_) s.length 0 ()).bind<|orR fun _ =>
  some ((-1))

def F_slices_Contains_impl_Edge_impl_Edge (s:List TEdge) (v_:TEdge):Option (Bool) :=
  (F_slices_Index_impl_Edge_impl_Edge s v_).bind fun r_1 =>
  some ((decide (0≤r_1)))

def F_impl_CouplingGraph_joins (g:TCouplingGraph) (a:Int) (b:Int):Option (Bool) :=
  (F_slices_Contains_impl_Edge_impl_Edge g.Edges (TEdge.mk (if b<a then b else a) (if a<b then b else a))).bind fun r_1 =>
  some (r_1)

def F_impl_routing_fits (r_:Trouting) (k_:Int):Option (Bool) :=
  (getI r_.c.Gates k_).bind fun x =>
  (F_impl_isTwo x.Kind).bind fun r_2 =>
  (gb (!(!r_2)) 0 (getI r_.place x.A)).bind fun x1 =>
  (gb (!(!r_2)) 0 (getI r_.place x.B)).bind fun x2 =>
  (gb (!(!r_2)) false (F_impl_CouplingGraph_joins r_.g x1 x2)).bind fun r_3 =>
  some (((!r_2)||r_3))

def F_slices_IndexFunc_int_int_l1 (s:List Int) (f_:Int→Option (Bool)):Nat→Unit→Option (Ex (Unit) (Int)):=fun i _ =>
  (getI s (i:Int)).bind fun x1 =>
  (f_ x1).bind fun r_1 =>
  bif r_1 then (some (.rt (i:Int))) else (some (.nx ()))
def F_slices_IndexFunc_int_int (s:List Int) (f_:Int→Option (Bool)):Option (Int) :=
  chk (s.length≤9223372036854775807) <|
  (forX (F_slices_IndexFunc_int_int_l1 s f_) s.length 0 ()).bind<|orR fun _ =>
  some ((-1))

def F_slices_ContainsFunc_int_int (s:List Int) (f_:Int→Option (Bool)):Option (Bool) :=
  (F_slices_IndexFunc_int_int s f_).bind fun r_1 =>
  some ((decide (0≤r_1)))

def F_impl_qubitsOf (g:TGate):Option (List Int) :=
  bif (g.Kind==12) then (some ([])) else ((F_impl_isTwo g.Kind).bind fun r_1 =>
  bif r_1 then (some ([g.A,g.B])) else (some ([g.A])))

def F_impl_meet_1 (q:Int) (p:TGate):Option (Bool) :=
  (F_impl_qubitsOf p).bind fun r_1 =>
  (F_slices_Contains_int_int r_1 q).bind fun r_2 =>
  some (r_2)

def F_impl_meet (g:TGate) (h:TGate):Option (Bool) :=
  (F_impl_qubitsOf g).bind fun r_1 =>
  (F_slices_ContainsFunc_int_int r_1 (fun x_0=>F_impl_meet_1 x_0 h)).bind fun r_2 =>
  some (r_2)

def F_impl_routing_isReady_l1 (k_:Int) (r_:Trouting):Nat→Unit→Option (Ex (Unit) (Bool)):=fun i _ =>
  (getI (List.take k_.toNat r_.c.Gates) (i:Int)).bind fun x1 =>
  (getI r_.done (i:Int)).bind fun x2 =>
  (gb (!x2) (TGate.mk 0 0 0) (getI r_.c.Gates k_)).bind fun x3 =>
  (gb (!x2) false (F_impl_meet x1 x3)).bind fun r_3 =>
  bif ((!x2)&&r_3) then (some (.rt false)) else (some (.nx ()))
def F_impl_routing_isReady (r_:Trouting) (k_:Int):Option (Bool) :=
  (F_impl_within k_ 0 (IntKind.i64.wrap ((r_.c.Gates.length:Int)-1))).bind fun r_2 =>
  (gb (!(!r_2)) false (getI r_.done k_)).bind fun x =>
  bif ((!r_2)||x) then (some (false)) else (chk ((0:Int)≤k_∧k_≤(r_.c.Gates.length:Int)) <|
  chk (k_.toNat≤9223372036854775807) <|
  (forX (F_impl_routing_isReady_l1 k_ r_) k_.toNat 0 ()).bind<|orR fun _ =>
  some (true))

def F_impl_routeNode_advance_l1 (n:TrouteNode):(List Bool×List TRouteStep×Int)→Option (Ex (List Bool×List TRouteStep×Int) (TrouteNode×List Bool)):=fun (done,steps,k_) =>
  bif (decide (k_<(n.work.c.Gates.length:Int))) then ((((F_impl_routing_isReady (Trouting.mk n.work.g n.work.c n.work.place done) k_).bind fun r_ =>
  (gb r_ false (F_impl_routing_fits (Trouting.mk n.work.g n.work.c n.work.place done) k_)).bind fun r_1 =>
  bif (r_&&r_1) then ((getI done k_).bind fun x =>
  chk (steps.length+1≤1099511627776) <|
  some ((done.set k_.toNat true),(steps++[(TRouteStep.mk k_ 0 0)]),(-1))) else (some (done,steps,k_))):Option (List Bool×List TRouteStep×Int)).bind fun (done1,steps1,K18) =>
  some (.nx (done1,steps1,(IntKind.i64.wrap (K18+1))))) else (some (.br (done,steps,k_)))
def F_impl_routeNode_advance (n:TrouteNode):Option (TrouteNode×List Bool) :=
  (whX (F_impl_routeNode_advance_l1 n) fuel (n.work.done,n.steps,0)).bind<|orR fun (done,steps,k_) =>
  some (((TrouteNode.mk (Trouting.mk n.work.g n.work.c n.work.place done) steps),done))

def F_impl_routeNode_key_l1 (n:TrouteNode):(Int×Int)→Option (Ex (Int×Int) (TrouteKey)):=fun (done,t) =>
  bif (decide (t<(n.work.done.length:Int))) then ((((getI n.work.done t).bind fun x =>
  bif x then (chk ((0:Int)≤t) <|
  some (bits .or .u64 done (shlK .u64 1 t))) else (some done)):Option (Int)).bind fun done1 =>
  some (.nx (done1,(IntKind.i64.wrap (t+1))))) else (some (.br (done,t)))
def F_impl_routeNode_key (n:TrouteNode):Option (TrouteKey) :=
  (whX (F_impl_routeNode_key_l1 n) fuel (0,0)).bind<|orR fun (done,t) =>
  some ((TrouteKey.mk ((n.work.place.getD 0 0),(n.work.place.getD 1 0),(n.work.place.getD 2 0),(n.work.place.getD 3 0),(n.work.place.getD 4 0)) done))

def F_slices_Index_bool_bool_l1 (s:List Bool) (v_:Bool):Nat→Unit→Option (Ex (Unit) (Int)):=fun i _ =>
  (getI s (i:Int)).bind fun x =>
  bif (v_==x) then (some (.rt (i:Int))) else (some (.nx ()))
def F_slices_Index_bool_bool (s:List Bool) (v_:Bool):Option (Int) :=
  chk (s.length≤9223372036854775807) <|
  (forX (F_slices_Index_bool_bool_l1 s v_) s.length 0 ()).bind<|orR fun _ =>
  some ((-1))

def F_slices_Contains_bool_bool (s:List Bool) (v_:Bool):Option (Bool) :=
  (F_slices_Index_bool_bool s v_).bind fun r_1 =>
  some ((decide (0≤r_1)))

def F_impl_routing_swap_l1 (a:Int) (b:Int):Nat→(List Int)→Option (List Int):=fun i m1 =>
  (((getI m1 (i:Int)).bind fun x =>
  bif (x==a) then (some (m1.set (i:Int).toNat b)) else (bif (x==b) then (some (m1.set (i:Int).toNat a)) else (some m1))):Option (List Int)).bind fun m2 =>
  some m2
def F_impl_routing_swap (r_:Trouting) (a:Int) (b:Int):Option (List Int) :=
  chk (r_.place.length≤9223372036854775807) <|
  (forN (F_impl_routing_swap_l1 a b) r_.place.length 0 r_.place).bind fun m1 =>
  some (m1)

def F_slices_Clone_bool_bool (s:List Bool):Option (List Bool) :=
  chk (0+s.length≤1099511627776) <|
  some (s)

def F_slices_Clone_impl_RouteStep_impl_RouteStep (s:List TRouteStep):Option (List TRouteStep) :=
  chk (0+s.length≤1099511627776) <|
  some (s)

def F_impl_routeNode_swapped (n:TrouteNode) (e:TEdge):Option (TrouteNode) :=
  (F_slices_Clone_int_int n.work.place).bind fun r_1 =>
  (F_slices_Clone_bool_bool n.work.done).bind fun r_2 =>
  (F_impl_routing_swap (Trouting.mk n.work.g n.work.c r_1 r_2) e.A e.B).bind fun m =>
  (F_slices_Clone_impl_RouteStep_impl_RouteStep n.steps).bind fun r_3 =>
  chk (r_3.length+1≤1099511627776) <|
  (F_impl_routeNode_advance (TrouteNode.mk (Trouting.mk n.work.g n.work.c m r_2) (r_3++[(TRouteStep.mk (-1) e.A e.B)]))).bind fun (m1,m2) =>
  some ((TrouteNode.mk (Trouting.mk (TCouplingGraph.mk m1.work.g.Nodes n.work.g.Edges) (TCircuit.mk m1.work.c.Qubits n.work.c.Gates) m m2) m1.steps))

def F_impl_leastRoute_l2 (g:TCouplingGraph) (x:TrouteNode):Nat→((List (TrouteKey×Bool))×List TrouteNode)→Option ((List (TrouteKey×Bool))×List TrouteNode):=fun i1 (seen1,queue1) =>
  (((getI g.Edges (i1:Int)).bind fun x1 =>
  (F_impl_routeNode_swapped x x1).bind fun r_8 =>
  (F_impl_routeNode_key r_8).bind fun r_9 =>
  bif (!(mgt seen1 r_9 false)) then ((F_impl_routeNode_key r_8).bind fun r_10 =>
  chk (queue1.length+1≤549755813888) <|
  some ((mput seen1 r_10 true),(queue1++([r_8]:List TrouteNode)))) else (some (seen1,queue1))):Option ((List (TrouteKey×Bool))×List TrouteNode)).bind fun (seen2,queue2) =>
  some (seen2,queue2)
def F_impl_leastRoute_l1 (start:List Int) (g:TCouplingGraph):((List (TrouteKey×Bool))×List TrouteNode×Int)→Option (Ex ((List (TrouteKey×Bool))×List TrouteNode×Int) (TRoute×Bool)):=fun (seen,queue,at_1) =>
  bif (decide (at_1<(queue.length:Int))) then ((getI queue at_1).bind fun x =>
  (F_slices_Contains_bool_bool x.work.done false).bind fun r_6 =>
  bif (!r_6) then ((F_slices_Clone_int_int start).bind fun r_7 =>
  some (.rt ((TRoute.mk r_7 x.steps),true))) else (chk (g.Edges.length≤9223372036854775807) <|
  (forN (F_impl_leastRoute_l2 g x) g.Edges.length 0 (seen,queue)).bind fun (seen1,queue1) =>
  some (.nx (seen1,queue1,(IntKind.i64.wrap (at_1+1)))))) else (some (.br (seen,queue,at_1)))
def F_impl_leastRoute (g:TCouplingGraph) (c1:TCircuit) (start:List Int):Option (TRoute×Bool) :=
  (F_impl_canSearch g c1).bind fun r_2 =>
  (gb (!(!r_2)) false (F_impl_CouplingGraph_isPlacement g c1.Qubits start)).bind fun r_3 =>
  bif ((!r_2)||(!r_3)) then (some (((TRoute.mk [] []),false))) else ((F_impl_newRouting g c1 start).bind fun r_4 =>
  (F_impl_routeNode_advance (TrouteNode.mk r_4 [])).bind fun (m,m1) =>
  (F_impl_routeNode_key (TrouteNode.mk (Trouting.mk (TCouplingGraph.mk m.work.g.Nodes r_4.g.Edges) (TCircuit.mk m.work.c.Qubits r_4.c.Gates) r_4.place m1) m.steps)).bind fun r_5 =>
  (whX (F_impl_leastRoute_l1 start g) fuel ((mput ([]:List (TrouteKey×Bool)) r_5 true),([(TrouteNode.mk (Trouting.mk (TCouplingGraph.mk m.work.g.Nodes r_4.g.Edges) (TCircuit.mk m.work.c.Qubits r_4.c.Gates) r_4.place m1) m.steps)]:List TrouteNode),0)).bind<|orR fun (seen,queue,at_1) =>
  some (((TRoute.mk [] []),false)))

def F_impl_small (holds:Bool):Option (Int) :=
  bif holds then (some (1)) else (some (0))

def F_impl_swapsIn_l1 (r_:TRoute):Nat→Int→Option (Int):=fun i count =>
  (getI r_.Steps (i:Int)).bind fun x =>
  (F_impl_small (x.Gate==(-1))).bind fun r_2 =>
  some (IntKind.i64.wrap (count+r_2))
def F_impl_swapsIn (r_:TRoute):Option (Int) :=
  chk (r_.Steps.length≤9223372036854775807) <|
  (forN (F_impl_swapsIn_l1 r_) r_.Steps.length 0 0).bind fun count =>
  some (count)

def F_impl_LeastSwaps (g:TCouplingGraph) (c1:TCircuit) (start:List Int):Option (Int×Bool) :=
  (F_impl_leastRoute g c1 start).bind fun (r_2,r_3) =>
  (F_impl_swapsIn r_2).bind fun r_4 =>
  some ((r_4,r_3))

def F_spec_l22Valid_l1 (g:TCouplingGraph):Nat→Unit→Option (Ex (Unit) (Bool)):=fun i _ =>
  (getI g.Edges (i:Int)).bind fun x =>
  (F_spec_l1In x.A 0 (IntKind.i64.wrap (x.B-1))).bind fun r_1 =>
  (gb (!(!r_1)) false (F_spec_l1In x.B 0 (IntKind.i64.wrap (g.Nodes-1)))).bind fun r_2 =>
  bif ((!r_1)||(!r_2)) then (some (.rt false)) else ((gb (decide (0<(i:Int))) (TEdge.mk 0 0) (getI g.Edges (IntKind.i64.wrap ((i:Int)-1)))).bind fun x1 =>
  (gb ((decide (0<(i:Int)))&&(!(decide (x.A<x1.A)))) (TEdge.mk 0 0) (getI g.Edges (IntKind.i64.wrap ((i:Int)-1)))).bind fun x2 =>
  (gb (((decide (0<(i:Int)))&&(!(decide (x.A<x1.A))))&&(x2.A==x.A)) (TEdge.mk 0 0) (getI g.Edges (IntKind.i64.wrap ((i:Int)-1)))).bind fun x3 =>
  bif ((decide (0<(i:Int)))&&((decide (x.A<x1.A))||((x2.A==x.A)&&(decide (x.B≤x3.B))))) then (some (.rt false)) else (some (.nx ())))
def F_spec_l22Valid (g:TCouplingGraph):Option (Bool) :=
  chk (g.Edges.length≤9223372036854775807) <|
  (forX (F_spec_l22Valid_l1 g) g.Edges.length 0 ()).bind<|orR fun _ =>
  (F_spec_l1In g.Nodes 1 8).bind fun r_3 =>
  some (r_3)

def F_spec_l4Gate (n:Int) (g:TGate):Option (Bool) :=
  (F_spec_l1In g.Kind 1 8).bind fun r_1 =>
  bif r_1 then ((F_spec_l1In g.A 0 (IntKind.i64.wrap (n-1))).bind fun r_2 =>
  some ((r_2&&(g.B==0)))) else ((F_spec_l1In g.Kind 9 11).bind fun r_3 =>
  bif r_3 then ((F_spec_l1In g.A 0 (IntKind.i64.wrap (n-1))).bind fun r_4 =>
  (gb r_4 false (F_spec_l1In g.B 0 (IntKind.i64.wrap (n-1)))).bind fun r_5 =>
  some (((r_4&&r_5)&&(g.A != g.B)))) else (some ((((g.Kind==12)&&(g.A==0))&&(g.B==0)))))

def F_spec_l4Good_l1 (c:TCircuit):Nat→Unit→Option (Ex (Unit) (Bool)):=fun i _ =>
  (getI c.Gates (i:Int)).bind fun x =>
  (F_spec_l4Gate c.Qubits x).bind fun r_2 =>
  bif (!r_2) then (some (.rt false)) else (some (.nx ()))
def F_spec_l4Good (c:TCircuit):Option (Bool) :=
  (F_spec_l1In c.Qubits 1 5).bind fun r_1 =>
  bif ((!r_1)||(decide (400<(c.Gates.length:Int)))) then (some (false)) else (chk (c.Gates.length≤9223372036854775807) <|
  (forX (F_spec_l4Good_l1 c) c.Gates.length 0 ()).bind<|orR fun _ =>
  some (true))

def F_spec_l23Fits (g:TCouplingGraph) (c1:TCircuit):Option (Bool) :=
  (F_spec_l22Valid g).bind fun r_1 =>
  (gb r_1 false (F_spec_l4Good c1)).bind fun r_2 =>
  some (((r_1&&r_2)&&(decide (c1.Qubits≤g.Nodes))))

def F_spec_l22Two (g:TGate):Option (Bool) :=
  some ((((g.Kind==9)||(g.Kind==10))||(g.Kind==11)))

def F_spec_l23Small_l1 (c1:TCircuit):Nat→Int→Option (Int):=fun i two =>
  (((getI c1.Gates (i:Int)).bind fun x =>
  (F_spec_l22Two x).bind fun r_1 =>
  bif r_1 then (some (IntKind.i64.wrap (two+1))) else (some two)):Option (Int)).bind fun two1 =>
  some two1
def F_spec_l23Small (g:TCouplingGraph) (c1:TCircuit):Option (Bool) :=
  chk (c1.Gates.length≤9223372036854775807) <|
  (forN (F_spec_l23Small_l1 c1) c1.Gates.length 0 0).bind fun two =>
  (F_spec_l23Fits g c1).bind fun r_2 =>
  some ((((r_2&&(decide (g.Nodes≤5)))&&(decide ((c1.Gates.length:Int)≤40)))&&(decide (two≤12))))

def F_spec_l23Placement_l1 (place:List Int) (g:TCouplingGraph):Nat→Unit→Option (Ex (Unit) (Bool)):=fun i _ =>
  (getI place (i:Int)).bind fun x =>
  (F_spec_l1In x 0 (IntKind.i64.wrap (g.Nodes-1))).bind fun r_1 =>
  bif (!(!r_1)) then (chk ((0:Int)≤(i:Int)∧(i:Int)≤(place.length:Int)) <|
  (F_spec_l1Has (List.take i place) x).bind fun r_2 =>
  bif r_2 then (some (.rt false)) else (some (.nx ()))) else (some (.rt false))
def F_spec_l23Placement (g:TCouplingGraph) (n1:Int) (place:List Int):Option (Bool) :=
  chk (place.length≤9223372036854775807) <|
  (forX (F_spec_l23Placement_l1 place g) place.length 0 ()).bind<|orR fun _ =>
  some (((place.length:Int)==n1))

def F_spec_l1Own (l:List Int):Option (List Int) :=
  chk (0+l.length≤1099511627776) <|
  some (l)

def F_spec_l23Swap_l1 (place:List Int) (a:Int) (b:Int):Nat→(List Int)→Option (List Int):=fun i out =>
  (((getI place (i:Int)).bind fun x =>
  bif (x==a) then ((getI out (i:Int)).bind fun x1 =>
  some (out.set (i:Int).toNat b)) else (bif (x==b) then ((getI out (i:Int)).bind fun x2 =>
  some (out.set (i:Int).toNat a)) else (some out))):Option (List Int)).bind fun out1 =>
  some out1
def F_spec_l23Swap (place:List Int) (a:Int) (b:Int):Option (List Int) :=
  (F_spec_l1Own place).bind fun r_1 =>
  chk (place.length≤9223372036854775807) <|
  (forN (F_spec_l23Swap_l1 place a b) place.length 0 r_1).bind fun out =>
  some (out)

def F_spec_l22Edge_l1 (g:TCouplingGraph) (a:Int) (b:Int):Nat→Unit→Option (Ex (Unit) (Bool)):=fun i _ =>
  (getI g.Edges (i:Int)).bind fun x =>
  bif (((x.A==a)&&(x.B==b))||((x.A==b)&&(x.B==a))) then (some (.rt true)) else (some (.nx ()))
def F_spec_l22Edge (g:TCouplingGraph) (a:Int) (b:Int):Option (Bool) :=
  chk (g.Edges.length≤9223372036854775807) <|
  (forX (F_spec_l22Edge_l1 g a b) g.Edges.length 0 ()).bind<|orR fun _ =>
  some (false)

def F_spec_l23Near (g:TCouplingGraph) (place:List Int) (x:TGate):Option (Bool) :=
  (F_spec_l22Two x).bind fun r_1 =>
  (gb (!(!r_1)) 0 (getI place x.A)).bind fun x1 =>
  (gb (!(!r_1)) 0 (getI place x.B)).bind fun x2 =>
  (gb (!(!r_1)) false (F_spec_l22Edge g x1 x2)).bind fun r_2 =>
  some (((!r_1)||r_2))

def F_spec_l23Qubits (x:TGate):Option (List Int) :=
  bif (x.Kind==12) then (some ([])) else ((F_spec_l22Two x).bind fun r_1 =>
  bif r_1 then (some ([x.A,x.B])) else (some ([x.A])))

def F_spec_l23Ready_l2 (r_3:List Int) (done:List Bool) (i1:Nat) (r_2:List Int):Nat→Unit→Option (Ex (Unit) (Ex (Unit) (Bool))):=fun i2 _ =>
  (getI r_3 (i2:Int)).bind fun x3 =>
  (getI done (i1:Int)).bind fun x4 =>
  (gb (!x4) false (F_spec_l1Has r_2 x3)).bind fun r_4 =>
  bif ((!x4)&&r_4) then (some (.rt (.rt false))) else (some (.nx ()))
def F_spec_l23Ready_l1 (c:TCircuit) (done:List Bool) (r_2:List Int):Nat→Unit→Option (Ex (Unit) (Bool)):=fun i1 _ =>
  (getI c.Gates (i1:Int)).bind fun x2 =>
  (F_spec_l23Qubits x2).bind fun r_3 =>
  chk (r_3.length≤9223372036854775807) <|
  (forX (F_spec_l23Ready_l2 r_3 done i1 r_2) r_3.length 0 ()).bind<|orR fun _ =>
  some (.nx ())
def F_spec_l23Ready (c:TCircuit) (done:List Bool) (k_:Int):Option (Bool) :=
  (F_spec_l1In k_ 0 (IntKind.i64.wrap ((c.Gates.length:Int)-1))).bind fun r_1 =>
  (gb (!(!r_1)) false (getI done k_)).bind fun x =>
  bif ((!r_1)||x) then (some (false)) else ((getI c.Gates k_).bind fun x1 =>
  (F_spec_l23Qubits x1).bind fun r_2 =>
  chk (k_.toNat≤9223372036854775807) <|
  (forX (F_spec_l23Ready_l1 c done r_2) k_.toNat 0 ()).bind<|orR fun _ =>
  some (true))

def F_spec_l23Run_l1 (c1:TCircuit) (g:TCouplingGraph) (x:Tl23Node):(List Bool×List TRouteStep×Int)→Option (Ex (List Bool×List TRouteStep×Int) (Tl23Node)):=fun (done,steps,k_) =>
  bif (decide (k_<(c1.Gates.length:Int))) then ((((F_spec_l23Ready c1 done k_).bind fun r_1 =>
  (gb r_1 (TGate.mk 0 0 0) (getI c1.Gates k_)).bind fun x1 =>
  (gb r_1 false (F_spec_l23Near g x.place x1)).bind fun r_2 =>
  bif (r_1&&r_2) then ((getI done k_).bind fun x2 =>
  chk (steps.length+1≤1099511627776) <|
  some ((done.set k_.toNat true),(steps++[(TRouteStep.mk k_ 0 0)]),(-1))) else (some (done,steps,k_))):Option (List Bool×List TRouteStep×Int)).bind fun (done1,steps1,K18) =>
  some (.nx (done1,steps1,(IntKind.i64.wrap (K18+1))))) else (some (.br (done,steps,k_)))
def F_spec_l23Run (g:TCouplingGraph) (c1:TCircuit) (x:Tl23Node):Option (Tl23Node) :=
  chk (0+x.done.length≤1099511627776) <|
  (whX (F_spec_l23Run_l1 c1 g x) fuel (x.done,x.steps,0)).bind<|orR fun (done,steps,k_) =>
  some ((Tl23Node.mk x.place done x.from_ steps))

def F_spec_l23Code_l1 (place:List Int):Nat→Int→Option (Int):=fun i n1 =>
  (getI place (i:Int)).bind fun x =>
  some (IntKind.i64.wrap ((IntKind.i64.wrap (n1*5))+x))
def F_spec_l23Code (place:List Int):Option (Int) :=
  chk (place.length≤9223372036854775807) <|
  (forN (F_spec_l23Code_l1 place) place.length 0 0).bind fun n1 =>
  some (n1)

def F_spec_l23Mask_l1 (done:List Bool):Nat→Int→Option (Int):=fun i set_ =>
  (((getI done (i:Int)).bind fun x =>
  bif x then (chk ((0:Int)≤(IntKind.u64.wrap (i:Int))) <|
  some (bits .or .i64 set_ (shlK .i64 1 (IntKind.u64.wrap (i:Int))))) else (some set_)):Option (Int)).bind fun set_1 =>
  some set_1
def F_spec_l23Mask (done:List Bool):Option (Int) :=
  chk (done.length≤9223372036854775807) <|
  (forN (F_spec_l23Mask_l1 done) done.length 0 0).bind fun set_ =>
  some (set_)

def F_spec_l23Search_l3 (list1:List Tl23Node):(List Int×List TRouteStep×Int)→Option (Ex (List Int×List TRouteStep×Int) (Ex (List (List Int)×List Tl23Node×Int) (TRoute×Bool))):=fun (Start,Steps,K24) =>
  bif (decide (0≤K24)) then ((getI list1 K24).bind fun x3 =>
  (F_spec_l1Own x3.place).bind fun r_8 =>
  chk (0+x3.steps.length≤1099511627776) <|
  chk (x3.steps.length+Steps.length≤1099511627776) <|
  (getI list1 K24).bind fun x4 =>
  some (.nx (r_8,(x3.steps++Steps),x4.from_))) else (some (.br (Start,Steps,K24)))
def F_spec_l23Search_l4 (g:TCouplingGraph) (i3:Int) (c1:TCircuit):Nat→(List (List Int)×List Tl23Node)→Option (List (List Int)×List Tl23Node):=fun i4 (met2,list2) =>
  (((getI g.Edges (i4:Int)).bind fun x5 =>
  (getI list2 i3).bind fun x6 =>
  (F_spec_l23Swap x6.place x5.A x5.B).bind fun r_9 =>
  (F_spec_l23Run g c1 (Tl23Node.mk r_9 x6.done i3 [(TRouteStep.mk (-1) x5.A x5.B)])).bind fun r_10 =>
  (F_spec_l23Code r_10.place).bind fun r_11 =>
  (F_spec_l23Mask r_10.done).bind fun r_12 =>
  (getI met2 r_11).bind fun x7 =>
  (F_spec_l1Has x7 r_12).bind fun r_13 =>
  bif (!r_13) then (chk (x7.length+1≤1099511627776) <|
  chk (list2.length+1≤1099511627776) <|
  some ((met2.set r_11.toNat (x7++[r_12])),(list2++([r_10]:List Tl23Node)))) else (some (met2,list2))):Option (List (List Int)×List Tl23Node)).bind fun (met3,list3) =>
  some (met3,list3)
def F_spec_l23Search_l2 (c1:TCircuit) (g:TCouplingGraph):(List (List Int)×List Tl23Node×Int)→Option (Ex (List (List Int)×List Tl23Node×Int) (TRoute×Bool)):=fun (met1,list1,i3) =>
  bif (decide (i3<(list1.length:Int))) then ((getI list1 i3).bind fun x2 =>
  (F_spec_l23Mask x2.done).bind fun r_7 =>
  bif (r_7==(IntKind.i64.wrap ((shlK .i64 1 (IntKind.u64.wrap (c1.Gates.length:Int)))-1))) then ((whX (F_spec_l23Search_l3 list1) fuel ([],[],i3)).bind<|orR fun (Start,Steps,K24) =>
  some (.rt ((TRoute.mk Start Steps),true))) else (chk (g.Edges.length≤9223372036854775807) <|
  (forN (F_spec_l23Search_l4 g i3 c1) g.Edges.length 0 (met1,list1)).bind fun (met2,list2) =>
  some (.nx (met2,list2,(IntKind.i64.wrap (i3+1)))))) else (some (.br (met1,list1,i3)))
def F_spec_l23Search_l1 (starts:List (List Int)) (c1:TCircuit) (g:TCouplingGraph):Nat→(List (List Int)×List Tl23Node)→Option (List (List Int)×List Tl23Node):=fun i (met,list) =>
  (getI starts (i:Int)).bind fun x =>
  (F_spec_l1Own x).bind fun r_2 =>
  chk ((0:Int)≤(c1.Gates.length:Int)∧(c1.Gates.length:Int)≤1099511627776) <|
  (F_spec_l23Run g c1 (Tl23Node.mk r_2 (List.replicate c1.Gates.length false) (-1) [])).bind fun r_3 =>
  (F_spec_l23Code r_3.place).bind fun r_4 =>
  (getI met r_4).bind fun x1 =>
  (F_spec_l23Mask r_3.done).bind fun r_6 =>
  chk (x1.length+1≤1099511627776) <|
  chk (list.length+1≤1099511627776) <|
  some ((met.set r_4.toNat (x1++[r_6])),(list++([r_3]:List Tl23Node)))
def F_spec_l23Search (g:TCouplingGraph) (c1:TCircuit) (starts:List (List Int)):Option (TRoute×Bool) :=
  chk (starts.length≤9223372036854775807) <|
  (forN (F_spec_l23Search_l1 starts c1 g) starts.length 0 ((List.replicate 3125 ([]:List Int)),([]:List Tl23Node))).bind fun (met,list) =>
  chk ((0:Int)≤(IntKind.u64.wrap (c1.Gates.length:Int))) <|
  (whX (F_spec_l23Search_l2 c1 g) fuel (met,list,0)).bind<|orR fun (met1,list1,i3) =>
  some (((TRoute.mk [] []),false))

def F_spec_RouteFrom (g:TCouplingGraph) (c1:TCircuit) (start:List Int):Option (TRoute×Bool) :=
  (F_spec_l23Small g c1).bind fun r_2 =>
  (gb (!(!r_2)) false (F_spec_l23Placement g c1.Qubits start)).bind fun r_3 =>
  bif ((!r_2)||(!r_3)) then (some (((TRoute.mk [] []),false))) else ((F_spec_l23Search g c1 ([start]:List (List Int))).bind fun (r_4,r_5) =>
  some ((r_4,r_5)))

def F_spec_LeastSwaps (g:TCouplingGraph) (c1:TCircuit) (start:List Int):Option (Int×Bool) :=
  (F_spec_RouteFrom g c1 start).bind fun (r_2,r_3) =>
  bif (!r_3) then (some ((0,false))) else (some (((IntKind.i64.wrap ((r_2.Steps.length:Int)-(c1.Gates.length:Int))),true)))

def F_spec_l22Far_l4 (i2:Nat) (d:Nat) (g:TCouplingGraph):Nat→(List Int)→Option (List Int):=fun i3 far3 =>
  (((getI far3 (i2:Int)).bind fun x2 =>
  (gb (x2==(d:Int)) 0 (getI far3 (i3:Int))).bind fun x3 =>
  (gb ((x2==(d:Int))&&(decide (x3<0))) false (F_spec_l22Edge g (i2:Int) (i3:Int))).bind fun r_1 =>
  bif (((x2==(d:Int))&&(decide (x3<0)))&&r_1) then ((getI far3 (i3:Int)).bind fun x4 =>
  some (far3.set (i3:Int).toNat (IntKind.i64.wrap ((d:Int)+1)))) else (some far3)):Option (List Int)).bind fun far4 =>
  some far4
def F_spec_l22Far_l3 (g:TCouplingGraph) (d:Nat):Nat→(List Int)→Option (List Int):=fun i2 far2 =>
  chk (g.Nodes.toNat≤9223372036854775807) <|
  (forN (F_spec_l22Far_l4 i2 d g) g.Nodes.toNat 0 far2).bind fun far3 =>
  some far3
def F_spec_l22Far_l2 (g:TCouplingGraph):Nat→(List Int)→Option (List Int):=fun d far1 =>
  chk (g.Nodes.toNat≤9223372036854775807) <|
  (forN (F_spec_l22Far_l3 g d) g.Nodes.toNat 0 far1).bind fun far2 =>
  some far2
def F_spec_l22Far_l1:Nat→(List Int)→Option (List Int):=fun i far =>
  (getI far (i:Int)).bind fun x =>
  some (far.set (i:Int).toNat (-1))
def F_spec_l22Far (g:TCouplingGraph) (node:Int):Option (List Int) :=
  chk ((0:Int)≤g.Nodes∧g.Nodes≤1099511627776) <|
  chk (g.Nodes.toNat≤9223372036854775807) <|
  (forN F_spec_l22Far_l1 g.Nodes.toNat 0 (List.replicate g.Nodes.toNat 0)).bind fun far =>
  (getI far node).bind fun x1 =>
  chk (g.Nodes.toNat≤9223372036854775807) <|
  (forN (F_spec_l22Far_l2 g) g.Nodes.toNat 0 (far.set node.toNat 0)).bind fun far1 =>
  some (far1)

def F_spec_l22Near_l1 (g:TCouplingGraph) (node:Int):Nat→(List Int)→Option (List Int):=fun k_ out =>
  (((F_spec_l22Edge g node (k_:Int)).bind fun r_1 =>
  bif r_1 then (chk (out.length+1≤1099511627776) <|
  some (out++[(k_:Int)])) else (some out)):Option (List Int)).bind fun out1 =>
  some out1
def F_spec_l22Near (g:TCouplingGraph) (node:Int):Option (List Int) :=
  chk (g.Nodes.toNat≤9223372036854775807) <|
  (forN (F_spec_l22Near_l1 g node) g.Nodes.toNat 0 []).bind fun out =>
  some (out)

def F_spec_l22Path_l2 (r_2:List Int) (r_1:List Int):Nat→(Int×List Int)→Option (Ex (Int×List Int) (Ex (Int×List Int) (List Int))):=fun i (a3,out2) =>
  (getI r_2 (i:Int)).bind fun x1 =>
  (getI r_1 x1).bind fun x2 =>
  (getI r_1 a3).bind fun x3 =>
  bif (x2==(IntKind.i64.wrap (x3-1))) then (chk (out2.length+1≤1099511627776) <|
  some (.br (x1,(out2++[x1])))) else (some (.nx (a3,out2)))
def F_spec_l22Path_l1 (b:Int) (g:TCouplingGraph) (r_1:List Int):(Int×List Int)→Option (Ex (Int×List Int) (List Int)):=fun (a1,out) =>
  bif (a1 != b) then ((F_spec_l22Near g a1).bind fun r_2 =>
  chk (r_2.length≤9223372036854775807) <|
  (forX (F_spec_l22Path_l2 r_2 r_1) r_2.length 0 (a1,out)).bind<|orR fun (a2,out1) =>
  some (.nx (a2,out1))) else (some (.br (a1,out)))
def F_spec_l22Path (g:TCouplingGraph) (a:Int) (b:Int):Option (List Int) :=
  (F_spec_l22Far g b).bind fun r_1 =>
  (getI r_1 a).bind fun x =>
  bif (decide (x<0)) then (some ([])) else ((whX (F_spec_l22Path_l1 b g r_1) fuel (a,[a])).bind<|orR fun (a1,out) =>
  some (out))

def F_spec_GreedyRoute_l2 (r_6:List Int):(List TRouteStep×List Int×Int)→Option (Ex (List TRouteStep×List Int×Int) ((List TRouteStep×List Int) ⊕ (Ex (List TRouteStep×List Int) (TRoute×Bool)))):=fun (Steps2,place2,i1) =>
  bif (decide ((IntKind.i64.wrap (i1+2))<(r_6.length:Int))) then ((getI r_6 i1).bind fun x3 =>
  (getI r_6 (IntKind.i64.wrap (i1+1))).bind fun x4 =>
  chk (Steps2.length+1≤1099511627776) <|
  (getI r_6 i1).bind fun x5 =>
  (getI r_6 (IntKind.i64.wrap (i1+1))).bind fun x6 =>
  (F_spec_l23Swap place2 x5 x6).bind fun r_7 =>
  some (.nx ((Steps2++[(TRouteStep.mk (-1) x3 x4)]),r_7,(IntKind.i64.wrap (i1+1))))) else (some (.br (Steps2,place2,i1)))
def F_spec_GreedyRoute_l1 (c1:TCircuit) (g:TCouplingGraph):Nat→(List TRouteStep×List Int)→Option (Ex (List TRouteStep×List Int) (TRoute×Bool)):=fun i (Steps,place) =>
  (getI c1.Gates (i:Int)).bind fun x =>
  (((F_spec_l23Near g place x).bind fun r_5 =>
  bif (!r_5) then ((getI place x.A).bind fun x1 =>
  (getI place x.B).bind fun x2 =>
  (F_spec_l22Path g x1 x2).bind fun r_6 =>
  bif ((r_6.length:Int)==0) then (some (.inr (.rt ((TRoute.mk [] []),false)))) else ((whX (F_spec_GreedyRoute_l2 r_6) fuel (Steps,place,0)).bind<|orR fun (Steps2,place2,i1) =>
  some (.inl (Steps2,place2)))) else (some (.inl (Steps,place)))):Option ((List TRouteStep×List Int) ⊕ (Ex (List TRouteStep×List Int) (TRoute×Bool)))).bind<|orR fun (Steps1,place1) =>
  chk (Steps1.length+1≤1099511627776) <|
  some (.nx ((Steps1++[(TRouteStep.mk (i:Int) 0 0)]),place1))
def F_spec_GreedyRoute (g:TCouplingGraph) (c1:TCircuit) (start:List Int):Option (TRoute×Bool) :=
  (F_spec_l23Fits g c1).bind fun r_2 =>
  (gb (!(!r_2)) false (F_spec_l23Placement g c1.Qubits start)).bind fun r_3 =>
  bif ((!r_2)||(!r_3)) then (some (((TRoute.mk [] []),false))) else ((F_spec_l1Own start).bind fun r_4 =>
  chk (c1.Gates.length≤9223372036854775807) <|
  (forX (F_spec_GreedyRoute_l1 c1 g) c1.Gates.length 0 ([],start)).bind<|orR fun (Steps,place) =>
  some (((TRoute.mk r_4 Steps),true)))

def F_spec_DrawCheckRoute (code:List Int):Option (TCouplingGraph×TCircuit×TRoute) :=
  (F_spec_l1Cur_routed (Tl1Cur.mk code 0 0)).bind fun (r_3,r_4,r_5,m) =>
  (F_spec_GreedyRoute r_3 r_4 r_5).bind fun (r_6,r_7) =>
  (((F_spec_l1Cur_one (Tl1Cur.mk code m.at_ m.seed) 3).bind fun (r_8,m1) =>
  bif r_8 then ((F_spec_RouteFrom r_3 r_4 r_5).bind fun (r_9,r_10) =>
  bif r_10 then (some (m1.at_,m1.seed,r_9.Start,r_9.Steps)) else (some (m1.at_,m1.seed,r_6.Start,r_6.Steps))) else (some (m1.at_,m1.seed,r_6.Start,r_6.Steps))):Option (Int×Int×List Int×List TRouteStep)).bind fun (at_,seed,Start,Steps) =>
  ((bif (!r_7) then (some r_5) else (some Start)):Option (List Int)).bind fun Start1 =>
  ((bif (decide (0<(Steps.length:Int))) then ((F_spec_l1Cur_pick (Tl1Cur.mk code at_ seed) 8).bind fun (r_11,m2) =>
  bif (r_11==0) then ((F_spec_l1Cur_pick (Tl1Cur.mk code m2.at_ m2.seed) (Steps.length:Int)).bind fun (r_12,m3) =>
  chk ((0:Int)≤r_12∧r_12≤(Steps.length:Int)) <|
  some (Start1,(List.take r_12.toNat Steps))) else (bif (r_11==1) then ((F_spec_l1Cur_pick (Tl1Cur.mk code m2.at_ m2.seed) (Steps.length:Int)).bind fun (r_13,m4) =>
  (F_spec_l1Cur_pick (Tl1Cur.mk code m4.at_ m4.seed) 10).bind fun (r_14,m5) =>
  (F_spec_l1Cur_pick (Tl1Cur.mk code m5.at_ m5.seed) 4).bind fun (r_15,m6) =>
  (F_spec_l1Cur_pick (Tl1Cur.mk code m6.at_ m6.seed) 4).bind fun (r_16,m7) =>
  (getI Steps r_13).bind fun x =>
  some (Start1,(Steps.set r_13.toNat (TRouteStep.mk (IntKind.i64.wrap (r_14-1)) r_15 r_16)))) else (bif (r_11==2) then ((F_spec_l1Cur_pick (Tl1Cur.mk code m2.at_ m2.seed) (Steps.length:Int)).bind fun (r_17,m8) =>
  (getI Steps r_17).bind fun x1 =>
  (getI Steps (IntKind.i64.wrap ((Steps.length:Int)-1))).bind fun x2 =>
  (getI (Steps.set r_17.toNat x2) (IntKind.i64.wrap ((Steps.length:Int)-1))).bind fun x3 =>
  some (Start1,((Steps.set r_17.toNat x2).set (IntKind.i64.wrap ((Steps.length:Int)-1)).toNat x1))) else (bif (r_11==3) then ((F_spec_l1Own Start1).bind fun r_18 =>
  bif (decide (0<(r_18.length:Int))) then ((F_spec_l1Cur_pick (Tl1Cur.mk code m2.at_ m2.seed) (r_18.length:Int)).bind fun (r_19,m9) =>
  (F_spec_l1Cur_pick (Tl1Cur.mk code m9.at_ m9.seed) 6).bind fun (r_20,m10) =>
  (getI r_18 r_19).bind fun x4 =>
  some ((r_18.set r_19.toNat r_20),Steps)) else (some (r_18,Steps))) else (some (Start1,Steps)))))) else (some (Start1,Steps))):Option (List Int×List TRouteStep)).bind fun (Start2,Steps1) =>
  some ((r_3,r_4,(TRoute.mk Start2 Steps1)))

def F_impl_routing_step (r_:Trouting) (s:TRouteStep):Option (Int×List Int×List Bool) :=
  bif (s.Gate==(-1)) then ((F_impl_CouplingGraph_joins r_.g s.A s.B).bind fun r_2 =>
  bif (!r_2) then (some ((2,r_.place,r_.done))) else ((F_impl_routing_swap r_ s.A s.B).bind fun m2 =>
  some ((0,m2,r_.done)))) else ((gb (!((s.A != 0)||(s.B != 0))) false (F_impl_routing_isReady r_ s.Gate)).bind fun r_3 =>
  bif (((s.A != 0)||(s.B != 0))||(!r_3)) then (some ((3,r_.place,r_.done))) else ((F_impl_routing_fits r_ s.Gate).bind fun r_4 =>
  bif (!r_4) then (some ((4,r_.place,r_.done))) else ((getI r_.done s.Gate).bind fun x =>
  some ((0,r_.place,(r_.done.set s.Gate.toNat true))))))

def F_impl_check_l1 (route:TRoute) (r_4:Trouting) (g:TCouplingGraph):Nat→(List Int×List Bool)→Option (Ex (List Int×List Bool) (Int×Int×Trouting)):=fun i (place,done) =>
  (getI route.Steps (i:Int)).bind fun x =>
  (F_impl_routing_step (Trouting.mk r_4.g r_4.c place done) x).bind fun (r_5,m,m1) =>
  bif (r_5 != 0) then (some (.rt (r_5,(i:Int),(Trouting.mk r_4.g r_4.c m m1)))) else (some (.nx (m,m1)))
def F_impl_check (g:TCouplingGraph) (c1:TCircuit) (route:TRoute):Option (Int×Int×Trouting) :=
  (F_impl_CouplingGraph_isPlacement g c1.Qubits route.Start).bind fun r_3 =>
  bif (!r_3) then (some ((1,0,(Trouting.mk (TCouplingGraph.mk 0 []) (TCircuit.mk 0 []) [] [])))) else ((F_impl_newRouting g c1 route.Start).bind fun r_4 =>
  chk (route.Steps.length≤9223372036854775807) <|
  (forX (F_impl_check_l1 route r_4 g) route.Steps.length 0 (r_4.place,r_4.done)).bind<|orR fun (place,done) =>
  (F_slices_Contains_bool_bool done false).bind fun r_6 =>
  bif r_6 then (some ((5,(route.Steps.length:Int),(Trouting.mk r_4.g r_4.c place done)))) else (some ((0,0,(Trouting.mk r_4.g r_4.c place done)))))

def F_impl_CheckRoute (g:TCouplingGraph) (c1:TCircuit) (r_:TRoute):Option (Int×Int×Bool) :=
  (F_impl_canRoute g c1).bind fun r_4 =>
  bif (!r_4) then (some ((0,0,false))) else ((F_impl_check g c1 r_).bind fun (r_5,r_6,r_7) =>
  some ((r_5,r_6,true)))

def F_spec_l23Play_l1 (r_:TRoute) (g:TCouplingGraph) (c1:TCircuit):Nat→(List Int×List Bool×Int)→Option (Ex (List Int×List Bool×Int) (Int×Int×List Int)):=fun i (place,done,left) =>
  (((getI r_.Steps (i:Int)).bind fun x =>
  bif (x.Gate==(-1)) then ((F_spec_l22Edge g x.A x.B).bind fun r_6 =>
  bif (!r_6) then (some (.inr (.rt (2,(i:Int),[])))) else ((F_spec_l23Swap place x.A x.B).bind fun r_7 =>
  some (.inl (r_7,done,left)))) else ((gb (!((x.A != 0)||(x.B != 0))) false (F_spec_l23Ready c1 done x.Gate)).bind fun r_8 =>
  bif (((x.A != 0)||(x.B != 0))||(!r_8)) then (some (.inr (.rt (3,(i:Int),[])))) else ((getI c1.Gates x.Gate).bind fun x1 =>
  (F_spec_l23Near g place x1).bind fun r_9 =>
  bif (!r_9) then (some (.inr (.rt (4,(i:Int),[])))) else ((getI done x.Gate).bind fun x2 =>
  some (.inl (place,(done.set x.Gate.toNat true),(IntKind.i64.wrap (left-1)))))))):Option ((List Int×List Bool×Int) ⊕ (Ex (List Int×List Bool×Int) (Int×Int×List Int)))).bind<|orR fun (place1,done1,left1) =>
  some (.nx (place1,done1,left1))
def F_spec_l23Play (g:TCouplingGraph) (c1:TCircuit) (r_:TRoute):Option (Int×Int×List Int) :=
  (F_spec_l23Placement g c1.Qubits r_.Start).bind fun r_4 =>
  bif (!r_4) then (some ((1,0,[]))) else ((F_spec_l1Own r_.Start).bind fun r_5 =>
  chk ((0:Int)≤(c1.Gates.length:Int)∧(c1.Gates.length:Int)≤1099511627776) <|
  chk (r_.Steps.length≤9223372036854775807) <|
  (forX (F_spec_l23Play_l1 r_ g c1) r_.Steps.length 0 (r_5,(List.replicate c1.Gates.length false),(c1.Gates.length:Int))).bind<|orR fun (place,done,left) =>
  bif (decide (0<left)) then (some ((5,(r_.Steps.length:Int),[]))) else (some ((0,0,place))))

def F_spec_CheckRoute (g:TCouplingGraph) (c1:TCircuit) (r_:TRoute):Option (Int×Int×Bool) :=
  (F_spec_l23Fits g c1).bind fun r_4 =>
  bif (!r_4) then (some ((0,0,false))) else ((F_spec_l23Play g c1 r_).bind fun (r_5,r_6,r_7) =>
  some ((r_5,r_6,true)))

def F_impl_RouteFrom (g:TCouplingGraph) (c1:TCircuit) (start:List Int):Option (TRoute×Bool) :=
  (F_impl_leastRoute g c1 start).bind fun (r_2,r_3) =>
  some ((r_2,r_3))

def F_math_bits_Mul64 (x:Int) (y:Int):Option (Int×Int) :=
  some (((IntKind.u64.wrap ((IntKind.u64.wrap ((IntKind.u64.wrap ((shrK .u64 x 32)*(shrK .u64 y 32)))+(shrK .u64 (IntKind.u64.wrap ((IntKind.u64.wrap ((shrK .u64 x 32)*(bits .and .u64 y 4294967295)))+(shrK .u64 (IntKind.u64.wrap ((bits .and .u64 x 4294967295)*(bits .and .u64 y 4294967295))) 32))) 32)))+(shrK .u64 (IntKind.u64.wrap ((bits .and .u64 (IntKind.u64.wrap ((IntKind.u64.wrap ((shrK .u64 x 32)*(bits .and .u64 y 4294967295)))+(shrK .u64 (IntKind.u64.wrap ((bits .and .u64 x 4294967295)*(bits .and .u64 y 4294967295))) 32))) 4294967295)+(IntKind.u64.wrap ((bits .and .u64 x 4294967295)*(shrK .u64 y 32))))) 32))),(IntKind.u64.wrap (x*y))))

def F_math_bits_Mul (x:Int) (y:Int):Option (Int×Int) :=
  (F_math_bits_Mul64 x y).bind fun (r_2,r_3) =>
  some ((r_2,r_3))

def F_slices_Repeat_int_int_l1 (r_2:Int):(List Int×Int)→Option (Ex (List Int×Int) (List Int)):=fun (newslice,n1) =>
  bif (decide (n1<((IntKind.i64.wrap r_2).toNat:Int))) then (chk ((0:Int)≤n1∧n1≤((IntKind.i64.wrap r_2).toNat:Int)) <|
  chk ((0:Int)≤n1∧n1≤((IntKind.i64.wrap r_2).toNat:Int)) <|
  some (.nx ((List.take n1.toNat newslice++List.take (min (n1.toNat-0) ((IntKind.i64.wrap r_2).toNat-n1.toNat)) (List.take n1.toNat newslice)++List.drop (n1.toNat+(min (n1.toNat-0) ((IntKind.i64.wrap r_2).toNat-n1.toNat))) newslice),(IntKind.i64.wrap (n1+((min (n1.toNat-0) ((IntKind.i64.wrap r_2).toNat-n1.toNat):Nat):Int)))))) else (some (.br (newslice,n1)))
def F_slices_Repeat_int_int (x:List Int) (count:Int):Option (List Int) :=
  bif (decide (count<0)) then (none) else ((F_math_bits_Mul (IntKind.u64.wrap (x.length:Int)) (IntKind.u64.wrap count)).bind fun (r_1,r_2) =>
  bif ((decide (0<r_1))||(decide (9223372036854775807<r_2))) then (none) else (chk ((0:Int)≤(IntKind.i64.wrap r_2)∧(IntKind.i64.wrap r_2)≤1099511627776) <|
  (whX (F_slices_Repeat_int_int_l1 r_2) fuel ((List.take (min x.length ((IntKind.i64.wrap r_2).toNat)) x++List.drop (min x.length ((IntKind.i64.wrap r_2).toNat)) (List.replicate ((IntKind.i64.wrap r_2).toNat) 0)),((min x.length ((IntKind.i64.wrap r_2).toNat):Nat):Int))).bind<|orR fun (newslice,n1) =>
  some (newslice)))

def F_impl_CouplingGraph_near_l1 (node:Int) (g:TCouplingGraph):Nat→(List Int)→Option (List Int):=fun i out =>
  (((gb ((i:Int) != node) false (F_impl_CouplingGraph_joins g (i:Int) node)).bind fun r_1 =>
  bif (((i:Int) != node)&&r_1) then (chk (out.length+1≤1099511627776) <|
  some (out++[(i:Int)])) else (some out)):Option (List Int)).bind fun out1 =>
  some out1
def F_impl_CouplingGraph_near (g:TCouplingGraph) (node:Int):Option (List Int) :=
  chk (g.Nodes.toNat≤9223372036854775807) <|
  (forN (F_impl_CouplingGraph_near_l1 node g) g.Nodes.toNat 0 []).bind fun out =>
  some (out)

def F_impl_CouplingGraph_distances_l2 (r_2:List Int) (at_1:Int):Nat→(List Int×List Int)→Option (List Int×List Int):=fun i1 (out1,queue1) =>
  (((getI r_2 (i1:Int)).bind fun x2 =>
  (getI out1 x2).bind fun x3 =>
  bif (decide (x3<0)) then ((getI queue1 at_1).bind fun x4 =>
  (getI out1 x4).bind fun x5 =>
  chk (queue1.length+1≤1099511627776) <|
  some ((out1.set x2.toNat (IntKind.i64.wrap (x5+1))),(queue1++[x2]))) else (some (out1,queue1))):Option (List Int×List Int)).bind fun (out2,queue2) =>
  some (out2,queue2)
def F_impl_CouplingGraph_distances_l1 (g:TCouplingGraph):(List Int×List Int×Int)→Option (Ex (List Int×List Int×Int) (List Int)):=fun (out,queue,at_1) =>
  bif (decide (at_1<(queue.length:Int))) then ((getI queue at_1).bind fun x1 =>
  (F_impl_CouplingGraph_near g x1).bind fun r_2 =>
  chk (r_2.length≤9223372036854775807) <|
  (forN (F_impl_CouplingGraph_distances_l2 r_2 at_1) r_2.length 0 (out,queue)).bind fun (out1,queue1) =>
  some (.nx (out1,queue1,(IntKind.i64.wrap (at_1+1))))) else (some (.br (out,queue,at_1)))
def F_impl_CouplingGraph_distances (g:TCouplingGraph) (node:Int):Option (List Int) :=
  (F_slices_Repeat_int_int [(-1)] g.Nodes).bind fun r_1 =>
  (getI r_1 node).bind fun x =>
  (whX (F_impl_CouplingGraph_distances_l1 g) fuel ((r_1.set node.toNat 0),[node],0)).bind<|orR fun (out,queue,at_1) =>
  some (out)

def F_impl_SwapBound_l1 (c1:TCircuit) (start:List Int) (g:TCouplingGraph):Nat→Int→Option (Ex (Int) (Int×Bool)):=fun i bound =>
  (((getI c1.Gates (i:Int)).bind fun x =>
  (F_impl_isTwo x.Kind).bind fun r_4 =>
  bif (!r_4) then (some (.inl bound)) else ((getI start x.A).bind fun x1 =>
  (F_impl_CouplingGraph_distances g x1).bind fun r_5 =>
  (getI start x.B).bind fun x2 =>
  (getI r_5 x2).bind fun x3 =>
  bif (decide (x3<0)) then (some (.inr (.rt (0,false)))) else (some (.inl (if bound<(IntKind.i64.wrap (x3-1)) then (IntKind.i64.wrap (x3-1)) else bound))))):Option ((Int) ⊕ (Ex (Int) (Int×Bool)))).bind<|orR fun bound1 =>
  some (.nx bound1)
def F_impl_SwapBound (g:TCouplingGraph) (c1:TCircuit) (start:List Int):Option (Int×Bool) :=
  (F_impl_canRoute g c1).bind fun r_2 =>
  (gb (!(!r_2)) false (F_impl_CouplingGraph_isPlacement g c1.Qubits start)).bind fun r_3 =>
  bif ((!r_2)||(!r_3)) then (some ((0,false))) else (chk (c1.Gates.length≤9223372036854775807) <|
  (forX (F_impl_SwapBound_l1 c1 start g) c1.Gates.length 0 0).bind<|orR fun bound =>
  some ((bound,true)))

def F_impl_IsPlacement (g:TCouplingGraph) (n1:Int) (place:List Int):Option (Bool×Bool) :=
  (F_impl_IsValidCouplingGraph g).bind fun r_2 =>
  (gb (!(!r_2)) false (F_impl_within n1 1 5)).bind fun r_3 =>
  bif ((!r_2)||(!r_3)) then (some ((false,false))) else ((F_impl_CouplingGraph_isPlacement g n1 place).bind fun r_4 =>
  some ((r_4,true)))

def F_laws_qSwaps_l1 (r_:TRoute):Nat→Int→Option (Int):=fun i n2 =>
  (((getI r_.Steps (i:Int)).bind fun x =>
  bif (x.Gate==(-1)) then (some (IntKind.i64.wrap (n2+1))) else (some n2)):Option (Int)).bind fun n3 =>
  some n3
def F_laws_qSwaps (r_:TRoute):Option (Int) :=
  chk (r_.Steps.length≤9223372036854775807) <|
  (forN (F_laws_qSwaps_l1 r_) r_.Steps.length 0 0).bind fun n2 =>
  some (n2)

def F_laws_qInts_l1 (a:List Int) (b:List Int):Nat→Unit→Option (Ex (Unit) (Bool)):=fun i _ =>
  (getI a (i:Int)).bind fun x =>
  (getI b (i:Int)).bind fun x1 =>
  bif (x != x1) then (some (.rt false)) else (some (.nx ()))
def F_laws_qInts (a:List Int) (b:List Int):Option (Bool) :=
  bif ((a.length:Int) != (b.length:Int)) then (some (false)) else (chk (a.length≤9223372036854775807) <|
  (forX (F_laws_qInts_l1 a b) a.length 0 ()).bind<|orR fun _ =>
  some (true))

def F_impl_CouplingGraph_path_l2 (r_2:List Int) (r_1:List Int):Nat→Int→Option (Ex (Int) (Ex (Int×List Int) (List Int))):=fun i a3 =>
  (getI r_2 (i:Int)).bind fun x1 =>
  (getI r_1 x1).bind fun x2 =>
  (getI r_1 a3).bind fun x3 =>
  bif (x2==(IntKind.i64.wrap (x3-1))) then (some (.br x1)) else (some (.nx a3))
def F_impl_CouplingGraph_path_l1 (b:Int) (g:TCouplingGraph) (r_1:List Int):(Int×List Int)→Option (Ex (Int×List Int) (List Int)):=fun (a1,out) =>
  bif (a1 != b) then ((F_impl_CouplingGraph_near g a1).bind fun r_2 =>
  chk (r_2.length≤9223372036854775807) <|
  (forX (F_impl_CouplingGraph_path_l2 r_2 r_1) r_2.length 0 a1).bind<|orR fun a2 =>
  chk (out.length+1≤1099511627776) <|
  some (.nx (a2,(out++[a2])))) else (some (.br (a1,out)))
def F_impl_CouplingGraph_path (g:TCouplingGraph) (a:Int) (b:Int):Option (List Int) :=
  (F_impl_CouplingGraph_distances g b).bind fun r_1 =>
  (getI r_1 a).bind fun x =>
  bif (decide (x<0)) then (some ([])) else ((whX (F_impl_CouplingGraph_path_l1 b g r_1) fuel (a,[a])).bind<|orR fun (a1,out) =>
  chk (out≠[]) <|
  some (out))

def F_impl_GreedyRoute_l2 (r_7:List Int) (r_4:Trouting):(List Int×List TRouteStep×Int)→Option (Ex (List Int×List TRouteStep×Int) ((List Int×List TRouteStep) ⊕ (Ex (List Int×List TRouteStep) (TRoute×Bool)))):=fun (place2,Steps2,i1) =>
  bif (decide ((IntKind.i64.wrap (i1+2))<(r_7.length:Int))) then ((getI r_7 i1).bind fun x3 =>
  (getI r_7 (IntKind.i64.wrap (i1+1))).bind fun x4 =>
  chk (Steps2.length+1≤1099511627776) <|
  (getI r_7 i1).bind fun x5 =>
  (getI r_7 (IntKind.i64.wrap (i1+1))).bind fun x6 =>
  (F_impl_routing_swap (Trouting.mk r_4.g r_4.c place2 r_4.done) x5 x6).bind fun m =>
  some (.nx (m,(Steps2++[(TRouteStep.mk (-1) x3 x4)]),(IntKind.i64.wrap (i1+1))))) else (some (.br (place2,Steps2,i1)))
def F_impl_GreedyRoute_l1 (c1:TCircuit) (r_4:Trouting) (g:TCouplingGraph):Nat→(List Int×List TRouteStep)→Option (Ex (List Int×List TRouteStep) (TRoute×Bool)):=fun i (place,Steps) =>
  (getI c1.Gates (i:Int)).bind fun x =>
  (((F_impl_routing_fits (Trouting.mk r_4.g r_4.c place r_4.done) (i:Int)).bind fun r_6 =>
  bif (!r_6) then ((getI place x.A).bind fun x1 =>
  (getI place x.B).bind fun x2 =>
  (F_impl_CouplingGraph_path g x1 x2).bind fun r_7 =>
  bif (decide (r_7=[])) then (some (.inr (.rt ((TRoute.mk [] []),false)))) else ((whX (F_impl_GreedyRoute_l2 r_7 r_4) fuel (place,Steps,0)).bind<|orR fun (place2,Steps2,i1) =>
  some (.inl (place2,Steps2)))) else (some (.inl (place,Steps)))):Option ((List Int×List TRouteStep) ⊕ (Ex (List Int×List TRouteStep) (TRoute×Bool)))).bind<|orR fun (place1,Steps1) =>
  chk (Steps1.length+1≤1099511627776) <|
  some (.nx (place1,(Steps1++[(TRouteStep.mk (i:Int) 0 0)])))
def F_impl_GreedyRoute (g:TCouplingGraph) (c1:TCircuit) (start:List Int):Option (TRoute×Bool) :=
  (F_impl_canRoute g c1).bind fun r_2 =>
  (gb (!(!r_2)) false (F_impl_CouplingGraph_isPlacement g c1.Qubits start)).bind fun r_3 =>
  bif ((!r_2)||(!r_3)) then (some (((TRoute.mk [] []),false))) else ((F_impl_newRouting g c1 start).bind fun r_4 =>
  (F_slices_Clone_int_int start).bind fun r_5 =>
  chk (c1.Gates.length≤9223372036854775807) <|
  (forX (F_impl_GreedyRoute_l1 c1 r_4 g) c1.Gates.length 0 (r_4.place,[])).bind<|orR fun (place,Steps) =>
  some (((TRoute.mk r_5 Steps),true)))

def F_laws_FnRoutes (code:List Int) (more:List Int):Option (Bool) :=
  bif (decide (1048576<(IntKind.i64.wrap ((code.length:Int)+(more.length:Int))))) then (some (true)) else ((F_spec_DrawLeastSwaps code).bind fun (r_1,r_2,r_3) =>
  (F_impl_LeastSwaps r_1 r_2 r_3).bind fun (r_4,r_5) =>
  (F_spec_LeastSwaps r_1 r_2 r_3).bind fun (r_6,r_7) =>
  (F_spec_DrawCheckRoute more).bind fun (r_8,r_9,r_10) =>
  (F_impl_CheckRoute r_8 r_9 r_10).bind fun (r_11,r_12,r_13) =>
  (F_spec_CheckRoute r_8 r_9 r_10).bind fun (r_14,r_15,r_16) =>
  bif (((((!(r_5==r_7))||(r_4 != r_6))||(!(r_13==r_16)))||(r_11 != r_14))||(r_12 != r_15)) then (some (false)) else (bif (!r_5) then (some (true)) else ((F_impl_RouteFrom r_1 r_2 r_3).bind fun (r_17,r_18) =>
  (F_impl_CheckRoute r_1 r_2 r_17).bind fun (r_19,r_20,r_21) =>
  (F_impl_SwapBound r_1 r_2 r_3).bind fun (r_22,r_23) =>
  (F_impl_IsPlacement r_1 r_2.Qubits r_3).bind fun (r_24,r_25) =>
  (gb (!((((((!r_18)||(!r_21))||(!r_23))||(!r_25))||(!r_24))||(r_19 != 0))) 0 (F_laws_qSwaps r_17)).bind fun r_26 =>
  (gb (!((((((((!r_18)||(!r_21))||(!r_23))||(!r_25))||(!r_24))||(r_19 != 0))||(r_26 != r_4))||(decide (r_4<r_22)))) false (F_laws_qInts r_17.Start r_3)).bind fun r_27 =>
  bif (((((((((!r_18)||(!r_21))||(!r_23))||(!r_25))||(!r_24))||(r_19 != 0))||(r_26 != r_4))||(decide (r_4<r_22)))||(!r_27)) then (some (false)) else ((F_impl_GreedyRoute r_1 r_2 r_3).bind fun (r_28,r_29) =>
  bif (!r_29) then (some (false)) else ((F_impl_CheckRoute r_1 r_2 r_28).bind fun (r_30,r_31,r_32) =>
  (gb (r_32&&(r_30==0)) 0 (F_laws_qSwaps r_28)).bind fun r_33 =>
  some (((r_32&&(r_30==0))&&(decide (r_4≤r_33)))))))))
end Go.VK
