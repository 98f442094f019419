/- What each Go function computes, by program. -/
import Derived.Test.YtoladcammhboiaaRouteCircuitTy
set_option linter.unusedVariables false
namespace Go.VK
open Go.RowKit
def F_laws_szEdgeS (a : List TEdge) (left : Int) : Option (Int) :=
  bif (decide ((IntKind.i64.wrap (left - (a.length : Int))) < 0)) then (some ((-1))) else (some ((IntKind.i64.wrap (left - (a.length : Int)))))

def F_laws_szCouplingGraph (a : TCouplingGraph) (left : Int) : Option (Int) :=
  (F_laws_szEdgeS a.Edges left).bind fun r_1 =>
  bif (decide (r_1 < 0)) then (some ((-1))) else (some (r_1))

def F_laws_szGateS (a : List TGate) (left : Int) : Option (Int) :=
  bif (decide ((IntKind.i64.wrap (left - (a.length : Int))) < 0)) then (some ((-1))) else (some ((IntKind.i64.wrap (left - (a.length : Int)))))

def F_laws_szCircuit (a : TCircuit) (left : Int) : Option (Int) :=
  (F_laws_szGateS a.Gates left).bind fun r_1 =>
  bif (decide (r_1 < 0)) then (some ((-1))) else (some (r_1))

def F_laws_szIntS (a : List Int) (left : Int) : Option (Int) :=
  bif (decide ((IntKind.i64.wrap (left - (a.length : Int))) < 0)) then (some ((-1))) else (some ((IntKind.i64.wrap (left - (a.length : Int)))))

def F_laws_szRouteStepS (a : List TRouteStep) (left : Int) : Option (Int) :=
  bif (decide ((IntKind.i64.wrap (left - (a.length : Int))) < 0)) then (some ((-1))) else (some ((IntKind.i64.wrap (left - (a.length : Int)))))

def F_laws_szRoute (a : TRoute) (left : Int) : Option (Int) :=
  (F_laws_szIntS a.Start left).bind fun r_1 =>
  bif (decide (r_1 < 0)) then (some ((-1))) else ((F_laws_szRouteStepS a.Steps r_1).bind fun r_2 =>
  bif (decide (r_2 < 0)) then (some ((-1))) else (some (r_2)))

def F_laws_toEdge (a : TEdge) : Option (TEdge) :=
  some (a)

def F_laws_toEdgeS_l1 (a : List TEdge) : Nat → (List TEdge) → Option (List TEdge) := fun i1 out =>
  (getI a (i1 : Int)).bind fun x =>
  (F_laws_toEdge x).bind fun r_1 =>
  (getI out (i1 : Int)).bind fun x1 =>
  some (out.set (i1 : Int).toNat r_1)
def F_laws_toEdgeS (a : List TEdge) : Option (List TEdge) :=
  chk ((0 : Int) ≤ (a.length : Int) ∧ (a.length : Int) ≤ 1099511627776) <|
  chk (a.length ≤ 9223372036854775807) <|
  (forN (F_laws_toEdgeS_l1 a) a.length 0 (List.replicate a.length (TEdge.mk 0 0))).bind fun out =>
  some (out)

def F_laws_toCouplingGraph (a : TCouplingGraph) : Option (TCouplingGraph) :=
  (F_laws_toEdgeS a.Edges).bind fun r_1 =>
  some ((TCouplingGraph.mk a.Nodes r_1))

def F_laws_toGate (a : TGate) : Option (TGate) :=
  some (a)

def F_laws_toGateS_l1 (a : List TGate) : Nat → (List TGate) → Option (List TGate) := fun i1 out =>
  (getI a (i1 : Int)).bind fun x =>
  (F_laws_toGate x).bind fun r_1 =>
  (getI out (i1 : Int)).bind fun x1 =>
  some (out.set (i1 : Int).toNat r_1)
def F_laws_toGateS (a : List TGate) : Option (List TGate) :=
  chk ((0 : Int) ≤ (a.length : Int) ∧ (a.length : Int) ≤ 1099511627776) <|
  chk (a.length ≤ 9223372036854775807) <|
  (forN (F_laws_toGateS_l1 a) a.length 0 (List.replicate a.length (TGate.mk 0 0 0))).bind fun out =>
  some (out)

def F_laws_toCircuit (a : TCircuit) : Option (TCircuit) :=
  (F_laws_toGateS a.Gates).bind fun r_1 =>
  some ((TCircuit.mk a.Qubits r_1))

def F_laws_toIntS_l1 (a : List Int) : Nat → (List Int) → Option (List Int) := fun i1 out =>
  (getI a (i1 : Int)).bind fun x =>
  (getI out (i1 : Int)).bind fun x1 =>
  some (out.set (i1 : Int).toNat x)
def F_laws_toIntS (a : List Int) : Option (List Int) :=
  chk ((0 : Int) ≤ (a.length : Int) ∧ (a.length : Int) ≤ 1099511627776) <|
  chk (a.length ≤ 9223372036854775807) <|
  (forN (F_laws_toIntS_l1 a) a.length 0 (List.replicate a.length 0)).bind fun out =>
  some (out)

def F_laws_toRouteStep (a : TRouteStep) : Option (TRouteStep) :=
  some (a)

def F_laws_toRouteStepS_l1 (a : List TRouteStep) : Nat → (List TRouteStep) → Option (List TRouteStep) := fun i1 out =>
  (getI a (i1 : Int)).bind fun x =>
  (F_laws_toRouteStep x).bind fun r_1 =>
  (getI out (i1 : Int)).bind fun x1 =>
  some (out.set (i1 : Int).toNat r_1)
def F_laws_toRouteStepS (a : List TRouteStep) : Option (List TRouteStep) :=
  chk ((0 : Int) ≤ (a.length : Int) ∧ (a.length : Int) ≤ 1099511627776) <|
  chk (a.length ≤ 9223372036854775807) <|
  (forN (F_laws_toRouteStepS_l1 a) a.length 0 (List.replicate a.length (TRouteStep.mk 0 0 0))).bind fun out =>
  some (out)

def F_laws_toRoute (a : TRoute) : Option (TRoute) :=
  (F_laws_toIntS a.Start).bind fun r_1 =>
  (F_laws_toRouteStepS a.Steps).bind fun r_2 =>
  some ((TRoute.mk r_1 r_2))

def F_laws_eqEdge (a : TEdge) (b : TEdge) : Option (Bool) :=
  bif (a.A != b.A) then (some (false)) else (bif (a.B != b.B) then (some (false)) else (some (true)))

def F_laws_eqEdgeS_l1 (a : List TEdge) (b : List TEdge) : Nat → Unit → Option (Ex (Unit) (Bool)) := fun i1 _ =>
  (getI a (i1 : Int)).bind fun x =>
  (getI b (i1 : Int)).bind fun x1 =>
  (F_laws_eqEdge x x1).bind fun r_1 =>
  bif (!r_1) then (some (.rt false)) else (some (.nx ()))
def F_laws_eqEdgeS (a : List TEdge) (b : List TEdge) : Option (Bool) :=
  bif ((a.length : Int) != (b.length : Int)) then (some (false)) else (chk (a.length ≤ 9223372036854775807) <|
  (forX (F_laws_eqEdgeS_l1 a b) a.length 0 ()).bind <| orR fun _ =>
  some (true))

def F_laws_eqCouplingGraph (a : TCouplingGraph) (b : TCouplingGraph) : Option (Bool) :=
  bif (a.Nodes != b.Nodes) then (some (false)) else ((F_laws_eqEdgeS a.Edges b.Edges).bind fun r_1 =>
  bif (!r_1) then (some (false)) else (some (true)))

def F_laws_eqGate (a : TGate) (b : TGate) : Option (Bool) :=
  bif (a.Kind != b.Kind) then (some (false)) else (bif (a.A != b.A) then (some (false)) else (bif (a.B != b.B) then (some (false)) else (some (true))))

def F_laws_eqGateS_l1 (a : List TGate) (b : List TGate) : Nat → Unit → Option (Ex (Unit) (Bool)) := fun i1 _ =>
  (getI a (i1 : Int)).bind fun x =>
  (getI b (i1 : Int)).bind fun x1 =>
  (F_laws_eqGate x x1).bind fun r_1 =>
  bif (!r_1) then (some (.rt false)) else (some (.nx ()))
def F_laws_eqGateS (a : List TGate) (b : List TGate) : Option (Bool) :=
  bif ((a.length : Int) != (b.length : Int)) then (some (false)) else (chk (a.length ≤ 9223372036854775807) <|
  (forX (F_laws_eqGateS_l1 a b) a.length 0 ()).bind <| orR fun _ =>
  some (true))

def F_laws_eqCircuit (a : TCircuit) (b : TCircuit) : Option (Bool) :=
  bif (a.Qubits != b.Qubits) then (some (false)) else ((F_laws_eqGateS a.Gates b.Gates).bind fun r_1 =>
  bif (!r_1) then (some (false)) else (some (true)))

def F_laws_eqIntS_l1 (a : List Int) (b : List Int) : Nat → Unit → Option (Ex (Unit) (Bool)) := fun i1 _ =>
  (getI a (i1 : Int)).bind fun x =>
  (getI b (i1 : Int)).bind fun x1 =>
  bif (x != x1) then (some (.rt false)) else (some (.nx ()))
def F_laws_eqIntS (a : List Int) (b : List Int) : Option (Bool) :=
  bif ((a.length : Int) != (b.length : Int)) then (some (false)) else (chk (a.length ≤ 9223372036854775807) <|
  (forX (F_laws_eqIntS_l1 a b) a.length 0 ()).bind <| orR fun _ =>
  some (true))

def F_laws_eqRouteStep (a : TRouteStep) (b : TRouteStep) : Option (Bool) :=
  bif (a.Gate != b.Gate) then (some (false)) else (bif (a.A != b.A) then (some (false)) else (bif (a.B != b.B) then (some (false)) else (some (true))))

def F_laws_eqRouteStepS_l1 (a : List TRouteStep) (b : List TRouteStep) : Nat → Unit → Option (Ex (Unit) (Bool)) := fun i1 _ =>
  (getI a (i1 : Int)).bind fun x =>
  (getI b (i1 : Int)).bind fun x1 =>
  (F_laws_eqRouteStep x x1).bind fun r_1 =>
  bif (!r_1) then (some (.rt false)) else (some (.nx ()))
def F_laws_eqRouteStepS (a : List TRouteStep) (b : List TRouteStep) : Option (Bool) :=
  bif ((a.length : Int) != (b.length : Int)) then (some (false)) else (chk (a.length ≤ 9223372036854775807) <|
  (forX (F_laws_eqRouteStepS_l1 a b) a.length 0 ()).bind <| orR fun _ =>
  some (true))

def F_laws_eqRoute (a : TRoute) (b : TRoute) : Option (Bool) :=
  (F_laws_eqIntS a.Start b.Start).bind fun r_1 =>
  bif (!r_1) then (some (false)) else ((F_laws_eqRouteStepS a.Steps b.Steps).bind fun r_2 =>
  bif (!r_2) then (some (false)) else (some (true)))

def F_laws_markEdgeS_l1 : Nat → (List TEdge × Int) → Option (List TEdge × Int) := fun i1 (m1, k_1) =>
  (getI m1 (i1 : Int)).bind fun x =>
  some (((m1.set (i1 : Int).toNat (TEdge.mk k_1 x.B)).set (i1 : Int).toNat (TEdge.mk k_1 (IntKind.i64.wrap (k_1 + 1)))), (IntKind.i64.wrap ((IntKind.i64.wrap (k_1 + 1)) + 1)))
def F_laws_markEdgeS (a : List TEdge) (k_ : Int) : Option (Int × List TEdge) :=
  chk (a.length ≤ 9223372036854775807) <|
  (forN F_laws_markEdgeS_l1 a.length 0 (a, k_)).bind fun (m1, k_1) =>
  some ((k_1, m1))

def F_laws_markCouplingGraph (a : TCouplingGraph) (k_ : Int) : Option (Int × List TEdge) :=
  (F_laws_markEdgeS a.Edges k_).bind fun (r_1, m1) =>
  some ((r_1, m1))

def F_laws_markGateS_l1 : Nat → (List TGate × Int) → Option (List TGate × Int) := fun i1 (m1, k_1) =>
  (getI m1 (i1 : Int)).bind fun x =>
  some ((((m1.set (i1 : Int).toNat (TGate.mk k_1 x.A x.B)).set (i1 : Int).toNat (TGate.mk k_1 (IntKind.i64.wrap (k_1 + 1)) x.B)).set (i1 : Int).toNat (TGate.mk k_1 (IntKind.i64.wrap (k_1 + 1)) (IntKind.i64.wrap ((IntKind.i64.wrap (k_1 + 1)) + 1)))), (IntKind.i64.wrap ((IntKind.i64.wrap ((IntKind.i64.wrap (k_1 + 1)) + 1)) + 1)))
def F_laws_markGateS (a : List TGate) (k_ : Int) : Option (Int × List TGate) :=
  chk (a.length ≤ 9223372036854775807) <|
  (forN F_laws_markGateS_l1 a.length 0 (a, k_)).bind fun (m1, k_1) =>
  some ((k_1, m1))

def F_laws_markCircuit (a : TCircuit) (k_ : Int) : Option (Int × List TGate) :=
  (F_laws_markGateS a.Gates k_).bind fun (r_1, m1) =>
  some ((r_1, m1))

def F_laws_markIntS_l1 : Nat → (List Int × Int) → Option (List Int × Int) := fun i1 (m1, k_1) =>
  (getI m1 (i1 : Int)).bind fun x =>
  some ((m1.set (i1 : Int).toNat k_1), (IntKind.i64.wrap (k_1 + 1)))
def F_laws_markIntS (a : List Int) (k_ : Int) : Option (Int × List Int) :=
  chk (a.length ≤ 9223372036854775807) <|
  (forN F_laws_markIntS_l1 a.length 0 (a, k_)).bind fun (m1, k_1) =>
  some ((k_1, m1))

def F_laws_markRouteStepS_l1 : Nat → (List TRouteStep × Int) → Option (List TRouteStep × Int) := fun i1 (m1, k_1) =>
  (getI m1 (i1 : Int)).bind fun x =>
  some ((((m1.set (i1 : Int).toNat (TRouteStep.mk k_1 x.A x.B)).set (i1 : Int).toNat (TRouteStep.mk k_1 (IntKind.i64.wrap (k_1 + 1)) x.B)).set (i1 : Int).toNat (TRouteStep.mk k_1 (IntKind.i64.wrap (k_1 + 1)) (IntKind.i64.wrap ((IntKind.i64.wrap (k_1 + 1)) + 1)))), (IntKind.i64.wrap ((IntKind.i64.wrap ((IntKind.i64.wrap (k_1 + 1)) + 1)) + 1)))
def F_laws_markRouteStepS (a : List TRouteStep) (k_ : Int) : Option (Int × List TRouteStep) :=
  chk (a.length ≤ 9223372036854775807) <|
  (forN F_laws_markRouteStepS_l1 a.length 0 (a, k_)).bind fun (m1, k_1) =>
  some ((k_1, m1))

def F_laws_markRoute (a : TRoute) (k_ : Int) : Option (Int × List Int × List TRouteStep) :=
  (F_laws_markIntS a.Start k_).bind fun (r_1, m2) =>
  (F_laws_markRouteStepS a.Steps r_1).bind fun (r_2, m3) =>
  some ((r_2, m2, m3))

def F_spec_l1In (n : Int) (lo : Int) (hi : Int) : Option (Bool) :=
  some (((decide (lo ≤ n)) && (decide (n ≤ hi))))

def F_spec_l22Valid_l1 (g : TCouplingGraph) : Nat → Unit → Option (Ex (Unit) (Bool)) := fun i _ =>
  (getI g.Edges (i : Int)).bind fun x =>
  (F_spec_l1In x.A 0 (IntKind.i64.wrap (x.B - 1))).bind fun r_1 =>
  (gb (!(!r_1)) false (F_spec_l1In x.B 0 (IntKind.i64.wrap (g.Nodes - 1)))).bind fun r_2 =>
  bif ((!r_1) || (!r_2)) then (some (.rt false)) else ((gb (decide (0 < (i : Int))) (TEdge.mk 0 0) (getI g.Edges (IntKind.i64.wrap ((i : Int) - 1)))).bind fun x1 =>
  (gb ((decide (0 < (i : Int))) && (!(decide (x.A < x1.A)))) (TEdge.mk 0 0) (getI g.Edges (IntKind.i64.wrap ((i : Int) - 1)))).bind fun x2 =>
  (gb (((decide (0 < (i : Int))) && (!(decide (x.A < x1.A)))) && (x2.A == x.A)) (TEdge.mk 0 0) (getI g.Edges (IntKind.i64.wrap ((i : Int) - 1)))).bind fun x3 =>
  bif ((decide (0 < (i : Int))) && ((decide (x.A < x1.A)) || ((x2.A == x.A) && (decide (x.B ≤ x3.B))))) then (some (.rt false)) else (some (.nx ())))
def F_spec_l22Valid (g : TCouplingGraph) : Option (Bool) :=
  chk (g.Edges.length ≤ 9223372036854775807) <|
  (forX (F_spec_l22Valid_l1 g) g.Edges.length 0 ()).bind <| orR fun _ =>
  (F_spec_l1In g.Nodes 1 8).bind fun r_3 =>
  some (r_3)

def F_spec_l4Gate (n : Int) (g : TGate) : Option (Bool) :=
  (F_spec_l1In g.Kind 1 8).bind fun r_1 =>
  bif r_1 then ((F_spec_l1In g.A 0 (IntKind.i64.wrap (n - 1))).bind fun r_2 =>
  some ((r_2 && (g.B == 0)))) else ((F_spec_l1In g.Kind 9 11).bind fun r_3 =>
  bif r_3 then ((F_spec_l1In g.A 0 (IntKind.i64.wrap (n - 1))).bind fun r_4 =>
  (gb r_4 false (F_spec_l1In g.B 0 (IntKind.i64.wrap (n - 1)))).bind fun r_5 =>
  some (((r_4 && r_5) && (g.A != g.B)))) else (some ((((g.Kind == 12) && (g.A == 0)) && (g.B == 0)))))

def F_spec_l4Good_l1 (c : TCircuit) : Nat → Unit → Option (Ex (Unit) (Bool)) := fun i _ =>
  (getI c.Gates (i : Int)).bind fun x =>
  (F_spec_l4Gate c.Qubits x).bind fun r_2 =>
  bif (!r_2) then (some (.rt false)) else (some (.nx ()))
def F_spec_l4Good (c : TCircuit) : Option (Bool) :=
  (F_spec_l1In c.Qubits 1 5).bind fun r_1 =>
  bif ((!r_1) || (decide (400 < (c.Gates.length : Int)))) then (some (false)) else (chk (c.Gates.length ≤ 9223372036854775807) <|
  (forX (F_spec_l4Good_l1 c) c.Gates.length 0 ()).bind <| orR fun _ =>
  some (true))

def F_spec_l23Fits (g : TCouplingGraph) (c1 : TCircuit) : Option (Bool) :=
  (F_spec_l22Valid g).bind fun r_1 =>
  (gb r_1 false (F_spec_l4Good c1)).bind fun r_2 =>
  some (((r_1 && r_2) && (decide (c1.Qubits ≤ g.Nodes))))

def F_spec_l1Own (l : List Int) : Option (List Int) :=
  chk (0 + l.length ≤ 1099511627776) <|
  some (l)

def F_spec_l23Swap_l1 (place : List Int) (a : Int) (b : Int) : Nat → (List Int) → Option (List Int) := fun i out =>
  (((getI place (i : Int)).bind fun x =>
  bif (x == a) then ((getI out (i : Int)).bind fun x1 =>
  some (out.set (i : Int).toNat b)) else (bif (x == b) then ((getI out (i : Int)).bind fun x2 =>
  some (out.set (i : Int).toNat a)) else (some out))) : Option (List Int)).bind fun out1 =>
  some out1
def F_spec_l23Swap (place : List Int) (a : Int) (b : Int) : Option (List Int) :=
  (F_spec_l1Own place).bind fun r_1 =>
  chk (place.length ≤ 9223372036854775807) <|
  (forN (F_spec_l23Swap_l1 place a b) place.length 0 r_1).bind fun out =>
  some (out)

def F_spec_l1Has_l1 (l : List Int) (n1 : Int) : Nat → Unit → Option (Ex (Unit) (Bool)) := fun i _ =>
  (getI l (i : Int)).bind fun x =>
  bif (x == n1) then (some (.rt true)) else (some (.nx ()))
def F_spec_l1Has (l : List Int) (n1 : Int) : Option (Bool) :=
  chk (l.length ≤ 9223372036854775807) <|
  (forX (F_spec_l1Has_l1 l n1) l.length 0 ()).bind <| orR fun _ =>
  some (false)

def F_spec_l23Placement_l1 (place : List Int) (g : TCouplingGraph) : Nat → Unit → Option (Ex (Unit) (Bool)) := fun i _ =>
  (getI place (i : Int)).bind fun x =>
  (F_spec_l1In x 0 (IntKind.i64.wrap (g.Nodes - 1))).bind fun r_1 =>
  bif (!(!r_1)) then (chk ((0 : Int) ≤ (i : Int) ∧ (i : Int) ≤ (place.length : Int)) <|
  (F_spec_l1Has (List.take i place) x).bind fun r_2 =>
  bif r_2 then (some (.rt false)) else (some (.nx ()))) else (some (.rt false))
def F_spec_l23Placement (g : TCouplingGraph) (n1 : Int) (place : List Int) : Option (Bool) :=
  chk (place.length ≤ 9223372036854775807) <|
  (forX (F_spec_l23Placement_l1 place g) place.length 0 ()).bind <| orR fun _ =>
  some (((place.length : Int) == n1))

def F_spec_l22Edge_l1 (g : TCouplingGraph) (a : Int) (b : Int) : Nat → Unit → Option (Ex (Unit) (Bool)) := fun i _ =>
  (getI g.Edges (i : Int)).bind fun x =>
  bif (((x.A == a) && (x.B == b)) || ((x.A == b) && (x.B == a))) then (some (.rt true)) else (some (.nx ()))
def F_spec_l22Edge (g : TCouplingGraph) (a : Int) (b : Int) : Option (Bool) :=
  chk (g.Edges.length ≤ 9223372036854775807) <|
  (forX (F_spec_l22Edge_l1 g a b) g.Edges.length 0 ()).bind <| orR fun _ =>
  some (false)

def F_spec_l22Two (g : TGate) : Option (Bool) :=
  some ((((g.Kind == 9) || (g.Kind == 10)) || (g.Kind == 11)))

def F_spec_l23Qubits (x : TGate) : Option (List Int) :=
  bif (x.Kind == 12) then (some ([])) else ((F_spec_l22Two x).bind fun r_1 =>
  bif r_1 then (some ([x.A, x.B])) else (some ([x.A])))

def F_spec_l23Ready_l2 (r_3 : List Int) (done : List Bool) (i1 : Nat) (r_2 : List Int) : Nat → Unit → Option (Ex (Unit) (Ex (Unit) (Bool))) := fun i2 _ =>
  (getI r_3 (i2 : Int)).bind fun x3 =>
  (getI done (i1 : Int)).bind fun x4 =>
  (gb (!x4) false (F_spec_l1Has r_2 x3)).bind fun r_4 =>
  bif ((!x4) && r_4) then (some (.rt (.rt false))) else (some (.nx ()))
def F_spec_l23Ready_l1 (c : TCircuit) (done : List Bool) (r_2 : List Int) : Nat → Unit → Option (Ex (Unit) (Bool)) := fun i1 _ =>
  (getI c.Gates (i1 : Int)).bind fun x2 =>
  (F_spec_l23Qubits x2).bind fun r_3 =>
  chk (r_3.length ≤ 9223372036854775807) <|
  (forX (F_spec_l23Ready_l2 r_3 done i1 r_2) r_3.length 0 ()).bind <| orR fun _ =>
  some (.nx ())
def F_spec_l23Ready (c : TCircuit) (done : List Bool) (k_ : Int) : Option (Bool) :=
  (F_spec_l1In k_ 0 (IntKind.i64.wrap ((c.Gates.length : Int) - 1))).bind fun r_1 =>
  (gb (!(!r_1)) false (getI done k_)).bind fun x =>
  bif ((!r_1) || x) then (some (false)) else ((getI c.Gates k_).bind fun x1 =>
  (F_spec_l23Qubits x1).bind fun r_2 =>
  chk (k_.toNat ≤ 9223372036854775807) <|
  (forX (F_spec_l23Ready_l1 c done r_2) k_.toNat 0 ()).bind <| orR fun _ =>
  some (true))

def F_spec_l23Near (g : TCouplingGraph) (place : List Int) (x : TGate) : Option (Bool) :=
  (F_spec_l22Two x).bind fun r_1 =>
  (gb (!(!r_1)) 0 (getI place x.A)).bind fun x1 =>
  (gb (!(!r_1)) 0 (getI place x.B)).bind fun x2 =>
  (gb (!(!r_1)) false (F_spec_l22Edge g x1 x2)).bind fun r_2 =>
  some (((!r_1) || r_2))

def F_spec_l23Play_l1 (r_ : TRoute) (g : TCouplingGraph) (c1 : TCircuit) : Nat → (List Int × List Bool × Int) → Option (Ex (List Int × List Bool × Int) (Int × Int × List Int)) := fun i (place, done, left) =>
  (((getI r_.Steps (i : Int)).bind fun x =>
  bif (x.Gate == (-1)) then ((F_spec_l22Edge g x.A x.B).bind fun r_6 =>
  bif (!r_6) then (some (.inr (.rt (2, (i : Int), [])))) else ((F_spec_l23Swap place x.A x.B).bind fun r_7 =>
  some (.inl (r_7, done, left)))) else ((gb (!((x.A != 0) || (x.B != 0))) false (F_spec_l23Ready c1 done x.Gate)).bind fun r_8 =>
  bif (((x.A != 0) || (x.B != 0)) || (!r_8)) then (some (.inr (.rt (3, (i : Int), [])))) else ((getI c1.Gates x.Gate).bind fun x1 =>
  (F_spec_l23Near g place x1).bind fun r_9 =>
  bif (!r_9) then (some (.inr (.rt (4, (i : Int), [])))) else ((getI done x.Gate).bind fun x2 =>
  some (.inl (place, (done.set x.Gate.toNat true), (IntKind.i64.wrap (left - 1)))))))) : Option ((List Int × List Bool × Int) ⊕ (Ex (List Int × List Bool × Int) (Int × Int × List Int)))).bind <| orR fun (place1, done1, left1) =>
  some (.nx (place1, done1, left1))
def F_spec_l23Play (g : TCouplingGraph) (c1 : TCircuit) (r_ : TRoute) : Option (Int × Int × List Int) :=
  (F_spec_l23Placement g c1.Qubits r_.Start).bind fun r_4 =>
  bif (!r_4) then (some ((1, 0, []))) else ((F_spec_l1Own r_.Start).bind fun r_5 =>
  chk ((0 : Int) ≤ (c1.Gates.length : Int) ∧ (c1.Gates.length : Int) ≤ 1099511627776) <|
  chk (r_.Steps.length ≤ 9223372036854775807) <|
  (forX (F_spec_l23Play_l1 r_ g c1) r_.Steps.length 0 (r_5, (List.replicate c1.Gates.length false), (c1.Gates.length : Int))).bind <| orR fun (place, done, left) =>
  bif (decide (0 < left)) then (some ((5, (r_.Steps.length : Int), []))) else (some ((0, 0, place))))

def F_spec_RouteCircuit_l1 (r_ : TRoute) (c1 : TCircuit) : Nat → (List TGate × List Int) → Option (List TGate × List Int) := fun i (Gates, place) =>
  (((getI r_.Steps (i : Int)).bind fun x =>
  bif (x.Gate == (-1)) then (chk (Gates.length + 1 ≤ 1099511627776) <|
  (F_spec_l23Swap place x.A x.B).bind fun r_7 =>
  some ((Gates ++ [(TGate.mk 11 x.A x.B)]), r_7)) else ((getI c1.Gates x.Gate).bind fun x1 =>
  (((F_spec_l22Two x1).bind fun r_8 =>
  bif r_8 then ((getI place x1.B).bind fun x2 =>
  some x2) else (some x1.B)) : Option (Int)).bind fun B12 =>
  ((bif (x1.Kind != 12) then ((getI place x1.A).bind fun x3 =>
  some x3) else (some x1.A)) : Option (Int)).bind fun A =>
  chk (Gates.length + 1 ≤ 1099511627776) <|
  some ((Gates ++ [(TGate.mk x1.Kind A B12)]), place))) : Option (List TGate × List Int)).bind fun (Gates1, place1) =>
  some (Gates1, place1)
def F_spec_RouteCircuit (g : TCouplingGraph) (c1 : TCircuit) (r_ : TRoute) : Option (TCircuit × Bool) :=
  (F_spec_l23Fits g c1).bind fun r_3 =>
  bif (((!r_3) || (decide (5 < g.Nodes))) || (decide (400 < (r_.Steps.length : Int)))) then (some (((TCircuit.mk 0 []), false))) else ((F_spec_l23Play g c1 r_).bind fun (r_4, r_5, r_6) =>
  bif (r_4 != 0) then (some (((TCircuit.mk 0 []), false))) else (chk (r_.Steps.length ≤ 9223372036854775807) <|
  (forN (F_spec_RouteCircuit_l1 r_ c1) r_.Steps.length 0 ([], r_.Start)).bind fun (Gates, place) =>
  some (((TCircuit.mk g.Nodes Gates), true))))

def F_impl_within (n : Int) (low : Int) (high : Int) : Option (Bool) :=
  some (((decide (low ≤ n)) && (decide (n ≤ high))))

def F_impl_areEdges_l1 (edges : List TEdge) (n : Int) : Nat → Unit → Option (Ex (Unit) (Bool)) := fun i _ =>
  (getI edges (i : Int)).bind fun x =>
  (gb ((!(((decide (x.A < 0)) || (decide (x.B ≤ x.A))) || (decide (n ≤ x.B)))) && (decide (0 < (i : Int)))) (TEdge.mk 0 0) (getI edges (IntKind.i64.wrap ((i : Int) - 1)))).bind fun x1 =>
  (gb (((!(((decide (x.A < 0)) || (decide (x.B ≤ x.A))) || (decide (n ≤ x.B)))) && (decide (0 < (i : Int)))) && (!(decide (x.A < x1.A)))) (TEdge.mk 0 0) (getI edges (IntKind.i64.wrap ((i : Int) - 1)))).bind fun x2 =>
  (gb ((((!(((decide (x.A < 0)) || (decide (x.B ≤ x.A))) || (decide (n ≤ x.B)))) && (decide (0 < (i : Int)))) && (!(decide (x.A < x1.A)))) && (x2.A == x.A)) (TEdge.mk 0 0) (getI edges (IntKind.i64.wrap ((i : Int) - 1)))).bind fun x3 =>
  bif ((((decide (x.A < 0)) || (decide (x.B ≤ x.A))) || (decide (n ≤ x.B))) || ((decide (0 < (i : Int))) && ((decide (x.A < x1.A)) || ((x2.A == x.A) && (decide (x.B ≤ x3.B)))))) then (some (.rt false)) else (some (.nx ()))
def F_impl_areEdges (n : Int) (edges : List TEdge) : Option (Bool) :=
  chk (edges.length ≤ 9223372036854775807) <|
  (forX (F_impl_areEdges_l1 edges n) edges.length 0 ()).bind <| orR fun _ =>
  some (true)

def F_impl_IsValidCouplingGraph (g : TCouplingGraph) : Option (Bool) :=
  (F_impl_within g.Nodes 1 8).bind fun r_1 =>
  (gb r_1 false (F_impl_areEdges g.Nodes g.Edges)).bind fun r_2 =>
  some ((r_1 && r_2))

def F_slices_IndexFunc_impl_Gate_impl_Gate_l1 (s : List TGate) (f_ : TGate → Option (Bool)) : Nat → Unit → Option (Ex (Unit) (Int)) := fun i _ =>
  (getI s (i : Int)).bind fun x1 =>
  (f_ x1).bind fun r_1 =>
  bif r_1 then (some (.rt (i : Int))) else (some (.nx ()))
def F_slices_IndexFunc_impl_Gate_impl_Gate (s : List TGate) (f_ : TGate → Option (Bool)) : Option (Int) :=
  chk (s.length ≤ 9223372036854775807) <|
  (forX (F_slices_IndexFunc_impl_Gate_impl_Gate_l1 s f_) s.length 0 ()).bind <| orR fun _ =>
  some ((-1))

def F_slices_ContainsFunc_impl_Gate_impl_Gate (s : List TGate) (f_ : TGate → Option (Bool)) : Option (Bool) :=
  (F_slices_IndexFunc_impl_Gate_impl_Gate s f_).bind fun r_1 =>
  some ((decide (0 ≤ r_1)))

def F_impl_isTwo (kind : Int) : Option (Bool) :=
  (F_impl_within kind 9 11).bind fun r_1 =>
  some (r_1)

def F_impl_IsValidGate (n : Int) (g : TGate) : Option (Bool) :=
  (F_impl_within n 1 5).bind fun r_1 =>
  (gb (!(!r_1)) false (F_impl_within g.Kind 1 12)).bind fun r_2 =>
  bif ((!r_1) || (!r_2)) then (some (false)) else (bif (g.Kind == 12) then (some (((g.A == 0) && (g.B == 0)))) else ((F_impl_isTwo g.Kind).bind fun r_3 =>
  bif r_3 then ((F_impl_within g.A 0 (IntKind.i64.wrap (n - 1))).bind fun r_4 =>
  (gb r_4 false (F_impl_within g.B 0 (IntKind.i64.wrap (n - 1)))).bind fun r_5 =>
  some (((r_4 && r_5) && (g.A != g.B)))) else ((F_impl_within g.A 0 (IntKind.i64.wrap (n - 1))).bind fun r_6 =>
  some ((r_6 && (g.B == 0))))))

def F_impl_IsValidCircuit_1 (g : TGate) (p : TCircuit) : Option (Bool) :=
  (F_impl_IsValidGate p.Qubits g).bind fun r_1 =>
  some ((!r_1))

def F_impl_IsValidCircuit (c : TCircuit) : Option (Bool) :=
  (F_impl_within c.Qubits 1 5).bind fun r_1 =>
  (gb (r_1 && (decide ((c.Gates.length : Int) ≤ 400))) false (F_slices_ContainsFunc_impl_Gate_impl_Gate c.Gates (fun x_0 => F_impl_IsValidCircuit_1 x_0 c))).bind fun r_2 =>
  some (((r_1 && (decide ((c.Gates.length : Int) ≤ 400))) && (!r_2)))

def F_impl_canRoute (g : TCouplingGraph) (c1 : TCircuit) : Option (Bool) :=
  (F_impl_IsValidCouplingGraph g).bind fun r_1 =>
  (gb r_1 false (F_impl_IsValidCircuit c1)).bind fun r_2 =>
  some (((r_1 && r_2) && (decide (c1.Qubits ≤ g.Nodes))))

def F_slices_Clone_int_int (s : List Int) : Option (List Int) :=
  chk (0 + s.length ≤ 1099511627776) <|
  some (s)

def F_impl_newRouting (g : TCouplingGraph) (c1 : TCircuit) (start : List Int) : Option (Trouting) :=
  (F_slices_Clone_int_int start).bind fun r_1 =>
  chk ((0 : Int) ≤ (c1.Gates.length : Int) ∧ (c1.Gates.length : Int) ≤ 1099511627776) <|
  some ((Trouting.mk g c1 r_1 (List.replicate c1.Gates.length false)))

def F_slices_Index_impl_Edge_impl_Edge_l1 (s : List TEdge) (v_ : TEdge) : Nat → Unit → Option (Ex (Unit) (Int)) := fun i _ =>
  (getI s (i : Int)).bind fun x =>
  bif ((v_.A == x.A) && ((v_.B == x.B) && true)) then (some (.rt (i : Int))) else (some (.nx ()))
def F_slices_Index_impl_Edge_impl_Edge (s : List TEdge) (v_ : TEdge) : Option (Int) :=
  chk (s.length ≤ 9223372036854775807) <|
  (forX (F_slices_Index_impl_Edge_impl_Edge_l1 s v_) s.length 0 ()).bind <| orR fun _ =>
  some ((-1))

def F_slices_Contains_impl_Edge_impl_Edge (s : List TEdge) (v_ : TEdge) : Option (Bool) :=
  (F_slices_Index_impl_Edge_impl_Edge s v_).bind fun r_1 =>
  some ((decide (0 ≤ r_1)))

def F_impl_CouplingGraph_joins (g : TCouplingGraph) (a : Int) (b : Int) : Option (Bool) :=
  (F_slices_Contains_impl_Edge_impl_Edge g.Edges (TEdge.mk (if b < a then b else a) (if a < b then b else a))).bind fun r_1 =>
  some (r_1)

def F_impl_routing_swap_l1 (a : Int) (b : Int) : Nat → (List Int) → Option (List Int) := fun i m1 =>
  (((getI m1 (i : Int)).bind fun x =>
  bif (x == a) then (some (m1.set (i : Int).toNat b)) else (bif (x == b) then (some (m1.set (i : Int).toNat a)) else (some m1))) : Option (List Int)).bind fun m2 =>
  some m2
def F_impl_routing_swap (r_ : Trouting) (a : Int) (b : Int) : Option (List Int) :=
  chk (r_.place.length ≤ 9223372036854775807) <|
  (forN (F_impl_routing_swap_l1 a b) r_.place.length 0 r_.place).bind fun m1 =>
  some (m1)

def F_slices_IndexFunc_int_int_l1 (s : List Int) (f_ : Int → Option (Bool)) : Nat → Unit → Option (Ex (Unit) (Int)) := fun i _ =>
  (getI s (i : Int)).bind fun x1 =>
  (f_ x1).bind fun r_1 =>
  bif r_1 then (some (.rt (i : Int))) else (some (.nx ()))
def F_slices_IndexFunc_int_int (s : List Int) (f_ : Int → Option (Bool)) : Option (Int) :=
  chk (s.length ≤ 9223372036854775807) <|
  (forX (F_slices_IndexFunc_int_int_l1 s f_) s.length 0 ()).bind <| orR fun _ =>
  some ((-1))

def F_slices_ContainsFunc_int_int (s : List Int) (f_ : Int → Option (Bool)) : Option (Bool) :=
  (F_slices_IndexFunc_int_int s f_).bind fun r_1 =>
  some ((decide (0 ≤ r_1)))

def F_impl_qubitsOf (g : TGate) : Option (List Int) :=
  bif (g.Kind == 12) then (some ([])) else ((F_impl_isTwo g.Kind).bind fun r_1 =>
  bif r_1 then (some ([g.A, g.B])) else (some ([g.A])))

def F_slices_Index_int_int_l1 (s : List Int) (v_ : Int) : Nat → Unit → Option (Ex (Unit) (Int)) := fun i _ =>
  (getI s (i : Int)).bind fun x =>
  bif (v_ == x) then (some (.rt (i : Int))) else (some (.nx ()))
def F_slices_Index_int_int (s : List Int) (v_ : Int) : Option (Int) :=
  chk (s.length ≤ 9223372036854775807) <|
  (forX (F_slices_Index_int_int_l1 s v_) s.length 0 ()).bind <| orR fun _ =>
  some ((-1))

def F_slices_Contains_int_int (s : List Int) (v_ : Int) : Option (Bool) :=
  (F_slices_Index_int_int s v_).bind fun r_1 =>
  some ((decide (0 ≤ r_1)))

def F_impl_meet_1 (q : Int) (p : TGate) : Option (Bool) :=
  (F_impl_qubitsOf p).bind fun r_1 =>
  (F_slices_Contains_int_int r_1 q).bind fun r_2 =>
  some (r_2)

def F_impl_meet (g : TGate) (h : TGate) : Option (Bool) :=
  (F_impl_qubitsOf g).bind fun r_1 =>
  (F_slices_ContainsFunc_int_int r_1 (fun x_0 => F_impl_meet_1 x_0 h)).bind fun r_2 =>
  some (r_2)

def F_impl_routing_isReady_l1 (k_ : Int) (r_ : Trouting) : Nat → Unit → Option (Ex (Unit) (Bool)) := fun i _ =>
  (getI (List.take k_.toNat r_.c.Gates) (i : Int)).bind fun x1 =>
  (getI r_.done (i : Int)).bind fun x2 =>
  (gb (!x2) (TGate.mk 0 0 0) (getI r_.c.Gates k_)).bind fun x3 =>
  (gb (!x2) false (F_impl_meet x1 x3)).bind fun r_3 =>
  bif ((!x2) && r_3) then (some (.rt false)) else (some (.nx ()))
def F_impl_routing_isReady (r_ : Trouting) (k_ : Int) : Option (Bool) :=
  (F_impl_within k_ 0 (IntKind.i64.wrap ((r_.c.Gates.length : Int) - 1))).bind fun r_2 =>
  (gb (!(!r_2)) false (getI r_.done k_)).bind fun x =>
  bif ((!r_2) || x) then (some (false)) else (chk ((0 : Int) ≤ k_ ∧ k_ ≤ (r_.c.Gates.length : Int)) <|
  chk (k_.toNat ≤ 9223372036854775807) <|
  (forX (F_impl_routing_isReady_l1 k_ r_) k_.toNat 0 ()).bind <| orR fun _ =>
  some (true))

def F_impl_routing_fits (r_ : Trouting) (k_ : Int) : Option (Bool) :=
  (getI r_.c.Gates k_).bind fun x =>
  (F_impl_isTwo x.Kind).bind fun r_2 =>
  (gb (!(!r_2)) 0 (getI r_.place x.A)).bind fun x1 =>
  (gb (!(!r_2)) 0 (getI r_.place x.B)).bind fun x2 =>
  (gb (!(!r_2)) false (F_impl_CouplingGraph_joins r_.g x1 x2)).bind fun r_3 =>
  some (((!r_2) || r_3))

def F_impl_routing_step (r_ : Trouting) (s : TRouteStep) : Option (Int × List Int × List Bool) :=
  bif (s.Gate == (-1)) then ((F_impl_CouplingGraph_joins r_.g s.A s.B).bind fun r_2 =>
  bif (!r_2) then (some ((2, r_.place, r_.done))) else ((F_impl_routing_swap r_ s.A s.B).bind fun m2 =>
  some ((0, m2, r_.done)))) else ((gb (!((s.A != 0) || (s.B != 0))) false (F_impl_routing_isReady r_ s.Gate)).bind fun r_3 =>
  bif (((s.A != 0) || (s.B != 0)) || (!r_3)) then (some ((3, r_.place, r_.done))) else ((F_impl_routing_fits r_ s.Gate).bind fun r_4 =>
  bif (!r_4) then (some ((4, r_.place, r_.done))) else ((getI r_.done s.Gate).bind fun x =>
  some ((0, r_.place, (r_.done.set s.Gate.toNat true))))))

def F_impl_CouplingGraph_isPlacement_l1 (place : List Int) (g : TCouplingGraph) : Nat → Unit → Option (Ex (Unit) (Bool)) := fun i _ =>
  (getI place (i : Int)).bind fun x =>
  (F_impl_within x 0 (IntKind.i64.wrap (g.Nodes - 1))).bind fun r_1 =>
  bif (!(!r_1)) then (chk ((0 : Int) ≤ (i : Int) ∧ (i : Int) ≤ (place.length : Int)) <|
  (F_slices_Contains_int_int (List.take i place) x).bind fun r_2 =>
  bif r_2 then (some (.rt false)) else (some (.nx ()))) else (some (.rt false))
def F_impl_CouplingGraph_isPlacement (g : TCouplingGraph) (n1 : Int) (place : List Int) : Option (Bool) :=
  chk (place.length ≤ 9223372036854775807) <|
  (forX (F_impl_CouplingGraph_isPlacement_l1 place g) place.length 0 ()).bind <| orR fun _ =>
  some (((place.length : Int) == n1))

def F_slices_Index_bool_bool_l1 (s : List Bool) (v_ : Bool) : Nat → Unit → Option (Ex (Unit) (Int)) := fun i _ =>
  (getI s (i : Int)).bind fun x =>
  bif (v_ == x) then (some (.rt (i : Int))) else (some (.nx ()))
def F_slices_Index_bool_bool (s : List Bool) (v_ : Bool) : Option (Int) :=
  chk (s.length ≤ 9223372036854775807) <|
  (forX (F_slices_Index_bool_bool_l1 s v_) s.length 0 ()).bind <| orR fun _ =>
  some ((-1))

def F_slices_Contains_bool_bool (s : List Bool) (v_ : Bool) : Option (Bool) :=
  (F_slices_Index_bool_bool s v_).bind fun r_1 =>
  some ((decide (0 ≤ r_1)))

def F_impl_check_l1 (route : TRoute) (r_4 : Trouting) (g : TCouplingGraph) : Nat → (List Int × List Bool) → Option (Ex (List Int × List Bool) (Int × Int × Trouting)) := fun i (place, done) =>
  (getI route.Steps (i : Int)).bind fun x =>
  (F_impl_routing_step (Trouting.mk r_4.g r_4.c place done) x).bind fun (r_5, m, m1) =>
  bif (r_5 != 0) then (some (.rt (r_5, (i : Int), (Trouting.mk r_4.g r_4.c m m1)))) else (some (.nx (m, m1)))
def F_impl_check (g : TCouplingGraph) (c1 : TCircuit) (route : TRoute) : Option (Int × Int × Trouting) :=
  (F_impl_CouplingGraph_isPlacement g c1.Qubits route.Start).bind fun r_3 =>
  bif (!r_3) then (some ((1, 0, (Trouting.mk (TCouplingGraph.mk 0 []) (TCircuit.mk 0 []) [] [])))) else ((F_impl_newRouting g c1 route.Start).bind fun r_4 =>
  chk (route.Steps.length ≤ 9223372036854775807) <|
  (forX (F_impl_check_l1 route r_4 g) route.Steps.length 0 (r_4.place, r_4.done)).bind <| orR fun (place, done) =>
  (F_slices_Contains_bool_bool done false).bind fun r_6 =>
  bif r_6 then (some ((5, (route.Steps.length : Int), (Trouting.mk r_4.g r_4.c place done)))) else (some ((0, 0, (Trouting.mk r_4.g r_4.c place done)))))

def F_impl_CheckRoute (g : TCouplingGraph) (c1 : TCircuit) (r_ : TRoute) : Option (Int × Int × Bool) :=
  (F_impl_canRoute g c1).bind fun r_4 =>
  bif (!r_4) then (some ((0, 0, false))) else ((F_impl_check g c1 r_).bind fun (r_5, r_6, r_7) =>
  some ((r_5, r_6, true)))

def F_impl_mapped_l1 (gates : List TGate) (to_ : List Int) : Nat → (List TGate) → Option (List TGate) := fun i out =>
  (getI gates (i : Int)).bind fun x =>
  ((bif (x.Kind != 12) then ((getI to_ x.A).bind fun x1 =>
  some x1) else (some x.A)) : Option (Int)).bind fun A =>
  (((F_impl_isTwo x.Kind).bind fun r_1 =>
  bif r_1 then ((getI to_ x.B).bind fun x2 =>
  some x2) else (some x.B)) : Option (Int)).bind fun B4 =>
  chk (out.length + 1 ≤ 1099511627776) <|
  some (out ++ [(TGate.mk x.Kind A B4)])
def F_impl_mapped (gates : List TGate) (to_ : List Int) : Option (List TGate) :=
  chk (gates.length ≤ 9223372036854775807) <|
  (forN (F_impl_mapped_l1 gates to_) gates.length 0 []).bind fun out =>
  some (out)

def F_impl_circuitIf (n : Int) (gates : List TGate) : Option (TCircuit × Bool) :=
  chk (0 + gates.length ≤ 1099511627776) <|
  (F_impl_IsValidCircuit (TCircuit.mk n gates)).bind fun r_2 =>
  bif (!r_2) then (some (((TCircuit.mk 0 []), false))) else (some (((TCircuit.mk n gates), true)))

def F_impl_RouteCircuit_l1 (r_ : TRoute) (c1 : TCircuit) (r_6 : Trouting) (g : TCouplingGraph) : Nat → (List Int × List Bool × List TGate) → Option (List Int × List Bool × List TGate) := fun i (place, done, out) =>
  (getI r_.Steps (i : Int)).bind fun x =>
  ((bif (x.Gate == (-1)) then (chk (out.length + 1 ≤ 1099511627776) <|
  some (out ++ [(TGate.mk 11 x.A x.B)])) else (chk ((0 : Int) ≤ x.Gate ∧ x.Gate ≤ (IntKind.i64.wrap (x.Gate + 1)) ∧ (IntKind.i64.wrap (x.Gate + 1)) ≤ (c1.Gates.length : Int)) <|
  (F_impl_mapped (List.drop x.Gate.toNat (List.take ((IntKind.i64.wrap (x.Gate + 1)).toNat) c1.Gates)) place).bind fun r_7 =>
  chk (out.length + r_7.length ≤ 1099511627776) <|
  some (out ++ r_7))) : Option (List TGate)).bind fun out1 =>
  (F_impl_routing_step (Trouting.mk r_6.g r_6.c place done) x).bind fun (r_8, m, m1) =>
  some (m, m1, out1)
def F_impl_RouteCircuit (g : TCouplingGraph) (c1 : TCircuit) (r_ : TRoute) : Option (TCircuit × Bool) :=
  (F_impl_CheckRoute g c1 r_).bind fun (r_3, r_4, r_5) =>
  bif (((!r_5) || (r_3 != 0)) || (decide (5 < g.Nodes))) then (some (((TCircuit.mk 0 []), false))) else ((F_impl_newRouting g c1 r_.Start).bind fun r_6 =>
  chk (r_.Steps.length ≤ 9223372036854775807) <|
  (forN (F_impl_RouteCircuit_l1 r_ c1 r_6 g) r_.Steps.length 0 (r_6.place, r_6.done, [])).bind fun (place, done, out) =>
  (F_impl_circuitIf g.Nodes out).bind fun (r_9, r_10) =>
  some ((r_9, r_10)))

def F_laws_heldGateS_l1 (a : List TGate) : Nat → Int → Option (Ex (Int) (Int)) := fun i1 k_1 =>
  (getI a (i1 : Int)).bind fun x =>
  bif (x.Kind != k_1) then (some (.rt (-1))) else (bif (x.A != (IntKind.i64.wrap (k_1 + 1))) then (some (.rt (-1))) else (bif (x.B != (IntKind.i64.wrap ((IntKind.i64.wrap (k_1 + 1)) + 1))) then (some (.rt (-1))) else (some (.nx (IntKind.i64.wrap ((IntKind.i64.wrap ((IntKind.i64.wrap (k_1 + 1)) + 1)) + 1))))))
def F_laws_heldGateS (a : List TGate) (k_ : Int) : Option (Int) :=
  chk (a.length ≤ 9223372036854775807) <|
  (forX (F_laws_heldGateS_l1 a) a.length 0 k_).bind <| orR fun k_1 =>
  some (k_1)

def F_laws_heldCircuit (a : TCircuit) (k_ : Int) : Option (Int) :=
  (F_laws_heldGateS a.Gates k_).bind fun r_1 =>
  bif (decide (r_1 < 0)) then (some ((-1))) else (some (r_1))

def F_laws_FnExactRouteCircuit (aG : TCouplingGraph) (aC : TCircuit) (aR : TRoute) : Option (Bool) :=
  (F_laws_szCouplingGraph aG 1048576).bind fun r_1 =>
  bif (decide (r_1 < 0)) then (some (true)) else ((F_laws_szCircuit aC r_1).bind fun r_2 =>
  bif (decide (r_2 < 0)) then (some (true)) else ((F_laws_szRoute aR r_2).bind fun r_3 =>
  bif (decide (r_3 < 0)) then (some (true)) else ((F_laws_toCouplingGraph aG).bind fun r_4 =>
  (F_laws_toCircuit aC).bind fun r_5 =>
  (F_laws_toRoute aR).bind fun r_6 =>
  (F_spec_RouteCircuit r_4 r_5 r_6).bind fun (r_7, r_8) =>
  (F_laws_toCouplingGraph aG).bind fun r_9 =>
  (F_laws_toCircuit aC).bind fun r_10 =>
  (F_laws_toRoute aR).bind fun r_11 =>
  (F_impl_RouteCircuit r_9 r_10 r_11).bind fun (r_12, r_13) =>
  (F_laws_eqCircuit r_12 r_7).bind fun r_14 =>
  bif ((!r_14) || (!(r_13 == r_8))) then (some (false)) else ((F_laws_toCouplingGraph aG).bind fun r_15 =>
  (F_laws_eqCouplingGraph r_9 r_15).bind fun r_16 =>
  bif (!r_16) then (some (false)) else ((F_laws_toCircuit aC).bind fun r_17 =>
  (F_laws_eqCircuit r_10 r_17).bind fun r_18 =>
  bif (!r_18) then (some (false)) else ((F_laws_toRoute aR).bind fun r_19 =>
  (F_laws_eqRoute r_11 r_19).bind fun r_20 =>
  bif (!r_20) then (some (false)) else ((F_laws_markCouplingGraph r_9 1).bind fun (r_21, m) =>
  (F_laws_markCircuit r_10 r_21).bind fun (r_22, m1) =>
  (F_laws_markRoute r_11 r_22).bind fun (r_23, m2, m3) =>
  (gb (!(decide (r_23 < 0))) false (F_laws_eqCircuit r_12 r_7)).bind fun r_24 =>
  bif (((decide (r_23 < 0)) || (!r_24)) || (!(r_13 == r_8))) then (some (false)) else ((F_laws_markCircuit r_12 1).bind fun (r_25, m4) =>
  (F_laws_heldCircuit (TCircuit.mk r_12.Qubits m4) 1).bind fun r_26 =>
  bif (decide (r_26 < 0)) then (some (false)) else (bif (r_26 != r_25) then (some (false)) else ((F_laws_toCouplingGraph aG).bind fun r_27 =>
  (F_laws_toCircuit aC).bind fun r_28 =>
  (F_laws_toRoute aR).bind fun r_29 =>
  (F_impl_RouteCircuit r_27 r_28 r_29).bind fun (r_30, r_31) =>
  (F_laws_eqCircuit r_30 r_7).bind fun r_32 =>
  bif ((!r_32) || (!(r_31 == r_8))) then (some (false)) else ((F_laws_heldCircuit (TCircuit.mk r_12.Qubits m4) 1).bind fun r_33 =>
  bif (decide (r_33 < 0)) then (some (false)) else (bif (r_33 != r_25) then (some (false)) else (some (true))))))))))))))
end Go.VK
