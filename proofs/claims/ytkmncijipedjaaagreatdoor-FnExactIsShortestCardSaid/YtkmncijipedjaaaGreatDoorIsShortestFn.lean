/- What each Go function computes, by program. -/
import Derived.Test.YtkmncijipedjaaaGreatDoorIsShortestTy
set_option linter.unusedVariables false
namespace Go.VK
open Go.RowKit
def F_laws_szGateS (a : List TGate) (left : Int) : Option (Int) :=
  bif (decide ((IntKind.i64.wrap (left - (a.length : Int))) < 0)) then (some ((-1))) else (some ((IntKind.i64.wrap (left - (a.length : Int)))))

def F_laws_szCircuit (a : TCircuit) (left : Int) : Option (Int) :=
  (F_laws_szGateS a.Gates left).bind fun r_1 =>
  bif (decide (r_1 < 0)) then (some ((-1))) else (some (r_1))

def F_spec_l1Turn_l1 : (Int × Int × Int × Int × Int) → Option (Ex (Int × Int × Int × Int × Int) (TRing)) := fun (K7, A, B, C, D) =>
  bif (decide (0 < K7)) then (some (.nx ((IntKind.i64.wrap (K7 - 1)), (IntKind.i64.wrap (-D)), A, B, C))) else (some (.br (K7, A, B, C, D)))
def F_spec_l1Turn (x : TRing) (k_ : Int) : Option (TRing) :=
  (whX F_spec_l1Turn_l1 fuel ((Int.tmod (IntKind.i64.wrap ((Int.tmod k_ 8) + 8)) 8), x.A, x.B, x.C, x.D)).bind <| orR fun (K7, A, B, C, D) =>
  some ((TRing.mk A B C D))

def F_spec_l2Power (k_ : Int) : Option (TDyadic) :=
  (F_spec_l1Turn (TRing.mk 1 0 0 0) k_).bind fun r_1 =>
  some ((TDyadic.mk r_1 0))

def F_spec_l3Unit_l1 (n : Int) : Nat → (List TDyadic) → Option (List TDyadic) := fun i1 Cells =>
  (F_spec_l2Power 0).bind fun r_1 =>
  (getI Cells (IntKind.i64.wrap ((IntKind.i64.wrap ((i1 : Int) * n)) + (i1 : Int)))).bind fun x =>
  some (Cells.set (IntKind.i64.wrap ((IntKind.i64.wrap ((i1 : Int) * n)) + (i1 : Int))).toNat r_1)
def F_spec_l3Unit (n : Int) : Option (TMatrix) :=
  chk ((0 : Int) ≤ (IntKind.i64.wrap (n * n)) ∧ (IntKind.i64.wrap (n * n)) ≤ 1099511627776) <|
  chk (n.toNat ≤ 9223372036854775807) <|
  (forN (F_spec_l3Unit_l1 n) n.toNat 0 (List.replicate ((IntKind.i64.wrap (n * n)).toNat) (TDyadic.mk (TRing.mk 0 0 0 0) 0))).bind fun Cells =>
  some ((TMatrix.mk n n Cells))

def F_spec_l1In (n : Int) (lo : Int) (hi : Int) : Option (Bool) :=
  some (((decide (lo ≤ n)) && (decide (n ≤ hi))))

def F_spec_l4Gate (n : Int) (g : TGate) : Option (Bool) :=
  (F_spec_l1In g.Kind 1 8).bind fun r_1 =>
  bif r_1 then ((F_spec_l1In g.A 0 (IntKind.i64.wrap (n - 1))).bind fun r_2 =>
  some ((r_2 && (g.B == 0)))) else ((F_spec_l1In g.Kind 9 11).bind fun r_3 =>
  bif r_3 then ((F_spec_l1In g.A 0 (IntKind.i64.wrap (n - 1))).bind fun r_4 =>
  (gb r_4 false (F_spec_l1In g.B 0 (IntKind.i64.wrap (n - 1)))).bind fun r_5 =>
  some (((r_4 && r_5) && (g.A != g.B)))) else (some ((((g.Kind == 12) && (g.A == 0)) && (g.B == 0)))))

def F_spec_l4Good_l1 (c : TCircuit) : Nat → Unit → Option (Ex (Unit) (Bool)) := fun i _ =>
  (getI c.Gates (i : Int)).bind fun x =>
  (F_spec_l4Gate c.Qubits x).bind fun r_2 =>
  bif (!r_2) then (some (.rt false)) else (some (.nx ()))
def F_spec_l4Good (c : TCircuit) : Option (Bool) :=
  (F_spec_l1In c.Qubits 1 5).bind fun r_1 =>
  bif ((!r_1) || (decide (400 < (c.Gates.length : Int)))) then (some (false)) else (chk (c.Gates.length ≤ 9223372036854775807) <|
  (forX (F_spec_l4Good_l1 c) c.Gates.length 0 ()).bind <| orR fun _ =>
  some (true))

def F_spec_l2C_matrix (c : Tl2C) (m : TMatrix) : Option (TMatrix × Bool) :=
  bif c.bad then (some (((TMatrix.mk 0 0 []), false))) else (some ((m, true)))

def F_spec_l1All_l1 (l : List Int) (lo : Int) (hi : Int) : Nat → Unit → Option (Ex (Unit) (Bool)) := fun i _ =>
  (getI l (i : Int)).bind fun x =>
  (F_spec_l1In x lo hi).bind fun r_1 =>
  bif (!r_1) then (some (.rt false)) else (some (.nx ()))
def F_spec_l1All (l : List Int) (lo : Int) (hi : Int) : Option (Bool) :=
  chk (l.length ≤ 9223372036854775807) <|
  (forX (F_spec_l1All_l1 l lo hi) l.length 0 ()).bind <| orR fun _ =>
  some (true)

def F_spec_l1Good (x : TRing) : Option (Bool) :=
  (F_spec_l1All [x.A, x.B, x.C, x.D] (-1000000000) 1000000000).bind fun r_1 =>
  some (r_1)

def F_spec_l2C_ring (c : Tl2C) (x : TRing) : Option (TRing × Tl2C) :=
  (F_spec_l1Good x).bind fun r_1 =>
  bif (!r_1) then (some (((TRing.mk 0 0 0 0), (Tl2C.mk true)))) else (some ((x, c)))

def F_spec_l1Root (x : TRing) : Option (TRing) :=
  some ((TRing.mk (IntKind.i64.wrap (x.B - x.D)) (IntKind.i64.wrap (x.A + x.C)) (IntKind.i64.wrap (x.B + x.D)) (IntKind.i64.wrap (x.C - x.A))))

def F_spec_l1Even (x : TRing) : Option (Bool) :=
  some ((((Int.tmod (IntKind.i64.wrap (x.A + x.C)) 2) == 0) && ((Int.tmod (IntKind.i64.wrap (x.B + x.D)) 2) == 0)))

def F_spec_l1Half (x : TRing) : Option (TRing) :=
  (F_spec_l1Root x).bind fun r_1 =>
  some ((TRing.mk (IntKind.i64.wrap (Int.tdiv r_1.A 2)) (IntKind.i64.wrap (Int.tdiv r_1.B 2)) (IntKind.i64.wrap (Int.tdiv r_1.C 2)) (IntKind.i64.wrap (Int.tdiv r_1.D 2))))

def F_spec_l2Low_l1 : (Int × Int × Int × Int × Int) → Option (Ex (Int × Int × Int × Int × Int) (TDyadic)) := fun (exp1, A, B, C, D) =>
  (gb (decide (0 < exp1)) false (F_spec_l1Even (TRing.mk A B C D))).bind fun r_1 =>
  bif ((decide (0 < exp1)) && r_1) then ((F_spec_l1Half (TRing.mk A B C D)).bind fun r_2 =>
  some (.nx ((IntKind.i64.wrap (exp1 - 1)), r_2.A, r_2.B, r_2.C, r_2.D))) else (some (.br (exp1, A, B, C, D)))
def F_spec_l2Low (num : TRing) (exp : Int) : Option (TDyadic) :=
  (whX F_spec_l2Low_l1 fuel (exp, num.A, num.B, num.C, num.D)).bind <| orR fun (exp1, A, B, C, D) =>
  some ((TDyadic.mk (TRing.mk A B C D) exp1))

def F_spec_l1Add (x : TRing) (y : TRing) : Option (TRing) :=
  some ((TRing.mk (IntKind.i64.wrap (x.A + y.A)) (IntKind.i64.wrap (x.B + y.B)) (IntKind.i64.wrap (x.C + y.C)) (IntKind.i64.wrap (x.D + y.D))))

def F_spec_l2C_add_l2 (Exp : Int) (bad : Bool) (A : Int) (C : Int) (D : Int) : (Bool × Int × Int × Int × Int × Int) → Option (Ex (Bool × Int × Int × Int × Int × Int) (TDyadic × Tl2C)) := fun (bad1, A1, B2, C1, D1, Exp1) =>
  bif (decide (Exp1 < Exp)) then ((F_spec_l1Root (TRing.mk A1 B2 C1 D1)).bind fun r_3 =>
  (F_spec_l2C_ring (Tl2C.mk bad1) r_3).bind fun (r_4, m2) =>
  some (.nx (m2.bad, r_4.A, r_4.B, r_4.C, r_4.D, (IntKind.i64.wrap (Exp1 + 1))))) else (some (.br (bad1, A1, B2, C1, D1, Exp1)))
def F_spec_l2C_add_l1 (y : TDyadic) : (Bool × Int × Int × Int × Int × Int) → Option (Ex (Bool × Int × Int × Int × Int × Int) (TDyadic × Tl2C)) := fun (bad, A, B1, C, D, Exp) =>
  bif (decide (Exp < y.Exp)) then ((F_spec_l1Root (TRing.mk A B1 C D)).bind fun r_1 =>
  (F_spec_l2C_ring (Tl2C.mk bad) r_1).bind fun (r_2, m1) =>
  some (.nx (m1.bad, r_2.A, r_2.B, r_2.C, r_2.D, (IntKind.i64.wrap (Exp + 1))))) else (some (.br (bad, A, B1, C, D, Exp)))
def F_spec_l2C_add (c : Tl2C) (x : TDyadic) (y : TDyadic) : Option (TDyadic × Tl2C) :=
  (whX (F_spec_l2C_add_l1 y) fuel (c.bad, x.Num.A, x.Num.B, x.Num.C, x.Num.D, x.Exp)).bind <| orR fun (bad, A, B1, C, D, Exp) =>
  (whX (F_spec_l2C_add_l2 Exp bad A C D) fuel (bad, y.Num.A, y.Num.B, y.Num.C, y.Num.D, y.Exp)).bind <| orR fun (bad1, A1, B2, C1, D1, Exp1) =>
  (F_spec_l1Add (TRing.mk A B1 C D) (TRing.mk A1 B2 C1 D1)).bind fun r_5 =>
  (F_spec_l2C_ring (Tl2C.mk bad1) r_5).bind fun (r_6, m3) =>
  (F_spec_l2Low r_6 Exp).bind fun r_7 =>
  some ((r_7, m3))

def F_spec_l1Mul (x : TRing) (y : TRing) : Option (TRing) :=
  some ((TRing.mk (IntKind.i64.wrap ((IntKind.i64.wrap ((IntKind.i64.wrap ((IntKind.i64.wrap (x.A * y.A)) - (IntKind.i64.wrap (x.B * y.D)))) - (IntKind.i64.wrap (x.C * y.C)))) - (IntKind.i64.wrap (x.D * y.B)))) (IntKind.i64.wrap ((IntKind.i64.wrap ((IntKind.i64.wrap ((IntKind.i64.wrap (x.A * y.B)) + (IntKind.i64.wrap (x.B * y.A)))) - (IntKind.i64.wrap (x.C * y.D)))) - (IntKind.i64.wrap (x.D * y.C)))) (IntKind.i64.wrap ((IntKind.i64.wrap ((IntKind.i64.wrap ((IntKind.i64.wrap (x.A * y.C)) + (IntKind.i64.wrap (x.B * y.B)))) + (IntKind.i64.wrap (x.C * y.A)))) - (IntKind.i64.wrap (x.D * y.D)))) (IntKind.i64.wrap ((IntKind.i64.wrap ((IntKind.i64.wrap ((IntKind.i64.wrap (x.A * y.D)) + (IntKind.i64.wrap (x.B * y.C)))) + (IntKind.i64.wrap (x.C * y.B)))) + (IntKind.i64.wrap (x.D * y.A))))))

def F_spec_l2C_mul (c : Tl2C) (x : TDyadic) (y : TDyadic) : Option (TDyadic × Tl2C) :=
  bif (decide (60 < (IntKind.i64.wrap (x.Exp + y.Exp)))) then (some (((TDyadic.mk (TRing.mk 0 0 0 0) 0), (Tl2C.mk true)))) else ((F_spec_l1Mul x.Num y.Num).bind fun r_1 =>
  (F_spec_l2C_ring c r_1).bind fun (r_2, m1) =>
  (F_spec_l2Low r_2 (IntKind.i64.wrap (x.Exp + y.Exp))).bind fun r_3 =>
  some ((r_3, m1)))

def F_spec_l2C_times_l3 (a : TMatrix) (Cells : List TDyadic) (i1 : Nat) (b : TMatrix) (j : Nat) (bad : Bool) : (Bool × Int × Int × Int × Int × Int × Int) → Option (Ex (Bool × Int × Int × Int × Int × Int × Int) (Bool × List TDyadic)) := fun (bad2, A, B6, C, D, Exp, K19) =>
  bif ((decide (K19 < a.Cols)) && (!bad2)) then ((getI a.Cells (IntKind.i64.wrap ((IntKind.i64.wrap ((i1 : Int) * a.Cols)) + K19))).bind fun x =>
  (getI b.Cells (IntKind.i64.wrap ((IntKind.i64.wrap (K19 * b.Cols)) + (j : Int)))).bind fun x1 =>
  (F_spec_l2C_mul (Tl2C.mk bad2) x x1).bind fun (r_1, m1) =>
  (F_spec_l2C_add m1 (TDyadic.mk (TRing.mk A B6 C D) Exp) r_1).bind fun (r_2, m2) =>
  some (.nx (m2.bad, r_2.Num.A, r_2.Num.B, r_2.Num.C, r_2.Num.D, r_2.Exp, (IntKind.i64.wrap (K19 + 1))))) else (some (.br (bad2, A, B6, C, D, Exp, K19)))
def F_spec_l2C_times_l2 (a : TMatrix) (Cells : List TDyadic) (i1 : Nat) (b : TMatrix) (bad : Bool) : Nat → (Bool × List TDyadic) → Option (Bool × List TDyadic) := fun j (bad1, Cells1) =>
  (whX (F_spec_l2C_times_l3 a Cells i1 b j bad) fuel (bad1, 0, 0, 0, 0, 0, 0)).bind <| orR fun (bad2, A, B6, C, D, Exp, K19) =>
  chk (Cells1.length + 1 ≤ 1099511627776) <|
  some (bad2, (Cells1 ++ [(TDyadic.mk (TRing.mk A B6 C D) Exp)]))
def F_spec_l2C_times_l1 (b : TMatrix) (a : TMatrix) : Nat → (Bool × List TDyadic) → Option (Bool × List TDyadic) := fun i1 (bad, Cells) =>
  chk (b.Cols.toNat ≤ 9223372036854775807) <|
  (forN (F_spec_l2C_times_l2 a Cells i1 b bad) b.Cols.toNat 0 (bad, Cells)).bind fun (bad1, Cells1) =>
  some (bad1, Cells1)
def F_spec_l2C_times (c : Tl2C) (a : TMatrix) (b : TMatrix) : Option (TMatrix × Tl2C) :=
  chk (a.Rows.toNat ≤ 9223372036854775807) <|
  (forN (F_spec_l2C_times_l1 b a) a.Rows.toNat 0 (c.bad, [])).bind fun (bad, Cells) =>
  some (((TMatrix.mk a.Rows b.Cols Cells), (Tl2C.mk bad)))

def F_spec_l6Bit (n : Int) (k_ : Int) (q : Int) : Option (Int) :=
  chk ((0 : Int) ≤ (IntKind.u64.wrap (IntKind.i64.wrap ((IntKind.i64.wrap (n - 1)) - q)))) <|
  some ((bits .and .i64 (shrK .i64 k_ (IntKind.u64.wrap (IntKind.i64.wrap ((IntKind.i64.wrap (n - 1)) - q)))) 1))

def F_spec_l1Neg (x : TRing) : Option (TRing) :=
  some ((TRing.mk (IntKind.i64.wrap (-x.A)) (IntKind.i64.wrap (-x.B)) (IntKind.i64.wrap (-x.C)) (IntKind.i64.wrap (-x.D))))

def F_spec_l2Neg (x : TDyadic) : Option (TDyadic) :=
  (F_spec_l1Neg x.Num).bind fun r_1 =>
  some ((TDyadic.mk r_1 x.Exp))

def F_spec_l6One (kind : Int) : Option (List TDyadic) :=
  (F_spec_l2Power 0).bind fun r_1 =>
  bif (kind == 1) then ((F_spec_l2Neg (TDyadic.mk (TRing.mk 1 0 0 0) 1)).bind fun r_2 =>
  some ([(TDyadic.mk (TRing.mk 1 0 0 0) 1), (TDyadic.mk (TRing.mk 1 0 0 0) 1), (TDyadic.mk (TRing.mk 1 0 0 0) 1), r_2])) else (bif (kind == 2) then (some ([(TDyadic.mk (TRing.mk 0 0 0 0) 0), r_1, r_1, (TDyadic.mk (TRing.mk 0 0 0 0) 0)])) else (bif (kind == 3) then ((F_spec_l2Power 6).bind fun r_3 =>
  (F_spec_l2Power 2).bind fun r_4 =>
  some ([(TDyadic.mk (TRing.mk 0 0 0 0) 0), r_3, r_4, (TDyadic.mk (TRing.mk 0 0 0 0) 0)])) else ((getI [4, 2, 6, 1, 7] (IntKind.i64.wrap (kind - 4))).bind fun x =>
  (F_spec_l2Power x).bind fun r_5 =>
  some ([r_1, (TDyadic.mk (TRing.mk 0 0 0 0) 0), (TDyadic.mk (TRing.mk 0 0 0 0) 0), r_5]))))

def F_spec_l6Cell (n : Int) (g : TGate) (row : Int) (col : Int) : Option (TDyadic) :=
  (F_spec_l2Power 0).bind fun r_1 =>
  ((bif (g.Kind == 12) then ((F_spec_l2Power 1).bind fun r_2 =>
  some (.inl (r_2.Num.A, r_2.Num.B, r_2.Num.C, r_2.Num.D, r_2.Exp, col))) else (bif (g.Kind == 9) then ((F_spec_l6Bit n col g.A).bind fun r_3 =>
  bif (r_3 == 1) then (chk ((0 : Int) ≤ (IntKind.u64.wrap (IntKind.i64.wrap ((IntKind.i64.wrap (n - 1)) - g.B)))) <|
  some (.inl (r_1.Num.A, r_1.Num.B, r_1.Num.C, r_1.Num.D, r_1.Exp, (bits .xor .i64 col (shlK .i64 1 (IntKind.u64.wrap (IntKind.i64.wrap ((IntKind.i64.wrap (n - 1)) - g.B)))))))) else (some (.inl (r_1.Num.A, r_1.Num.B, r_1.Num.C, r_1.Num.D, r_1.Exp, col)))) else (bif (g.Kind == 10) then ((F_spec_l6Bit n col g.A).bind fun r_4 =>
  (gb (r_4 == 1) 0 (F_spec_l6Bit n col g.B)).bind fun r_5 =>
  bif ((r_4 == 1) && (r_5 == 1)) then ((F_spec_l2Power 4).bind fun r_6 =>
  some (.inl (r_6.Num.A, r_6.Num.B, r_6.Num.C, r_6.Num.D, r_6.Exp, col))) else (some (.inl (r_1.Num.A, r_1.Num.B, r_1.Num.C, r_1.Num.D, r_1.Exp, col)))) else (bif (g.Kind == 11) then ((F_spec_l6Bit n col g.A).bind fun r_7 =>
  (F_spec_l6Bit n col g.B).bind fun r_8 =>
  bif (r_7 != r_8) then (chk ((0 : Int) ≤ (IntKind.u64.wrap (IntKind.i64.wrap ((IntKind.i64.wrap (n - 1)) - g.A)))) <|
  chk ((0 : Int) ≤ (IntKind.u64.wrap (IntKind.i64.wrap ((IntKind.i64.wrap (n - 1)) - g.B)))) <|
  some (.inl (r_1.Num.A, r_1.Num.B, r_1.Num.C, r_1.Num.D, r_1.Exp, (bits .xor .i64 (bits .xor .i64 col (shlK .i64 1 (IntKind.u64.wrap (IntKind.i64.wrap ((IntKind.i64.wrap (n - 1)) - g.A))))) (shlK .i64 1 (IntKind.u64.wrap (IntKind.i64.wrap ((IntKind.i64.wrap (n - 1)) - g.B)))))))) else (some (.inl (r_1.Num.A, r_1.Num.B, r_1.Num.C, r_1.Num.D, r_1.Exp, col)))) else (chk ((0 : Int) ≤ (IntKind.u64.wrap (IntKind.i64.wrap ((IntKind.i64.wrap (n - 1)) - g.A)))) <|
  bif ((bits .andNot .i64 (bits .xor .i64 row col) (shlK .i64 1 (IntKind.u64.wrap (IntKind.i64.wrap ((IntKind.i64.wrap (n - 1)) - g.A))))) != 0) then (some (.inr (TDyadic.mk (TRing.mk 0 0 0 0) 0))) else ((F_spec_l6One g.Kind).bind fun r_9 =>
  (F_spec_l6Bit n row g.A).bind fun r_10 =>
  (F_spec_l6Bit n col g.A).bind fun r_11 =>
  (getI r_9 (IntKind.i64.wrap ((IntKind.i64.wrap (2 * r_10)) + r_11))).bind fun x =>
  some (.inr x))))))) : Option ((Int × Int × Int × Int × Int × Int) ⊕ (TDyadic))).bind <| orR fun (A, B, C, D, Exp, to_) =>
  bif (row == to_) then (some ((TDyadic.mk (TRing.mk A B C D) Exp))) else (some ((TDyadic.mk (TRing.mk 0 0 0 0) 0)))

def F_spec_l6Gate_l2 (n : Int) (g : TGate) (i1 : Nat) : Nat → (List TDyadic) → Option (List TDyadic) := fun j Cells1 =>
  (F_spec_l6Cell n g (i1 : Int) (j : Int)).bind fun r_1 =>
  chk (Cells1.length + 1 ≤ 1099511627776) <|
  some (Cells1 ++ [r_1])
def F_spec_l6Gate_l1 (n : Int) (g : TGate) : Nat → (List TDyadic) → Option (List TDyadic) := fun i1 Cells =>
  chk (((shlK .i64 1 (IntKind.u64.wrap n)).toNat) ≤ 9223372036854775807) <|
  (forN (F_spec_l6Gate_l2 n g i1) ((shlK .i64 1 (IntKind.u64.wrap n)).toNat) 0 Cells).bind fun Cells1 =>
  some Cells1
def F_spec_l6Gate (n : Int) (g : TGate) : Option (TMatrix) :=
  chk ((0 : Int) ≤ (IntKind.u64.wrap n)) <|
  chk (((shlK .i64 1 (IntKind.u64.wrap n)).toNat) ≤ 9223372036854775807) <|
  (forN (F_spec_l6Gate_l1 n g) ((shlK .i64 1 (IntKind.u64.wrap n)).toNat) 0 []).bind fun Cells =>
  some ((TMatrix.mk (shlK .i64 1 (IntKind.u64.wrap n)) (shlK .i64 1 (IntKind.u64.wrap n)) Cells))

def F_spec_l2C_run_l1 (x : TCircuit) : Nat → (Bool × Int × Int × List TDyadic) → Option (Bool × Int × Int × List TDyadic) := fun i (bad, Rows, Cols, Cells) =>
  (((getI x.Gates (i : Int)).bind fun x1 =>
  bif (!bad) then ((F_spec_l6Gate x.Qubits x1).bind fun r_1 =>
  (F_spec_l2C_times (Tl2C.mk bad) r_1 (TMatrix.mk Rows Cols Cells)).bind fun (r_2, m2) =>
  some (m2.bad, r_2.Rows, r_2.Cols, r_2.Cells)) else (some (bad, Rows, Cols, Cells))) : Option (Bool × Int × Int × List TDyadic)).bind fun (bad1, Rows1, Cols1, Cells1) =>
  some (bad1, Rows1, Cols1, Cells1)
def F_spec_l2C_run (c : Tl2C) (x : TCircuit) (m : TMatrix) : Option (TMatrix × Tl2C) :=
  chk (x.Gates.length ≤ 9223372036854775807) <|
  (forN (F_spec_l2C_run_l1 x) x.Gates.length 0 (c.bad, m.Rows, m.Cols, m.Cells)).bind fun (bad, Rows, Cols, Cells) =>
  some (((TMatrix.mk Rows Cols Cells), (Tl2C.mk bad)))

def F_spec_OperatorOf (c : TCircuit) : Option (TMatrix × Bool) :=
  (F_spec_l4Good c).bind fun r_2 =>
  bif (!r_2) then (some (((TMatrix.mk 0 0 []), false))) else (chk ((0 : Int) ≤ (IntKind.u64.wrap c.Qubits)) <|
  (F_spec_l3Unit (shlK .i64 1 (IntKind.u64.wrap c.Qubits))).bind fun r_3 =>
  (F_spec_l2C_run (Tl2C.mk false) c r_3).bind fun (r_4, m) =>
  (F_spec_l2C_matrix m r_4).bind fun (r_5, r_6) =>
  some ((r_5, r_6)))

def F_spec_l1Has_l1 (l : List Int) (n1 : Int) : Nat → Unit → Option (Ex (Unit) (Bool)) := fun i _ =>
  (getI l (i : Int)).bind fun x =>
  bif (x == n1) then (some (.rt true)) else (some (.nx ()))
def F_spec_l1Has (l : List Int) (n1 : Int) : Option (Bool) :=
  chk (l.length ≤ 9223372036854775807) <|
  (forX (F_spec_l1Has_l1 l n1) l.length 0 ()).bind <| orR fun _ =>
  some (false)

def F_spec_l3Dim (n : Int) : Option (Bool) :=
  (F_spec_l1Has [1, 2, 4, 8, 16, 32] n).bind fun r_1 =>
  some (r_1)

def F_spec_l2Good (x : TDyadic) : Option (Bool) :=
  (F_spec_l1Good x.Num).bind fun r_1 =>
  (gb r_1 false (F_spec_l1In x.Exp 0 60)).bind fun r_2 =>
  (gb ((r_1 && r_2) && (!(x.Exp == 0))) false (F_spec_l1Even x.Num)).bind fun r_3 =>
  some (((r_1 && r_2) && ((x.Exp == 0) || (!r_3))))

def F_spec_l3Good_l1 (m : TMatrix) : Nat → Unit → Option (Ex (Unit) (Bool)) := fun i _ =>
  (getI m.Cells (i : Int)).bind fun x =>
  (F_spec_l2Good x).bind fun r_3 =>
  bif (!r_3) then (some (.rt false)) else (some (.nx ()))
def F_spec_l3Good (m : TMatrix) : Option (Bool) :=
  (F_spec_l3Dim m.Rows).bind fun r_1 =>
  (gb (!(!r_1)) false (F_spec_l3Dim m.Cols)).bind fun r_2 =>
  bif (((!r_1) || (!r_2)) || ((m.Cells.length : Int) != (IntKind.i64.wrap (m.Rows * m.Cols)))) then (some (false)) else (chk (m.Cells.length ≤ 9223372036854775807) <|
  (forX (F_spec_l3Good_l1 m) m.Cells.length 0 ()).bind <| orR fun _ =>
  some (true))

def F_spec_l28Gates (n : Int) : Option (List TGate) :=
  bif (n == 1) then (some ([(TGate.mk 1 0 0), (TGate.mk 5 0 0), (TGate.mk 7 0 0)])) else (some ([(TGate.mk 1 0 0), (TGate.mk 1 1 0), (TGate.mk 5 0 0), (TGate.mk 5 1 0), (TGate.mk 7 0 0), (TGate.mk 7 1 0), (TGate.mk 9 0 1), (TGate.mk 9 1 0)]))

def F_spec_l6Turned_l1 (b : TMatrix) (k_ : Int) (a : TMatrix) : Nat → Unit → Option (Ex (Unit) (Bool)) := fun i _ =>
  (getI b.Cells (i : Int)).bind fun x =>
  (F_spec_l1Turn x.Num k_).bind fun r_1 =>
  (getI a.Cells (i : Int)).bind fun x1 =>
  bif (!(((x1.Num.A == r_1.A) && ((x1.Num.B == r_1.B) && ((x1.Num.C == r_1.C) && ((x1.Num.D == r_1.D) && true)))) && ((x1.Exp == x.Exp) && true))) then (some (.rt false)) else (some (.nx ()))
def F_spec_l6Turned (a : TMatrix) (b : TMatrix) (k_ : Int) : Option (Bool) :=
  bif ((a.Rows != b.Rows) || (a.Cols != b.Cols)) then (some (false)) else (chk (b.Cells.length ≤ 9223372036854775807) <|
  (forX (F_spec_l6Turned_l1 b k_ a) b.Cells.length 0 ()).bind <| orR fun _ =>
  some (true))

def F_spec_l6Phase_l1 (a : TMatrix) (b : TMatrix) : Nat → Unit → Option (Ex (Unit) (Int × Bool)) := fun k_ _ =>
  (F_spec_l6Turned a b (k_ : Int)).bind fun r_2 =>
  bif r_2 then (some (.rt ((k_ : Int), true))) else (some (.nx ()))
def F_spec_l6Phase (a : TMatrix) (b : TMatrix) : Option (Int × Bool) :=
  (forX (F_spec_l6Phase_l1 a b) 8 0 ()).bind <| orR fun _ =>
  some ((0, false))

def F_spec_l28Find_l1 (r_4 : List TGate) (n : Int) (x : TMatrix) (rec_ : Int → TMatrix → TMatrix → Int → Option (List TGate × Bool)) (m : TMatrix) (length : Int) : Nat → Bool → Option (Ex (Bool) (List TGate × Bool)) := fun i bad =>
  (getI r_4 (i : Int)).bind fun x1 =>
  (F_spec_l6Gate n x1).bind fun r_5 =>
  (F_spec_l2C_times (Tl2C.mk bad) r_5 x).bind fun (r_6, m1) =>
  (rec_ n r_6 m (IntKind.i64.wrap (length - 1))).bind fun (r_7, r_8) =>
  bif r_8 then (chk (1 + r_7.length ≤ 1099511627776) <|
  some (.rt (([x1] ++ r_7), true))) else (some (.nx m1.bad))
def F_spec_l28FindB (rec_ : Int → TMatrix → TMatrix → Int → Option (List TGate × Bool)) (n : Int) (x : TMatrix) (m : TMatrix) (length : Int) : Option (List TGate × Bool) :=
  bif (length == 0) then ((F_spec_l6Phase x m).bind fun (r_2, r_3) =>
  some (([], r_3))) else ((F_spec_l28Gates n).bind fun r_4 =>
  chk (r_4.length ≤ 9223372036854775807) <|
  (forX (F_spec_l28Find_l1 r_4 n x rec_ m length) r_4.length 0 false).bind <| orR fun bad =>
  some (([], false)))
def F_spec_l28Find : Nat → Int → TMatrix → TMatrix → Int → Option (List TGate × Bool)
  | 0 => fun _ _ _ _ => none
  | fu + 1 => F_spec_l28FindB (F_spec_l28Find fu)

def F_spec_l28Shortest_l1 (most : Int) (m : TMatrix) (n1 : Int) : Int → Option (Ex (Int) (TCircuit × Bool)) := fun length =>
  bif (decide (length ≤ most)) then ((F_spec_l3Unit m.Rows).bind fun r_2 =>
  (F_spec_l28Find 1000 n1 r_2 m length).bind fun (r_3, r_4) =>
  bif r_4 then (some (.rt ((TCircuit.mk n1 r_3), true))) else (some (.nx (IntKind.i64.wrap (length + 1))))) else (some (.br length))
def F_spec_l28Shortest (m : TMatrix) : Option (TCircuit × Bool) :=
  ((bif (m.Rows == 4) then (some (2, 4)) else (some (1, 8))) : Option (Int × Int)).bind fun (n1, most) =>
  (whX (F_spec_l28Shortest_l1 most m n1) fuel 0).bind <| orR fun length =>
  some (((TCircuit.mk 0 []), false))

def F_spec_ShortestWord (m : TMatrix) : Option (TCircuit × Bool) :=
  (F_spec_l3Good m).bind fun r_2 =>
  bif (((!r_2) || (m.Rows != m.Cols)) || ((m.Rows != 2) && (m.Rows != 4))) then (some (((TCircuit.mk 0 []), false))) else ((F_spec_l28Shortest m).bind fun (r_3, r_4) =>
  some ((r_3, r_4)))

def F_spec_ShortestLength (c : TCircuit) : Option (Int × Bool) :=
  (F_spec_OperatorOf c).bind fun (r_2, r_3) =>
  bif (!r_3) then (some ((0, false))) else ((F_spec_ShortestWord r_2).bind fun (r_4, r_5) =>
  bif (!r_5) then (some ((0, false))) else (some (((r_4.Gates.length : Int), true))))

def F_spec_IsShortest (c : TCircuit) : Option (Bool × Bool) :=
  (F_spec_ShortestLength c).bind fun (r_2, r_3) =>
  bif (!r_3) then (some ((false, false))) else (some (((r_2 == (c.Gates.length : Int)), true)))

def F_laws_toGate (a : TGate) : Option (TGate) :=
  some (a)

def F_laws_toGateS_l1 (a : List TGate) : Nat → (List TGate) → Option (List TGate) := fun i1 out =>
  (getI a (i1 : Int)).bind fun x =>
  (F_laws_toGate x).bind fun r_1 =>
  (getI out (i1 : Int)).bind fun x1 =>
  some (out.set (i1 : Int).toNat r_1)
def F_laws_toGateS (a : List TGate) : Option (List TGate) :=
  chk ((0 : Int) ≤ (a.length : Int) ∧ (a.length : Int) ≤ 1099511627776) <|
  chk (a.length ≤ 9223372036854775807) <|
  (forN (F_laws_toGateS_l1 a) a.length 0 (List.replicate a.length (TGate.mk 0 0 0))).bind fun out =>
  some (out)

def F_laws_toCircuit (a : TCircuit) : Option (TCircuit) :=
  (F_laws_toGateS a.Gates).bind fun r_1 =>
  some ((TCircuit.mk a.Qubits r_1))

def F_impl_within (n : Int) (low : Int) (high : Int) : Option (Bool) :=
  some (((decide (low ≤ n)) && (decide (n ≤ high))))

def F_impl_isDim (n : Int) : Option (Bool) :=
  (F_impl_within n 1 32).bind fun r_1 =>
  some ((r_1 && ((bits .and .i64 n (IntKind.i64.wrap (n - 1))) == 0)))

def F_impl_matrixOf_l2 (cell : Int → Int → Option (TDyadic × Bool)) (i : Nat) : Nat → (List TDyadic) → Option (Ex (List TDyadic) (Ex (List TDyadic) (TMatrix × Bool))) := fun i1 Cells1 =>
  (cell (i : Int) (i1 : Int)).bind fun (r_4, r_5) =>
  bif (!r_5) then (some (.rt (.rt ((TMatrix.mk 0 0 []), false)))) else (chk (Cells1.length + 1 ≤ 1099511627776) <|
  some (.nx (Cells1 ++ [r_4])))
def F_impl_matrixOf_l1 (cols : Int) (cell : Int → Int → Option (TDyadic × Bool)) : Nat → (List TDyadic) → Option (Ex (List TDyadic) (TMatrix × Bool)) := fun i Cells =>
  chk (cols.toNat ≤ 9223372036854775807) <|
  (forX (F_impl_matrixOf_l2 cell i) cols.toNat 0 Cells).bind <| orR fun Cells1 =>
  some (.nx Cells1)
def F_impl_matrixOf (rows : Int) (cols : Int) (cell : Int → Int → Option (TDyadic × Bool)) : Option (TMatrix × Bool) :=
  (F_impl_isDim rows).bind fun r_2 =>
  (gb (!(!r_2)) false (F_impl_isDim cols)).bind fun r_3 =>
  bif ((!r_2) || (!r_3)) then (some (((TMatrix.mk 0 0 []), false))) else (chk (rows.toNat ≤ 9223372036854775807) <|
  (forX (F_impl_matrixOf_l1 cols cell) rows.toNat 0 []).bind <| orR fun Cells =>
  some (((TMatrix.mk rows cols Cells), true)))

def F_impl_whole (n : Int) : Option (TDyadic) :=
  some ((TDyadic.mk (TRing.mk n 0 0 0) 0))

def F_impl_IdentityMatrix_1 (i : Int) (j : Int) : Option (TDyadic × Bool) :=
  bif (i == j) then ((F_impl_whole 1).bind fun r_2 =>
  some ((r_2, true))) else (some (((TDyadic.mk (TRing.mk 0 0 0 0) 0), true)))

def F_impl_IdentityMatrix (n : Int) : Option (TMatrix × Bool) :=
  (F_impl_matrixOf n n F_impl_IdentityMatrix_1).bind fun (r_2, r_3) =>
  some ((r_2, r_3))

def F_slices_IndexFunc_impl_Gate_impl_Gate_l1 (s : List TGate) (f_ : TGate → Option (Bool)) : Nat → Unit → Option (Ex (Unit) (Int)) := fun i _ =>
  (getI s (i : Int)).bind fun x1 =>
  (f_ x1).bind fun r_1 =>
  bif r_1 then (some (.rt (i : Int))) else (some (.nx ()))
def F_slices_IndexFunc_impl_Gate_impl_Gate (s : List TGate) (f_ : TGate → Option (Bool)) : Option (Int) :=
  chk (s.length ≤ 9223372036854775807) <|
  (forX (F_slices_IndexFunc_impl_Gate_impl_Gate_l1 s f_) s.length 0 ()).bind <| orR fun _ =>
  some ((-1))

def F_slices_ContainsFunc_impl_Gate_impl_Gate (s : List TGate) (f_ : TGate → Option (Bool)) : Option (Bool) :=
  (F_slices_IndexFunc_impl_Gate_impl_Gate s f_).bind fun r_1 =>
  some ((decide (0 ≤ r_1)))

def F_impl_isTwo (kind : Int) : Option (Bool) :=
  (F_impl_within kind 9 11).bind fun r_1 =>
  some (r_1)

def F_impl_IsValidGate (n : Int) (g : TGate) : Option (Bool) :=
  (F_impl_within n 1 5).bind fun r_1 =>
  (gb (!(!r_1)) false (F_impl_within g.Kind 1 12)).bind fun r_2 =>
  bif ((!r_1) || (!r_2)) then (some (false)) else (bif (g.Kind == 12) then (some (((g.A == 0) && (g.B == 0)))) else ((F_impl_isTwo g.Kind).bind fun r_3 =>
  bif r_3 then ((F_impl_within g.A 0 (IntKind.i64.wrap (n - 1))).bind fun r_4 =>
  (gb r_4 false (F_impl_within g.B 0 (IntKind.i64.wrap (n - 1)))).bind fun r_5 =>
  some (((r_4 && r_5) && (g.A != g.B)))) else ((F_impl_within g.A 0 (IntKind.i64.wrap (n - 1))).bind fun r_6 =>
  some ((r_6 && (g.B == 0))))))

def F_impl_IsValidCircuit_1 (g : TGate) (p : TCircuit) : Option (Bool) :=
  (F_impl_IsValidGate p.Qubits g).bind fun r_1 =>
  some ((!r_1))

def F_impl_IsValidCircuit (c : TCircuit) : Option (Bool) :=
  (F_impl_within c.Qubits 1 5).bind fun r_1 =>
  (gb (r_1 && (decide ((c.Gates.length : Int) ≤ 400))) false (F_slices_ContainsFunc_impl_Gate_impl_Gate c.Gates (fun x_0 => F_impl_IsValidCircuit_1 x_0 c))).bind fun r_2 =>
  some (((r_1 && (decide ((c.Gates.length : Int) ≤ 400))) && (!r_2)))

def F_impl_isCoef (n : Int) : Option (Bool) :=
  (F_impl_within n (-1000000000) 1000000000).bind fun r_1 =>
  some (r_1)

def F_impl_IsValidRing (x : TRing) : Option (Bool) :=
  (F_impl_isCoef x.A).bind fun r_1 =>
  (gb r_1 false (F_impl_isCoef x.B)).bind fun r_2 =>
  (gb (r_1 && r_2) false (F_impl_isCoef x.C)).bind fun r_3 =>
  (gb ((r_1 && r_2) && r_3) false (F_impl_isCoef x.D)).bind fun r_4 =>
  some ((((r_1 && r_2) && r_3) && r_4))

def F_impl_MulOmega_l1 : Nat → (Int × Int × Int × Int) → Option (Int × Int × Int × Int) := fun i (A, B, C, D) =>
  some ((IntKind.i64.wrap (-D)), A, B, C)
def F_impl_MulOmega (x : TRing) (k_ : Int) : Option (TRing × Bool) :=
  (F_impl_within k_ (-1000) 1000).bind fun r_2 =>
  (gb (!(!r_2)) false (F_impl_IsValidRing x)).bind fun r_3 =>
  bif ((!r_2) || (!r_3)) then (some (((TRing.mk 0 0 0 0), false))) else (chk (((Int.tmod (IntKind.i64.wrap ((Int.tmod k_ 8) + 8)) 8).toNat) ≤ 9223372036854775807) <|
  (forN F_impl_MulOmega_l1 ((Int.tmod (IntKind.i64.wrap ((Int.tmod k_ 8) + 8)) 8).toNat) 0 (x.A, x.B, x.C, x.D)).bind fun (A, B, C, D) =>
  some (((TRing.mk A B C D), true)))

def F_impl_phase (k_ : Int) : Option (TDyadic) :=
  (F_impl_MulOmega (TRing.mk 1 0 0 0) k_).bind fun (r_1, r_2) =>
  some ((TDyadic.mk r_1 0))

def F_impl_bitOf (n : Int) (state : Int) (q : Int) : Option (Int) :=
  chk ((0 : Int) ≤ (IntKind.i64.wrap ((IntKind.i64.wrap (n - 1)) - q))) <|
  some ((bits .and .i64 (shrK .i64 state (IntKind.i64.wrap ((IntKind.i64.wrap (n - 1)) - q))) 1))

def F_impl_flipped (n : Int) (state : Int) (q : Int) : Option (Int) :=
  chk ((0 : Int) ≤ (IntKind.i64.wrap ((IntKind.i64.wrap (n - 1)) - q))) <|
  some ((bits .xor .i64 state (shlK .i64 1 (IntKind.i64.wrap ((IntKind.i64.wrap (n - 1)) - q)))))

def F_impl_comesFrom (n : Int) (g : TGate) (state : Int) : Option (Int) :=
  (F_impl_bitOf n state g.A).bind fun r_1 =>
  (F_impl_bitOf n state g.B).bind fun r_2 =>
  bif ((g.Kind == 9) && (r_1 == 1)) then ((F_impl_flipped n state g.B).bind fun r_3 =>
  some (r_3)) else (bif ((g.Kind == 11) && (r_1 != r_2)) then ((F_impl_flipped n state g.A).bind fun r_4 =>
  (F_impl_flipped n r_4 g.B).bind fun r_5 =>
  some (r_5)) else (some (state)))

def F_impl_small (holds : Bool) : Option (Int) :=
  bif holds then (some (1)) else (some (0))

def F_impl_entry (kind : Int) (i : Int) (j : Int) : Option (TDyadic) :=
  bif (kind == 1) then (((bif ((i == 1) && (j == 1)) then (some (-1)) else (some 1)) : Option (Int)).bind fun A =>
  some ((TDyadic.mk (TRing.mk A 0 0 0) 1))) else (bif ((kind == 2) && (i != j)) then ((F_impl_whole 1).bind fun r_1 =>
  some (r_1)) else (bif ((kind == 3) && (i != j)) then ((F_impl_phase (IntKind.i64.wrap (2 + (IntKind.i64.wrap (4 * j))))).bind fun r_2 =>
  some (r_2)) else (bif (((kind == 2) || (kind == 3)) || (i != j)) then (some ((TDyadic.mk (TRing.mk 0 0 0 0) 0))) else (bif (i == 0) then ((F_impl_whole 1).bind fun r_3 =>
  some (r_3)) else ((F_impl_phase (mgt (mput (mput (mput (mput (mput ([] : List (Int × Int)) 4 4) 5 2) 6 6) 7 1) 8 7) kind 0)).bind fun r_4 =>
  some (r_4))))))

def F_impl_GateMatrix_1 (i : Int) (j : Int) (p : TGate) (p1 : Int) : Option (TDyadic × Bool) :=
  ((bif (p.Kind == 12) then (bif (i == j) then ((F_impl_phase 1).bind fun r_2 =>
  some (.inr (r_2, true))) else (some (.inl ()))) else ((F_impl_isTwo p.Kind).bind fun r_3 =>
  bif r_3 then ((F_impl_comesFrom p1 p i).bind fun r_4 =>
  bif (r_4 == j) then ((gb (p.Kind == 10) 0 (F_impl_bitOf p1 i p.A)).bind fun r_5 =>
  (gb ((p.Kind == 10) && (r_5 == 1)) 0 (F_impl_bitOf p1 i p.B)).bind fun r_6 =>
  (F_impl_small (((p.Kind == 10) && (r_5 == 1)) && (r_6 == 1))).bind fun r_7 =>
  (F_impl_phase (IntKind.i64.wrap (4 * r_7))).bind fun r_8 =>
  some (.inr (r_8, true))) else (some (.inl ()))) else ((gb (!(i == j)) 0 (F_impl_flipped p1 i p.A)).bind fun r_9 =>
  bif ((i == j) || (r_9 == j)) then ((F_impl_bitOf p1 i p.A).bind fun r_10 =>
  (F_impl_bitOf p1 j p.A).bind fun r_11 =>
  (F_impl_entry p.Kind r_10 r_11).bind fun r_12 =>
  some (.inr (r_12, true))) else (some (.inl ()))))) : Option ((Unit) ⊕ (TDyadic × Bool))).bind <| orR fun _ =>
  some (((TDyadic.mk (TRing.mk 0 0 0 0) 0), true))

def F_impl_GateMatrix (n : Int) (g : TGate) : Option (TMatrix × Bool) :=
  (F_impl_IsValidGate n g).bind fun r_2 =>
  bif (!r_2) then (some (((TMatrix.mk 0 0 []), false))) else (chk ((0 : Int) ≤ n) <|
  chk ((0 : Int) ≤ n) <|
  (F_impl_matrixOf (shlK .i64 1 n) (shlK .i64 1 n) (fun x_0 x_1 => F_impl_GateMatrix_1 x_0 x_1 g n)).bind fun (r_3, r_4) =>
  some ((r_3, r_4)))

def F_slices_IndexFunc_impl_Dyadic_impl_Dyadic_l1 (s : List TDyadic) (f_ : TDyadic → Option (Bool)) : Nat → Unit → Option (Ex (Unit) (Int)) := fun i _ =>
  (getI s (i : Int)).bind fun x1 =>
  (f_ x1).bind fun r_1 =>
  bif r_1 then (some (.rt (i : Int))) else (some (.nx ()))
def F_slices_IndexFunc_impl_Dyadic_impl_Dyadic (s : List TDyadic) (f_ : TDyadic → Option (Bool)) : Option (Int) :=
  chk (s.length ≤ 9223372036854775807) <|
  (forX (F_slices_IndexFunc_impl_Dyadic_impl_Dyadic_l1 s f_) s.length 0 ()).bind <| orR fun _ =>
  some ((-1))

def F_slices_ContainsFunc_impl_Dyadic_impl_Dyadic (s : List TDyadic) (f_ : TDyadic → Option (Bool)) : Option (Bool) :=
  (F_slices_IndexFunc_impl_Dyadic_impl_Dyadic s f_).bind fun r_1 =>
  some ((decide (0 ≤ r_1)))

def F_impl_isEven (x : TRing) : Option (Bool) :=
  some ((((Int.tmod (IntKind.i64.wrap (x.A + x.C)) 2) == 0) && ((Int.tmod (IntKind.i64.wrap (x.B + x.D)) 2) == 0)))

def F_impl_IsValidDyadic (x : TDyadic) : Option (Bool) :=
  (F_impl_IsValidRing x.Num).bind fun r_1 =>
  (gb r_1 false (F_impl_within x.Exp 0 60)).bind fun r_2 =>
  (gb ((r_1 && r_2) && (!(x.Exp == 0))) false (F_impl_isEven x.Num)).bind fun r_3 =>
  some (((r_1 && r_2) && ((x.Exp == 0) || (!r_3))))

def F_impl_IsValidMatrix_1 (x : TDyadic) : Option (Bool) :=
  (F_impl_IsValidDyadic x).bind fun r_1 =>
  some ((!r_1))

def F_impl_IsValidMatrix (m : TMatrix) : Option (Bool) :=
  (F_impl_isDim m.Rows).bind fun r_1 =>
  (gb r_1 false (F_impl_isDim m.Cols)).bind fun r_2 =>
  (gb ((r_1 && r_2) && ((m.Cells.length : Int) == (IntKind.i64.wrap (m.Rows * m.Cols)))) false (F_slices_ContainsFunc_impl_Dyadic_impl_Dyadic m.Cells F_impl_IsValidMatrix_1)).bind fun r_3 =>
  some ((((r_1 && r_2) && ((m.Cells.length : Int) == (IntKind.i64.wrap (m.Rows * m.Cols)))) && (!r_3)))

def F_impl_ringIf_l1 (args : List TRing) (out : TRing) : Nat → Unit → Option (Ex (Unit) (TRing × Bool)) := fun i _ =>
  (getI (args ++ [out]) (i : Int)).bind fun x =>
  (F_impl_IsValidRing x).bind fun r_2 =>
  bif (!r_2) then (some (.rt ((TRing.mk 0 0 0 0), false))) else (some (.nx ()))
def F_impl_ringIf (out : TRing) (args : List TRing) : Option (TRing × Bool) :=
  chk (args.length + 1 ≤ 1099511627776) <|
  chk (((args ++ [out]).length) ≤ 9223372036854775807) <|
  (forX (F_impl_ringIf_l1 args out) ((args ++ [out]).length) 0 ()).bind <| orR fun _ =>
  some ((out, true))

def F_impl_MulRing (x : TRing) (y : TRing) : Option (TRing × Bool) :=
  (F_impl_ringIf (TRing.mk (IntKind.i64.wrap ((IntKind.i64.wrap ((IntKind.i64.wrap ((IntKind.i64.wrap (x.A * y.A)) - (IntKind.i64.wrap (x.B * y.D)))) - (IntKind.i64.wrap (x.C * y.C)))) - (IntKind.i64.wrap (x.D * y.B)))) (IntKind.i64.wrap ((IntKind.i64.wrap ((IntKind.i64.wrap ((IntKind.i64.wrap (x.A * y.B)) + (IntKind.i64.wrap (x.B * y.A)))) - (IntKind.i64.wrap (x.C * y.D)))) - (IntKind.i64.wrap (x.D * y.C)))) (IntKind.i64.wrap ((IntKind.i64.wrap ((IntKind.i64.wrap ((IntKind.i64.wrap (x.A * y.C)) + (IntKind.i64.wrap (x.B * y.B)))) + (IntKind.i64.wrap (x.C * y.A)))) - (IntKind.i64.wrap (x.D * y.D)))) (IntKind.i64.wrap ((IntKind.i64.wrap ((IntKind.i64.wrap ((IntKind.i64.wrap (x.A * y.D)) + (IntKind.i64.wrap (x.B * y.C)))) + (IntKind.i64.wrap (x.C * y.B)))) + (IntKind.i64.wrap (x.D * y.A))))) [x, y]).bind fun (r_2, r_3) =>
  some ((r_2, r_3))

def F_impl_DivRootTwo (x : TRing) : Option (TRing × Bool) :=
  (F_impl_IsValidRing x).bind fun r_2 =>
  (gb (!(!r_2)) false (F_impl_isEven x)).bind fun r_3 =>
  bif ((!r_2) || (!r_3)) then (some (((TRing.mk 0 0 0 0), false))) else ((F_impl_ringIf (TRing.mk (IntKind.i64.wrap (Int.tdiv (IntKind.i64.wrap (x.B - x.D)) 2)) (IntKind.i64.wrap (Int.tdiv (IntKind.i64.wrap (x.A + x.C)) 2)) (IntKind.i64.wrap (Int.tdiv (IntKind.i64.wrap (x.B + x.D)) 2)) (IntKind.i64.wrap (Int.tdiv (IntKind.i64.wrap (x.C - x.A)) 2))) [x]).bind fun (r_4, r_5) =>
  some ((r_4, r_5)))

def F_impl_DyadicOf_l1 : (Int × Int × Int × Int × Int) → Option (Ex (Int × Int × Int × Int × Int) (TDyadic × Bool)) := fun (exp1, A, B, C, D) =>
  (gb (decide (0 < exp1)) false (F_impl_isEven (TRing.mk A B C D))).bind fun r_4 =>
  bif ((decide (0 < exp1)) && r_4) then ((F_impl_DivRootTwo (TRing.mk A B C D)).bind fun (r_5, r_6) =>
  some (.nx ((IntKind.i64.wrap (exp1 - 1)), r_5.A, r_5.B, r_5.C, r_5.D))) else (some (.br (exp1, A, B, C, D)))
def F_impl_DyadicOf (num : TRing) (exp : Int) : Option (TDyadic × Bool) :=
  (F_impl_IsValidRing num).bind fun r_2 =>
  (gb (!(!r_2)) false (F_impl_within exp 0 60)).bind fun r_3 =>
  bif ((!r_2) || (!r_3)) then (some (((TDyadic.mk (TRing.mk 0 0 0 0) 0), false))) else ((whX F_impl_DyadicOf_l1 fuel (exp, num.A, num.B, num.C, num.D)).bind <| orR fun (exp1, A, B, C, D) =>
  some (((TDyadic.mk (TRing.mk A B C D) exp1), true)))

def F_impl_MulDyadic (x : TDyadic) (y : TDyadic) : Option (TDyadic × Bool) :=
  (F_impl_MulRing x.Num y.Num).bind fun (r_2, r_3) =>
  (F_impl_IsValidDyadic x).bind fun r_4 =>
  (gb (!(!r_4)) false (F_impl_IsValidDyadic y)).bind fun r_5 =>
  bif (((!r_4) || (!r_5)) || (!r_3)) then (some (((TDyadic.mk (TRing.mk 0 0 0 0) 0), false))) else ((F_impl_DyadicOf r_2 (IntKind.i64.wrap (x.Exp + y.Exp))).bind fun (r_6, r_7) =>
  some ((r_6, r_7)))

def F_impl_Matrix_at (m : TMatrix) (i : Int) (j : Int) : Option (TDyadic) :=
  (getI m.Cells (IntKind.i64.wrap ((IntKind.i64.wrap (i * m.Cols)) + j))).bind fun x =>
  some (x)

def F_impl_MulRootTwo (x : TRing) : Option (TRing × Bool) :=
  (F_impl_ringIf (TRing.mk (IntKind.i64.wrap (x.B - x.D)) (IntKind.i64.wrap (x.A + x.C)) (IntKind.i64.wrap (x.B + x.D)) (IntKind.i64.wrap (x.C - x.A))) [x]).bind fun (r_2, r_3) =>
  some ((r_2, r_3))

def F_impl_raised_l1 (exp : Int) : (Int × Int × Int × Int × Bool × Int) → Option (Ex (Int × Int × Int × Int × Bool × Int) (TRing × Bool)) := fun (A, B, C, D, ok, k_) =>
  bif ((decide (k_ < exp)) && ok) then ((F_impl_MulRootTwo (TRing.mk A B C D)).bind fun (r_2, r_3) =>
  some (.nx (r_2.A, r_2.B, r_2.C, r_2.D, r_3, (IntKind.i64.wrap (k_ + 1))))) else (some (.br (A, B, C, D, ok, k_)))
def F_impl_raised (x : TDyadic) (exp : Int) : Option (TRing × Bool) :=
  (whX (F_impl_raised_l1 exp) fuel (x.Num.A, x.Num.B, x.Num.C, x.Num.D, true, x.Exp)).bind <| orR fun (A, B, C, D, ok, k_) =>
  some (((TRing.mk A B C D), ok))

def F_impl_combined (x : TDyadic) (y : TDyadic) (operation : TRing → TRing → Option (TRing × Bool)) : Option (TDyadic × Bool) :=
  (F_impl_IsValidDyadic x).bind fun r_2 =>
  (gb (!(!r_2)) false (F_impl_IsValidDyadic y)).bind fun r_3 =>
  bif ((!r_2) || (!r_3)) then (some (((TDyadic.mk (TRing.mk 0 0 0 0) 0), false))) else ((F_impl_raised x (if x.Exp < y.Exp then y.Exp else x.Exp)).bind fun (r_4, r_5) =>
  (F_impl_raised y (if x.Exp < y.Exp then y.Exp else x.Exp)).bind fun (r_6, r_7) =>
  (operation r_4 r_6).bind fun (r_8, r_9) =>
  bif (((!r_5) || (!r_7)) || (!r_9)) then (some (((TDyadic.mk (TRing.mk 0 0 0 0) 0), false))) else ((F_impl_DyadicOf r_8 (if x.Exp < y.Exp then y.Exp else x.Exp)).bind fun (r_10, r_11) =>
  some ((r_10, r_11))))

def F_impl_AddRing (x : TRing) (y : TRing) : Option (TRing × Bool) :=
  (F_impl_ringIf (TRing.mk (IntKind.i64.wrap (x.A + y.A)) (IntKind.i64.wrap (x.B + y.B)) (IntKind.i64.wrap (x.C + y.C)) (IntKind.i64.wrap (x.D + y.D))) [x, y]).bind fun (r_2, r_3) =>
  some ((r_2, r_3))

def F_impl_AddDyadic (x : TDyadic) (y : TDyadic) : Option (TDyadic × Bool) :=
  (F_impl_combined x y F_impl_AddRing).bind fun (r_2, r_3) =>
  some ((r_2, r_3))

def F_impl_MulMatrix_1_l1 (p : TMatrix) (i : Int) (p1 : TMatrix) (j : Int) : Nat → (Int × Int × Int × Int × Int) → Option (Ex (Int × Int × Int × Int × Int) (TDyadic × Bool)) := fun i1 (A, B4, C, D, Exp) =>
  (F_impl_Matrix_at p i (i1 : Int)).bind fun r_2 =>
  (F_impl_Matrix_at p1 (i1 : Int) j).bind fun r_3 =>
  (F_impl_MulDyadic r_2 r_3).bind fun (r_4, r_5) =>
  (F_impl_AddDyadic (TDyadic.mk (TRing.mk A B4 C D) Exp) r_4).bind fun (r_6, r_7) =>
  bif ((!r_5) || (!r_7)) then (some (.rt ((TDyadic.mk (TRing.mk 0 0 0 0) 0), false))) else (some (.nx (r_6.Num.A, r_6.Num.B, r_6.Num.C, r_6.Num.D, r_6.Exp)))
def F_impl_MulMatrix_1 (i : Int) (j : Int) (p : TMatrix) (p1 : TMatrix) : Option (TDyadic × Bool) :=
  chk (p.Cols.toNat ≤ 9223372036854775807) <|
  (forX (F_impl_MulMatrix_1_l1 p i p1 j) p.Cols.toNat 0 (0, 0, 0, 0, 0)).bind <| orR fun (A, B4, C, D, Exp) =>
  some (((TDyadic.mk (TRing.mk A B4 C D) Exp), true))

def F_impl_MulMatrix (a : TMatrix) (b : TMatrix) : Option (TMatrix × Bool) :=
  (F_impl_IsValidMatrix a).bind fun r_2 =>
  (gb (!(!r_2)) false (F_impl_IsValidMatrix b)).bind fun r_3 =>
  bif (((!r_2) || (!r_3)) || (a.Cols != b.Rows)) then (some (((TMatrix.mk 0 0 []), false))) else ((F_impl_matrixOf a.Rows b.Cols (fun x_0 x_1 => F_impl_MulMatrix_1 x_0 x_1 a b)).bind fun (r_4, r_5) =>
  some ((r_4, r_5)))

def F_impl_applied_l1 (c : TCircuit) : (Bool × Int × Int × List TDyadic × Int) → Option (Ex (Bool × Int × Int × List TDyadic × Int) (TMatrix × Bool)) := fun (ok1, Rows, Cols, Cells, i) =>
  bif ((decide (i < (c.Gates.length : Int))) && ok1) then ((getI c.Gates i).bind fun x =>
  (F_impl_GateMatrix c.Qubits x).bind fun (r_2, r_3) =>
  (F_impl_MulMatrix r_2 (TMatrix.mk Rows Cols Cells)).bind fun (r_4, r_5) =>
  some (.nx (r_5, r_4.Rows, r_4.Cols, r_4.Cells, (IntKind.i64.wrap (i + 1))))) else (some (.br (ok1, Rows, Cols, Cells, i)))
def F_impl_applied (c : TCircuit) (m : TMatrix) (ok : Bool) : Option (TMatrix × Bool) :=
  (whX (F_impl_applied_l1 c) fuel (ok, m.Rows, m.Cols, m.Cells, 0)).bind <| orR fun (ok1, Rows, Cols, Cells, i) =>
  some (((TMatrix.mk Rows Cols Cells), ok1))

def F_impl_OperatorOf (c : TCircuit) : Option (TMatrix × Bool) :=
  (F_impl_IsValidCircuit c).bind fun r_2 =>
  bif (!r_2) then (some (((TMatrix.mk 0 0 []), false))) else (chk ((0 : Int) ≤ c.Qubits) <|
  (F_impl_IdentityMatrix (shlK .i64 1 c.Qubits)).bind fun (r_3, r_4) =>
  (F_impl_applied c r_3 r_4).bind fun (r_5, r_6) =>
  some ((r_5, r_6)))

def F_impl_CanonicalPhase_1 (x : TDyadic) : Option (Bool) :=
  some ((!(((x.Num.A == 0) && ((x.Num.B == 0) && ((x.Num.C == 0) && ((x.Num.D == 0) && true)))) && ((x.Exp == 0) && true))))

def F_cmp_isNaN_int (x : Int) : Option (Bool) :=
  some ((x != x))

def F_cmp_Compare_int (x : Int) (y : Int) : Option (Int) :=
  (F_cmp_isNaN_int x).bind fun r_1 =>
  (F_cmp_isNaN_int y).bind fun r_2 =>
  bif r_1 then (bif r_2 then (some (0)) else (some ((-1)))) else (bif r_2 then (some (1)) else (bif (decide (x < y)) then (some ((-1))) else (bif (decide (y < x)) then (some (1)) else (some (0)))))

def F_slices_Compare_int_int_l1 (s1 : List Int) (s2 : List Int) : Nat → Unit → Option (Ex (Unit) (Int)) := fun i _ =>
  (getI s1 (i : Int)).bind fun x =>
  bif (decide ((s2.length : Int) ≤ (i : Int))) then (some (.rt 1)) else ((getI s2 (i : Int)).bind fun x1 =>
  (F_cmp_Compare_int x x1).bind fun r_1 =>
  bif (r_1 != 0) then (some (.rt r_1)) else (some (.nx ())))
def F_slices_Compare_int_int (s1 : List Int) (s2 : List Int) : Option (Int) :=
  chk (s1.length ≤ 9223372036854775807) <|
  (forX (F_slices_Compare_int_int_l1 s1 s2) s1.length 0 ()).bind <| orR fun _ =>
  bif (decide ((s1.length : Int) < (s2.length : Int))) then (some ((-1))) else (some (0))

def F_impl_compareRings (x : TRing) (y : TRing) : Option (Int) :=
  (F_slices_Compare_int_int [x.A, x.B, x.C, x.D] [y.A, y.B, y.C, y.D]).bind fun r_1 =>
  some (r_1)

def F_impl_ScaleMatrix_1 (i : Int) (j : Int) (p : TMatrix) (p1 : TDyadic) : Option (TDyadic × Bool) :=
  (F_impl_Matrix_at p i j).bind fun r_2 =>
  (F_impl_MulDyadic r_2 p1).bind fun (r_3, r_4) =>
  some ((r_3, r_4))

def F_impl_ScaleMatrix (m : TMatrix) (x : TDyadic) : Option (TMatrix × Bool) :=
  (F_impl_IsValidMatrix m).bind fun r_2 =>
  (gb (!(!r_2)) false (F_impl_IsValidDyadic x)).bind fun r_3 =>
  bif ((!r_2) || (!r_3)) then (some (((TMatrix.mk 0 0 []), false))) else ((F_impl_matrixOf m.Rows m.Cols (fun x_0 x_1 => F_impl_ScaleMatrix_1 x_0 x_1 m x)).bind fun (r_4, r_5) =>
  some ((r_4, r_5)))

def F_impl_CanonicalPhase_l1 (m : TMatrix) (r_3 : Int) : (Int × Int × Int × Int × Int × Int) → Option (Ex (Int × Int × Int × Int × Int × Int) (TMatrix × Int × Bool)) := fun (best, A, B2, C, D, k_) =>
  bif (decide (k_ < 8)) then ((((getI m.Cells r_3).bind fun x1 =>
  (F_impl_MulOmega x1.Num k_).bind fun (r_5, r_6) =>
  (F_impl_compareRings r_5 (TRing.mk A B2 C D)).bind fun r_7 =>
  bif (decide (0 < r_7)) then (some (k_, r_5.A, r_5.B, r_5.C, r_5.D)) else (some (best, A, B2, C, D))) : Option (Int × Int × Int × Int × Int)).bind fun (best1, A1, B3, C1, D1) =>
  some (.nx (best1, A1, B3, C1, D1, (IntKind.i64.wrap (k_ + 1))))) else (some (.br (best, A, B2, C, D, k_)))
def F_impl_CanonicalPhase (m : TMatrix) : Option (TMatrix × Int × Bool) :=
  (F_slices_IndexFunc_impl_Dyadic_impl_Dyadic m.Cells F_impl_CanonicalPhase_1).bind fun r_3 =>
  (F_impl_IsValidMatrix m).bind fun r_4 =>
  bif ((!r_4) || (decide (r_3 < 0))) then (some (((TMatrix.mk 0 0 []), 0, false))) else ((getI m.Cells r_3).bind fun x =>
  (whX (F_impl_CanonicalPhase_l1 m r_3) fuel (0, x.Num.A, x.Num.B, x.Num.C, x.Num.D, 1)).bind <| orR fun (best, A, B2, C, D, k_) =>
  (F_impl_phase best).bind fun r_8 =>
  (F_impl_ScaleMatrix m r_8).bind fun (r_9, r_10) =>
  some ((r_9, best, r_10)))



def F_impl_joinInts_l1 (list : List Int) : Nat → (List (List UInt8)) → Option (List (List UInt8)) := fun i words =>
  (getI list (i : Int)).bind fun x =>
  (F_strconv_Itoa x).bind fun r_1 =>
  chk (words.length + 1 ≤ 1099511627776) <|
  some (words ++ [r_1])
def F_impl_joinInts (list : List Int) (between : List UInt8) : Option (List UInt8) :=
  chk (list.length ≤ 9223372036854775807) <|
  (forN (F_impl_joinInts_l1 list) list.length 0 []).bind fun words =>
  (F_strings_Join words between).bind fun r_2 =>
  some (r_2)

def F_impl_FormatRing (x : TRing) : Option (List UInt8 × Bool) :=
  (F_impl_IsValidRing x).bind fun r_2 =>
  bif (!r_2) then (some ((([] : List UInt8), false))) else ((F_impl_joinInts [x.A, x.B, x.C, x.D] ([32] : List UInt8)).bind fun r_3 =>
  some ((r_3, true)))

def F_impl_FormatDyadic (x : TDyadic) : Option (List UInt8 × Bool) :=
  (F_impl_IsValidDyadic x).bind fun r_2 =>
  bif (!r_2) then (some ((([] : List UInt8), false))) else ((F_impl_FormatRing x.Num).bind fun (r_3, r_4) =>
  chk (r_3.length + ([47] : List UInt8).length ≤ 1099511627776) <|
  (F_strconv_Itoa x.Exp).bind fun r_5 =>
  chk ((r_3 ++ ([47] : List UInt8)).length + r_5.length ≤ 1099511627776) <|
  some ((((r_3 ++ ([47] : List UInt8)) ++ r_5), true)))

def F_impl_OperatorKey_l1 (r_2 : TMatrix) : Nat → (List (List UInt8)) → Option (List (List UInt8)) := fun i words =>
  (getI r_2.Cells (i : Int)).bind fun x =>
  (F_impl_FormatDyadic x).bind fun (r_5, r_6) =>
  chk (words.length + 1 ≤ 1099511627776) <|
  some (words ++ [r_5])
def F_impl_OperatorKey (m : TMatrix) : Option (List UInt8 × Bool) :=
  (F_impl_CanonicalPhase m).bind fun (r_2, r_3, r_4) =>
  chk (r_2.Cells.length ≤ 9223372036854775807) <|
  (forN (F_impl_OperatorKey_l1 r_2) r_2.Cells.length 0 []).bind fun words =>
  (F_strings_Join words ([44] : List UInt8)).bind fun r_7 =>
  some ((r_7, r_4))

def F_impl_tableGates_l2 (x : Int) : Nat → (List TGate) → Option (List TGate) := fun i1 out1 =>
  chk (out1.length + 1 ≤ 1099511627776) <|
  some (out1 ++ [(TGate.mk x (i1 : Int) 0)])
def F_impl_tableGates_l1 (n : Int) : Nat → (List TGate) → Option (List TGate) := fun i out =>
  (getI [1, 5, 7] (i : Int)).bind fun x =>
  chk (n.toNat ≤ 9223372036854775807) <|
  (forN (F_impl_tableGates_l2 x) n.toNat 0 out).bind fun out1 =>
  some out1
def F_impl_tableGates (n : Int) : Option (List TGate) :=
  (forN (F_impl_tableGates_l1 n) 3 0 []).bind fun out =>
  ((bif (n == 2) then (chk (out.length + 2 ≤ 1099511627776) <|
  some (out ++ [(TGate.mk 9 0 1), (TGate.mk 9 1 0)])) else (some out)) : Option (List TGate)).bind fun out2 =>
  some (out2)

def F_slices_Clone_impl_Gate_impl_Gate (s : List TGate) : Option (List TGate) :=
  chk (0 + s.length ≤ 1099511627776) <|
  some (s)

def F_impl_circuitIf (n : Int) (gates : List TGate) : Option (TCircuit × Bool) :=
  chk (0 + gates.length ≤ 1099511627776) <|
  (F_impl_IsValidCircuit (TCircuit.mk n gates)).bind fun r_2 =>
  bif (!r_2) then (some (((TCircuit.mk 0 []), false))) else (some (((TCircuit.mk n gates), true)))

def F_impl_ShortestWord_l3 (r_8 : List TGate) (n1 : Int) (x : TtableWord) : Nat → ((List ((List UInt8) × (List TGate))) × List TtableWord) → Option ((List ((List UInt8) × (List TGate))) × List TtableWord) := fun i2 (words2, next_1) =>
  (((getI r_8 (i2 : Int)).bind fun x1 =>
  (F_impl_GateMatrix n1 x1).bind fun (r_9, r_10) =>
  (F_impl_MulMatrix r_9 x.m).bind fun (r_11, r_12) =>
  (F_impl_OperatorKey r_11).bind fun (r_13, r_14) =>
  bif (((!r_12) || (!r_14)) || (mhas words2 r_13)) then (some (words2, next_1)) else ((F_slices_Clone_impl_Gate_impl_Gate x.gates).bind fun r_15 =>
  chk (r_15.length + 1 ≤ 1099511627776) <|
  chk (next_1.length + 1 ≤ 1099511627776) <|
  some ((mput words2 r_13 (r_15 ++ [x1])), (next_1 ++ ([(TtableWord.mk (r_15 ++ [x1]) r_11)] : List TtableWord))))) : Option ((List ((List UInt8) × (List TGate))) × List TtableWord)).bind fun (words3, next_2) =>
  some (words3, next_2)
def F_impl_ShortestWord_l2 (level : List TtableWord) (n1 : Int) : Nat → ((List ((List UInt8) × (List TGate))) × List TtableWord) → Option ((List ((List UInt8) × (List TGate))) × List TtableWord) := fun i1 (words1, next_) =>
  (getI level (i1 : Int)).bind fun x =>
  (F_impl_tableGates n1).bind fun r_8 =>
  chk (r_8.length ≤ 9223372036854775807) <|
  (forN (F_impl_ShortestWord_l3 r_8 n1 x) r_8.length 0 (words1, next_)).bind fun (words2, next_1) =>
  some (words2, next_1)
def F_impl_ShortestWord_l1 (n1 : Int) : Nat → ((List ((List UInt8) × (List TGate))) × List Int × List TtableWord) → Option ((List ((List UInt8) × (List TGate))) × List Int × List TtableWord) := fun i (words, sizes, level) =>
  chk (level.length ≤ 9223372036854775807) <|
  (forN (F_impl_ShortestWord_l2 level n1) level.length 0 (words, ([] : List TtableWord))).bind fun (words1, next_) =>
  chk (sizes.length + 1 ≤ 1099511627776) <|
  some (words1, (sizes ++ [(next_.length : Int)]), next_)
def F_impl_ShortestWord (m : TMatrix) : Option (TCircuit × Bool) :=
  (F_impl_OperatorKey m).bind fun (r_2, r_3) =>
  bif (((!r_3) || (m.Rows != m.Cols)) || ((m.Rows != 2) && (m.Rows != 4))) then (some (((TCircuit.mk 0 []), false))) else (((bif (m.Rows == 4) then (some (2, 4)) else (some (1, 8))) : Option (Int × Int)).bind fun (n1, most) =>
  ((chk ((0 : Int) ≤ n1) <|
  (F_impl_IdentityMatrix (shlK .i64 1 n1)).bind fun (r_4, r_5) =>
  (F_impl_OperatorKey r_4).bind fun (r_6, r_7) =>
  chk (most.toNat ≤ 9223372036854775807) <|
  (forN (F_impl_ShortestWord_l1 n1) most.toNat 0 ((mput ([] : List ((List UInt8) × (List TGate))) r_6 []), [1], ([(TtableWord.mk [] r_4)] : List TtableWord))).bind fun (words, sizes, level) =>
  some ((words, sizes))) : Option ((List ((List UInt8) × (List TGate))) × List Int)).bind fun (t, t1) =>
  bif (!(mhas t r_2)) then (some (((TCircuit.mk 0 []), false))) else ((F_impl_circuitIf n1 (mgt t r_2 [])).bind fun (r_28, r_29) =>
  some ((r_28, r_29))))

def F_impl_ShortestLength (c : TCircuit) : Option (Int × Bool) :=
  bif (decide (2 < c.Qubits)) then (some ((0, false))) else ((F_impl_OperatorOf c).bind fun (r_2, r_3) =>
  bif (!r_3) then (some ((0, false))) else ((F_impl_ShortestWord r_2).bind fun (r_4, r_5) =>
  some (((r_4.Gates.length : Int), r_5))))

def F_impl_IsShortest (c : TCircuit) : Option (Bool × Bool) :=
  (F_impl_ShortestLength c).bind fun (r_2, r_3) =>
  some (((r_3 && (r_2 == (c.Gates.length : Int))), r_3))

def F_laws_eqGate (a : TGate) (b : TGate) : Option (Bool) :=
  bif (a.Kind != b.Kind) then (some (false)) else (bif (a.A != b.A) then (some (false)) else (bif (a.B != b.B) then (some (false)) else (some (true))))

def F_laws_eqGateS_l1 (a : List TGate) (b : List TGate) : Nat → Unit → Option (Ex (Unit) (Bool)) := fun i1 _ =>
  (getI a (i1 : Int)).bind fun x =>
  (getI b (i1 : Int)).bind fun x1 =>
  (F_laws_eqGate x x1).bind fun r_1 =>
  bif (!r_1) then (some (.rt false)) else (some (.nx ()))
def F_laws_eqGateS (a : List TGate) (b : List TGate) : Option (Bool) :=
  bif ((a.length : Int) != (b.length : Int)) then (some (false)) else (chk (a.length ≤ 9223372036854775807) <|
  (forX (F_laws_eqGateS_l1 a b) a.length 0 ()).bind <| orR fun _ =>
  some (true))

def F_laws_eqCircuit (a : TCircuit) (b : TCircuit) : Option (Bool) :=
  bif (a.Qubits != b.Qubits) then (some (false)) else ((F_laws_eqGateS a.Gates b.Gates).bind fun r_1 =>
  bif (!r_1) then (some (false)) else (some (true)))

def F_laws_FnExactIsShortest (aC : TCircuit) : Option (Bool) :=
  (F_laws_szCircuit aC 1048576).bind fun r_1 =>
  bif (decide (r_1 < 0)) then (some (true)) else ((F_laws_toCircuit aC).bind fun r_2 =>
  (F_spec_IsShortest r_2).bind fun (r_3, r_4) =>
  (F_laws_toCircuit aC).bind fun r_5 =>
  (F_impl_IsShortest r_5).bind fun (r_6, r_7) =>
  bif ((!(r_6 == r_3)) || (!(r_7 == r_4))) then (some (false)) else ((F_laws_toCircuit aC).bind fun r_8 =>
  (F_laws_eqCircuit r_5 r_8).bind fun r_9 =>
  bif (!r_9) then (some (false)) else (some (true))))
end Go.VK
