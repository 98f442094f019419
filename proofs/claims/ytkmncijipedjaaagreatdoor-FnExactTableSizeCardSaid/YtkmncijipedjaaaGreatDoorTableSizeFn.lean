/- What each Go function computes, by program. -/
import Derived.Test.YtkmncijipedjaaaGreatDoorTableSizeTy
set_option linter.unusedVariables false
namespace Go.VK
open Go.RowKit
def F_spec_l1In (n : Int) (lo : Int) (hi : Int) : Option (Bool) :=
  some (((decide (lo ≤ n)) && (decide (n ≤ hi))))

def F_spec_l1Turn_l1 : (Int × Int × Int × Int × Int) → Option (Ex (Int × Int × Int × Int × Int) (TRing)) := fun (K8, A, B, C, D) =>
  bif (decide (0 < K8)) then (some (.nx ((IntKind.i64.wrap (K8 - 1)), (IntKind.i64.wrap (-D)), A, B, C))) else (some (.br (K8, A, B, C, D)))
def F_spec_l1Turn (x : TRing) (k_ : Int) : Option (TRing) :=
  (whX F_spec_l1Turn_l1 fuel ((Int.tmod (IntKind.i64.wrap ((Int.tmod k_ 8) + 8)) 8), x.A, x.B, x.C, x.D)).bind <| orR fun (K8, A, B, C, D) =>
  some ((TRing.mk A B C D))

def F_spec_l2Power (k_ : Int) : Option (TDyadic) :=
  (F_spec_l1Turn (TRing.mk 1 0 0 0) k_).bind fun r_1 =>
  some ((TDyadic.mk r_1 0))

def F_spec_l3Unit_l1 (n : Int) : Nat → (List TDyadic) → Option (List TDyadic) := fun i1 Cells =>
  (F_spec_l2Power 0).bind fun r_1 =>
  (getI Cells (IntKind.i64.wrap ((IntKind.i64.wrap ((i1 : Int) * n)) + (i1 : Int)))).bind fun x =>
  some (Cells.set (IntKind.i64.wrap ((IntKind.i64.wrap ((i1 : Int) * n)) + (i1 : Int))).toNat r_1)
def F_spec_l3Unit (n : Int) : Option (TMatrix) :=
  chk ((0 : Int) ≤ (IntKind.i64.wrap (n * n)) ∧ (IntKind.i64.wrap (n * n)) ≤ 1099511627776) <|
  chk (n.toNat ≤ 9223372036854775807) <|
  (forN (F_spec_l3Unit_l1 n) n.toNat 0 (List.replicate ((IntKind.i64.wrap (n * n)).toNat) (TDyadic.mk (TRing.mk 0 0 0 0) 0))).bind fun Cells =>
  some ((TMatrix.mk n n Cells))

def F_spec_l28Gates (n : Int) : Option (List TGate) :=
  bif (n == 1) then (some ([(TGate.mk 1 0 0), (TGate.mk 5 0 0), (TGate.mk 7 0 0)])) else (some ([(TGate.mk 1 0 0), (TGate.mk 1 1 0), (TGate.mk 5 0 0), (TGate.mk 5 1 0), (TGate.mk 7 0 0), (TGate.mk 7 1 0), (TGate.mk 9 0 1), (TGate.mk 9 1 0)]))

def F_spec_l25Less (x : TRing) (y : TRing) : Option (Bool) :=
  bif (x.A != y.A) then (some ((decide (x.A < y.A)))) else (bif (x.B != y.B) then (some ((decide (x.B < y.B)))) else (bif (x.C != y.C) then (some ((decide (x.C < y.C)))) else (some ((decide (x.D < y.D))))))

def F_spec_l28Turn_l1 (x : TRing) : (Int × Int) → Option (Ex (Int × Int) (Int)) := fun (best, k_) =>
  bif (decide (k_ < 8)) then ((((F_spec_l1Turn x best).bind fun r_1 =>
  (F_spec_l1Turn x k_).bind fun r_2 =>
  (F_spec_l25Less r_1 r_2).bind fun r_3 =>
  bif r_3 then (some k_) else (some best)) : Option (Int)).bind fun best1 =>
  some (.nx (best1, (IntKind.i64.wrap (k_ + 1))))) else (some (.br (best, k_)))
def F_spec_l28Turn (x : TRing) : Option (Int) :=
  (whX (F_spec_l28Turn_l1 x) fuel (0, 1)).bind <| orR fun (best, k_) =>
  some (best)

def F_spec_l28Canonical_l2 (m : TMatrix) (r_3 : Int) : (List TDyadic × Int) → Option (Ex (List TDyadic × Int) (Ex (Unit) (TMatrix × Int × Bool))) := fun (Cells, t) =>
  bif (decide (t < (m.Cells.length : Int))) then ((getI m.Cells t).bind fun x1 =>
  (F_spec_l1Turn x1.Num r_3).bind fun r_4 =>
  chk (Cells.length + 1 ≤ 1099511627776) <|
  some (.nx ((Cells ++ [(TDyadic.mk r_4 x1.Exp)]), (IntKind.i64.wrap (t + 1))))) else (some (.br (Cells, t)))
def F_spec_l28Canonical_l1 (m : TMatrix) : Nat → Unit → Option (Ex (Unit) (TMatrix × Int × Bool)) := fun i _ =>
  (getI m.Cells (i : Int)).bind fun x =>
  bif (((x.Num.A == 0) && ((x.Num.B == 0) && ((x.Num.C == 0) && ((x.Num.D == 0) && true)))) && ((x.Exp == 0) && true)) then (some (.nx ())) else ((F_spec_l28Turn x.Num).bind fun r_3 =>
  (whX (F_spec_l28Canonical_l2 m r_3) fuel ([], 0)).bind <| orR fun (Cells, t) =>
  some (.rt ((TMatrix.mk m.Rows m.Cols Cells), r_3, true)))
def F_spec_l28Canonical (m : TMatrix) : Option (TMatrix × Int × Bool) :=
  chk (m.Cells.length ≤ 9223372036854775807) <|
  (forX (F_spec_l28Canonical_l1 m) m.Cells.length 0 ()).bind <| orR fun _ =>
  some (((TMatrix.mk 0 0 []), 0, false))

def F_spec_l1All_l1 (l : List Int) (lo : Int) (hi : Int) : Nat → Unit → Option (Ex (Unit) (Bool)) := fun i _ =>
  (getI l (i : Int)).bind fun x =>
  (F_spec_l1In x lo hi).bind fun r_1 =>
  bif (!r_1) then (some (.rt false)) else (some (.nx ()))
def F_spec_l1All (l : List Int) (lo : Int) (hi : Int) : Option (Bool) :=
  chk (l.length ≤ 9223372036854775807) <|
  (forX (F_spec_l1All_l1 l lo hi) l.length 0 ()).bind <| orR fun _ =>
  some (true)

def F_spec_l1Good (x : TRing) : Option (Bool) :=
  (F_spec_l1All [x.A, x.B, x.C, x.D] (-1000000000) 1000000000).bind fun r_1 =>
  some (r_1)

def F_spec_l2C_ring (c : Tl2C) (x : TRing) : Option (TRing × Tl2C) :=
  (F_spec_l1Good x).bind fun r_1 =>
  bif (!r_1) then (some (((TRing.mk 0 0 0 0), (Tl2C.mk true)))) else (some ((x, c)))

def F_spec_l1Root (x : TRing) : Option (TRing) :=
  some ((TRing.mk (IntKind.i64.wrap (x.B - x.D)) (IntKind.i64.wrap (x.A + x.C)) (IntKind.i64.wrap (x.B + x.D)) (IntKind.i64.wrap (x.C - x.A))))

def F_spec_l1Even (x : TRing) : Option (Bool) :=
  some ((((Int.tmod (IntKind.i64.wrap (x.A + x.C)) 2) == 0) && ((Int.tmod (IntKind.i64.wrap (x.B + x.D)) 2) == 0)))

def F_spec_l1Half (x : TRing) : Option (TRing) :=
  (F_spec_l1Root x).bind fun r_1 =>
  some ((TRing.mk (IntKind.i64.wrap (Int.tdiv r_1.A 2)) (IntKind.i64.wrap (Int.tdiv r_1.B 2)) (IntKind.i64.wrap (Int.tdiv r_1.C 2)) (IntKind.i64.wrap (Int.tdiv r_1.D 2))))

def F_spec_l2Low_l1 : (Int × Int × Int × Int × Int) → Option (Ex (Int × Int × Int × Int × Int) (TDyadic)) := fun (exp1, A, B, C, D) =>
  (gb (decide (0 < exp1)) false (F_spec_l1Even (TRing.mk A B C D))).bind fun r_1 =>
  bif ((decide (0 < exp1)) && r_1) then ((F_spec_l1Half (TRing.mk A B C D)).bind fun r_2 =>
  some (.nx ((IntKind.i64.wrap (exp1 - 1)), r_2.A, r_2.B, r_2.C, r_2.D))) else (some (.br (exp1, A, B, C, D)))
def F_spec_l2Low (num : TRing) (exp : Int) : Option (TDyadic) :=
  (whX F_spec_l2Low_l1 fuel (exp, num.A, num.B, num.C, num.D)).bind <| orR fun (exp1, A, B, C, D) =>
  some ((TDyadic.mk (TRing.mk A B C D) exp1))

def F_spec_l1Add (x : TRing) (y : TRing) : Option (TRing) :=
  some ((TRing.mk (IntKind.i64.wrap (x.A + y.A)) (IntKind.i64.wrap (x.B + y.B)) (IntKind.i64.wrap (x.C + y.C)) (IntKind.i64.wrap (x.D + y.D))))

def F_spec_l2C_add_l2 (Exp : Int) (bad : Bool) (A : Int) (C : Int) (D : Int) : (Bool × Int × Int × Int × Int × Int) → Option (Ex (Bool × Int × Int × Int × Int × Int) (TDyadic × Tl2C)) := fun (bad1, A1, B2, C1, D1, Exp1) =>
  bif (decide (Exp1 < Exp)) then ((F_spec_l1Root (TRing.mk A1 B2 C1 D1)).bind fun r_3 =>
  (F_spec_l2C_ring (Tl2C.mk bad1) r_3).bind fun (r_4, m2) =>
  some (.nx (m2.bad, r_4.A, r_4.B, r_4.C, r_4.D, (IntKind.i64.wrap (Exp1 + 1))))) else (some (.br (bad1, A1, B2, C1, D1, Exp1)))
def F_spec_l2C_add_l1 (y : TDyadic) : (Bool × Int × Int × Int × Int × Int) → Option (Ex (Bool × Int × Int × Int × Int × Int) (TDyadic × Tl2C)) := fun (bad, A, B1, C, D, Exp) =>
  bif (decide (Exp < y.Exp)) then ((F_spec_l1Root (TRing.mk A B1 C D)).bind fun r_1 =>
  (F_spec_l2C_ring (Tl2C.mk bad) r_1).bind fun (r_2, m1) =>
  some (.nx (m1.bad, r_2.A, r_2.B, r_2.C, r_2.D, (IntKind.i64.wrap (Exp + 1))))) else (some (.br (bad, A, B1, C, D, Exp)))
def F_spec_l2C_add (c : Tl2C) (x : TDyadic) (y : TDyadic) : Option (TDyadic × Tl2C) :=
  (whX (F_spec_l2C_add_l1 y) fuel (c.bad, x.Num.A, x.Num.B, x.Num.C, x.Num.D, x.Exp)).bind <| orR fun (bad, A, B1, C, D, Exp) =>
  (whX (F_spec_l2C_add_l2 Exp bad A C D) fuel (bad, y.Num.A, y.Num.B, y.Num.C, y.Num.D, y.Exp)).bind <| orR fun (bad1, A1, B2, C1, D1, Exp1) =>
  (F_spec_l1Add (TRing.mk A B1 C D) (TRing.mk A1 B2 C1 D1)).bind fun r_5 =>
  (F_spec_l2C_ring (Tl2C.mk bad1) r_5).bind fun (r_6, m3) =>
  (F_spec_l2Low r_6 Exp).bind fun r_7 =>
  some ((r_7, m3))

def F_spec_l1Mul (x : TRing) (y : TRing) : Option (TRing) :=
  some ((TRing.mk (IntKind.i64.wrap ((IntKind.i64.wrap ((IntKind.i64.wrap ((IntKind.i64.wrap (x.A * y.A)) - (IntKind.i64.wrap (x.B * y.D)))) - (IntKind.i64.wrap (x.C * y.C)))) - (IntKind.i64.wrap (x.D * y.B)))) (IntKind.i64.wrap ((IntKind.i64.wrap ((IntKind.i64.wrap ((IntKind.i64.wrap (x.A * y.B)) + (IntKind.i64.wrap (x.B * y.A)))) - (IntKind.i64.wrap (x.C * y.D)))) - (IntKind.i64.wrap (x.D * y.C)))) (IntKind.i64.wrap ((IntKind.i64.wrap ((IntKind.i64.wrap ((IntKind.i64.wrap (x.A * y.C)) + (IntKind.i64.wrap (x.B * y.B)))) + (IntKind.i64.wrap (x.C * y.A)))) - (IntKind.i64.wrap (x.D * y.D)))) (IntKind.i64.wrap ((IntKind.i64.wrap ((IntKind.i64.wrap ((IntKind.i64.wrap (x.A * y.D)) + (IntKind.i64.wrap (x.B * y.C)))) + (IntKind.i64.wrap (x.C * y.B)))) + (IntKind.i64.wrap (x.D * y.A))))))

def F_spec_l2C_mul (c : Tl2C) (x : TDyadic) (y : TDyadic) : Option (TDyadic × Tl2C) :=
  bif (decide (60 < (IntKind.i64.wrap (x.Exp + y.Exp)))) then (some (((TDyadic.mk (TRing.mk 0 0 0 0) 0), (Tl2C.mk true)))) else ((F_spec_l1Mul x.Num y.Num).bind fun r_1 =>
  (F_spec_l2C_ring c r_1).bind fun (r_2, m1) =>
  (F_spec_l2Low r_2 (IntKind.i64.wrap (x.Exp + y.Exp))).bind fun r_3 =>
  some ((r_3, m1)))

def F_spec_l2C_times_l3 (a : TMatrix) (Cells : List TDyadic) (i1 : Nat) (b : TMatrix) (j : Nat) (bad : Bool) : (Bool × Int × Int × Int × Int × Int × Int) → Option (Ex (Bool × Int × Int × Int × Int × Int × Int) (Bool × List TDyadic)) := fun (bad2, A, B6, C, D, Exp, K18) =>
  bif ((decide (K18 < a.Cols)) && (!bad2)) then ((getI a.Cells (IntKind.i64.wrap ((IntKind.i64.wrap ((i1 : Int) * a.Cols)) + K18))).bind fun x =>
  (getI b.Cells (IntKind.i64.wrap ((IntKind.i64.wrap (K18 * b.Cols)) + (j : Int)))).bind fun x1 =>
  (F_spec_l2C_mul (Tl2C.mk bad2) x x1).bind fun (r_1, m1) =>
  (F_spec_l2C_add m1 (TDyadic.mk (TRing.mk A B6 C D) Exp) r_1).bind fun (r_2, m2) =>
  some (.nx (m2.bad, r_2.Num.A, r_2.Num.B, r_2.Num.C, r_2.Num.D, r_2.Exp, (IntKind.i64.wrap (K18 + 1))))) else (some (.br (bad2, A, B6, C, D, Exp, K18)))
def F_spec_l2C_times_l2 (a : TMatrix) (Cells : List TDyadic) (i1 : Nat) (b : TMatrix) (bad : Bool) : Nat → (Bool × List TDyadic) → Option (Bool × List TDyadic) := fun j (bad1, Cells1) =>
  (whX (F_spec_l2C_times_l3 a Cells i1 b j bad) fuel (bad1, 0, 0, 0, 0, 0, 0)).bind <| orR fun (bad2, A, B6, C, D, Exp, K18) =>
  chk (Cells1.length + 1 ≤ 1099511627776) <|
  some (bad2, (Cells1 ++ [(TDyadic.mk (TRing.mk A B6 C D) Exp)]))
def F_spec_l2C_times_l1 (b : TMatrix) (a : TMatrix) : Nat → (Bool × List TDyadic) → Option (Bool × List TDyadic) := fun i1 (bad, Cells) =>
  chk (b.Cols.toNat ≤ 9223372036854775807) <|
  (forN (F_spec_l2C_times_l2 a Cells i1 b bad) b.Cols.toNat 0 (bad, Cells)).bind fun (bad1, Cells1) =>
  some (bad1, Cells1)
def F_spec_l2C_times (c : Tl2C) (a : TMatrix) (b : TMatrix) : Option (TMatrix × Tl2C) :=
  chk (a.Rows.toNat ≤ 9223372036854775807) <|
  (forN (F_spec_l2C_times_l1 b a) a.Rows.toNat 0 (c.bad, [])).bind fun (bad, Cells) =>
  some (((TMatrix.mk a.Rows b.Cols Cells), (Tl2C.mk bad)))

def F_spec_l6Bit (n : Int) (k_ : Int) (q : Int) : Option (Int) :=
  chk ((0 : Int) ≤ (IntKind.u64.wrap (IntKind.i64.wrap ((IntKind.i64.wrap (n - 1)) - q)))) <|
  some ((bits .and .i64 (shrK .i64 k_ (IntKind.u64.wrap (IntKind.i64.wrap ((IntKind.i64.wrap (n - 1)) - q)))) 1))

def F_spec_l1Neg (x : TRing) : Option (TRing) :=
  some ((TRing.mk (IntKind.i64.wrap (-x.A)) (IntKind.i64.wrap (-x.B)) (IntKind.i64.wrap (-x.C)) (IntKind.i64.wrap (-x.D))))

def F_spec_l2Neg (x : TDyadic) : Option (TDyadic) :=
  (F_spec_l1Neg x.Num).bind fun r_1 =>
  some ((TDyadic.mk r_1 x.Exp))

def F_spec_l6One (kind : Int) : Option (List TDyadic) :=
  (F_spec_l2Power 0).bind fun r_1 =>
  bif (kind == 1) then ((F_spec_l2Neg (TDyadic.mk (TRing.mk 1 0 0 0) 1)).bind fun r_2 =>
  some ([(TDyadic.mk (TRing.mk 1 0 0 0) 1), (TDyadic.mk (TRing.mk 1 0 0 0) 1), (TDyadic.mk (TRing.mk 1 0 0 0) 1), r_2])) else (bif (kind == 2) then (some ([(TDyadic.mk (TRing.mk 0 0 0 0) 0), r_1, r_1, (TDyadic.mk (TRing.mk 0 0 0 0) 0)])) else (bif (kind == 3) then ((F_spec_l2Power 6).bind fun r_3 =>
  (F_spec_l2Power 2).bind fun r_4 =>
  some ([(TDyadic.mk (TRing.mk 0 0 0 0) 0), r_3, r_4, (TDyadic.mk (TRing.mk 0 0 0 0) 0)])) else ((getI [4, 2, 6, 1, 7] (IntKind.i64.wrap (kind - 4))).bind fun x =>
  (F_spec_l2Power x).bind fun r_5 =>
  some ([r_1, (TDyadic.mk (TRing.mk 0 0 0 0) 0), (TDyadic.mk (TRing.mk 0 0 0 0) 0), r_5]))))

def F_spec_l6Cell (n : Int) (g : TGate) (row : Int) (col : Int) : Option (TDyadic) :=
  (F_spec_l2Power 0).bind fun r_1 =>
  ((bif (g.Kind == 12) then ((F_spec_l2Power 1).bind fun r_2 =>
  some (.inl (r_2.Num.A, r_2.Num.B, r_2.Num.C, r_2.Num.D, r_2.Exp, col))) else (bif (g.Kind == 9) then ((F_spec_l6Bit n col g.A).bind fun r_3 =>
  bif (r_3 == 1) then (chk ((0 : Int) ≤ (IntKind.u64.wrap (IntKind.i64.wrap ((IntKind.i64.wrap (n - 1)) - g.B)))) <|
  some (.inl (r_1.Num.A, r_1.Num.B, r_1.Num.C, r_1.Num.D, r_1.Exp, (bits .xor .i64 col (shlK .i64 1 (IntKind.u64.wrap (IntKind.i64.wrap ((IntKind.i64.wrap (n - 1)) - g.B)))))))) else (some (.inl (r_1.Num.A, r_1.Num.B, r_1.Num.C, r_1.Num.D, r_1.Exp, col)))) else (bif (g.Kind == 10) then ((F_spec_l6Bit n col g.A).bind fun r_4 =>
  (gb (r_4 == 1) 0 (F_spec_l6Bit n col g.B)).bind fun r_5 =>
  bif ((r_4 == 1) && (r_5 == 1)) then ((F_spec_l2Power 4).bind fun r_6 =>
  some (.inl (r_6.Num.A, r_6.Num.B, r_6.Num.C, r_6.Num.D, r_6.Exp, col))) else (some (.inl (r_1.Num.A, r_1.Num.B, r_1.Num.C, r_1.Num.D, r_1.Exp, col)))) else (bif (g.Kind == 11) then ((F_spec_l6Bit n col g.A).bind fun r_7 =>
  (F_spec_l6Bit n col g.B).bind fun r_8 =>
  bif (r_7 != r_8) then (chk ((0 : Int) ≤ (IntKind.u64.wrap (IntKind.i64.wrap ((IntKind.i64.wrap (n - 1)) - g.A)))) <|
  chk ((0 : Int) ≤ (IntKind.u64.wrap (IntKind.i64.wrap ((IntKind.i64.wrap (n - 1)) - g.B)))) <|
  some (.inl (r_1.Num.A, r_1.Num.B, r_1.Num.C, r_1.Num.D, r_1.Exp, (bits .xor .i64 (bits .xor .i64 col (shlK .i64 1 (IntKind.u64.wrap (IntKind.i64.wrap ((IntKind.i64.wrap (n - 1)) - g.A))))) (shlK .i64 1 (IntKind.u64.wrap (IntKind.i64.wrap ((IntKind.i64.wrap (n - 1)) - g.B)))))))) else (some (.inl (r_1.Num.A, r_1.Num.B, r_1.Num.C, r_1.Num.D, r_1.Exp, col)))) else (chk ((0 : Int) ≤ (IntKind.u64.wrap (IntKind.i64.wrap ((IntKind.i64.wrap (n - 1)) - g.A)))) <|
  bif ((bits .andNot .i64 (bits .xor .i64 row col) (shlK .i64 1 (IntKind.u64.wrap (IntKind.i64.wrap ((IntKind.i64.wrap (n - 1)) - g.A))))) != 0) then (some (.inr (TDyadic.mk (TRing.mk 0 0 0 0) 0))) else ((F_spec_l6One g.Kind).bind fun r_9 =>
  (F_spec_l6Bit n row g.A).bind fun r_10 =>
  (F_spec_l6Bit n col g.A).bind fun r_11 =>
  (getI r_9 (IntKind.i64.wrap ((IntKind.i64.wrap (2 * r_10)) + r_11))).bind fun x =>
  some (.inr x))))))) : Option ((Int × Int × Int × Int × Int × Int) ⊕ (TDyadic))).bind <| orR fun (A, B, C, D, Exp, to_) =>
  bif (row == to_) then (some ((TDyadic.mk (TRing.mk A B C D) Exp))) else (some ((TDyadic.mk (TRing.mk 0 0 0 0) 0)))

def F_spec_l6Gate_l2 (n : Int) (g : TGate) (i1 : Nat) : Nat → (List TDyadic) → Option (List TDyadic) := fun j Cells1 =>
  (F_spec_l6Cell n g (i1 : Int) (j : Int)).bind fun r_1 =>
  chk (Cells1.length + 1 ≤ 1099511627776) <|
  some (Cells1 ++ [r_1])
def F_spec_l6Gate_l1 (n : Int) (g : TGate) : Nat → (List TDyadic) → Option (List TDyadic) := fun i1 Cells =>
  chk (((shlK .i64 1 (IntKind.u64.wrap n)).toNat) ≤ 9223372036854775807) <|
  (forN (F_spec_l6Gate_l2 n g i1) ((shlK .i64 1 (IntKind.u64.wrap n)).toNat) 0 Cells).bind fun Cells1 =>
  some Cells1
def F_spec_l6Gate (n : Int) (g : TGate) : Option (TMatrix) :=
  chk ((0 : Int) ≤ (IntKind.u64.wrap n)) <|
  chk (((shlK .i64 1 (IntKind.u64.wrap n)).toNat) ≤ 9223372036854775807) <|
  (forN (F_spec_l6Gate_l1 n g) ((shlK .i64 1 (IntKind.u64.wrap n)).toNat) 0 []).bind fun Cells =>
  some ((TMatrix.mk (shlK .i64 1 (IntKind.u64.wrap n)) (shlK .i64 1 (IntKind.u64.wrap n)) Cells))

def F_spec_EqualMatrices_l1 (a : TMatrix) (b : TMatrix) : Nat → Unit → Option (Ex (Unit) (Bool)) := fun i _ =>
  (getI a.Cells (i : Int)).bind fun x =>
  (getI b.Cells (i : Int)).bind fun x1 =>
  bif (!(((x.Num.A == x1.Num.A) && ((x.Num.B == x1.Num.B) && ((x.Num.C == x1.Num.C) && ((x.Num.D == x1.Num.D) && true)))) && ((x.Exp == x1.Exp) && true))) then (some (.rt false)) else (some (.nx ()))
def F_spec_EqualMatrices (a : TMatrix) (b : TMatrix) : Option (Bool) :=
  bif (((a.Rows != b.Rows) || (a.Cols != b.Cols)) || ((a.Cells.length : Int) != (b.Cells.length : Int))) then (some (false)) else (chk (a.Cells.length ≤ 9223372036854775807) <|
  (forX (F_spec_EqualMatrices_l1 a b) a.Cells.length 0 ()).bind <| orR fun _ =>
  some (true))

def F_spec_l28Size_l4 (seen2 : List TMatrix) (r_5 : TMatrix) : Nat → Bool → Option (Bool) := fun i3 known =>
  (getI seen2 (i3 : Int)).bind fun x3 =>
  (gb (!known) false (F_spec_EqualMatrices r_5 x3)).bind fun r_8 =>
  some (known || r_8)
def F_spec_l28Size_l3 (r_2 : List TGate) (n : Int) (x1 : TMatrix) : Nat → (List TMatrix × List TMatrix) → Option (List TMatrix × List TMatrix) := fun i2 (seen2, next_1) =>
  (((getI r_2 (i2 : Int)).bind fun x2 =>
  (F_spec_l6Gate n x2).bind fun r_3 =>
  (F_spec_l2C_times (Tl2C.mk false) r_3 x1).bind fun (r_4, m) =>
  (F_spec_l28Canonical r_4).bind fun (r_5, r_6, r_7) =>
  chk (seen2.length ≤ 9223372036854775807) <|
  (forN (F_spec_l28Size_l4 seen2 r_5) seen2.length 0 false).bind fun known =>
  bif (!known) then (chk (seen2.length + 1 ≤ 1099511627776) <|
  chk (next_1.length + 1 ≤ 1099511627776) <|
  some ((seen2 ++ ([r_5] : List TMatrix)), (next_1 ++ ([r_5] : List TMatrix)))) else (some (seen2, next_1))) : Option (List TMatrix × List TMatrix)).bind fun (seen3, next_2) =>
  some (seen3, next_2)
def F_spec_l28Size_l2 (level : List TMatrix) (n : Int) : Nat → (List TMatrix × List TMatrix) → Option (List TMatrix × List TMatrix) := fun i1 (seen1, next_) =>
  (getI level (i1 : Int)).bind fun x1 =>
  (F_spec_l28Gates n).bind fun r_2 =>
  chk (r_2.length ≤ 9223372036854775807) <|
  (forN (F_spec_l28Size_l3 r_2 n x1) r_2.length 0 (seen1, next_)).bind fun (seen2, next_1) =>
  some (seen2, next_1)
def F_spec_l28Size_l1 (n : Int) : Nat → (List TMatrix × List TMatrix) → Option (List TMatrix × List TMatrix) := fun k_ (seen, level) =>
  chk (level.length ≤ 9223372036854775807) <|
  (forN (F_spec_l28Size_l2 level n) level.length 0 (seen, ([] : List TMatrix))).bind fun (seen1, next_) =>
  some (seen1, next_)
def F_spec_l28Size (n : Int) (length : Int) : Option (Int) :=
  (F_spec_l3Unit (IntKind.i64.wrap (2 * n))).bind fun r_1 =>
  (getI ([r_1] : List TMatrix) 0).bind fun x =>
  chk (length.toNat ≤ 9223372036854775807) <|
  (forN (F_spec_l28Size_l1 n) length.toNat 0 (([x] : List TMatrix), ([r_1] : List TMatrix))).bind fun (seen, level) =>
  some ((level.length : Int))

def F_spec_TableSize (n : Int) (length : Int) : Option (Int × Bool) :=
  (F_spec_l1In n 1 2).bind fun r_2 =>
  (gb (!(!r_2)) false (F_spec_l1In length 0 (IntKind.i64.wrap (9 - (IntKind.i64.wrap (3 * n)))))).bind fun r_3 =>
  bif ((!r_2) || (!r_3)) then (some ((0, false))) else ((F_spec_l28Size n length).bind fun r_4 =>
  some ((r_4, true)))

def F_impl_within (n : Int) (low : Int) (high : Int) : Option (Bool) :=
  some (((decide (low ≤ n)) && (decide (n ≤ high))))

def F_impl_isDim (n : Int) : Option (Bool) :=
  (F_impl_within n 1 32).bind fun r_1 =>
  some ((r_1 && ((bits .and .i64 n (IntKind.i64.wrap (n - 1))) == 0)))

def F_impl_matrixOf_l2 (cell : Int → Int → Option (TDyadic × Bool)) (i : Nat) : Nat → (List TDyadic) → Option (Ex (List TDyadic) (Ex (List TDyadic) (TMatrix × Bool))) := fun i1 Cells1 =>
  (cell (i : Int) (i1 : Int)).bind fun (r_4, r_5) =>
  bif (!r_5) then (some (.rt (.rt ((TMatrix.mk 0 0 []), false)))) else (chk (Cells1.length + 1 ≤ 1099511627776) <|
  some (.nx (Cells1 ++ [r_4])))
def F_impl_matrixOf_l1 (cols : Int) (cell : Int → Int → Option (TDyadic × Bool)) : Nat → (List TDyadic) → Option (Ex (List TDyadic) (TMatrix × Bool)) := fun i Cells =>
  chk (cols.toNat ≤ 9223372036854775807) <|
  (forX (F_impl_matrixOf_l2 cell i) cols.toNat 0 Cells).bind <| orR fun Cells1 =>
  some (.nx Cells1)
def F_impl_matrixOf (rows : Int) (cols : Int) (cell : Int → Int → Option (TDyadic × Bool)) : Option (TMatrix × Bool) :=
  (F_impl_isDim rows).bind fun r_2 =>
  (gb (!(!r_2)) false (F_impl_isDim cols)).bind fun r_3 =>
  bif ((!r_2) || (!r_3)) then (some (((TMatrix.mk 0 0 []), false))) else (chk (rows.toNat ≤ 9223372036854775807) <|
  (forX (F_impl_matrixOf_l1 cols cell) rows.toNat 0 []).bind <| orR fun Cells =>
  some (((TMatrix.mk rows cols Cells), true)))

def F_impl_whole (n : Int) : Option (TDyadic) :=
  some ((TDyadic.mk (TRing.mk n 0 0 0) 0))

def F_impl_IdentityMatrix_1 (i : Int) (j : Int) : Option (TDyadic × Bool) :=
  bif (i == j) then ((F_impl_whole 1).bind fun r_2 =>
  some ((r_2, true))) else (some (((TDyadic.mk (TRing.mk 0 0 0 0) 0), true)))

def F_impl_IdentityMatrix (n : Int) : Option (TMatrix × Bool) :=
  (F_impl_matrixOf n n F_impl_IdentityMatrix_1).bind fun (r_2, r_3) =>
  some ((r_2, r_3))

def F_impl_isCoef (n : Int) : Option (Bool) :=
  (F_impl_within n (-1000000000) 1000000000).bind fun r_1 =>
  some (r_1)

def F_impl_IsValidRing (x : TRing) : Option (Bool) :=
  (F_impl_isCoef x.A).bind fun r_1 =>
  (gb r_1 false (F_impl_isCoef x.B)).bind fun r_2 =>
  (gb (r_1 && r_2) false (F_impl_isCoef x.C)).bind fun r_3 =>
  (gb ((r_1 && r_2) && r_3) false (F_impl_isCoef x.D)).bind fun r_4 =>
  some ((((r_1 && r_2) && r_3) && r_4))

def F_impl_MulOmega_l1 : Nat → (Int × Int × Int × Int) → Option (Int × Int × Int × Int) := fun i (A, B, C, D) =>
  some ((IntKind.i64.wrap (-D)), A, B, C)
def F_impl_MulOmega (x : TRing) (k_ : Int) : Option (TRing × Bool) :=
  (F_impl_within k_ (-1000) 1000).bind fun r_2 =>
  (gb (!(!r_2)) false (F_impl_IsValidRing x)).bind fun r_3 =>
  bif ((!r_2) || (!r_3)) then (some (((TRing.mk 0 0 0 0), false))) else (chk (((Int.tmod (IntKind.i64.wrap ((Int.tmod k_ 8) + 8)) 8).toNat) ≤ 9223372036854775807) <|
  (forN F_impl_MulOmega_l1 ((Int.tmod (IntKind.i64.wrap ((Int.tmod k_ 8) + 8)) 8).toNat) 0 (x.A, x.B, x.C, x.D)).bind fun (A, B, C, D) =>
  some (((TRing.mk A B C D), true)))

def F_impl_phase (k_ : Int) : Option (TDyadic) :=
  (F_impl_MulOmega (TRing.mk 1 0 0 0) k_).bind fun (r_1, r_2) =>
  some ((TDyadic.mk r_1 0))

def F_slices_IndexFunc_impl_Dyadic_impl_Dyadic_l1 (s : List TDyadic) (f_ : TDyadic → Option (Bool)) : Nat → Unit → Option (Ex (Unit) (Int)) := fun i _ =>
  (getI s (i : Int)).bind fun x1 =>
  (f_ x1).bind fun r_1 =>
  bif r_1 then (some (.rt (i : Int))) else (some (.nx ()))
def F_slices_IndexFunc_impl_Dyadic_impl_Dyadic (s : List TDyadic) (f_ : TDyadic → Option (Bool)) : Option (Int) :=
  chk (s.length ≤ 9223372036854775807) <|
  (forX (F_slices_IndexFunc_impl_Dyadic_impl_Dyadic_l1 s f_) s.length 0 ()).bind <| orR fun _ =>
  some ((-1))

def F_slices_ContainsFunc_impl_Dyadic_impl_Dyadic (s : List TDyadic) (f_ : TDyadic → Option (Bool)) : Option (Bool) :=
  (F_slices_IndexFunc_impl_Dyadic_impl_Dyadic s f_).bind fun r_1 =>
  some ((decide (0 ≤ r_1)))

def F_impl_isEven (x : TRing) : Option (Bool) :=
  some ((((Int.tmod (IntKind.i64.wrap (x.A + x.C)) 2) == 0) && ((Int.tmod (IntKind.i64.wrap (x.B + x.D)) 2) == 0)))

def F_impl_IsValidDyadic (x : TDyadic) : Option (Bool) :=
  (F_impl_IsValidRing x.Num).bind fun r_1 =>
  (gb r_1 false (F_impl_within x.Exp 0 60)).bind fun r_2 =>
  (gb ((r_1 && r_2) && (!(x.Exp == 0))) false (F_impl_isEven x.Num)).bind fun r_3 =>
  some (((r_1 && r_2) && ((x.Exp == 0) || (!r_3))))

def F_impl_IsValidMatrix_1 (x : TDyadic) : Option (Bool) :=
  (F_impl_IsValidDyadic x).bind fun r_1 =>
  some ((!r_1))

def F_impl_IsValidMatrix (m : TMatrix) : Option (Bool) :=
  (F_impl_isDim m.Rows).bind fun r_1 =>
  (gb r_1 false (F_impl_isDim m.Cols)).bind fun r_2 =>
  (gb ((r_1 && r_2) && ((m.Cells.length : Int) == (IntKind.i64.wrap (m.Rows * m.Cols)))) false (F_slices_ContainsFunc_impl_Dyadic_impl_Dyadic m.Cells F_impl_IsValidMatrix_1)).bind fun r_3 =>
  some ((((r_1 && r_2) && ((m.Cells.length : Int) == (IntKind.i64.wrap (m.Rows * m.Cols)))) && (!r_3)))

def F_impl_CanonicalPhase_1 (x : TDyadic) : Option (Bool) :=
  some ((!(((x.Num.A == 0) && ((x.Num.B == 0) && ((x.Num.C == 0) && ((x.Num.D == 0) && true)))) && ((x.Exp == 0) && true))))

def F_cmp_isNaN_int (x : Int) : Option (Bool) :=
  some ((x != x))

def F_cmp_Compare_int (x : Int) (y : Int) : Option (Int) :=
  (F_cmp_isNaN_int x).bind fun r_1 =>
  (F_cmp_isNaN_int y).bind fun r_2 =>
  bif r_1 then (bif r_2 then (some (0)) else (some ((-1)))) else (bif r_2 then (some (1)) else (bif (decide (x < y)) then (some ((-1))) else (bif (decide (y < x)) then (some (1)) else (some (0)))))

def F_slices_Compare_int_int_l1 (s1 : List Int) (s2 : List Int) : Nat → Unit → Option (Ex (Unit) (Int)) := fun i _ =>
  (getI s1 (i : Int)).bind fun x =>
  bif (decide ((s2.length : Int) ≤ (i : Int))) then (some (.rt 1)) else ((getI s2 (i : Int)).bind fun x1 =>
  (F_cmp_Compare_int x x1).bind fun r_1 =>
  bif (r_1 != 0) then (some (.rt r_1)) else (some (.nx ())))
def F_slices_Compare_int_int (s1 : List Int) (s2 : List Int) : Option (Int) :=
  chk (s1.length ≤ 9223372036854775807) <|
  (forX (F_slices_Compare_int_int_l1 s1 s2) s1.length 0 ()).bind <| orR fun _ =>
  bif (decide ((s1.length : Int) < (s2.length : Int))) then (some ((-1))) else (some (0))

def F_impl_compareRings (x : TRing) (y : TRing) : Option (Int) :=
  (F_slices_Compare_int_int [x.A, x.B, x.C, x.D] [y.A, y.B, y.C, y.D]).bind fun r_1 =>
  some (r_1)

def F_impl_ringIf_l1 (args : List TRing) (out : TRing) : Nat → Unit → Option (Ex (Unit) (TRing × Bool)) := fun i _ =>
  (getI (args ++ [out]) (i : Int)).bind fun x =>
  (F_impl_IsValidRing x).bind fun r_2 =>
  bif (!r_2) then (some (.rt ((TRing.mk 0 0 0 0), false))) else (some (.nx ()))
def F_impl_ringIf (out : TRing) (args : List TRing) : Option (TRing × Bool) :=
  chk (args.length + 1 ≤ 1099511627776) <|
  chk (((args ++ [out]).length) ≤ 9223372036854775807) <|
  (forX (F_impl_ringIf_l1 args out) ((args ++ [out]).length) 0 ()).bind <| orR fun _ =>
  some ((out, true))

def F_impl_MulRing (x : TRing) (y : TRing) : Option (TRing × Bool) :=
  (F_impl_ringIf (TRing.mk (IntKind.i64.wrap ((IntKind.i64.wrap ((IntKind.i64.wrap ((IntKind.i64.wrap (x.A * y.A)) - (IntKind.i64.wrap (x.B * y.D)))) - (IntKind.i64.wrap (x.C * y.C)))) - (IntKind.i64.wrap (x.D * y.B)))) (IntKind.i64.wrap ((IntKind.i64.wrap ((IntKind.i64.wrap ((IntKind.i64.wrap (x.A * y.B)) + (IntKind.i64.wrap (x.B * y.A)))) - (IntKind.i64.wrap (x.C * y.D)))) - (IntKind.i64.wrap (x.D * y.C)))) (IntKind.i64.wrap ((IntKind.i64.wrap ((IntKind.i64.wrap ((IntKind.i64.wrap (x.A * y.C)) + (IntKind.i64.wrap (x.B * y.B)))) + (IntKind.i64.wrap (x.C * y.A)))) - (IntKind.i64.wrap (x.D * y.D)))) (IntKind.i64.wrap ((IntKind.i64.wrap ((IntKind.i64.wrap ((IntKind.i64.wrap (x.A * y.D)) + (IntKind.i64.wrap (x.B * y.C)))) + (IntKind.i64.wrap (x.C * y.B)))) + (IntKind.i64.wrap (x.D * y.A))))) [x, y]).bind fun (r_2, r_3) =>
  some ((r_2, r_3))

def F_impl_DivRootTwo (x : TRing) : Option (TRing × Bool) :=
  (F_impl_IsValidRing x).bind fun r_2 =>
  (gb (!(!r_2)) false (F_impl_isEven x)).bind fun r_3 =>
  bif ((!r_2) || (!r_3)) then (some (((TRing.mk 0 0 0 0), false))) else ((F_impl_ringIf (TRing.mk (IntKind.i64.wrap (Int.tdiv (IntKind.i64.wrap (x.B - x.D)) 2)) (IntKind.i64.wrap (Int.tdiv (IntKind.i64.wrap (x.A + x.C)) 2)) (IntKind.i64.wrap (Int.tdiv (IntKind.i64.wrap (x.B + x.D)) 2)) (IntKind.i64.wrap (Int.tdiv (IntKind.i64.wrap (x.C - x.A)) 2))) [x]).bind fun (r_4, r_5) =>
  some ((r_4, r_5)))

def F_impl_DyadicOf_l1 : (Int × Int × Int × Int × Int) → Option (Ex (Int × Int × Int × Int × Int) (TDyadic × Bool)) := fun (exp1, A, B, C, D) =>
  (gb (decide (0 < exp1)) false (F_impl_isEven (TRing.mk A B C D))).bind fun r_4 =>
  bif ((decide (0 < exp1)) && r_4) then ((F_impl_DivRootTwo (TRing.mk A B C D)).bind fun (r_5, r_6) =>
  some (.nx ((IntKind.i64.wrap (exp1 - 1)), r_5.A, r_5.B, r_5.C, r_5.D))) else (some (.br (exp1, A, B, C, D)))
def F_impl_DyadicOf (num : TRing) (exp : Int) : Option (TDyadic × Bool) :=
  (F_impl_IsValidRing num).bind fun r_2 =>
  (gb (!(!r_2)) false (F_impl_within exp 0 60)).bind fun r_3 =>
  bif ((!r_2) || (!r_3)) then (some (((TDyadic.mk (TRing.mk 0 0 0 0) 0), false))) else ((whX F_impl_DyadicOf_l1 fuel (exp, num.A, num.B, num.C, num.D)).bind <| orR fun (exp1, A, B, C, D) =>
  some (((TDyadic.mk (TRing.mk A B C D) exp1), true)))

def F_impl_MulDyadic (x : TDyadic) (y : TDyadic) : Option (TDyadic × Bool) :=
  (F_impl_MulRing x.Num y.Num).bind fun (r_2, r_3) =>
  (F_impl_IsValidDyadic x).bind fun r_4 =>
  (gb (!(!r_4)) false (F_impl_IsValidDyadic y)).bind fun r_5 =>
  bif (((!r_4) || (!r_5)) || (!r_3)) then (some (((TDyadic.mk (TRing.mk 0 0 0 0) 0), false))) else ((F_impl_DyadicOf r_2 (IntKind.i64.wrap (x.Exp + y.Exp))).bind fun (r_6, r_7) =>
  some ((r_6, r_7)))

def F_impl_Matrix_at (m : TMatrix) (i : Int) (j : Int) : Option (TDyadic) :=
  (getI m.Cells (IntKind.i64.wrap ((IntKind.i64.wrap (i * m.Cols)) + j))).bind fun x =>
  some (x)

def F_impl_ScaleMatrix_1 (i : Int) (j : Int) (p : TMatrix) (p1 : TDyadic) : Option (TDyadic × Bool) :=
  (F_impl_Matrix_at p i j).bind fun r_2 =>
  (F_impl_MulDyadic r_2 p1).bind fun (r_3, r_4) =>
  some ((r_3, r_4))

def F_impl_ScaleMatrix (m : TMatrix) (x : TDyadic) : Option (TMatrix × Bool) :=
  (F_impl_IsValidMatrix m).bind fun r_2 =>
  (gb (!(!r_2)) false (F_impl_IsValidDyadic x)).bind fun r_3 =>
  bif ((!r_2) || (!r_3)) then (some (((TMatrix.mk 0 0 []), false))) else ((F_impl_matrixOf m.Rows m.Cols (fun x_0 x_1 => F_impl_ScaleMatrix_1 x_0 x_1 m x)).bind fun (r_4, r_5) =>
  some ((r_4, r_5)))

def F_impl_CanonicalPhase_l1 (m : TMatrix) (r_3 : Int) : (Int × Int × Int × Int × Int × Int) → Option (Ex (Int × Int × Int × Int × Int × Int) (TMatrix × Int × Bool)) := fun (best, A, B2, C, D, k_) =>
  bif (decide (k_ < 8)) then ((((getI m.Cells r_3).bind fun x1 =>
  (F_impl_MulOmega x1.Num k_).bind fun (r_5, r_6) =>
  (F_impl_compareRings r_5 (TRing.mk A B2 C D)).bind fun r_7 =>
  bif (decide (0 < r_7)) then (some (k_, r_5.A, r_5.B, r_5.C, r_5.D)) else (some (best, A, B2, C, D))) : Option (Int × Int × Int × Int × Int)).bind fun (best1, A1, B3, C1, D1) =>
  some (.nx (best1, A1, B3, C1, D1, (IntKind.i64.wrap (k_ + 1))))) else (some (.br (best, A, B2, C, D, k_)))
def F_impl_CanonicalPhase (m : TMatrix) : Option (TMatrix × Int × Bool) :=
  (F_slices_IndexFunc_impl_Dyadic_impl_Dyadic m.Cells F_impl_CanonicalPhase_1).bind fun r_3 =>
  (F_impl_IsValidMatrix m).bind fun r_4 =>
  bif ((!r_4) || (decide (r_3 < 0))) then (some (((TMatrix.mk 0 0 []), 0, false))) else ((getI m.Cells r_3).bind fun x =>
  (whX (F_impl_CanonicalPhase_l1 m r_3) fuel (0, x.Num.A, x.Num.B, x.Num.C, x.Num.D, 1)).bind <| orR fun (best, A, B2, C, D, k_) =>
  (F_impl_phase best).bind fun r_8 =>
  (F_impl_ScaleMatrix m r_8).bind fun (r_9, r_10) =>
  some ((r_9, best, r_10)))



def F_impl_joinInts_l1 (list : List Int) : Nat → (List (List UInt8)) → Option (List (List UInt8)) := fun i words =>
  (getI list (i : Int)).bind fun x =>
  (F_strconv_Itoa x).bind fun r_1 =>
  chk (words.length + 1 ≤ 1099511627776) <|
  some (words ++ [r_1])
def F_impl_joinInts (list : List Int) (between : List UInt8) : Option (List UInt8) :=
  chk (list.length ≤ 9223372036854775807) <|
  (forN (F_impl_joinInts_l1 list) list.length 0 []).bind fun words =>
  (F_strings_Join words between).bind fun r_2 =>
  some (r_2)

def F_impl_FormatRing (x : TRing) : Option (List UInt8 × Bool) :=
  (F_impl_IsValidRing x).bind fun r_2 =>
  bif (!r_2) then (some ((([] : List UInt8), false))) else ((F_impl_joinInts [x.A, x.B, x.C, x.D] ([32] : List UInt8)).bind fun r_3 =>
  some ((r_3, true)))

def F_impl_FormatDyadic (x : TDyadic) : Option (List UInt8 × Bool) :=
  (F_impl_IsValidDyadic x).bind fun r_2 =>
  bif (!r_2) then (some ((([] : List UInt8), false))) else ((F_impl_FormatRing x.Num).bind fun (r_3, r_4) =>
  chk (r_3.length + ([47] : List UInt8).length ≤ 1099511627776) <|
  (F_strconv_Itoa x.Exp).bind fun r_5 =>
  chk ((r_3 ++ ([47] : List UInt8)).length + r_5.length ≤ 1099511627776) <|
  some ((((r_3 ++ ([47] : List UInt8)) ++ r_5), true)))

def F_impl_OperatorKey_l1 (r_2 : TMatrix) : Nat → (List (List UInt8)) → Option (List (List UInt8)) := fun i words =>
  (getI r_2.Cells (i : Int)).bind fun x =>
  (F_impl_FormatDyadic x).bind fun (r_5, r_6) =>
  chk (words.length + 1 ≤ 1099511627776) <|
  some (words ++ [r_5])
def F_impl_OperatorKey (m : TMatrix) : Option (List UInt8 × Bool) :=
  (F_impl_CanonicalPhase m).bind fun (r_2, r_3, r_4) =>
  chk (r_2.Cells.length ≤ 9223372036854775807) <|
  (forN (F_impl_OperatorKey_l1 r_2) r_2.Cells.length 0 []).bind fun words =>
  (F_strings_Join words ([44] : List UInt8)).bind fun r_7 =>
  some ((r_7, r_4))

def F_impl_tableGates_l2 (x : Int) : Nat → (List TGate) → Option (List TGate) := fun i1 out1 =>
  chk (out1.length + 1 ≤ 1099511627776) <|
  some (out1 ++ [(TGate.mk x (i1 : Int) 0)])
def F_impl_tableGates_l1 (n : Int) : Nat → (List TGate) → Option (List TGate) := fun i out =>
  (getI [1, 5, 7] (i : Int)).bind fun x =>
  chk (n.toNat ≤ 9223372036854775807) <|
  (forN (F_impl_tableGates_l2 x) n.toNat 0 out).bind fun out1 =>
  some out1
def F_impl_tableGates (n : Int) : Option (List TGate) :=
  (forN (F_impl_tableGates_l1 n) 3 0 []).bind fun out =>
  ((bif (n == 2) then (chk (out.length + 2 ≤ 1099511627776) <|
  some (out ++ [(TGate.mk 9 0 1), (TGate.mk 9 1 0)])) else (some out)) : Option (List TGate)).bind fun out2 =>
  some (out2)

def F_impl_isTwo (kind : Int) : Option (Bool) :=
  (F_impl_within kind 9 11).bind fun r_1 =>
  some (r_1)

def F_impl_IsValidGate (n : Int) (g : TGate) : Option (Bool) :=
  (F_impl_within n 1 5).bind fun r_1 =>
  (gb (!(!r_1)) false (F_impl_within g.Kind 1 12)).bind fun r_2 =>
  bif ((!r_1) || (!r_2)) then (some (false)) else (bif (g.Kind == 12) then (some (((g.A == 0) && (g.B == 0)))) else ((F_impl_isTwo g.Kind).bind fun r_3 =>
  bif r_3 then ((F_impl_within g.A 0 (IntKind.i64.wrap (n - 1))).bind fun r_4 =>
  (gb r_4 false (F_impl_within g.B 0 (IntKind.i64.wrap (n - 1)))).bind fun r_5 =>
  some (((r_4 && r_5) && (g.A != g.B)))) else ((F_impl_within g.A 0 (IntKind.i64.wrap (n - 1))).bind fun r_6 =>
  some ((r_6 && (g.B == 0))))))

def F_impl_bitOf (n : Int) (state : Int) (q : Int) : Option (Int) :=
  chk ((0 : Int) ≤ (IntKind.i64.wrap ((IntKind.i64.wrap (n - 1)) - q))) <|
  some ((bits .and .i64 (shrK .i64 state (IntKind.i64.wrap ((IntKind.i64.wrap (n - 1)) - q))) 1))

def F_impl_flipped (n : Int) (state : Int) (q : Int) : Option (Int) :=
  chk ((0 : Int) ≤ (IntKind.i64.wrap ((IntKind.i64.wrap (n - 1)) - q))) <|
  some ((bits .xor .i64 state (shlK .i64 1 (IntKind.i64.wrap ((IntKind.i64.wrap (n - 1)) - q)))))

def F_impl_comesFrom (n : Int) (g : TGate) (state : Int) : Option (Int) :=
  (F_impl_bitOf n state g.A).bind fun r_1 =>
  (F_impl_bitOf n state g.B).bind fun r_2 =>
  bif ((g.Kind == 9) && (r_1 == 1)) then ((F_impl_flipped n state g.B).bind fun r_3 =>
  some (r_3)) else (bif ((g.Kind == 11) && (r_1 != r_2)) then ((F_impl_flipped n state g.A).bind fun r_4 =>
  (F_impl_flipped n r_4 g.B).bind fun r_5 =>
  some (r_5)) else (some (state)))

def F_impl_small (holds : Bool) : Option (Int) :=
  bif holds then (some (1)) else (some (0))

def F_impl_entry (kind : Int) (i : Int) (j : Int) : Option (TDyadic) :=
  bif (kind == 1) then (((bif ((i == 1) && (j == 1)) then (some (-1)) else (some 1)) : Option (Int)).bind fun A =>
  some ((TDyadic.mk (TRing.mk A 0 0 0) 1))) else (bif ((kind == 2) && (i != j)) then ((F_impl_whole 1).bind fun r_1 =>
  some (r_1)) else (bif ((kind == 3) && (i != j)) then ((F_impl_phase (IntKind.i64.wrap (2 + (IntKind.i64.wrap (4 * j))))).bind fun r_2 =>
  some (r_2)) else (bif (((kind == 2) || (kind == 3)) || (i != j)) then (some ((TDyadic.mk (TRing.mk 0 0 0 0) 0))) else (bif (i == 0) then ((F_impl_whole 1).bind fun r_3 =>
  some (r_3)) else ((F_impl_phase (mgt (mput (mput (mput (mput (mput ([] : List (Int × Int)) 4 4) 5 2) 6 6) 7 1) 8 7) kind 0)).bind fun r_4 =>
  some (r_4))))))

def F_impl_GateMatrix_1 (i : Int) (j : Int) (p : TGate) (p1 : Int) : Option (TDyadic × Bool) :=
  ((bif (p.Kind == 12) then (bif (i == j) then ((F_impl_phase 1).bind fun r_2 =>
  some (.inr (r_2, true))) else (some (.inl ()))) else ((F_impl_isTwo p.Kind).bind fun r_3 =>
  bif r_3 then ((F_impl_comesFrom p1 p i).bind fun r_4 =>
  bif (r_4 == j) then ((gb (p.Kind == 10) 0 (F_impl_bitOf p1 i p.A)).bind fun r_5 =>
  (gb ((p.Kind == 10) && (r_5 == 1)) 0 (F_impl_bitOf p1 i p.B)).bind fun r_6 =>
  (F_impl_small (((p.Kind == 10) && (r_5 == 1)) && (r_6 == 1))).bind fun r_7 =>
  (F_impl_phase (IntKind.i64.wrap (4 * r_7))).bind fun r_8 =>
  some (.inr (r_8, true))) else (some (.inl ()))) else ((gb (!(i == j)) 0 (F_impl_flipped p1 i p.A)).bind fun r_9 =>
  bif ((i == j) || (r_9 == j)) then ((F_impl_bitOf p1 i p.A).bind fun r_10 =>
  (F_impl_bitOf p1 j p.A).bind fun r_11 =>
  (F_impl_entry p.Kind r_10 r_11).bind fun r_12 =>
  some (.inr (r_12, true))) else (some (.inl ()))))) : Option ((Unit) ⊕ (TDyadic × Bool))).bind <| orR fun _ =>
  some (((TDyadic.mk (TRing.mk 0 0 0 0) 0), true))

def F_impl_GateMatrix (n : Int) (g : TGate) : Option (TMatrix × Bool) :=
  (F_impl_IsValidGate n g).bind fun r_2 =>
  bif (!r_2) then (some (((TMatrix.mk 0 0 []), false))) else (chk ((0 : Int) ≤ n) <|
  chk ((0 : Int) ≤ n) <|
  (F_impl_matrixOf (shlK .i64 1 n) (shlK .i64 1 n) (fun x_0 x_1 => F_impl_GateMatrix_1 x_0 x_1 g n)).bind fun (r_3, r_4) =>
  some ((r_3, r_4)))

def F_impl_MulRootTwo (x : TRing) : Option (TRing × Bool) :=
  (F_impl_ringIf (TRing.mk (IntKind.i64.wrap (x.B - x.D)) (IntKind.i64.wrap (x.A + x.C)) (IntKind.i64.wrap (x.B + x.D)) (IntKind.i64.wrap (x.C - x.A))) [x]).bind fun (r_2, r_3) =>
  some ((r_2, r_3))

def F_impl_raised_l1 (exp : Int) : (Int × Int × Int × Int × Bool × Int) → Option (Ex (Int × Int × Int × Int × Bool × Int) (TRing × Bool)) := fun (A, B, C, D, ok, k_) =>
  bif ((decide (k_ < exp)) && ok) then ((F_impl_MulRootTwo (TRing.mk A B C D)).bind fun (r_2, r_3) =>
  some (.nx (r_2.A, r_2.B, r_2.C, r_2.D, r_3, (IntKind.i64.wrap (k_ + 1))))) else (some (.br (A, B, C, D, ok, k_)))
def F_impl_raised (x : TDyadic) (exp : Int) : Option (TRing × Bool) :=
  (whX (F_impl_raised_l1 exp) fuel (x.Num.A, x.Num.B, x.Num.C, x.Num.D, true, x.Exp)).bind <| orR fun (A, B, C, D, ok, k_) =>
  some (((TRing.mk A B C D), ok))

def F_impl_combined (x : TDyadic) (y : TDyadic) (operation : TRing → TRing → Option (TRing × Bool)) : Option (TDyadic × Bool) :=
  (F_impl_IsValidDyadic x).bind fun r_2 =>
  (gb (!(!r_2)) false (F_impl_IsValidDyadic y)).bind fun r_3 =>
  bif ((!r_2) || (!r_3)) then (some (((TDyadic.mk (TRing.mk 0 0 0 0) 0), false))) else ((F_impl_raised x (if x.Exp < y.Exp then y.Exp else x.Exp)).bind fun (r_4, r_5) =>
  (F_impl_raised y (if x.Exp < y.Exp then y.Exp else x.Exp)).bind fun (r_6, r_7) =>
  (operation r_4 r_6).bind fun (r_8, r_9) =>
  bif (((!r_5) || (!r_7)) || (!r_9)) then (some (((TDyadic.mk (TRing.mk 0 0 0 0) 0), false))) else ((F_impl_DyadicOf r_8 (if x.Exp < y.Exp then y.Exp else x.Exp)).bind fun (r_10, r_11) =>
  some ((r_10, r_11))))

def F_impl_AddRing (x : TRing) (y : TRing) : Option (TRing × Bool) :=
  (F_impl_ringIf (TRing.mk (IntKind.i64.wrap (x.A + y.A)) (IntKind.i64.wrap (x.B + y.B)) (IntKind.i64.wrap (x.C + y.C)) (IntKind.i64.wrap (x.D + y.D))) [x, y]).bind fun (r_2, r_3) =>
  some ((r_2, r_3))

def F_impl_AddDyadic (x : TDyadic) (y : TDyadic) : Option (TDyadic × Bool) :=
  (F_impl_combined x y F_impl_AddRing).bind fun (r_2, r_3) =>
  some ((r_2, r_3))

def F_impl_MulMatrix_1_l1 (p : TMatrix) (i : Int) (p1 : TMatrix) (j : Int) : Nat → (Int × Int × Int × Int × Int) → Option (Ex (Int × Int × Int × Int × Int) (TDyadic × Bool)) := fun i1 (A, B4, C, D, Exp) =>
  (F_impl_Matrix_at p i (i1 : Int)).bind fun r_2 =>
  (F_impl_Matrix_at p1 (i1 : Int) j).bind fun r_3 =>
  (F_impl_MulDyadic r_2 r_3).bind fun (r_4, r_5) =>
  (F_impl_AddDyadic (TDyadic.mk (TRing.mk A B4 C D) Exp) r_4).bind fun (r_6, r_7) =>
  bif ((!r_5) || (!r_7)) then (some (.rt ((TDyadic.mk (TRing.mk 0 0 0 0) 0), false))) else (some (.nx (r_6.Num.A, r_6.Num.B, r_6.Num.C, r_6.Num.D, r_6.Exp)))
def F_impl_MulMatrix_1 (i : Int) (j : Int) (p : TMatrix) (p1 : TMatrix) : Option (TDyadic × Bool) :=
  chk (p.Cols.toNat ≤ 9223372036854775807) <|
  (forX (F_impl_MulMatrix_1_l1 p i p1 j) p.Cols.toNat 0 (0, 0, 0, 0, 0)).bind <| orR fun (A, B4, C, D, Exp) =>
  some (((TDyadic.mk (TRing.mk A B4 C D) Exp), true))

def F_impl_MulMatrix (a : TMatrix) (b : TMatrix) : Option (TMatrix × Bool) :=
  (F_impl_IsValidMatrix a).bind fun r_2 =>
  (gb (!(!r_2)) false (F_impl_IsValidMatrix b)).bind fun r_3 =>
  bif (((!r_2) || (!r_3)) || (a.Cols != b.Rows)) then (some (((TMatrix.mk 0 0 []), false))) else ((F_impl_matrixOf a.Rows b.Cols (fun x_0 x_1 => F_impl_MulMatrix_1 x_0 x_1 a b)).bind fun (r_4, r_5) =>
  some ((r_4, r_5)))

def F_slices_Clone_impl_Gate_impl_Gate (s : List TGate) : Option (List TGate) :=
  chk (0 + s.length ≤ 1099511627776) <|
  some (s)

def F_impl_TableSize_l3 (r_8 : List TGate) (n : Int) (x : TtableWord) : Nat → ((List ((List UInt8) × (List TGate))) × List TtableWord) → Option ((List ((List UInt8) × (List TGate))) × List TtableWord) := fun i2 (words2, next_1) =>
  (((getI r_8 (i2 : Int)).bind fun x1 =>
  (F_impl_GateMatrix n x1).bind fun (r_9, r_10) =>
  (F_impl_MulMatrix r_9 x.m).bind fun (r_11, r_12) =>
  (F_impl_OperatorKey r_11).bind fun (r_13, r_14) =>
  bif (((!r_12) || (!r_14)) || (mhas words2 r_13)) then (some (words2, next_1)) else ((F_slices_Clone_impl_Gate_impl_Gate x.gates).bind fun r_15 =>
  chk (r_15.length + 1 ≤ 1099511627776) <|
  chk (next_1.length + 1 ≤ 1099511627776) <|
  some ((mput words2 r_13 (r_15 ++ [x1])), (next_1 ++ ([(TtableWord.mk (r_15 ++ [x1]) r_11)] : List TtableWord))))) : Option ((List ((List UInt8) × (List TGate))) × List TtableWord)).bind fun (words3, next_2) =>
  some (words3, next_2)
def F_impl_TableSize_l2 (level : List TtableWord) (n : Int) : Nat → ((List ((List UInt8) × (List TGate))) × List TtableWord) → Option ((List ((List UInt8) × (List TGate))) × List TtableWord) := fun i1 (words1, next_) =>
  (getI level (i1 : Int)).bind fun x =>
  (F_impl_tableGates n).bind fun r_8 =>
  chk (r_8.length ≤ 9223372036854775807) <|
  (forN (F_impl_TableSize_l3 r_8 n x) r_8.length 0 (words1, next_)).bind fun (words2, next_1) =>
  some (words2, next_1)
def F_impl_TableSize_l1 (n : Int) : Nat → ((List ((List UInt8) × (List TGate))) × List Int × List TtableWord) → Option ((List ((List UInt8) × (List TGate))) × List Int × List TtableWord) := fun i (words, sizes, level) =>
  chk (level.length ≤ 9223372036854775807) <|
  (forN (F_impl_TableSize_l2 level n) level.length 0 (words, ([] : List TtableWord))).bind fun (words1, next_) =>
  chk (sizes.length + 1 ≤ 1099511627776) <|
  some (words1, (sizes ++ [(next_.length : Int)]), next_)
def F_impl_TableSize (n : Int) (length : Int) : Option (Int × Bool) :=
  (F_impl_within n 1 2).bind fun r_2 =>
  (gb (!(!r_2)) false (F_impl_within length 0 6)).bind fun r_3 =>
  bif (((!r_2) || (!r_3)) || ((n == 2) && (decide (3 < length)))) then (some ((0, false))) else (((chk ((0 : Int) ≤ n) <|
  (F_impl_IdentityMatrix (shlK .i64 1 n)).bind fun (r_4, r_5) =>
  (F_impl_OperatorKey r_4).bind fun (r_6, r_7) =>
  chk (length.toNat ≤ 9223372036854775807) <|
  (forN (F_impl_TableSize_l1 n) length.toNat 0 ((mput ([] : List ((List UInt8) × (List TGate))) r_6 []), [1], ([(TtableWord.mk [] r_4)] : List TtableWord))).bind fun (words, sizes, level) =>
  some ((words, sizes))) : Option ((List ((List UInt8) × (List TGate))) × List Int)).bind fun (t, t1) =>
  (getI t1 length).bind fun x4 =>
  some ((x4, true)))

def F_laws_FnExactTableSize (aN : Int) (aLength : Int) : Option (Bool) :=
  (F_spec_TableSize aN aLength).bind fun (r_1, r_2) =>
  (F_impl_TableSize aN aLength).bind fun (r_3, r_4) =>
  bif ((r_3 != r_1) || (!(r_4 == r_2))) then (some (false)) else (some (true))
end Go.VK
