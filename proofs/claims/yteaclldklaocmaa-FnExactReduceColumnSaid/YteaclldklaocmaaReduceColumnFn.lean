/- What each Go function computes, by program. -/
import Derived.Test.YteaclldklaocmaaReduceColumnTy
set_option linter.unusedVariables false
namespace Go.VK
open Go.RowKit
def F_laws_szDyadicS (a : List TDyadic) (left : Int) : Option (Int) :=
  bif (decide ((IntKind.i64.wrap (left - (a.length : Int))) < 0)) then (some ((-1))) else (some ((IntKind.i64.wrap (left - (a.length : Int)))))

def F_laws_szMatrix (a : TMatrix) (left : Int) : Option (Int) :=
  (F_laws_szDyadicS a.Cells left).bind fun r_1 =>
  bif (decide (r_1 < 0)) then (some ((-1))) else (some (r_1))

def F_spec_l1In (n : Int) (lo : Int) (hi : Int) : Option (Bool) :=
  some (((decide (lo ≤ n)) && (decide (n ≤ hi))))

def F_spec_l1Has_l1 (l : List Int) (n1 : Int) : Nat → Unit → Option (Ex (Unit) (Bool)) := fun i _ =>
  (getI l (i : Int)).bind fun x =>
  bif (x == n1) then (some (.rt true)) else (some (.nx ()))
def F_spec_l1Has (l : List Int) (n1 : Int) : Option (Bool) :=
  chk (l.length ≤ 9223372036854775807) <|
  (forX (F_spec_l1Has_l1 l n1) l.length 0 ()).bind <| orR fun _ =>
  some (false)

def F_spec_l3Dim (n : Int) : Option (Bool) :=
  (F_spec_l1Has [1, 2, 4, 8, 16, 32] n).bind fun r_1 =>
  some (r_1)

def F_spec_l1All_l1 (l : List Int) (lo : Int) (hi : Int) : Nat → Unit → Option (Ex (Unit) (Bool)) := fun i _ =>
  (getI l (i : Int)).bind fun x =>
  (F_spec_l1In x lo hi).bind fun r_1 =>
  bif (!r_1) then (some (.rt false)) else (some (.nx ()))
def F_spec_l1All (l : List Int) (lo : Int) (hi : Int) : Option (Bool) :=
  chk (l.length ≤ 9223372036854775807) <|
  (forX (F_spec_l1All_l1 l lo hi) l.length 0 ()).bind <| orR fun _ =>
  some (true)

def F_spec_l1Good (x : TRing) : Option (Bool) :=
  (F_spec_l1All [x.A, x.B, x.C, x.D] (-1000000000) 1000000000).bind fun r_1 =>
  some (r_1)

def F_spec_l1Even (x : TRing) : Option (Bool) :=
  some ((((Int.tmod (IntKind.i64.wrap (x.A + x.C)) 2) == 0) && ((Int.tmod (IntKind.i64.wrap (x.B + x.D)) 2) == 0)))

def F_spec_l2Good (x : TDyadic) : Option (Bool) :=
  (F_spec_l1Good x.Num).bind fun r_1 =>
  (gb r_1 false (F_spec_l1In x.Exp 0 60)).bind fun r_2 =>
  (gb ((r_1 && r_2) && (!(x.Exp == 0))) false (F_spec_l1Even x.Num)).bind fun r_3 =>
  some (((r_1 && r_2) && ((x.Exp == 0) || (!r_3))))

def F_spec_l3Good_l1 (m : TMatrix) : Nat → Unit → Option (Ex (Unit) (Bool)) := fun i _ =>
  (getI m.Cells (i : Int)).bind fun x =>
  (F_spec_l2Good x).bind fun r_3 =>
  bif (!r_3) then (some (.rt false)) else (some (.nx ()))
def F_spec_l3Good (m : TMatrix) : Option (Bool) :=
  (F_spec_l3Dim m.Rows).bind fun r_1 =>
  (gb (!(!r_1)) false (F_spec_l3Dim m.Cols)).bind fun r_2 =>
  bif (((!r_1) || (!r_2)) || ((m.Cells.length : Int) != (IntKind.i64.wrap (m.Rows * m.Cols)))) then (some (false)) else (chk (m.Cells.length ≤ 9223372036854775807) <|
  (forX (F_spec_l3Good_l1 m) m.Cells.length 0 ()).bind <| orR fun _ =>
  some (true))

def F_spec_l11Dim (n : Int) : Option (Bool) :=
  some ((((n == 2) || (n == 4)) || (n == 8)))

def F_spec_l2C_ring (c : Tl2C) (x : TRing) : Option (TRing × Tl2C) :=
  (F_spec_l1Good x).bind fun r_1 =>
  bif (!r_1) then (some (((TRing.mk 0 0 0 0), (Tl2C.mk true)))) else (some ((x, c)))

def F_spec_l1Root (x : TRing) : Option (TRing) :=
  some ((TRing.mk (IntKind.i64.wrap (x.B - x.D)) (IntKind.i64.wrap (x.A + x.C)) (IntKind.i64.wrap (x.B + x.D)) (IntKind.i64.wrap (x.C - x.A))))

def F_spec_l1Half (x : TRing) : Option (TRing) :=
  (F_spec_l1Root x).bind fun r_1 =>
  some ((TRing.mk (IntKind.i64.wrap (Int.tdiv r_1.A 2)) (IntKind.i64.wrap (Int.tdiv r_1.B 2)) (IntKind.i64.wrap (Int.tdiv r_1.C 2)) (IntKind.i64.wrap (Int.tdiv r_1.D 2))))

def F_spec_l2Low_l1 : (Int × Int × Int × Int × Int) → Option (Ex (Int × Int × Int × Int × Int) (TDyadic)) := fun (exp1, A, B, C, D) =>
  (gb (decide (0 < exp1)) false (F_spec_l1Even (TRing.mk A B C D))).bind fun r_1 =>
  bif ((decide (0 < exp1)) && r_1) then ((F_spec_l1Half (TRing.mk A B C D)).bind fun r_2 =>
  some (.nx ((IntKind.i64.wrap (exp1 - 1)), r_2.A, r_2.B, r_2.C, r_2.D))) else (some (.br (exp1, A, B, C, D)))
def F_spec_l2Low (num : TRing) (exp : Int) : Option (TDyadic) :=
  (whX F_spec_l2Low_l1 fuel (exp, num.A, num.B, num.C, num.D)).bind <| orR fun (exp1, A, B, C, D) =>
  some ((TDyadic.mk (TRing.mk A B C D) exp1))

def F_spec_l1Add (x : TRing) (y : TRing) : Option (TRing) :=
  some ((TRing.mk (IntKind.i64.wrap (x.A + y.A)) (IntKind.i64.wrap (x.B + y.B)) (IntKind.i64.wrap (x.C + y.C)) (IntKind.i64.wrap (x.D + y.D))))

def F_spec_l2C_add_l2 (Exp : Int) (bad : Bool) (A : Int) (C : Int) (D : Int) : (Bool × Int × Int × Int × Int × Int) → Option (Ex (Bool × Int × Int × Int × Int × Int) (TDyadic × Tl2C)) := fun (bad1, A1, B2, C1, D1, Exp1) =>
  bif (decide (Exp1 < Exp)) then ((F_spec_l1Root (TRing.mk A1 B2 C1 D1)).bind fun r_3 =>
  (F_spec_l2C_ring (Tl2C.mk bad1) r_3).bind fun (r_4, m2) =>
  some (.nx (m2.bad, r_4.A, r_4.B, r_4.C, r_4.D, (IntKind.i64.wrap (Exp1 + 1))))) else (some (.br (bad1, A1, B2, C1, D1, Exp1)))
def F_spec_l2C_add_l1 (y : TDyadic) : (Bool × Int × Int × Int × Int × Int) → Option (Ex (Bool × Int × Int × Int × Int × Int) (TDyadic × Tl2C)) := fun (bad, A, B1, C, D, Exp) =>
  bif (decide (Exp < y.Exp)) then ((F_spec_l1Root (TRing.mk A B1 C D)).bind fun r_1 =>
  (F_spec_l2C_ring (Tl2C.mk bad) r_1).bind fun (r_2, m1) =>
  some (.nx (m1.bad, r_2.A, r_2.B, r_2.C, r_2.D, (IntKind.i64.wrap (Exp + 1))))) else (some (.br (bad, A, B1, C, D, Exp)))
def F_spec_l2C_add (c : Tl2C) (x : TDyadic) (y : TDyadic) : Option (TDyadic × Tl2C) :=
  (whX (F_spec_l2C_add_l1 y) fuel (c.bad, x.Num.A, x.Num.B, x.Num.C, x.Num.D, x.Exp)).bind <| orR fun (bad, A, B1, C, D, Exp) =>
  (whX (F_spec_l2C_add_l2 Exp bad A C D) fuel (bad, y.Num.A, y.Num.B, y.Num.C, y.Num.D, y.Exp)).bind <| orR fun (bad1, A1, B2, C1, D1, Exp1) =>
  (F_spec_l1Add (TRing.mk A B1 C D) (TRing.mk A1 B2 C1 D1)).bind fun r_5 =>
  (F_spec_l2C_ring (Tl2C.mk bad1) r_5).bind fun (r_6, m3) =>
  (F_spec_l2Low r_6 Exp).bind fun r_7 =>
  some ((r_7, m3))

def F_spec_l1Mul (x : TRing) (y : TRing) : Option (TRing) :=
  some ((TRing.mk (IntKind.i64.wrap ((IntKind.i64.wrap ((IntKind.i64.wrap ((IntKind.i64.wrap (x.A * y.A)) - (IntKind.i64.wrap (x.B * y.D)))) - (IntKind.i64.wrap (x.C * y.C)))) - (IntKind.i64.wrap (x.D * y.B)))) (IntKind.i64.wrap ((IntKind.i64.wrap ((IntKind.i64.wrap ((IntKind.i64.wrap (x.A * y.B)) + (IntKind.i64.wrap (x.B * y.A)))) - (IntKind.i64.wrap (x.C * y.D)))) - (IntKind.i64.wrap (x.D * y.C)))) (IntKind.i64.wrap ((IntKind.i64.wrap ((IntKind.i64.wrap ((IntKind.i64.wrap (x.A * y.C)) + (IntKind.i64.wrap (x.B * y.B)))) + (IntKind.i64.wrap (x.C * y.A)))) - (IntKind.i64.wrap (x.D * y.D)))) (IntKind.i64.wrap ((IntKind.i64.wrap ((IntKind.i64.wrap ((IntKind.i64.wrap (x.A * y.D)) + (IntKind.i64.wrap (x.B * y.C)))) + (IntKind.i64.wrap (x.C * y.B)))) + (IntKind.i64.wrap (x.D * y.A))))))

def F_spec_l2C_mul (c : Tl2C) (x : TDyadic) (y : TDyadic) : Option (TDyadic × Tl2C) :=
  bif (decide (60 < (IntKind.i64.wrap (x.Exp + y.Exp)))) then (some (((TDyadic.mk (TRing.mk 0 0 0 0) 0), (Tl2C.mk true)))) else ((F_spec_l1Mul x.Num y.Num).bind fun r_1 =>
  (F_spec_l2C_ring c r_1).bind fun (r_2, m1) =>
  (F_spec_l2Low r_2 (IntKind.i64.wrap (x.Exp + y.Exp))).bind fun r_3 =>
  some ((r_3, m1)))

def F_spec_l1Conj (x : TRing) : Option (TRing) :=
  some ((TRing.mk x.A (IntKind.i64.wrap (-x.D)) (IntKind.i64.wrap (-x.C)) (IntKind.i64.wrap (-x.B))))

def F_spec_l2Conj (x : TDyadic) : Option (TDyadic) :=
  (F_spec_l1Conj x.Num).bind fun r_1 =>
  some ((TDyadic.mk r_1 x.Exp))

def F_spec_l1Turn_l1 : (Int × Int × Int × Int × Int) → Option (Ex (Int × Int × Int × Int × Int) (TRing)) := fun (k_1, A, B, C, D) =>
  bif (decide (0 < k_1)) then (some (.nx ((IntKind.i64.wrap (k_1 - 1)), (IntKind.i64.wrap (-D)), A, B, C))) else (some (.br (k_1, A, B, C, D)))
def F_spec_l1Turn (x : TRing) (k_ : Int) : Option (TRing) :=
  (whX F_spec_l1Turn_l1 fuel ((Int.tmod (IntKind.i64.wrap ((Int.tmod k_ 8) + 8)) 8), x.A, x.B, x.C, x.D)).bind <| orR fun (k_1, A, B, C, D) =>
  some ((TRing.mk A B C D))

def F_spec_l2Power (k_ : Int) : Option (TDyadic) :=
  (F_spec_l1Turn (TRing.mk 1 0 0 0) k_).bind fun r_1 =>
  some ((TDyadic.mk r_1 0))

def F_spec_l2C_unit_l1 (v_ : TMatrix) : Nat → (Bool × Int × Int × Int × Int × Int) → Option (Bool × Int × Int × Int × Int × Int) := fun i (bad, A, B2, C, D, Exp) =>
  (getI v_.Cells (i : Int)).bind fun x =>
  (F_spec_l2Conj x).bind fun r_1 =>
  (F_spec_l2C_mul (Tl2C.mk bad) x r_1).bind fun (r_2, m1) =>
  (F_spec_l2C_add m1 (TDyadic.mk (TRing.mk A B2 C D) Exp) r_2).bind fun (r_3, m2) =>
  some (m2.bad, r_3.Num.A, r_3.Num.B, r_3.Num.C, r_3.Num.D, r_3.Exp)
def F_spec_l2C_unit (c : Tl2C) (v_ : TMatrix) : Option (Bool × Tl2C) :=
  chk (v_.Cells.length ≤ 9223372036854775807) <|
  (forN (F_spec_l2C_unit_l1 v_) v_.Cells.length 0 (c.bad, 0, 0, 0, 0, 0)).bind fun (bad, A, B2, C, D, Exp) =>
  (gb (!bad) (TDyadic.mk (TRing.mk 0 0 0 0) 0) (F_spec_l2Power 0)).bind fun r_4 =>
  some ((((!bad) && (((A == r_4.Num.A) && ((B2 == r_4.Num.B) && ((C == r_4.Num.C) && ((D == r_4.Num.D) && true)))) && ((Exp == r_4.Exp) && true))), (Tl2C.mk bad)))

def F_spec_l1Most (a : Int) (b : Int) : Option (Int) :=
  bif (decide (b < a)) then (some (a)) else (some (b))

def F_spec_l3Exp_l1 (m : TMatrix) : Nat → Int → Option (Int) := fun i k_ =>
  (getI m.Cells (i : Int)).bind fun x =>
  (F_spec_l1Most k_ x.Exp).bind fun r_1 =>
  some r_1
def F_spec_l3Exp (m : TMatrix) : Option (Int) :=
  chk (m.Cells.length ≤ 9223372036854775807) <|
  (forN (F_spec_l3Exp_l1 m) m.Cells.length 0 0).bind fun k_ =>
  some (k_)

def F_spec_l11Scaled_l2 (k_ : Int) : (Int × Int × Int × Int × Int) → Option (Ex (Int × Int × Int × Int × Int) (List TRing)) := fun (A, B3, C, D, e) =>
  bif (decide (e < k_)) then ((F_spec_l1Root (TRing.mk A B3 C D)).bind fun r_1 =>
  some (.nx (r_1.A, r_1.B, r_1.C, r_1.D, (IntKind.i64.wrap (e + 1))))) else (some (.br (A, B3, C, D, e)))
def F_spec_l11Scaled_l1 (v_ : TMatrix) (k_ : Int) : Nat → (List TRing) → Option (List TRing) := fun i l =>
  (getI v_.Cells (i : Int)).bind fun x =>
  (whX (F_spec_l11Scaled_l2 k_) fuel (x.Num.A, x.Num.B, x.Num.C, x.Num.D, x.Exp)).bind <| orR fun (A, B3, C, D, e) =>
  chk (l.length + 1 ≤ 1099511627776) <|
  some (l ++ [(TRing.mk A B3 C D)])
def F_spec_l11Scaled (v_ : TMatrix) (k_ : Int) : Option (List TRing) :=
  chk (v_.Cells.length ≤ 9223372036854775807) <|
  (forN (F_spec_l11Scaled_l1 v_ k_) v_.Cells.length 0 []).bind fun l =>
  some (l)

def F_spec_l11Odd (n : Int) : Option (Int) :=
  bif ((Int.tmod n 2) != 0) then (some (1)) else (some (0))

def F_spec_l11Type (x : TRing) : Option (Int) :=
  (F_spec_l1Even x).bind fun r_1 =>
  bif r_1 then (some (0)) else ((F_spec_l11Odd (IntKind.i64.wrap ((IntKind.i64.wrap ((IntKind.i64.wrap (x.A + x.B)) + x.C)) + x.D))).bind fun r_2 =>
  bif (r_2 == 1) then (some (1)) else (some (2)))

def F_spec_l11Pair_l1 (l : List TRing) (kind : Int) : Nat → Int → Option (Ex (Int) (Int × Int × Bool)) := fun i first =>
  (((getI l (i : Int)).bind fun x =>
  (F_spec_l11Type x).bind fun r_3 =>
  bif (r_3 != kind) then (some (.inl first)) else (bif (decide (0 ≤ first)) then (some (.inr (.rt (first, (i : Int), true)))) else (some (.inl (i : Int))))) : Option ((Int) ⊕ (Ex (Int) (Int × Int × Bool)))).bind <| orR fun first1 =>
  some (.nx first1)
def F_spec_l11Pair (l : List TRing) (kind : Int) : Option (Int × Int × Bool) :=
  chk (l.length ≤ 9223372036854775807) <|
  (forX (F_spec_l11Pair_l1 l kind) l.length 0 (-1)).bind <| orR fun first =>
  some ((0, 0, false))

def F_spec_l11Power_l1 (y : TRing) (x : TRing) : Nat → Unit → Option (Ex (Unit) (Int)) := fun m _ =>
  (F_spec_l1Turn y (m : Int)).bind fun r_1 =>
  (F_spec_l1Add x r_1).bind fun r_2 =>
  (F_spec_l11Odd r_2.A).bind fun r_3 =>
  (F_spec_l11Odd r_2.B).bind fun r_4 =>
  (F_spec_l11Odd r_2.C).bind fun r_5 =>
  (F_spec_l11Odd r_2.D).bind fun r_6 =>
  (gb ((!((IntKind.i64.wrap ((IntKind.i64.wrap ((IntKind.i64.wrap (r_3 + r_4)) + r_5)) + r_6)) == 0)) && ((IntKind.i64.wrap ((IntKind.i64.wrap ((IntKind.i64.wrap (r_3 + r_4)) + r_5)) + r_6)) == 4)) 0 (F_spec_l11Type x)).bind fun r_7 =>
  bif (((IntKind.i64.wrap ((IntKind.i64.wrap ((IntKind.i64.wrap (r_3 + r_4)) + r_5)) + r_6)) == 0) || (((IntKind.i64.wrap ((IntKind.i64.wrap ((IntKind.i64.wrap (r_3 + r_4)) + r_5)) + r_6)) == 4) && (r_7 == 1))) then (some (.rt (m : Int))) else (some (.nx ()))
def F_spec_l11Power (x : TRing) (y : TRing) : Option (Int) :=
  (forX (F_spec_l11Power_l1 y x) 8 0 ()).bind <| orR fun _ =>
  some ((-1))

def F_spec_l11Next_l1 (r_3 : List TRing) : Int → Option (Ex (Int) (TTwoLevel × Bool)) := fun kind =>
  bif (decide (kind ≤ 2)) then ((F_spec_l11Pair r_3 kind).bind fun (r_4, r_5, r_6) =>
  bif r_6 then ((getI r_3 r_4).bind fun x =>
  (getI r_3 r_5).bind fun x1 =>
  (F_spec_l11Power x x1).bind fun r_7 =>
  some (.rt ((TTwoLevel.mk 3 r_4 r_5 r_7), true))) else (some (.nx (IntKind.i64.wrap (kind + 1))))) else (some (.br kind))
def F_spec_l11Next (v_ : TMatrix) : Option (TTwoLevel × Bool) :=
  (F_spec_l3Exp v_).bind fun r_2 =>
  (F_spec_l11Scaled v_ r_2).bind fun r_3 =>
  (whX (F_spec_l11Next_l1 r_3) fuel 1).bind <| orR fun kind =>
  some (((TTwoLevel.mk 0 0 0 0), false))

def F_spec_l1Neg (x : TRing) : Option (TRing) :=
  some ((TRing.mk (IntKind.i64.wrap (-x.A)) (IntKind.i64.wrap (-x.B)) (IntKind.i64.wrap (-x.C)) (IntKind.i64.wrap (-x.D))))

def F_spec_l2Neg (x : TDyadic) : Option (TDyadic) :=
  (F_spec_l1Neg x.Num).bind fun r_1 =>
  some ((TDyadic.mk r_1 x.Exp))

def F_spec_l2C_level_l1 (m : TMatrix) (t : TTwoLevel) : Nat → (Bool × List TDyadic) → Option (Bool × List TDyadic) := fun k_ (bad, Cells) =>
  (((getI m.Cells (IntKind.i64.wrap ((IntKind.i64.wrap (t.I * m.Cols)) + (k_ : Int)))).bind fun x =>
  (F_spec_l2Power t.M_).bind fun r_1 =>
  (getI m.Cells (IntKind.i64.wrap ((IntKind.i64.wrap (t.J * m.Cols)) + (k_ : Int)))).bind fun x1 =>
  (F_spec_l2C_mul (Tl2C.mk bad) r_1 x1).bind fun (r_2, m2) =>
  bif (t.Kind == 1) then ((F_spec_l2Power t.M_).bind fun r_3 =>
  (F_spec_l2C_mul m2 r_3 x).bind fun (r_4, m3) =>
  (getI Cells (IntKind.i64.wrap ((IntKind.i64.wrap (t.I * m.Cols)) + (k_ : Int)))).bind fun x2 =>
  some (m3.bad, (Cells.set (IntKind.i64.wrap ((IntKind.i64.wrap (t.I * m.Cols)) + (k_ : Int))).toNat r_4))) else (bif (t.Kind == 2) then ((getI Cells (IntKind.i64.wrap ((IntKind.i64.wrap (t.I * m.Cols)) + (k_ : Int)))).bind fun x3 =>
  (getI (Cells.set (IntKind.i64.wrap ((IntKind.i64.wrap (t.I * m.Cols)) + (k_ : Int))).toNat r_2) (IntKind.i64.wrap ((IntKind.i64.wrap (t.J * m.Cols)) + (k_ : Int)))).bind fun x4 =>
  some (m2.bad, ((Cells.set (IntKind.i64.wrap ((IntKind.i64.wrap (t.I * m.Cols)) + (k_ : Int))).toNat r_2).set (IntKind.i64.wrap ((IntKind.i64.wrap (t.J * m.Cols)) + (k_ : Int))).toNat x))) else ((F_spec_l2C_add m2 x r_2).bind fun (r_5, m4) =>
  (F_spec_l2C_mul m4 (TDyadic.mk (TRing.mk 1 0 0 0) 1) r_5).bind fun (r_6, m5) =>
  (getI Cells (IntKind.i64.wrap ((IntKind.i64.wrap (t.I * m.Cols)) + (k_ : Int)))).bind fun x5 =>
  (F_spec_l2Neg r_2).bind fun r_7 =>
  (F_spec_l2C_add m5 x r_7).bind fun (r_8, m6) =>
  (F_spec_l2C_mul m6 (TDyadic.mk (TRing.mk 1 0 0 0) 1) r_8).bind fun (r_9, m7) =>
  (getI (Cells.set (IntKind.i64.wrap ((IntKind.i64.wrap (t.I * m.Cols)) + (k_ : Int))).toNat r_6) (IntKind.i64.wrap ((IntKind.i64.wrap (t.J * m.Cols)) + (k_ : Int)))).bind fun x6 =>
  some (m7.bad, ((Cells.set (IntKind.i64.wrap ((IntKind.i64.wrap (t.I * m.Cols)) + (k_ : Int))).toNat r_6).set (IntKind.i64.wrap ((IntKind.i64.wrap (t.J * m.Cols)) + (k_ : Int))).toNat r_9))))) : Option (Bool × List TDyadic)).bind fun (bad1, Cells1) =>
  some (bad1, Cells1)
def F_spec_l2C_level (c : Tl2C) (m : TMatrix) (t : TTwoLevel) : Option (TMatrix × Tl2C) :=
  chk (0 + m.Cells.length ≤ 1099511627776) <|
  chk (m.Cols.toNat ≤ 9223372036854775807) <|
  (forN (F_spec_l2C_level_l1 m t) m.Cols.toNat 0 (c.bad, m.Cells)).bind fun (bad, Cells) =>
  some (((TMatrix.mk m.Rows m.Cols Cells), (Tl2C.mk bad)))

def F_spec_PhaseOf_l1 (x : TDyadic) : Nat → Unit → Option (Ex (Unit) (Int × Bool)) := fun k_ _ =>
  (F_spec_l2Power (k_ : Int)).bind fun r_2 =>
  bif (((x.Num.A == r_2.Num.A) && ((x.Num.B == r_2.Num.B) && ((x.Num.C == r_2.Num.C) && ((x.Num.D == r_2.Num.D) && true)))) && ((x.Exp == r_2.Exp) && true)) then (some (.rt ((k_ : Int), true))) else (some (.nx ()))
def F_spec_PhaseOf (x : TDyadic) : Option (Int × Bool) :=
  (forX (F_spec_PhaseOf_l1 x) 8 0 ()).bind <| orR fun _ =>
  some ((0, false))

def F_spec_l1Least (a : Int) (b : Int) : Option (Int) :=
  bif (decide (a < b)) then (some (a)) else (some (b))

def F_spec_l2C_column_l2 (Cells : List TDyadic) (from_ : Int) : Nat → (List TTwoLevel) → Option (List TTwoLevel) := fun i l1 =>
  (((getI Cells (i : Int)).bind fun x =>
  (F_spec_PhaseOf x).bind fun (r_6, r_7) =>
  bif (!r_7) then (some l1) else (((bif ((i : Int) != from_) then ((F_spec_l1Least (i : Int) from_).bind fun r_8 =>
  (F_spec_l1Most (i : Int) from_).bind fun r_9 =>
  chk (l1.length + 1 ≤ 1099511627776) <|
  some (l1 ++ [(TTwoLevel.mk 2 r_8 r_9 0)])) else (some l1)) : Option (List TTwoLevel)).bind fun l3 =>
  bif (decide (0 < r_6)) then (chk (l3.length + 1 ≤ 1099511627776) <|
  some (l3 ++ [(TTwoLevel.mk 1 from_ 0 (IntKind.i64.wrap (8 - r_6)))])) else (some l3))) : Option (List TTwoLevel)).bind fun l2 =>
  some l2
def F_spec_l2C_column_l1 : (Bool × Int × Int × List TDyadic × List TTwoLevel) → Option (Ex (Bool × Int × Int × List TDyadic × List TTwoLevel) (List TTwoLevel × Bool × Tl2C)) := fun (bad, Rows, Cols, Cells, l) =>
  (F_spec_l3Exp (TMatrix.mk Rows Cols Cells)).bind fun r_2 =>
  bif (decide (0 < r_2)) then ((F_spec_l11Next (TMatrix.mk Rows Cols Cells)).bind fun (r_3, r_4) =>
  bif ((!r_4) || bad) then (some (.rt ([], false, (Tl2C.mk bad)))) else (chk (l.length + 1 ≤ 1099511627776) <|
  (F_spec_l2C_level (Tl2C.mk bad) (TMatrix.mk Rows Cols Cells) r_3).bind fun (r_5, m1) =>
  some (.nx (m1.bad, r_5.Rows, r_5.Cols, r_5.Cells, (l ++ [r_3]))))) else (some (.br (bad, Rows, Cols, Cells, l)))
def F_spec_l2C_column (c : Tl2C) (v_ : TMatrix) (from_ : Int) : Option (List TTwoLevel × Bool × Tl2C) :=
  (whX F_spec_l2C_column_l1 fuel (c.bad, v_.Rows, v_.Cols, v_.Cells, [])).bind <| orR fun (bad, Rows, Cols, Cells, l) =>
  chk (Cells.length ≤ 9223372036854775807) <|
  (forN (F_spec_l2C_column_l2 Cells from_) Cells.length 0 l).bind fun l1 =>
  bif bad then (some (([], false, (Tl2C.mk bad)))) else (some ((l1, true, (Tl2C.mk bad))))

def F_spec_ReduceColumn_l1 (from_ : Int) (v_ : TMatrix) : Nat → Unit → Option (Ex (Unit) (List TTwoLevel × Bool)) := fun i _ =>
  (getI (List.take from_.toNat v_.Cells) (i : Int)).bind fun x =>
  bif (!(((x.Num.A == 0) && ((x.Num.B == 0) && ((x.Num.C == 0) && ((x.Num.D == 0) && true)))) && ((x.Exp == 0) && true))) then (some (.rt ([], false))) else (some (.nx ()))
def F_spec_ReduceColumn (v_ : TMatrix) (from_ : Int) : Option (List TTwoLevel × Bool) :=
  (F_spec_l3Good v_).bind fun r_2 =>
  (gb (!(!r_2)) false (F_spec_l11Dim v_.Rows)).bind fun r_3 =>
  (gb (!(((!r_2) || (!r_3)) || (v_.Cols != 1))) false (F_spec_l1In from_ 0 (IntKind.i64.wrap (v_.Rows - 1)))).bind fun r_4 =>
  bif ((((!r_2) || (!r_3)) || (v_.Cols != 1)) || (!r_4)) then (some (([], false))) else (chk ((0 : Int) ≤ from_ ∧ from_ ≤ (v_.Cells.length : Int)) <|
  chk (from_.toNat ≤ 9223372036854775807) <|
  (forX (F_spec_ReduceColumn_l1 from_ v_) from_.toNat 0 ()).bind <| orR fun _ =>
  (F_spec_l2C_unit (Tl2C.mk false) v_).bind fun (r_5, m) =>
  bif (!r_5) then (some (([], false))) else ((F_spec_l2C_column m v_ from_).bind fun (r_6, r_7, m1) =>
  some ((r_6, r_7))))

def F_laws_toRing (a : TRing) : Option (TRing) :=
  some (a)

def F_laws_toDyadic (a : TDyadic) : Option (TDyadic) :=
  (F_laws_toRing a.Num).bind fun r_1 =>
  some ((TDyadic.mk r_1 a.Exp))

def F_laws_toDyadicS_l1 (a : List TDyadic) : Nat → (List TDyadic) → Option (List TDyadic) := fun i1 out =>
  (getI a (i1 : Int)).bind fun x =>
  (F_laws_toDyadic x).bind fun r_1 =>
  (getI out (i1 : Int)).bind fun x1 =>
  some (out.set (i1 : Int).toNat r_1)
def F_laws_toDyadicS (a : List TDyadic) : Option (List TDyadic) :=
  chk ((0 : Int) ≤ (a.length : Int) ∧ (a.length : Int) ≤ 1099511627776) <|
  chk (a.length ≤ 9223372036854775807) <|
  (forN (F_laws_toDyadicS_l1 a) a.length 0 (List.replicate a.length (TDyadic.mk (TRing.mk 0 0 0 0) 0))).bind fun out =>
  some (out)

def F_laws_toMatrix (a : TMatrix) : Option (TMatrix) :=
  (F_laws_toDyadicS a.Cells).bind fun r_1 =>
  some ((TMatrix.mk a.Rows a.Cols r_1))

def F_impl_within (n : Int) (low : Int) (high : Int) : Option (Bool) :=
  some (((decide (low ≤ n)) && (decide (n ≤ high))))

def F_impl_isDim (n : Int) : Option (Bool) :=
  (F_impl_within n 1 32).bind fun r_1 =>
  some ((r_1 && ((bits .and .i64 n (IntKind.i64.wrap (n - 1))) == 0)))

def F_slices_IndexFunc_impl_Dyadic_impl_Dyadic_l1 (s : List TDyadic) (f_ : TDyadic → Option (Bool)) : Nat → Unit → Option (Ex (Unit) (Int)) := fun i _ =>
  (getI s (i : Int)).bind fun x1 =>
  (f_ x1).bind fun r_1 =>
  bif r_1 then (some (.rt (i : Int))) else (some (.nx ()))
def F_slices_IndexFunc_impl_Dyadic_impl_Dyadic (s : List TDyadic) (f_ : TDyadic → Option (Bool)) : Option (Int) :=
  chk (s.length ≤ 9223372036854775807) <|
  (forX (F_slices_IndexFunc_impl_Dyadic_impl_Dyadic_l1 s f_) s.length 0 ()).bind <| orR fun _ =>
  some ((-1))

def F_slices_ContainsFunc_impl_Dyadic_impl_Dyadic (s : List TDyadic) (f_ : TDyadic → Option (Bool)) : Option (Bool) :=
  (F_slices_IndexFunc_impl_Dyadic_impl_Dyadic s f_).bind fun r_1 =>
  some ((decide (0 ≤ r_1)))

def F_impl_isCoef (n : Int) : Option (Bool) :=
  (F_impl_within n (-1000000000) 1000000000).bind fun r_1 =>
  some (r_1)

def F_impl_IsValidRing (x : TRing) : Option (Bool) :=
  (F_impl_isCoef x.A).bind fun r_1 =>
  (gb r_1 false (F_impl_isCoef x.B)).bind fun r_2 =>
  (gb (r_1 && r_2) false (F_impl_isCoef x.C)).bind fun r_3 =>
  (gb ((r_1 && r_2) && r_3) false (F_impl_isCoef x.D)).bind fun r_4 =>
  some ((((r_1 && r_2) && r_3) && r_4))

def F_impl_isEven (x : TRing) : Option (Bool) :=
  some ((((Int.tmod (IntKind.i64.wrap (x.A + x.C)) 2) == 0) && ((Int.tmod (IntKind.i64.wrap (x.B + x.D)) 2) == 0)))

def F_impl_IsValidDyadic (x : TDyadic) : Option (Bool) :=
  (F_impl_IsValidRing x.Num).bind fun r_1 =>
  (gb r_1 false (F_impl_within x.Exp 0 60)).bind fun r_2 =>
  (gb ((r_1 && r_2) && (!(x.Exp == 0))) false (F_impl_isEven x.Num)).bind fun r_3 =>
  some (((r_1 && r_2) && ((x.Exp == 0) || (!r_3))))

def F_impl_IsValidMatrix_1 (x : TDyadic) : Option (Bool) :=
  (F_impl_IsValidDyadic x).bind fun r_1 =>
  some ((!r_1))

def F_impl_IsValidMatrix (m : TMatrix) : Option (Bool) :=
  (F_impl_isDim m.Rows).bind fun r_1 =>
  (gb r_1 false (F_impl_isDim m.Cols)).bind fun r_2 =>
  (gb ((r_1 && r_2) && ((m.Cells.length : Int) == (IntKind.i64.wrap (m.Rows * m.Cols)))) false (F_slices_ContainsFunc_impl_Dyadic_impl_Dyadic m.Cells F_impl_IsValidMatrix_1)).bind fun r_3 =>
  some ((((r_1 && r_2) && ((m.Cells.length : Int) == (IntKind.i64.wrap (m.Rows * m.Cols)))) && (!r_3)))

def F_impl_isLevelDim (n : Int) : Option (Bool) :=
  some ((((n == 2) || (n == 4)) || (n == 8)))

def F_impl_ringIf_l1 (args : List TRing) (out : TRing) : Nat → Unit → Option (Ex (Unit) (TRing × Bool)) := fun i _ =>
  (getI (args ++ [out]) (i : Int)).bind fun x =>
  (F_impl_IsValidRing x).bind fun r_2 =>
  bif (!r_2) then (some (.rt ((TRing.mk 0 0 0 0), false))) else (some (.nx ()))
def F_impl_ringIf (out : TRing) (args : List TRing) : Option (TRing × Bool) :=
  chk (args.length + 1 ≤ 1099511627776) <|
  chk (((args ++ [out]).length) ≤ 9223372036854775807) <|
  (forX (F_impl_ringIf_l1 args out) ((args ++ [out]).length) 0 ()).bind <| orR fun _ =>
  some ((out, true))

def F_impl_MulRing (x : TRing) (y : TRing) : Option (TRing × Bool) :=
  (F_impl_ringIf (TRing.mk (IntKind.i64.wrap ((IntKind.i64.wrap ((IntKind.i64.wrap ((IntKind.i64.wrap (x.A * y.A)) - (IntKind.i64.wrap (x.B * y.D)))) - (IntKind.i64.wrap (x.C * y.C)))) - (IntKind.i64.wrap (x.D * y.B)))) (IntKind.i64.wrap ((IntKind.i64.wrap ((IntKind.i64.wrap ((IntKind.i64.wrap (x.A * y.B)) + (IntKind.i64.wrap (x.B * y.A)))) - (IntKind.i64.wrap (x.C * y.D)))) - (IntKind.i64.wrap (x.D * y.C)))) (IntKind.i64.wrap ((IntKind.i64.wrap ((IntKind.i64.wrap ((IntKind.i64.wrap (x.A * y.C)) + (IntKind.i64.wrap (x.B * y.B)))) + (IntKind.i64.wrap (x.C * y.A)))) - (IntKind.i64.wrap (x.D * y.D)))) (IntKind.i64.wrap ((IntKind.i64.wrap ((IntKind.i64.wrap ((IntKind.i64.wrap (x.A * y.D)) + (IntKind.i64.wrap (x.B * y.C)))) + (IntKind.i64.wrap (x.C * y.B)))) + (IntKind.i64.wrap (x.D * y.A))))) [x, y]).bind fun (r_2, r_3) =>
  some ((r_2, r_3))

def F_impl_DivRootTwo (x : TRing) : Option (TRing × Bool) :=
  (F_impl_IsValidRing x).bind fun r_2 =>
  (gb (!(!r_2)) false (F_impl_isEven x)).bind fun r_3 =>
  bif ((!r_2) || (!r_3)) then (some (((TRing.mk 0 0 0 0), false))) else ((F_impl_ringIf (TRing.mk (IntKind.i64.wrap (Int.tdiv (IntKind.i64.wrap (x.B - x.D)) 2)) (IntKind.i64.wrap (Int.tdiv (IntKind.i64.wrap (x.A + x.C)) 2)) (IntKind.i64.wrap (Int.tdiv (IntKind.i64.wrap (x.B + x.D)) 2)) (IntKind.i64.wrap (Int.tdiv (IntKind.i64.wrap (x.C - x.A)) 2))) [x]).bind fun (r_4, r_5) =>
  some ((r_4, r_5)))

def F_impl_DyadicOf_l1 : (Int × Int × Int × Int × Int) → Option (Ex (Int × Int × Int × Int × Int) (TDyadic × Bool)) := fun (exp1, A, B, C, D) =>
  (gb (decide (0 < exp1)) false (F_impl_isEven (TRing.mk A B C D))).bind fun r_4 =>
  bif ((decide (0 < exp1)) && r_4) then ((F_impl_DivRootTwo (TRing.mk A B C D)).bind fun (r_5, r_6) =>
  some (.nx ((IntKind.i64.wrap (exp1 - 1)), r_5.A, r_5.B, r_5.C, r_5.D))) else (some (.br (exp1, A, B, C, D)))
def F_impl_DyadicOf (num : TRing) (exp : Int) : Option (TDyadic × Bool) :=
  (F_impl_IsValidRing num).bind fun r_2 =>
  (gb (!(!r_2)) false (F_impl_within exp 0 60)).bind fun r_3 =>
  bif ((!r_2) || (!r_3)) then (some (((TDyadic.mk (TRing.mk 0 0 0 0) 0), false))) else ((whX F_impl_DyadicOf_l1 fuel (exp, num.A, num.B, num.C, num.D)).bind <| orR fun (exp1, A, B, C, D) =>
  some (((TDyadic.mk (TRing.mk A B C D) exp1), true)))

def F_impl_MulDyadic (x : TDyadic) (y : TDyadic) : Option (TDyadic × Bool) :=
  (F_impl_MulRing x.Num y.Num).bind fun (r_2, r_3) =>
  (F_impl_IsValidDyadic x).bind fun r_4 =>
  (gb (!(!r_4)) false (F_impl_IsValidDyadic y)).bind fun r_5 =>
  bif (((!r_4) || (!r_5)) || (!r_3)) then (some (((TDyadic.mk (TRing.mk 0 0 0 0) 0), false))) else ((F_impl_DyadicOf r_2 (IntKind.i64.wrap (x.Exp + y.Exp))).bind fun (r_6, r_7) =>
  some ((r_6, r_7)))

def F_impl_Conjugate (x : TRing) : Option (TRing × Bool) :=
  (F_impl_ringIf (TRing.mk x.A (IntKind.i64.wrap (-x.D)) (IntKind.i64.wrap (-x.C)) (IntKind.i64.wrap (-x.B))) [x]).bind fun (r_2, r_3) =>
  some ((r_2, r_3))

def F_impl_ConjDyadic (x : TDyadic) : Option (TDyadic × Bool) :=
  (F_impl_IsValidDyadic x).bind fun r_2 =>
  bif (!r_2) then (some (((TDyadic.mk (TRing.mk 0 0 0 0) 0), false))) else ((F_impl_Conjugate x.Num).bind fun (r_3, r_4) =>
  some (((TDyadic.mk r_3 x.Exp), true)))

def F_impl_NormSquare (x : TDyadic) : Option (TDyadic × Bool) :=
  (F_impl_ConjDyadic x).bind fun (r_2, r_3) =>
  bif (!r_3) then (some (((TDyadic.mk (TRing.mk 0 0 0 0) 0), false))) else ((F_impl_MulDyadic x r_2).bind fun (r_4, r_5) =>
  some ((r_4, r_5)))

def F_impl_MulRootTwo (x : TRing) : Option (TRing × Bool) :=
  (F_impl_ringIf (TRing.mk (IntKind.i64.wrap (x.B - x.D)) (IntKind.i64.wrap (x.A + x.C)) (IntKind.i64.wrap (x.B + x.D)) (IntKind.i64.wrap (x.C - x.A))) [x]).bind fun (r_2, r_3) =>
  some ((r_2, r_3))

def F_impl_raised_l1 (exp : Int) : (Int × Int × Int × Int × Bool × Int) → Option (Ex (Int × Int × Int × Int × Bool × Int) (TRing × Bool)) := fun (A, B, C, D, ok, k_) =>
  bif ((decide (k_ < exp)) && ok) then ((F_impl_MulRootTwo (TRing.mk A B C D)).bind fun (r_2, r_3) =>
  some (.nx (r_2.A, r_2.B, r_2.C, r_2.D, r_3, (IntKind.i64.wrap (k_ + 1))))) else (some (.br (A, B, C, D, ok, k_)))
def F_impl_raised (x : TDyadic) (exp : Int) : Option (TRing × Bool) :=
  (whX (F_impl_raised_l1 exp) fuel (x.Num.A, x.Num.B, x.Num.C, x.Num.D, true, x.Exp)).bind <| orR fun (A, B, C, D, ok, k_) =>
  some (((TRing.mk A B C D), ok))

def F_impl_combined (x : TDyadic) (y : TDyadic) (operation : TRing → TRing → Option (TRing × Bool)) : Option (TDyadic × Bool) :=
  (F_impl_IsValidDyadic x).bind fun r_2 =>
  (gb (!(!r_2)) false (F_impl_IsValidDyadic y)).bind fun r_3 =>
  bif ((!r_2) || (!r_3)) then (some (((TDyadic.mk (TRing.mk 0 0 0 0) 0), false))) else ((F_impl_raised x (if x.Exp < y.Exp then y.Exp else x.Exp)).bind fun (r_4, r_5) =>
  (F_impl_raised y (if x.Exp < y.Exp then y.Exp else x.Exp)).bind fun (r_6, r_7) =>
  (operation r_4 r_6).bind fun (r_8, r_9) =>
  bif (((!r_5) || (!r_7)) || (!r_9)) then (some (((TDyadic.mk (TRing.mk 0 0 0 0) 0), false))) else ((F_impl_DyadicOf r_8 (if x.Exp < y.Exp then y.Exp else x.Exp)).bind fun (r_10, r_11) =>
  some ((r_10, r_11))))

def F_impl_AddRing (x : TRing) (y : TRing) : Option (TRing × Bool) :=
  (F_impl_ringIf (TRing.mk (IntKind.i64.wrap (x.A + y.A)) (IntKind.i64.wrap (x.B + y.B)) (IntKind.i64.wrap (x.C + y.C)) (IntKind.i64.wrap (x.D + y.D))) [x, y]).bind fun (r_2, r_3) =>
  some ((r_2, r_3))

def F_impl_AddDyadic (x : TDyadic) (y : TDyadic) : Option (TDyadic × Bool) :=
  (F_impl_combined x y F_impl_AddRing).bind fun (r_2, r_3) =>
  some ((r_2, r_3))

def F_impl_whole (n : Int) : Option (TDyadic) :=
  some ((TDyadic.mk (TRing.mk n 0 0 0) 0))

def F_impl_isColumn_l1 (v_ : TMatrix) (from_ : Int) : Nat → (Int × Int × Int × Int × Int) → Option (Ex (Int × Int × Int × Int × Int) (Bool)) := fun i (A, B1, C, D, Exp) =>
  (getI v_.Cells (i : Int)).bind fun x =>
  (F_impl_NormSquare x).bind fun (r_4, r_5) =>
  (F_impl_AddDyadic (TDyadic.mk (TRing.mk A B1 C D) Exp) r_4).bind fun (r_6, r_7) =>
  bif (((!r_5) || (!r_7)) || ((decide ((i : Int) < from_)) && (!(((x.Num.A == 0) && ((x.Num.B == 0) && ((x.Num.C == 0) && ((x.Num.D == 0) && true)))) && ((x.Exp == 0) && true))))) then (some (.rt false)) else (some (.nx (r_6.Num.A, r_6.Num.B, r_6.Num.C, r_6.Num.D, r_6.Exp)))
def F_impl_isColumn (v_ : TMatrix) (from_ : Int) : Option (Bool) :=
  (F_impl_IsValidMatrix v_).bind fun r_1 =>
  (gb (!((!r_1) || (v_.Cols != 1))) false (F_impl_isLevelDim v_.Rows)).bind fun r_2 =>
  (gb (!(((!r_1) || (v_.Cols != 1)) || (!r_2))) false (F_impl_within from_ 0 (IntKind.i64.wrap (v_.Rows - 1)))).bind fun r_3 =>
  bif ((((!r_1) || (v_.Cols != 1)) || (!r_2)) || (!r_3)) then (some (false)) else (chk (v_.Cells.length ≤ 9223372036854775807) <|
  (forX (F_impl_isColumn_l1 v_ from_) v_.Cells.length 0 (0, 0, 0, 0, 0)).bind <| orR fun (A, B1, C, D, Exp) =>
  (F_impl_whole 1).bind fun r_8 =>
  some ((((A == r_8.Num.A) && ((B1 == r_8.Num.B) && ((C == r_8.Num.C) && ((D == r_8.Num.D) && true)))) && ((Exp == r_8.Exp) && true))))

def F_impl_LeastExp_l1 (m : TMatrix) : Nat → Int → Option (Int) := fun i most =>
  (getI m.Cells (i : Int)).bind fun x =>
  some (if most < x.Exp then x.Exp else most)
def F_impl_LeastExp (m : TMatrix) : Option (Int × Bool) :=
  (F_impl_IsValidMatrix m).bind fun r_2 =>
  bif (!r_2) then (some ((0, false))) else (chk (m.Cells.length ≤ 9223372036854775807) <|
  (forN (F_impl_LeastExp_l1 m) m.Cells.length 0 0).bind fun most =>
  some ((most, true)))

def F_impl_MulOmega_l1 : Nat → (Int × Int × Int × Int) → Option (Int × Int × Int × Int) := fun i (A, B, C, D) =>
  some ((IntKind.i64.wrap (-D)), A, B, C)
def F_impl_MulOmega (x : TRing) (k_ : Int) : Option (TRing × Bool) :=
  (F_impl_within k_ (-1000) 1000).bind fun r_2 =>
  (gb (!(!r_2)) false (F_impl_IsValidRing x)).bind fun r_3 =>
  bif ((!r_2) || (!r_3)) then (some (((TRing.mk 0 0 0 0), false))) else (chk (((Int.tmod (IntKind.i64.wrap ((Int.tmod k_ 8) + 8)) 8).toNat) ≤ 9223372036854775807) <|
  (forN F_impl_MulOmega_l1 ((Int.tmod (IntKind.i64.wrap ((Int.tmod k_ 8) + 8)) 8).toNat) 0 (x.A, x.B, x.C, x.D)).bind fun (A, B, C, D) =>
  some (((TRing.mk A B C D), true)))

def F_impl_phase (k_ : Int) : Option (TDyadic) :=
  (F_impl_MulOmega (TRing.mk 1 0 0 0) k_).bind fun (r_1, r_2) =>
  some ((TDyadic.mk r_1 0))

def F_impl_PhaseOf_l1 (x : TDyadic) : Nat → Unit → Option (Ex (Unit) (Int × Bool)) := fun i _ =>
  (F_impl_phase (i : Int)).bind fun r_2 =>
  bif (((x.Num.A == r_2.Num.A) && ((x.Num.B == r_2.Num.B) && ((x.Num.C == r_2.Num.C) && ((x.Num.D == r_2.Num.D) && true)))) && ((x.Exp == r_2.Exp) && true)) then (some (.rt ((i : Int), true))) else (some (.nx ()))
def F_impl_PhaseOf (x : TDyadic) : Option (Int × Bool) :=
  (forX (F_impl_PhaseOf_l1 x) 8 0 ()).bind <| orR fun _ =>
  some ((0, false))

def F_impl_finishing_l1 (v_ : TMatrix) (from_ : Int) : Nat → Unit → Option (Ex (Unit) (List TTwoLevel × Bool)) := fun i _ =>
  (getI v_.Cells (i : Int)).bind fun x =>
  bif (((x.Num.A == 0) && ((x.Num.B == 0) && ((x.Num.C == 0) && ((x.Num.D == 0) && true)))) && ((x.Exp == 0) && true)) then (some (.nx ())) else ((F_impl_PhaseOf x).bind fun (r_2, r_3) =>
  bif (!r_3) then (some (.rt ([], false))) else (((bif ((i : Int) != from_) then (some [(TTwoLevel.mk 2 (if from_ < (i : Int) then from_ else (i : Int)) (if (i : Int) < from_ then from_ else (i : Int)) 0)]) else (some [])) : Option (List TTwoLevel)).bind fun out =>
  ((bif (decide (0 < r_2)) then (chk (out.length + 1 ≤ 1099511627776) <|
  some (out ++ [(TTwoLevel.mk 1 from_ 0 (IntKind.i64.wrap (8 - r_2)))])) else (some out)) : Option (List TTwoLevel)).bind fun out1 =>
  some (.rt (out1, true))))
def F_impl_finishing (v_ : TMatrix) (from_ : Int) : Option (List TTwoLevel × Bool) :=
  chk (v_.Cells.length ≤ 9223372036854775807) <|
  (forX (F_impl_finishing_l1 v_ from_) v_.Cells.length 0 ()).bind <| orR fun _ =>
  some (([], false))

def F_impl_ResidueType (x : TRing) : Option (Int × Bool) :=
  (F_impl_IsValidRing x).bind fun r_2 =>
  bif (!r_2) then (some ((0, false))) else ((F_impl_isEven x).bind fun r_3 =>
  bif r_3 then (some ((0, true))) else (bif ((Int.tmod (IntKind.i64.wrap ((IntKind.i64.wrap ((IntKind.i64.wrap (x.A + x.B)) + x.C)) + x.D)) 2) != 0) then (some ((1, true))) else (some ((2, true)))))

def F_impl_nextPair_l2 (list : List TRing) (kind : Int) : Nat → (List Int) → Option (List Int) := fun i rows =>
  (((getI list (i : Int)).bind fun x =>
  (F_impl_ResidueType x).bind fun (r_3, r_4) =>
  bif (r_3 == kind) then (chk (rows.length + 1 ≤ 1099511627776) <|
  some (rows ++ [(i : Int)])) else (some rows)) : Option (List Int)).bind fun rows1 =>
  some rows1
def F_impl_nextPair_l1 (list : List TRing) : Int → Option (Ex (Int) (Int × Int × Bool)) := fun kind =>
  bif (decide (kind ≤ 2)) then (chk (list.length ≤ 9223372036854775807) <|
  (forN (F_impl_nextPair_l2 list kind) list.length 0 []).bind fun rows =>
  bif (decide (2 ≤ (rows.length : Int))) then ((getI rows 0).bind fun x1 =>
  (getI rows 1).bind fun x2 =>
  some (.rt (x1, x2, true))) else (some (.nx (IntKind.i64.wrap (kind + 1))))) else (some (.br kind))
def F_impl_nextPair (list : List TRing) : Option (Int × Int × Bool) :=
  (whX (F_impl_nextPair_l1 list) fuel 1).bind <| orR fun kind =>
  some ((0, 0, false))

def F_impl_parities (x : TRing) : Option (Bool × Bool) :=
  some ((((IntKind.i64.wrap ((IntKind.i64.wrap ((IntKind.i64.wrap ((bits .and .i64 x.A 1) + (bits .and .i64 x.B 1))) + (bits .and .i64 x.C 1))) + (bits .and .i64 x.D 1))) == 0), ((IntKind.i64.wrap ((IntKind.i64.wrap ((IntKind.i64.wrap ((bits .and .i64 x.A 1) + (bits .and .i64 x.B 1))) + (bits .and .i64 x.C 1))) + (bits .and .i64 x.D 1))) == 4)))

def F_impl_MatchingPower_l1 (y : TRing) (x : TRing) (r_2 : Int) : Nat → Unit → Option (Ex (Unit) (Int × Bool)) := fun i _ =>
  (F_impl_MulOmega y (i : Int)).bind fun (r_6, r_7) =>
  (F_impl_parities (TRing.mk (IntKind.i64.wrap (x.A + r_6.A)) (IntKind.i64.wrap (x.B + r_6.B)) (IntKind.i64.wrap (x.C + r_6.C)) (IntKind.i64.wrap (x.D + r_6.D)))).bind fun (r_8, r_9) =>
  bif (r_8 || (r_9 && (r_2 == 1))) then (some (.rt ((i : Int), true))) else (some (.nx ()))
def F_impl_MatchingPower (x : TRing) (y : TRing) : Option (Int × Bool) :=
  (F_impl_ResidueType x).bind fun (r_2, r_3) =>
  (F_impl_ResidueType y).bind fun (r_4, r_5) =>
  bif ((((!r_3) || (!r_5)) || (r_2 != r_4)) || (r_2 == 0)) then (some ((0, false))) else ((forX (F_impl_MatchingPower_l1 y x r_2) 8 0 ()).bind <| orR fun _ =>
  some ((0, false)))

def F_impl_lowering_l1 (v_ : TMatrix) (k_ : Int) : Nat → (List TRing) → Option (Ex (List TRing) (TTwoLevel × Bool)) := fun i list =>
  (getI v_.Cells (i : Int)).bind fun x =>
  (F_impl_raised x k_).bind fun (r_2, r_3) =>
  bif (!r_3) then (some (.rt ((TTwoLevel.mk 0 0 0 0), false))) else (chk (list.length + 1 ≤ 1099511627776) <|
  some (.nx (list ++ [r_2])))
def F_impl_lowering (v_ : TMatrix) (k_ : Int) : Option (TTwoLevel × Bool) :=
  chk (v_.Cells.length ≤ 9223372036854775807) <|
  (forX (F_impl_lowering_l1 v_ k_) v_.Cells.length 0 []).bind <| orR fun list =>
  (F_impl_nextPair list).bind fun (r_4, r_5, r_6) =>
  bif (!r_6) then (some (((TTwoLevel.mk 0 0 0 0), false))) else ((getI list r_4).bind fun x1 =>
  (getI list r_5).bind fun x2 =>
  (F_impl_MatchingPower x1 x2).bind fun (r_7, r_8) =>
  some (((TTwoLevel.mk 3 r_4 r_5 r_7), r_8)))

def F_impl_IsValidTwoLevel (n : Int) (t : TTwoLevel) : Option (Bool) :=
  (F_impl_isLevelDim n).bind fun r_1 =>
  (gb (!(!r_1)) false (F_impl_within t.I 0 (IntKind.i64.wrap (n - 1)))).bind fun r_2 =>
  bif ((!r_1) || (!r_2)) then (some (false)) else (bif (t.Kind == 1) then ((gb (t.J == 0) false (F_impl_within t.M_ 1 7)).bind fun r_3 =>
  some (((t.J == 0) && r_3))) else (bif (t.Kind == 2) then ((F_impl_within t.J (IntKind.i64.wrap (t.I + 1)) (IntKind.i64.wrap (n - 1))).bind fun r_4 =>
  some ((r_4 && (t.M_ == 0)))) else (bif (t.Kind == 3) then ((F_impl_within t.J (IntKind.i64.wrap (t.I + 1)) (IntKind.i64.wrap (n - 1))).bind fun r_5 =>
  (gb r_5 false (F_impl_within t.M_ 0 7)).bind fun r_6 =>
  some ((r_5 && r_6))) else (some (false)))))

def F_impl_matrixOf_l2 (cell : Int → Int → Option (TDyadic × Bool)) (i : Nat) : Nat → (List TDyadic) → Option (Ex (List TDyadic) (Ex (List TDyadic) (TMatrix × Bool))) := fun i1 Cells1 =>
  (cell (i : Int) (i1 : Int)).bind fun (r_4, r_5) =>
  bif (!r_5) then (some (.rt (.rt ((TMatrix.mk 0 0 []), false)))) else (chk (Cells1.length + 1 ≤ 1099511627776) <|
  some (.nx (Cells1 ++ [r_4])))
def F_impl_matrixOf_l1 (cols : Int) (cell : Int → Int → Option (TDyadic × Bool)) : Nat → (List TDyadic) → Option (Ex (List TDyadic) (TMatrix × Bool)) := fun i Cells =>
  chk (cols.toNat ≤ 9223372036854775807) <|
  (forX (F_impl_matrixOf_l2 cell i) cols.toNat 0 Cells).bind <| orR fun Cells1 =>
  some (.nx Cells1)
def F_impl_matrixOf (rows : Int) (cols : Int) (cell : Int → Int → Option (TDyadic × Bool)) : Option (TMatrix × Bool) :=
  (F_impl_isDim rows).bind fun r_2 =>
  (gb (!(!r_2)) false (F_impl_isDim cols)).bind fun r_3 =>
  bif ((!r_2) || (!r_3)) then (some (((TMatrix.mk 0 0 []), false))) else (chk (rows.toNat ≤ 9223372036854775807) <|
  (forX (F_impl_matrixOf_l1 cols cell) rows.toNat 0 []).bind <| orR fun Cells =>
  some (((TMatrix.mk rows cols Cells), true)))

def F_impl_small (holds : Bool) : Option (Int) :=
  bif holds then (some (1)) else (some (0))

def F_impl_levelCell (t : TTwoLevel) (i : Int) (j : Int) : Option (TDyadic) :=
  (F_impl_phase t.M_).bind fun r_1 =>
  (F_impl_MulDyadic (TDyadic.mk (TRing.mk 1 0 0 0) 1) r_1).bind fun (r_2, r_3) =>
  (F_impl_phase (IntKind.i64.wrap (t.M_ + 4))).bind fun r_4 =>
  (F_impl_MulDyadic (TDyadic.mk (TRing.mk 1 0 0 0) 1) r_4).bind fun (r_5, r_6) =>
  bif (((t.Kind == 1) && (i == t.I)) && (j == t.I)) then ((F_impl_phase t.M_).bind fun r_7 =>
  some (r_7)) else (bif ((t.Kind == 2) && (((t.Kind != 1) && ((i == t.I) || (i == t.J))) && ((j == t.I) || (j == t.J)))) then ((F_impl_small (i != j)).bind fun r_8 =>
  (F_impl_whole r_8).bind fun r_9 =>
  some (r_9)) else (bif (((t.Kind == 3) && (((t.Kind != 1) && ((i == t.I) || (i == t.J))) && ((j == t.I) || (j == t.J)))) && (j == t.I)) then (some ((TDyadic.mk (TRing.mk 1 0 0 0) 1))) else (bif (((t.Kind == 3) && (((t.Kind != 1) && ((i == t.I) || (i == t.J))) && ((j == t.I) || (j == t.J)))) && (i == t.I)) then (some (r_2)) else (bif ((t.Kind == 3) && (((t.Kind != 1) && ((i == t.I) || (i == t.J))) && ((j == t.I) || (j == t.J)))) then (some (r_5)) else ((F_impl_small (i == j)).bind fun r_10 =>
  (F_impl_whole r_10).bind fun r_11 =>
  some (r_11))))))

def F_impl_TwoLevelMatrix_1 (i : Int) (j : Int) (p : TTwoLevel) : Option (TDyadic × Bool) :=
  (F_impl_levelCell p i j).bind fun r_2 =>
  some ((r_2, true))

def F_impl_TwoLevelMatrix (n : Int) (t : TTwoLevel) : Option (TMatrix × Bool) :=
  (F_impl_IsValidTwoLevel n t).bind fun r_2 =>
  bif (!r_2) then (some (((TMatrix.mk 0 0 []), false))) else ((F_impl_matrixOf n n (fun x_0 x_1 => F_impl_TwoLevelMatrix_1 x_0 x_1 t)).bind fun (r_3, r_4) =>
  some ((r_3, r_4)))

def F_impl_Matrix_at (m : TMatrix) (i : Int) (j : Int) : Option (TDyadic) :=
  (getI m.Cells (IntKind.i64.wrap ((IntKind.i64.wrap (i * m.Cols)) + j))).bind fun x =>
  some (x)

def F_impl_MulMatrix_1_l1 (p : TMatrix) (i : Int) (p1 : TMatrix) (j : Int) : Nat → (Int × Int × Int × Int × Int) → Option (Ex (Int × Int × Int × Int × Int) (TDyadic × Bool)) := fun i1 (A, B4, C, D, Exp) =>
  (F_impl_Matrix_at p i (i1 : Int)).bind fun r_2 =>
  (F_impl_Matrix_at p1 (i1 : Int) j).bind fun r_3 =>
  (F_impl_MulDyadic r_2 r_3).bind fun (r_4, r_5) =>
  (F_impl_AddDyadic (TDyadic.mk (TRing.mk A B4 C D) Exp) r_4).bind fun (r_6, r_7) =>
  bif ((!r_5) || (!r_7)) then (some (.rt ((TDyadic.mk (TRing.mk 0 0 0 0) 0), false))) else (some (.nx (r_6.Num.A, r_6.Num.B, r_6.Num.C, r_6.Num.D, r_6.Exp)))
def F_impl_MulMatrix_1 (i : Int) (j : Int) (p : TMatrix) (p1 : TMatrix) : Option (TDyadic × Bool) :=
  chk (p.Cols.toNat ≤ 9223372036854775807) <|
  (forX (F_impl_MulMatrix_1_l1 p i p1 j) p.Cols.toNat 0 (0, 0, 0, 0, 0)).bind <| orR fun (A, B4, C, D, Exp) =>
  some (((TDyadic.mk (TRing.mk A B4 C D) Exp), true))

def F_impl_MulMatrix (a : TMatrix) (b : TMatrix) : Option (TMatrix × Bool) :=
  (F_impl_IsValidMatrix a).bind fun r_2 =>
  (gb (!(!r_2)) false (F_impl_IsValidMatrix b)).bind fun r_3 =>
  bif (((!r_2) || (!r_3)) || (a.Cols != b.Rows)) then (some (((TMatrix.mk 0 0 []), false))) else ((F_impl_matrixOf a.Rows b.Cols (fun x_0 x_1 => F_impl_MulMatrix_1 x_0 x_1 a b)).bind fun (r_4, r_5) =>
  some ((r_4, r_5)))

def F_impl_ReduceColumn_l1 (from_ : Int) : (Int × Int × List TDyadic × List TTwoLevel) → Option (Ex (Int × Int × List TDyadic × List TTwoLevel) (List TTwoLevel × Bool)) := fun (Rows, Cols, Cells, out) =>
  (F_impl_LeastExp (TMatrix.mk Rows Cols Cells)).bind fun (r_3, r_4) =>
  bif (r_3 == 0) then ((F_impl_finishing (TMatrix.mk Rows Cols Cells) from_).bind fun (r_5, r_6) =>
  bif (!r_6) then (some (.rt ([], false))) else (chk (out.length + r_5.length ≤ 1099511627776) <|
  some (.rt ((out ++ r_5), true)))) else ((F_impl_lowering (TMatrix.mk Rows Cols Cells) r_3).bind fun (r_7, r_8) =>
  bif (!r_8) then (some (.rt ([], false))) else ((F_impl_TwoLevelMatrix Rows r_7).bind fun (r_9, r_10) =>
  (F_impl_MulMatrix r_9 (TMatrix.mk Rows Cols Cells)).bind fun (r_11, r_12) =>
  bif (!r_12) then (some (.rt ([], false))) else (chk (out.length + 1 ≤ 1099511627776) <|
  some (.nx (r_11.Rows, r_11.Cols, r_11.Cells, (out ++ [r_7]))))))
def F_impl_ReduceColumn (v_ : TMatrix) (from_ : Int) : Option (List TTwoLevel × Bool) :=
  (F_impl_isColumn v_ from_).bind fun r_2 =>
  bif (!r_2) then (some (([], false))) else ((whX (F_impl_ReduceColumn_l1 from_) fuel (v_.Rows, v_.Cols, v_.Cells, [])).bind <| orR fun _ => none)

def F_laws_eqTwoLevel (a : TTwoLevel) (b : TTwoLevel) : Option (Bool) :=
  bif (a.Kind != b.Kind) then (some (false)) else (bif (a.I != b.I) then (some (false)) else (bif (a.J != b.J) then (some (false)) else (bif (a.M_ != b.M_) then (some (false)) else (some (true)))))

def F_laws_eqTwoLevelS_l1 (a : List TTwoLevel) (b : List TTwoLevel) : Nat → Unit → Option (Ex (Unit) (Bool)) := fun i1 _ =>
  (getI a (i1 : Int)).bind fun x =>
  (getI b (i1 : Int)).bind fun x1 =>
  (F_laws_eqTwoLevel x x1).bind fun r_1 =>
  bif (!r_1) then (some (.rt false)) else (some (.nx ()))
def F_laws_eqTwoLevelS (a : List TTwoLevel) (b : List TTwoLevel) : Option (Bool) :=
  bif ((a.length : Int) != (b.length : Int)) then (some (false)) else (chk (a.length ≤ 9223372036854775807) <|
  (forX (F_laws_eqTwoLevelS_l1 a b) a.length 0 ()).bind <| orR fun _ =>
  some (true))

def F_laws_eqRing (a : TRing) (b : TRing) : Option (Bool) :=
  bif (a.A != b.A) then (some (false)) else (bif (a.B != b.B) then (some (false)) else (bif (a.C != b.C) then (some (false)) else (bif (a.D != b.D) then (some (false)) else (some (true)))))

def F_laws_eqDyadic (a : TDyadic) (b : TDyadic) : Option (Bool) :=
  (F_laws_eqRing a.Num b.Num).bind fun r_1 =>
  bif (!r_1) then (some (false)) else (bif (a.Exp != b.Exp) then (some (false)) else (some (true)))

def F_laws_eqDyadicS_l1 (a : List TDyadic) (b : List TDyadic) : Nat → Unit → Option (Ex (Unit) (Bool)) := fun i1 _ =>
  (getI a (i1 : Int)).bind fun x =>
  (getI b (i1 : Int)).bind fun x1 =>
  (F_laws_eqDyadic x x1).bind fun r_1 =>
  bif (!r_1) then (some (.rt false)) else (some (.nx ()))
def F_laws_eqDyadicS (a : List TDyadic) (b : List TDyadic) : Option (Bool) :=
  bif ((a.length : Int) != (b.length : Int)) then (some (false)) else (chk (a.length ≤ 9223372036854775807) <|
  (forX (F_laws_eqDyadicS_l1 a b) a.length 0 ()).bind <| orR fun _ =>
  some (true))

def F_laws_eqMatrix (a : TMatrix) (b : TMatrix) : Option (Bool) :=
  bif (a.Rows != b.Rows) then (some (false)) else (bif (a.Cols != b.Cols) then (some (false)) else ((F_laws_eqDyadicS a.Cells b.Cells).bind fun r_1 =>
  bif (!r_1) then (some (false)) else (some (true))))

def F_laws_markDyadicS_l1 : Nat → (List TDyadic × Int) → Option (List TDyadic × Int) := fun i1 (m1, k_1) =>
  (getI m1 (i1 : Int)).bind fun x =>
  some ((((((m1.set (i1 : Int).toNat (TDyadic.mk (TRing.mk k_1 x.Num.B x.Num.C x.Num.D) x.Exp)).set (i1 : Int).toNat (TDyadic.mk (TRing.mk k_1 (IntKind.i64.wrap (k_1 + 1)) x.Num.C x.Num.D) x.Exp)).set (i1 : Int).toNat (TDyadic.mk (TRing.mk k_1 (IntKind.i64.wrap (k_1 + 1)) (IntKind.i64.wrap ((IntKind.i64.wrap (k_1 + 1)) + 1)) x.Num.D) x.Exp)).set (i1 : Int).toNat (TDyadic.mk (TRing.mk k_1 (IntKind.i64.wrap (k_1 + 1)) (IntKind.i64.wrap ((IntKind.i64.wrap (k_1 + 1)) + 1)) (IntKind.i64.wrap ((IntKind.i64.wrap ((IntKind.i64.wrap (k_1 + 1)) + 1)) + 1))) x.Exp)).set (i1 : Int).toNat (TDyadic.mk (TRing.mk k_1 (IntKind.i64.wrap (k_1 + 1)) (IntKind.i64.wrap ((IntKind.i64.wrap (k_1 + 1)) + 1)) (IntKind.i64.wrap ((IntKind.i64.wrap ((IntKind.i64.wrap (k_1 + 1)) + 1)) + 1))) (IntKind.i64.wrap ((IntKind.i64.wrap ((IntKind.i64.wrap ((IntKind.i64.wrap (k_1 + 1)) + 1)) + 1)) + 1)))), (IntKind.i64.wrap ((IntKind.i64.wrap ((IntKind.i64.wrap ((IntKind.i64.wrap ((IntKind.i64.wrap (k_1 + 1)) + 1)) + 1)) + 1)) + 1)))
def F_laws_markDyadicS (a : List TDyadic) (k_ : Int) : Option (Int × List TDyadic) :=
  chk (a.length ≤ 9223372036854775807) <|
  (forN F_laws_markDyadicS_l1 a.length 0 (a, k_)).bind fun (m1, k_1) =>
  some ((k_1, m1))

def F_laws_markMatrix (a : TMatrix) (k_ : Int) : Option (Int × List TDyadic) :=
  (F_laws_markDyadicS a.Cells k_).bind fun (r_1, m1) =>
  some ((r_1, m1))

def F_laws_markTwoLevelS_l1 : Nat → (List TTwoLevel × Int) → Option (List TTwoLevel × Int) := fun i1 (m1, k_1) =>
  (getI m1 (i1 : Int)).bind fun x =>
  some (((((m1.set (i1 : Int).toNat (TTwoLevel.mk k_1 x.I x.J x.M_)).set (i1 : Int).toNat (TTwoLevel.mk k_1 (IntKind.i64.wrap (k_1 + 1)) x.J x.M_)).set (i1 : Int).toNat (TTwoLevel.mk k_1 (IntKind.i64.wrap (k_1 + 1)) (IntKind.i64.wrap ((IntKind.i64.wrap (k_1 + 1)) + 1)) x.M_)).set (i1 : Int).toNat (TTwoLevel.mk k_1 (IntKind.i64.wrap (k_1 + 1)) (IntKind.i64.wrap ((IntKind.i64.wrap (k_1 + 1)) + 1)) (IntKind.i64.wrap ((IntKind.i64.wrap ((IntKind.i64.wrap (k_1 + 1)) + 1)) + 1)))), (IntKind.i64.wrap ((IntKind.i64.wrap ((IntKind.i64.wrap ((IntKind.i64.wrap (k_1 + 1)) + 1)) + 1)) + 1)))
def F_laws_markTwoLevelS (a : List TTwoLevel) (k_ : Int) : Option (Int × List TTwoLevel) :=
  chk (a.length ≤ 9223372036854775807) <|
  (forN F_laws_markTwoLevelS_l1 a.length 0 (a, k_)).bind fun (m1, k_1) =>
  some ((k_1, m1))

def F_laws_heldTwoLevelS_l1 (a : List TTwoLevel) : Nat → Int → Option (Ex (Int) (Int)) := fun i1 k_1 =>
  (getI a (i1 : Int)).bind fun x =>
  bif (x.Kind != k_1) then (some (.rt (-1))) else (bif (x.I != (IntKind.i64.wrap (k_1 + 1))) then (some (.rt (-1))) else (bif (x.J != (IntKind.i64.wrap ((IntKind.i64.wrap (k_1 + 1)) + 1))) then (some (.rt (-1))) else (bif (x.M_ != (IntKind.i64.wrap ((IntKind.i64.wrap ((IntKind.i64.wrap (k_1 + 1)) + 1)) + 1))) then (some (.rt (-1))) else (some (.nx (IntKind.i64.wrap ((IntKind.i64.wrap ((IntKind.i64.wrap ((IntKind.i64.wrap (k_1 + 1)) + 1)) + 1)) + 1)))))))
def F_laws_heldTwoLevelS (a : List TTwoLevel) (k_ : Int) : Option (Int) :=
  chk (a.length ≤ 9223372036854775807) <|
  (forX (F_laws_heldTwoLevelS_l1 a) a.length 0 k_).bind <| orR fun k_1 =>
  some (k_1)

def F_laws_FnExactReduceColumn (aV : TMatrix) (aFrom : Int) : Option (Bool) :=
  (F_laws_szMatrix aV 1048576).bind fun r_1 =>
  bif (decide (r_1 < 0)) then (some (true)) else ((F_laws_toMatrix aV).bind fun r_2 =>
  (F_spec_ReduceColumn r_2 aFrom).bind fun (r_3, r_4) =>
  (F_laws_toMatrix aV).bind fun r_5 =>
  (F_impl_ReduceColumn r_5 aFrom).bind fun (r_6, r_7) =>
  (F_laws_eqTwoLevelS r_6 r_3).bind fun r_8 =>
  bif ((!r_8) || (!(r_7 == r_4))) then (some (false)) else ((F_laws_toMatrix aV).bind fun r_9 =>
  (F_laws_eqMatrix r_5 r_9).bind fun r_10 =>
  bif (!r_10) then (some (false)) else ((F_laws_markMatrix r_5 1).bind fun (r_11, m) =>
  (gb (!(decide (r_11 < 0))) false (F_laws_eqTwoLevelS r_6 r_3)).bind fun r_12 =>
  bif (((decide (r_11 < 0)) || (!r_12)) || (!(r_7 == r_4))) then (some (false)) else ((F_laws_markTwoLevelS r_6 1).bind fun (r_13, m1) =>
  (F_laws_heldTwoLevelS m1 1).bind fun r_14 =>
  bif (decide (r_14 < 0)) then (some (false)) else (bif (r_14 != r_13) then (some (false)) else ((F_laws_toMatrix aV).bind fun r_15 =>
  (F_impl_ReduceColumn r_15 aFrom).bind fun (r_16, r_17) =>
  (F_laws_eqTwoLevelS r_16 r_3).bind fun r_18 =>
  bif ((!r_18) || (!(r_17 == r_4))) then (some (false)) else ((F_laws_heldTwoLevelS m1 1).bind fun r_19 =>
  bif (decide (r_19 < 0)) then (some (false)) else (bif (r_19 != r_13) then (some (false)) else (some (true))))))))))
end Go.VK
