/- What each Go function computes, by program. -/
import Derived.Test.YthmigddkloimaaaGreatDoorLOneFormTy
set_option linter.unusedVariables false
namespace Go.VK
open Go.RowKit
def F_impl_within (n : Int) (low : Int) (high : Int) : Option (Bool) :=
  some (((decide (low ≤ n)) && (decide (n ≤ high))))

def F_impl_IsValidForm_l1 (f_ : TNormalForm) : Nat → Unit → Option (Ex (Unit) (Bool)) := fun i1 _ =>
  (getI f_.Syllables (i1 : Int)).bind fun x =>
  bif ((((x.toNat : Int) != 72) && ((x.toNat : Int) != 83)) && (((x.toNat : Int) != 84) || (decide (0 < (i1 : Int))))) then (some (.rt false)) else (some (.nx ()))
def F_impl_IsValidForm (f_ : TNormalForm) : Option (Bool) :=
  chk (f_.Syllables.length ≤ 9223372036854775807) <|
  (forX (F_impl_IsValidForm_l1 f_) f_.Syllables.length 0 ()).bind <| orR fun _ =>
  (gb (decide ((f_.Syllables.length : Int) ≤ 40)) false (F_impl_within f_.Clifford 0 23)).bind fun r_1 =>
  (gb ((decide ((f_.Syllables.length : Int) ≤ 40)) && r_1) false (F_impl_within f_.Phase 0 7)).bind fun r_2 =>
  some ((((decide ((f_.Syllables.length : Int) ≤ 40)) && r_1) && r_2))

def F_slices_IndexFunc_impl_Gate_impl_Gate_l1 (s : List TGate) (f_ : TGate → Option (Bool)) : Nat → Unit → Option (Ex (Unit) (Int)) := fun i _ =>
  (getI s (i : Int)).bind fun x1 =>
  (f_ x1).bind fun r_1 =>
  bif r_1 then (some (.rt (i : Int))) else (some (.nx ()))
def F_slices_IndexFunc_impl_Gate_impl_Gate (s : List TGate) (f_ : TGate → Option (Bool)) : Option (Int) :=
  chk (s.length ≤ 9223372036854775807) <|
  (forX (F_slices_IndexFunc_impl_Gate_impl_Gate_l1 s f_) s.length 0 ()).bind <| orR fun _ =>
  some ((-1))

def F_slices_ContainsFunc_impl_Gate_impl_Gate (s : List TGate) (f_ : TGate → Option (Bool)) : Option (Bool) :=
  (F_slices_IndexFunc_impl_Gate_impl_Gate s f_).bind fun r_1 =>
  some ((decide (0 ≤ r_1)))

def F_impl_isTwo (kind : Int) : Option (Bool) :=
  (F_impl_within kind 9 11).bind fun r_1 =>
  some (r_1)

def F_impl_IsValidGate (n : Int) (g : TGate) : Option (Bool) :=
  (F_impl_within n 1 5).bind fun r_1 =>
  (gb (!(!r_1)) false (F_impl_within g.Kind 1 12)).bind fun r_2 =>
  bif ((!r_1) || (!r_2)) then (some (false)) else (bif (g.Kind == 12) then (some (((g.A == 0) && (g.B == 0)))) else ((F_impl_isTwo g.Kind).bind fun r_3 =>
  bif r_3 then ((F_impl_within g.A 0 (IntKind.i64.wrap (n - 1))).bind fun r_4 =>
  (gb r_4 false (F_impl_within g.B 0 (IntKind.i64.wrap (n - 1)))).bind fun r_5 =>
  some (((r_4 && r_5) && (g.A != g.B)))) else ((F_impl_within g.A 0 (IntKind.i64.wrap (n - 1))).bind fun r_6 =>
  some ((r_6 && (g.B == 0))))))

def F_impl_IsValidCircuit_1 (g : TGate) (p : TCircuit) : Option (Bool) :=
  (F_impl_IsValidGate p.Qubits g).bind fun r_1 =>
  some ((!r_1))

def F_impl_IsValidCircuit (c : TCircuit) : Option (Bool) :=
  (F_impl_within c.Qubits 1 5).bind fun r_1 =>
  (gb (r_1 && (decide ((c.Gates.length : Int) ≤ 400))) false (F_slices_ContainsFunc_impl_Gate_impl_Gate c.Gates (fun x_0 => F_impl_IsValidCircuit_1 x_0 c))).bind fun r_2 =>
  some (((r_1 && (decide ((c.Gates.length : Int) ≤ 400))) && (!r_2)))

def F_impl_isDim (n : Int) : Option (Bool) :=
  (F_impl_within n 1 32).bind fun r_1 =>
  some ((r_1 && ((bits .and .i64 n (IntKind.i64.wrap (n - 1))) == 0)))

def F_impl_matrixOf_l2 (cell : Int → Int → Option (TDyadic × Bool)) (i : Nat) : Nat → (List TDyadic) → Option (Ex (List TDyadic) (Ex (List TDyadic) (TMatrix × Bool))) := fun i1 Cells1 =>
  (cell (i : Int) (i1 : Int)).bind fun (r_4, r_5) =>
  bif (!r_5) then (some (.rt (.rt ((TMatrix.mk 0 0 []), false)))) else (chk (Cells1.length + 1 ≤ 1099511627776) <|
  some (.nx (Cells1 ++ [r_4])))
def F_impl_matrixOf_l1 (cols : Int) (cell : Int → Int → Option (TDyadic × Bool)) : Nat → (List TDyadic) → Option (Ex (List TDyadic) (TMatrix × Bool)) := fun i Cells =>
  chk (cols.toNat ≤ 9223372036854775807) <|
  (forX (F_impl_matrixOf_l2 cell i) cols.toNat 0 Cells).bind <| orR fun Cells1 =>
  some (.nx Cells1)
def F_impl_matrixOf (rows : Int) (cols : Int) (cell : Int → Int → Option (TDyadic × Bool)) : Option (TMatrix × Bool) :=
  (F_impl_isDim rows).bind fun r_2 =>
  (gb (!(!r_2)) false (F_impl_isDim cols)).bind fun r_3 =>
  bif ((!r_2) || (!r_3)) then (some (((TMatrix.mk 0 0 []), false))) else (chk (rows.toNat ≤ 9223372036854775807) <|
  (forX (F_impl_matrixOf_l1 cols cell) rows.toNat 0 []).bind <| orR fun Cells =>
  some (((TMatrix.mk rows cols Cells), true)))

def F_impl_whole (n : Int) : Option (TDyadic) :=
  some ((TDyadic.mk (TRing.mk n 0 0 0) 0))

def F_impl_IdentityMatrix_1 (i : Int) (j : Int) : Option (TDyadic × Bool) :=
  bif (i == j) then ((F_impl_whole 1).bind fun r_2 =>
  some ((r_2, true))) else (some (((TDyadic.mk (TRing.mk 0 0 0 0) 0), true)))

def F_impl_IdentityMatrix (n : Int) : Option (TMatrix × Bool) :=
  (F_impl_matrixOf n n F_impl_IdentityMatrix_1).bind fun (r_2, r_3) =>
  some ((r_2, r_3))

def F_impl_isCoef (n : Int) : Option (Bool) :=
  (F_impl_within n (-1000000000) 1000000000).bind fun r_1 =>
  some (r_1)

def F_impl_IsValidRing (x : TRing) : Option (Bool) :=
  (F_impl_isCoef x.A).bind fun r_1 =>
  (gb r_1 false (F_impl_isCoef x.B)).bind fun r_2 =>
  (gb (r_1 && r_2) false (F_impl_isCoef x.C)).bind fun r_3 =>
  (gb ((r_1 && r_2) && r_3) false (F_impl_isCoef x.D)).bind fun r_4 =>
  some ((((r_1 && r_2) && r_3) && r_4))

def F_impl_MulOmega_l1 : Nat → (Int × Int × Int × Int) → Option (Int × Int × Int × Int) := fun i (A, B, C, D) =>
  some ((IntKind.i64.wrap (-D)), A, B, C)
def F_impl_MulOmega (x : TRing) (k_ : Int) : Option (TRing × Bool) :=
  (F_impl_within k_ (-1000) 1000).bind fun r_2 =>
  (gb (!(!r_2)) false (F_impl_IsValidRing x)).bind fun r_3 =>
  bif ((!r_2) || (!r_3)) then (some (((TRing.mk 0 0 0 0), false))) else (chk (((Int.tmod (IntKind.i64.wrap ((Int.tmod k_ 8) + 8)) 8).toNat) ≤ 9223372036854775807) <|
  (forN F_impl_MulOmega_l1 ((Int.tmod (IntKind.i64.wrap ((Int.tmod k_ 8) + 8)) 8).toNat) 0 (x.A, x.B, x.C, x.D)).bind fun (A, B, C, D) =>
  some (((TRing.mk A B C D), true)))

def F_impl_phase (k_ : Int) : Option (TDyadic) :=
  (F_impl_MulOmega (TRing.mk 1 0 0 0) k_).bind fun (r_1, r_2) =>
  some ((TDyadic.mk r_1 0))

def F_impl_small (holds : Bool) : Option (Int) :=
  bif holds then (some (1)) else (some (0))

def F_impl_bitOf (n : Int) (state : Int) (q : Int) : Option (Int) :=
  chk ((0 : Int) ≤ (IntKind.i64.wrap ((IntKind.i64.wrap (n - 1)) - q))) <|
  some ((bits .and .i64 (shrK .i64 state (IntKind.i64.wrap ((IntKind.i64.wrap (n - 1)) - q))) 1))

def F_impl_flipped (n : Int) (state : Int) (q : Int) : Option (Int) :=
  chk ((0 : Int) ≤ (IntKind.i64.wrap ((IntKind.i64.wrap (n - 1)) - q))) <|
  some ((bits .xor .i64 state (shlK .i64 1 (IntKind.i64.wrap ((IntKind.i64.wrap (n - 1)) - q)))))

def F_impl_comesFrom (n : Int) (g : TGate) (state : Int) : Option (Int) :=
  (F_impl_bitOf n state g.A).bind fun r_1 =>
  (F_impl_bitOf n state g.B).bind fun r_2 =>
  bif ((g.Kind == 9) && (r_1 == 1)) then ((F_impl_flipped n state g.B).bind fun r_3 =>
  some (r_3)) else (bif ((g.Kind == 11) && (r_1 != r_2)) then ((F_impl_flipped n state g.A).bind fun r_4 =>
  (F_impl_flipped n r_4 g.B).bind fun r_5 =>
  some (r_5)) else (some (state)))

def F_impl_entry (kind : Int) (i : Int) (j : Int) : Option (TDyadic) :=
  bif (kind == 1) then (((bif ((i == 1) && (j == 1)) then (some (-1)) else (some 1)) : Option (Int)).bind fun A =>
  some ((TDyadic.mk (TRing.mk A 0 0 0) 1))) else (bif ((kind == 2) && (i != j)) then ((F_impl_whole 1).bind fun r_1 =>
  some (r_1)) else (bif ((kind == 3) && (i != j)) then ((F_impl_phase (IntKind.i64.wrap (2 + (IntKind.i64.wrap (4 * j))))).bind fun r_2 =>
  some (r_2)) else (bif (((kind == 2) || (kind == 3)) || (i != j)) then (some ((TDyadic.mk (TRing.mk 0 0 0 0) 0))) else (bif (i == 0) then ((F_impl_whole 1).bind fun r_3 =>
  some (r_3)) else ((F_impl_phase (mget [(4, 4), (5, 2), (6, 6), (7, 1), (8, 7)] kind)).bind fun r_4 =>
  some (r_4))))))

def F_impl_GateMatrix_1 (i : Int) (j : Int) (p : TGate) (p1 : Int) : Option (TDyadic × Bool) :=
  ((bif (p.Kind == 12) then (bif (i == j) then ((F_impl_phase 1).bind fun r_2 =>
  some (.inr (r_2, true))) else (some (.inl ()))) else ((F_impl_isTwo p.Kind).bind fun r_3 =>
  bif r_3 then ((F_impl_comesFrom p1 p i).bind fun r_4 =>
  bif (r_4 == j) then ((gb (p.Kind == 10) 0 (F_impl_bitOf p1 i p.A)).bind fun r_5 =>
  (gb ((p.Kind == 10) && (r_5 == 1)) 0 (F_impl_bitOf p1 i p.B)).bind fun r_6 =>
  (F_impl_small (((p.Kind == 10) && (r_5 == 1)) && (r_6 == 1))).bind fun r_7 =>
  (F_impl_phase (IntKind.i64.wrap (4 * r_7))).bind fun r_8 =>
  some (.inr (r_8, true))) else (some (.inl ()))) else ((gb (!(i == j)) 0 (F_impl_flipped p1 i p.A)).bind fun r_9 =>
  bif ((i == j) || (r_9 == j)) then ((F_impl_bitOf p1 i p.A).bind fun r_10 =>
  (F_impl_bitOf p1 j p.A).bind fun r_11 =>
  (F_impl_entry p.Kind r_10 r_11).bind fun r_12 =>
  some (.inr (r_12, true))) else (some (.inl ()))))) : Option ((Unit) ⊕ (TDyadic × Bool))).bind <| orR fun _ =>
  some (((TDyadic.mk (TRing.mk 0 0 0 0) 0), true))

def F_impl_GateMatrix (n : Int) (g : TGate) : Option (TMatrix × Bool) :=
  (F_impl_IsValidGate n g).bind fun r_2 =>
  bif (!r_2) then (some (((TMatrix.mk 0 0 []), false))) else (chk ((0 : Int) ≤ n) <|
  chk ((0 : Int) ≤ n) <|
  (F_impl_matrixOf (shlK .i64 1 n) (shlK .i64 1 n) (fun x_0 x_1 => F_impl_GateMatrix_1 x_0 x_1 g n)).bind fun (r_3, r_4) =>
  some ((r_3, r_4)))

def F_slices_IndexFunc_impl_Dyadic_impl_Dyadic_l1 (s : List TDyadic) (f_ : TDyadic → Option (Bool)) : Nat → Unit → Option (Ex (Unit) (Int)) := fun i _ =>
  (getI s (i : Int)).bind fun x1 =>
  (f_ x1).bind fun r_1 =>
  bif r_1 then (some (.rt (i : Int))) else (some (.nx ()))
def F_slices_IndexFunc_impl_Dyadic_impl_Dyadic (s : List TDyadic) (f_ : TDyadic → Option (Bool)) : Option (Int) :=
  chk (s.length ≤ 9223372036854775807) <|
  (forX (F_slices_IndexFunc_impl_Dyadic_impl_Dyadic_l1 s f_) s.length 0 ()).bind <| orR fun _ =>
  some ((-1))

def F_slices_ContainsFunc_impl_Dyadic_impl_Dyadic (s : List TDyadic) (f_ : TDyadic → Option (Bool)) : Option (Bool) :=
  (F_slices_IndexFunc_impl_Dyadic_impl_Dyadic s f_).bind fun r_1 =>
  some ((decide (0 ≤ r_1)))

def F_impl_isEven (x : TRing) : Option (Bool) :=
  some ((((Int.tmod (IntKind.i64.wrap (x.A + x.C)) 2) == 0) && ((Int.tmod (IntKind.i64.wrap (x.B + x.D)) 2) == 0)))

def F_impl_IsValidDyadic (x : TDyadic) : Option (Bool) :=
  (F_impl_IsValidRing x.Num).bind fun r_1 =>
  (gb r_1 false (F_impl_within x.Exp 0 60)).bind fun r_2 =>
  (gb ((r_1 && r_2) && (!(x.Exp == 0))) false (F_impl_isEven x.Num)).bind fun r_3 =>
  some (((r_1 && r_2) && ((x.Exp == 0) || (!r_3))))

def F_impl_IsValidMatrix_1 (x : TDyadic) : Option (Bool) :=
  (F_impl_IsValidDyadic x).bind fun r_1 =>
  some ((!r_1))

def F_impl_IsValidMatrix (m : TMatrix) : Option (Bool) :=
  (F_impl_isDim m.Rows).bind fun r_1 =>
  (gb r_1 false (F_impl_isDim m.Cols)).bind fun r_2 =>
  (gb ((r_1 && r_2) && ((m.Cells.length : Int) == (IntKind.i64.wrap (m.Rows * m.Cols)))) false (F_slices_ContainsFunc_impl_Dyadic_impl_Dyadic m.Cells F_impl_IsValidMatrix_1)).bind fun r_3 =>
  some ((((r_1 && r_2) && ((m.Cells.length : Int) == (IntKind.i64.wrap (m.Rows * m.Cols)))) && (!r_3)))

def F_impl_ringIf_l1 (args : List TRing) (out : TRing) : Nat → Unit → Option (Ex (Unit) (TRing × Bool)) := fun i _ =>
  (getI (args ++ [out]) (i : Int)).bind fun x =>
  (F_impl_IsValidRing x).bind fun r_2 =>
  bif (!r_2) then (some (.rt ((TRing.mk 0 0 0 0), false))) else (some (.nx ()))
def F_impl_ringIf (out : TRing) (args : List TRing) : Option (TRing × Bool) :=
  chk (args.length + 1 ≤ 1099511627776) <|
  chk (((args ++ [out]).length) ≤ 9223372036854775807) <|
  (forX (F_impl_ringIf_l1 args out) ((args ++ [out]).length) 0 ()).bind <| orR fun _ =>
  some ((out, true))

def F_impl_MulRing (x : TRing) (y : TRing) : Option (TRing × Bool) :=
  (F_impl_ringIf (TRing.mk (IntKind.i64.wrap ((IntKind.i64.wrap ((IntKind.i64.wrap ((IntKind.i64.wrap (x.A * y.A)) - (IntKind.i64.wrap (x.B * y.D)))) - (IntKind.i64.wrap (x.C * y.C)))) - (IntKind.i64.wrap (x.D * y.B)))) (IntKind.i64.wrap ((IntKind.i64.wrap ((IntKind.i64.wrap ((IntKind.i64.wrap (x.A * y.B)) + (IntKind.i64.wrap (x.B * y.A)))) - (IntKind.i64.wrap (x.C * y.D)))) - (IntKind.i64.wrap (x.D * y.C)))) (IntKind.i64.wrap ((IntKind.i64.wrap ((IntKind.i64.wrap ((IntKind.i64.wrap (x.A * y.C)) + (IntKind.i64.wrap (x.B * y.B)))) + (IntKind.i64.wrap (x.C * y.A)))) - (IntKind.i64.wrap (x.D * y.D)))) (IntKind.i64.wrap ((IntKind.i64.wrap ((IntKind.i64.wrap ((IntKind.i64.wrap (x.A * y.D)) + (IntKind.i64.wrap (x.B * y.C)))) + (IntKind.i64.wrap (x.C * y.B)))) + (IntKind.i64.wrap (x.D * y.A))))) [x, y]).bind fun (r_2, r_3) =>
  some ((r_2, r_3))

def F_impl_DivRootTwo (x : TRing) : Option (TRing × Bool) :=
  (F_impl_IsValidRing x).bind fun r_2 =>
  (gb (!(!r_2)) false (F_impl_isEven x)).bind fun r_3 =>
  bif ((!r_2) || (!r_3)) then (some (((TRing.mk 0 0 0 0), false))) else ((F_impl_ringIf (TRing.mk (IntKind.i64.wrap (Int.tdiv (IntKind.i64.wrap (x.B - x.D)) 2)) (IntKind.i64.wrap (Int.tdiv (IntKind.i64.wrap (x.A + x.C)) 2)) (IntKind.i64.wrap (Int.tdiv (IntKind.i64.wrap (x.B + x.D)) 2)) (IntKind.i64.wrap (Int.tdiv (IntKind.i64.wrap (x.C - x.A)) 2))) [x]).bind fun (r_4, r_5) =>
  some ((r_4, r_5)))

def F_impl_DyadicOf_l1 : (Int × Int × Int × Int × Int) → Option (Ex (Int × Int × Int × Int × Int) (TDyadic × Bool)) := fun (exp1, A, B, C, D) =>
  (gb (decide (0 < exp1)) false (F_impl_isEven (TRing.mk A B C D))).bind fun r_4 =>
  bif ((decide (0 < exp1)) && r_4) then ((F_impl_DivRootTwo (TRing.mk A B C D)).bind fun (r_5, r_6) =>
  some (.nx ((IntKind.i64.wrap (exp1 - 1)), r_5.A, r_5.B, r_5.C, r_5.D))) else (some (.br (exp1, A, B, C, D)))
def F_impl_DyadicOf (num : TRing) (exp : Int) : Option (TDyadic × Bool) :=
  (F_impl_IsValidRing num).bind fun r_2 =>
  (gb (!(!r_2)) false (F_impl_within exp 0 60)).bind fun r_3 =>
  bif ((!r_2) || (!r_3)) then (some (((TDyadic.mk (TRing.mk 0 0 0 0) 0), false))) else ((whX F_impl_DyadicOf_l1 fuel (exp, num.A, num.B, num.C, num.D)).bind <| orR fun (exp1, A, B, C, D) =>
  some (((TDyadic.mk (TRing.mk A B C D) exp1), true)))

def F_impl_MulDyadic (x : TDyadic) (y : TDyadic) : Option (TDyadic × Bool) :=
  (F_impl_MulRing x.Num y.Num).bind fun (r_2, r_3) =>
  (F_impl_IsValidDyadic x).bind fun r_4 =>
  (gb (!(!r_4)) false (F_impl_IsValidDyadic y)).bind fun r_5 =>
  bif (((!r_4) || (!r_5)) || (!r_3)) then (some (((TDyadic.mk (TRing.mk 0 0 0 0) 0), false))) else ((F_impl_DyadicOf r_2 (IntKind.i64.wrap (x.Exp + y.Exp))).bind fun (r_6, r_7) =>
  some ((r_6, r_7)))

def F_impl_Matrix_at (m : TMatrix) (i : Int) (j : Int) : Option (TDyadic) :=
  (getI m.Cells (IntKind.i64.wrap ((IntKind.i64.wrap (i * m.Cols)) + j))).bind fun x =>
  some (x)

def F_impl_MulRootTwo (x : TRing) : Option (TRing × Bool) :=
  (F_impl_ringIf (TRing.mk (IntKind.i64.wrap (x.B - x.D)) (IntKind.i64.wrap (x.A + x.C)) (IntKind.i64.wrap (x.B + x.D)) (IntKind.i64.wrap (x.C - x.A))) [x]).bind fun (r_2, r_3) =>
  some ((r_2, r_3))

def F_impl_raised_l1 (exp : Int) : (Int × Int × Int × Int × Bool × Int) → Option (Ex (Int × Int × Int × Int × Bool × Int) (TRing × Bool)) := fun (A, B, C, D, ok, k_) =>
  bif ((decide (k_ < exp)) && ok) then ((F_impl_MulRootTwo (TRing.mk A B C D)).bind fun (r_2, r_3) =>
  some (.nx (r_2.A, r_2.B, r_2.C, r_2.D, r_3, (IntKind.i64.wrap (k_ + 1))))) else (some (.br (A, B, C, D, ok, k_)))
def F_impl_raised (x : TDyadic) (exp : Int) : Option (TRing × Bool) :=
  (whX (F_impl_raised_l1 exp) fuel (x.Num.A, x.Num.B, x.Num.C, x.Num.D, true, x.Exp)).bind <| orR fun (A, B, C, D, ok, k_) =>
  some (((TRing.mk A B C D), ok))

def F_impl_combined (x : TDyadic) (y : TDyadic) (operation : TRing → TRing → Option (TRing × Bool)) : Option (TDyadic × Bool) :=
  (F_impl_IsValidDyadic x).bind fun r_2 =>
  (gb (!(!r_2)) false (F_impl_IsValidDyadic y)).bind fun r_3 =>
  bif ((!r_2) || (!r_3)) then (some (((TDyadic.mk (TRing.mk 0 0 0 0) 0), false))) else ((F_impl_raised x (if x.Exp < y.Exp then y.Exp else x.Exp)).bind fun (r_4, r_5) =>
  (F_impl_raised y (if x.Exp < y.Exp then y.Exp else x.Exp)).bind fun (r_6, r_7) =>
  (operation r_4 r_6).bind fun (r_8, r_9) =>
  bif (((!r_5) || (!r_7)) || (!r_9)) then (some (((TDyadic.mk (TRing.mk 0 0 0 0) 0), false))) else ((F_impl_DyadicOf r_8 (if x.Exp < y.Exp then y.Exp else x.Exp)).bind fun (r_10, r_11) =>
  some ((r_10, r_11))))

def F_impl_AddRing (x : TRing) (y : TRing) : Option (TRing × Bool) :=
  (F_impl_ringIf (TRing.mk (IntKind.i64.wrap (x.A + y.A)) (IntKind.i64.wrap (x.B + y.B)) (IntKind.i64.wrap (x.C + y.C)) (IntKind.i64.wrap (x.D + y.D))) [x, y]).bind fun (r_2, r_3) =>
  some ((r_2, r_3))

def F_impl_AddDyadic (x : TDyadic) (y : TDyadic) : Option (TDyadic × Bool) :=
  (F_impl_combined x y F_impl_AddRing).bind fun (r_2, r_3) =>
  some ((r_2, r_3))

def F_impl_MulMatrix_1_l1 (p : TMatrix) (i : Int) (p1 : TMatrix) (j : Int) : Nat → (Int × Int × Int × Int × Int) → Option (Ex (Int × Int × Int × Int × Int) (TDyadic × Bool)) := fun i1 (A, B4, C, D, Exp) =>
  (F_impl_Matrix_at p i (i1 : Int)).bind fun r_2 =>
  (F_impl_Matrix_at p1 (i1 : Int) j).bind fun r_3 =>
  (F_impl_MulDyadic r_2 r_3).bind fun (r_4, r_5) =>
  (F_impl_AddDyadic (TDyadic.mk (TRing.mk A B4 C D) Exp) r_4).bind fun (r_6, r_7) =>
  bif ((!r_5) || (!r_7)) then (some (.rt ((TDyadic.mk (TRing.mk 0 0 0 0) 0), false))) else (some (.nx (r_6.Num.A, r_6.Num.B, r_6.Num.C, r_6.Num.D, r_6.Exp)))
def F_impl_MulMatrix_1 (i : Int) (j : Int) (p : TMatrix) (p1 : TMatrix) : Option (TDyadic × Bool) :=
  chk (p.Cols.toNat ≤ 9223372036854775807) <|
  (forX (F_impl_MulMatrix_1_l1 p i p1 j) p.Cols.toNat 0 (0, 0, 0, 0, 0)).bind <| orR fun (A, B4, C, D, Exp) =>
  some (((TDyadic.mk (TRing.mk A B4 C D) Exp), true))

def F_impl_MulMatrix (a : TMatrix) (b : TMatrix) : Option (TMatrix × Bool) :=
  (F_impl_IsValidMatrix a).bind fun r_2 =>
  (gb (!(!r_2)) false (F_impl_IsValidMatrix b)).bind fun r_3 =>
  bif (((!r_2) || (!r_3)) || (a.Cols != b.Rows)) then (some (((TMatrix.mk 0 0 []), false))) else ((F_impl_matrixOf a.Rows b.Cols (fun x_0 x_1 => F_impl_MulMatrix_1 x_0 x_1 a b)).bind fun (r_4, r_5) =>
  some ((r_4, r_5)))

def F_impl_applied_l1 (c : TCircuit) : (Bool × Int × Int × List TDyadic × Int) → Option (Ex (Bool × Int × Int × List TDyadic × Int) (TMatrix × Bool)) := fun (ok1, Rows, Cols, Cells, i) =>
  bif ((decide (i < (c.Gates.length : Int))) && ok1) then ((getI c.Gates i).bind fun x =>
  (F_impl_GateMatrix c.Qubits x).bind fun (r_2, r_3) =>
  (F_impl_MulMatrix r_2 (TMatrix.mk Rows Cols Cells)).bind fun (r_4, r_5) =>
  some (.nx (r_5, r_4.Rows, r_4.Cols, r_4.Cells, (IntKind.i64.wrap (i + 1))))) else (some (.br (ok1, Rows, Cols, Cells, i)))
def F_impl_applied (c : TCircuit) (m : TMatrix) (ok : Bool) : Option (TMatrix × Bool) :=
  (whX (F_impl_applied_l1 c) fuel (ok, m.Rows, m.Cols, m.Cells, 0)).bind <| orR fun (ok1, Rows, Cols, Cells, i) =>
  some (((TMatrix.mk Rows Cols Cells), ok1))

def F_impl_OperatorOf (c : TCircuit) : Option (TMatrix × Bool) :=
  (F_impl_IsValidCircuit c).bind fun r_2 =>
  bif (!r_2) then (some (((TMatrix.mk 0 0 []), false))) else (chk ((0 : Int) ≤ c.Qubits) <|
  (F_impl_IdentityMatrix (shlK .i64 1 c.Qubits)).bind fun (r_3, r_4) =>
  (F_impl_applied c r_3 r_4).bind fun (r_5, r_6) =>
  some ((r_5, r_6)))

def F_impl_mulBloch_l3 (a : List TDyadic) (i : Nat) (b : List TDyadic) (i1 : Nat) : Nat → (Int × Int × Int × Int × Int) → Option (Ex (Int × Int × Int × Int × Int) (Ex (List TDyadic) (Ex (List TDyadic) (List TDyadic × Bool)))) := fun i2 (A, B5, C, D, Exp) =>
  (getI a (IntKind.i64.wrap ((IntKind.i64.wrap (3 * (i : Int))) + (i2 : Int)))).bind fun x =>
  (getI b (IntKind.i64.wrap ((IntKind.i64.wrap (3 * (i2 : Int))) + (i1 : Int)))).bind fun x1 =>
  (F_impl_MulDyadic x x1).bind fun (r_2, r_3) =>
  (F_impl_AddDyadic (TDyadic.mk (TRing.mk A B5 C D) Exp) r_2).bind fun (r_4, r_5) =>
  bif ((!r_3) || (!r_5)) then (some (.rt (.rt (.rt ([], false))))) else (some (.nx (r_4.Num.A, r_4.Num.B, r_4.Num.C, r_4.Num.D, r_4.Exp)))
def F_impl_mulBloch_l2 (a : List TDyadic) (i : Nat) (b : List TDyadic) : Nat → (List TDyadic) → Option (Ex (List TDyadic) (Ex (List TDyadic) (List TDyadic × Bool))) := fun i1 out1 =>
  (forX (F_impl_mulBloch_l3 a i b i1) 3 0 (0, 0, 0, 0, 0)).bind <| orR fun (A, B5, C, D, Exp) =>
  chk (out1.length + 1 ≤ 1099511627776) <|
  some (.nx (out1 ++ [(TDyadic.mk (TRing.mk A B5 C D) Exp)]))
def F_impl_mulBloch_l1 (a : List TDyadic) (b : List TDyadic) : Nat → (List TDyadic) → Option (Ex (List TDyadic) (List TDyadic × Bool)) := fun i out =>
  (forX (F_impl_mulBloch_l2 a i b) 3 0 out).bind <| orR fun out1 =>
  some (.nx out1)
def F_impl_mulBloch (a : List TDyadic) (b : List TDyadic) : Option (List TDyadic × Bool) :=
  (forX (F_impl_mulBloch_l1 a b) 3 0 []).bind <| orR fun out =>
  some ((out, true))

def F_impl_Conjugate (x : TRing) : Option (TRing × Bool) :=
  (F_impl_ringIf (TRing.mk x.A (IntKind.i64.wrap (-x.D)) (IntKind.i64.wrap (-x.C)) (IntKind.i64.wrap (-x.B))) [x]).bind fun (r_2, r_3) =>
  some ((r_2, r_3))

def F_impl_ConjDyadic (x : TDyadic) : Option (TDyadic × Bool) :=
  (F_impl_IsValidDyadic x).bind fun r_2 =>
  bif (!r_2) then (some (((TDyadic.mk (TRing.mk 0 0 0 0) 0), false))) else ((F_impl_Conjugate x.Num).bind fun (r_3, r_4) =>
  some (((TDyadic.mk r_3 x.Exp), true)))

def F_impl_Adjoint_1 (i : Int) (j : Int) (p : TMatrix) : Option (TDyadic × Bool) :=
  (F_impl_Matrix_at p j i).bind fun r_2 =>
  (F_impl_ConjDyadic r_2).bind fun (r_3, r_4) =>
  some ((r_3, r_4))

def F_impl_Adjoint (m : TMatrix) : Option (TMatrix × Bool) :=
  (F_impl_IsValidMatrix m).bind fun r_2 =>
  bif (!r_2) then (some (((TMatrix.mk 0 0 []), false))) else ((F_impl_matrixOf m.Cols m.Rows (fun x_0 x_1 => F_impl_Adjoint_1 x_0 x_1 m)).bind fun (r_3, r_4) =>
  some ((r_3, r_4)))

def F_slices_Equal_impl_Dyadic_impl_Dyadic_l1 (s1 : List TDyadic) (s2 : List TDyadic) : Nat → Unit → Option (Ex (Unit) (Bool)) := fun i _ =>
  (getI s1 (i : Int)).bind fun x =>
  (getI s2 (i : Int)).bind fun x1 =>
  bif (!(((x.Num.A == x1.Num.A) && ((x.Num.B == x1.Num.B) && ((x.Num.C == x1.Num.C) && ((x.Num.D == x1.Num.D) && true)))) && ((x.Exp == x1.Exp) && true))) then (some (.rt false)) else (some (.nx ()))
def F_slices_Equal_impl_Dyadic_impl_Dyadic (s1 : List TDyadic) (s2 : List TDyadic) : Option (Bool) :=
  bif ((s1.length : Int) != (s2.length : Int)) then (some (false)) else (chk (s1.length ≤ 9223372036854775807) <|
  (forX (F_slices_Equal_impl_Dyadic_impl_Dyadic_l1 s1 s2) s1.length 0 ()).bind <| orR fun _ =>
  some (true))

def F_impl_EqualMatrices (a : TMatrix) (b : TMatrix) : Option (Bool) :=
  (gb ((a.Rows == b.Rows) && (a.Cols == b.Cols)) false (F_slices_Equal_impl_Dyadic_impl_Dyadic a.Cells b.Cells)).bind fun r_1 =>
  some ((((a.Rows == b.Rows) && (a.Cols == b.Cols)) && r_1))

def F_impl_IsUnitary (m : TMatrix) : Option (Bool × Bool) :=
  (F_impl_IsValidMatrix m).bind fun r_2 =>
  bif ((!r_2) || (m.Rows != m.Cols)) then (some ((false, false))) else ((F_impl_Adjoint m).bind fun (r_3, r_4) =>
  (F_impl_MulMatrix m r_3).bind fun (r_5, r_6) =>
  (F_impl_IdentityMatrix m.Rows).bind fun (r_7, r_8) =>
  (gb r_6 false (F_impl_EqualMatrices r_5 r_7)).bind fun r_9 =>
  some (((r_6 && r_9), r_6)))

def F_impl_IsOneQubit (m : TMatrix) : Option (Bool) :=
  (F_impl_IsValidMatrix m).bind fun r_1 =>
  bif (((!r_1) || (m.Rows != 2)) || (m.Cols != 2)) then (some (false)) else ((F_impl_IsUnitary m).bind fun (r_2, r_3) =>
  some ((r_3 && r_2)))

def F_impl_TraceOf_l1 (m : TMatrix) : (Int × Int × Int × Int × Int × Bool × Int) → Option (Ex (Int × Int × Int × Int × Int × Bool × Int) (TDyadic × Bool)) := fun (A, B1, C, D, Exp, ok, i) =>
  bif ((decide (i < m.Rows)) && ok) then ((F_impl_Matrix_at m i i).bind fun r_3 =>
  (F_impl_AddDyadic (TDyadic.mk (TRing.mk A B1 C D) Exp) r_3).bind fun (r_4, r_5) =>
  some (.nx (r_4.Num.A, r_4.Num.B, r_4.Num.C, r_4.Num.D, r_4.Exp, r_5, (IntKind.i64.wrap (i + 1))))) else (some (.br (A, B1, C, D, Exp, ok, i)))
def F_impl_TraceOf (m : TMatrix) : Option (TDyadic × Bool) :=
  (F_impl_IsValidMatrix m).bind fun r_2 =>
  bif ((!r_2) || (m.Rows != m.Cols)) then (some (((TDyadic.mk (TRing.mk 0 0 0 0) 0), false))) else ((whX (F_impl_TraceOf_l1 m) fuel (0, 0, 0, 0, 0, true, 0)).bind <| orR fun (A, B1, C, D, Exp, ok, i) =>
  some (((TDyadic.mk (TRing.mk A B1 C D) Exp), ok)))

def F_impl_blochCell (m : TMatrix) (bar : TMatrix) (i : Int) (j : Int) : Option (TDyadic × Bool) :=
  (getI ([2, 3, 4] : List Int) i).bind fun x =>
  (F_impl_GateMatrix 1 (TGate.mk x 0 0)).bind fun (r_2, r_3) =>
  (getI ([2, 3, 4] : List Int) j).bind fun x1 =>
  (F_impl_GateMatrix 1 (TGate.mk x1 0 0)).bind fun (r_4, r_5) =>
  (F_impl_MulMatrix r_2 m).bind fun (r_6, r_7) =>
  (F_impl_MulMatrix r_6 r_4).bind fun (r_8, r_9) =>
  (F_impl_MulMatrix r_8 bar).bind fun (r_10, r_11) =>
  (F_impl_TraceOf r_10).bind fun (r_12, r_13) =>
  (F_impl_MulDyadic r_12 (TDyadic.mk (TRing.mk 1 0 0 0) 2)).bind fun (r_14, r_15) =>
  some ((r_14, ((((r_7 && r_9) && r_11) && r_13) && r_15)))

def F_impl_BlochOf_l2 (m : TMatrix) (r_3 : TMatrix) (i : Nat) : Nat → (List TDyadic) → Option (Ex (List TDyadic) (Ex (List TDyadic) (TBloch × Bool))) := fun i1 Cells1 =>
  (F_impl_blochCell m r_3 (i : Int) (i1 : Int)).bind fun (r_5, r_6) =>
  bif (!r_6) then (some (.rt (.rt ((TBloch.mk []), false)))) else (chk (Cells1.length + 1 ≤ 1099511627776) <|
  some (.nx (Cells1 ++ [r_5])))
def F_impl_BlochOf_l1 (m : TMatrix) (r_3 : TMatrix) : Nat → (List TDyadic) → Option (Ex (List TDyadic) (TBloch × Bool)) := fun i Cells =>
  (forX (F_impl_BlochOf_l2 m r_3 i) 3 0 Cells).bind <| orR fun Cells1 =>
  some (.nx Cells1)
def F_impl_BlochOf (m : TMatrix) : Option (TBloch × Bool) :=
  (F_impl_IsOneQubit m).bind fun r_2 =>
  bif (!r_2) then (some (((TBloch.mk []), false))) else ((F_impl_Adjoint m).bind fun (r_3, r_4) =>
  (forX (F_impl_BlochOf_l1 m r_3) 3 0 []).bind <| orR fun Cells =>
  some (((TBloch.mk Cells), true)))

def F_impl_blochGate (kind : Int) : Option (TBloch) :=
  (F_impl_GateMatrix 1 (TGate.mk kind 0 0)).bind fun (r_1, r_2) =>
  (F_impl_BlochOf r_1).bind fun (r_3, r_4) =>
  some (r_3)

def F_slices_IndexFunc_SSimpl_Dyadic_impl_Dyadic_l1 (s : List (List TDyadic)) (f_ : (List TDyadic) → Option (Bool)) : Nat → Unit → Option (Ex (Unit) (Int)) := fun i _ =>
  (getI s (i : Int)).bind fun x1 =>
  (f_ x1).bind fun r_1 =>
  bif r_1 then (some (.rt (i : Int))) else (some (.nx ()))
def F_slices_IndexFunc_SSimpl_Dyadic_impl_Dyadic (s : List (List TDyadic)) (f_ : (List TDyadic) → Option (Bool)) : Option (Int) :=
  chk (s.length ≤ 9223372036854775807) <|
  (forX (F_slices_IndexFunc_SSimpl_Dyadic_impl_Dyadic_l1 s f_) s.length 0 ()).bind <| orR fun _ =>
  some ((-1))

def F_slices_ContainsFunc_SSimpl_Dyadic_impl_Dyadic (s : List (List TDyadic)) (f_ : (List TDyadic) → Option (Bool)) : Option (Bool) :=
  (F_slices_IndexFunc_SSimpl_Dyadic_impl_Dyadic s f_).bind fun r_1 =>
  some ((decide (0 ≤ r_1)))

def F_impl_cliffordList_1 (own : List TDyadic) (p : List TDyadic) : Option (Bool) :=
  (F_slices_Equal_impl_Dyadic_impl_Dyadic own p).bind fun r_1 =>
  some (r_1)

def F_impl_cliffordList_l3 (r_4 : TBloch) (r_5 : TBloch) (at_1 : Int) : Nat → (List (List UInt8) × List (List TDyadic)) → Option (List (List UInt8) × List (List TDyadic)) := fun i2 (words1, list1) =>
  (((getI ([r_4.Cells, r_5.Cells] : List (List TDyadic)) (i2 : Int)).bind fun x =>
  (getI list1 at_1).bind fun x1 =>
  (F_impl_mulBloch x x1).bind fun (r_6, r_7) =>
  (F_slices_ContainsFunc_SSimpl_Dyadic_impl_Dyadic list1 (fun x_0 => F_impl_cliffordList_1 x_0 r_6)).bind fun r_8 =>
  bif (!r_8) then ((getI words1 at_1).bind fun x2 =>
  chk ((0 : Int) ≤ (i2 : Int) ∧ (i2 : Int) ≤ (IntKind.i64.wrap ((i2 : Int) + 1)) ∧ (IntKind.i64.wrap ((i2 : Int) + 1)) ≤ (([72, 83] : List UInt8).length : Int)) <|
  chk (x2.length + (List.drop (i2 : Int).toNat (List.take (IntKind.i64.wrap ((i2 : Int) + 1)).toNat ([72, 83] : List UInt8))).length ≤ 1099511627776) <|
  chk (words1.length + 1 ≤ 1099511627776) <|
  chk (list1.length + 1 ≤ 1099511627776) <|
  some ((words1 ++ [(x2 ++ (List.drop (i2 : Int).toNat (List.take (IntKind.i64.wrap ((i2 : Int) + 1)).toNat ([72, 83] : List UInt8))))]), (list1 ++ ([r_6] : List (List TDyadic))))) else (some (words1, list1))) : Option (List (List UInt8) × List (List TDyadic))).bind fun (words2, list2) =>
  some (words2, list2)
def F_impl_cliffordList_l2 (r_4 : TBloch) (r_5 : TBloch) : (List (List UInt8) × List (List TDyadic) × Int) → Option (Ex (List (List UInt8) × List (List TDyadic) × Int) (List (List UInt8) × List (List TDyadic))) := fun (words, list, at_1) =>
  bif (decide (at_1 < (words.length : Int))) then ((forN (F_impl_cliffordList_l3 r_4 r_5 at_1) 2 0 (words, list)).bind fun (words1, list1) =>
  some (.nx (words1, list1, (IntKind.i64.wrap (at_1 + 1))))) else (some (.br (words, list, at_1)))
def F_impl_cliffordList_l1 : Nat → (List TDyadic) → Option (List TDyadic) := fun i one_ =>
  (F_impl_small ((Int.tmod (i : Int) 4) == 0)).bind fun r_2 =>
  (F_impl_whole r_2).bind fun r_3 =>
  chk (one_.length + 1 ≤ 1099511627776) <|
  some (one_ ++ [r_3])
def F_impl_cliffordList  : Option (List (List UInt8) × List (List TDyadic)) :=
  (forN F_impl_cliffordList_l1 9 0 []).bind fun one_ =>
  (F_impl_blochGate 1).bind fun r_4 =>
  (F_impl_blochGate 5).bind fun r_5 =>
  (whX (F_impl_cliffordList_l2 r_4 r_5) fuel ([([] : List UInt8)], ([one_] : List (List TDyadic)), 0)).bind <| orR fun (words, list, at_1) =>
  some ((words, list))

def F_impl_CliffordWord (k_ : Int) : Option (List UInt8 × Bool) :=
  (F_impl_cliffordList).bind fun (r_2, r_3) =>
  (F_impl_within k_ 0 (IntKind.i64.wrap ((r_2.length : Int) - 1))).bind fun r_4 =>
  bif (!r_4) then (some ((([] : List UInt8), false))) else ((getI r_2 k_).bind fun x =>
  some ((x, true)))

def F_impl_wordGates_l1 (r_1 : List UInt8) : Nat → (List TGate) → Option (List TGate) := fun i1 out =>
  (((getI r_1 (i1 : Int)).bind fun x =>
  bif ((x.toNat : Int) == 83) then (some 5) else (some 1)) : Option (Int)).bind fun kind =>
  chk (out.length + 1 ≤ 1099511627776) <|
  some (out ++ [(TGate.mk kind 0 0)])
def F_impl_wordGates (k_ : Int) : Option (List TGate) :=
  (F_impl_CliffordWord k_).bind fun (r_1, r_2) =>
  chk (r_1.length ≤ 9223372036854775807) <|
  (forN (F_impl_wordGates_l1 r_1) r_1.length 0 []).bind fun out =>
  some (out)

def F_impl_syllableGates (b : Int) : Option (List TGate) :=
  bif (b == 72) then (some ([(TGate.mk 7 0 0), (TGate.mk 1 0 0)])) else (bif (b == 83) then (some ([(TGate.mk 7 0 0), (TGate.mk 1 0 0), (TGate.mk 5 0 0)])) else (some ([(TGate.mk 7 0 0)])))

def F_impl_formGates_l1 (f_ : TNormalForm) : (List TGate × Int) → Option (Ex (List TGate × Int) (List TGate)) := fun (out, i) =>
  bif (decide (0 ≤ i)) then ((getI f_.Syllables i).bind fun x =>
  (F_impl_syllableGates (x.toNat : Int)).bind fun r_2 =>
  chk (out.length + r_2.length ≤ 1099511627776) <|
  some (.nx ((out ++ r_2), (IntKind.i64.wrap (i - 1))))) else (some (.br (out, i)))
def F_impl_formGates (f_ : TNormalForm) : Option (List TGate) :=
  (F_impl_wordGates f_.Clifford).bind fun r_1 =>
  (whX (F_impl_formGates_l1 f_) fuel (r_1, (IntKind.i64.wrap ((f_.Syllables.length : Int) - 1)))).bind <| orR fun (out, i) =>
  some (out)

def F_impl_ScaleMatrix_1 (i : Int) (j : Int) (p : TMatrix) (p1 : TDyadic) : Option (TDyadic × Bool) :=
  (F_impl_Matrix_at p i j).bind fun r_2 =>
  (F_impl_MulDyadic r_2 p1).bind fun (r_3, r_4) =>
  some ((r_3, r_4))

def F_impl_ScaleMatrix (m : TMatrix) (x : TDyadic) : Option (TMatrix × Bool) :=
  (F_impl_IsValidMatrix m).bind fun r_2 =>
  (gb (!(!r_2)) false (F_impl_IsValidDyadic x)).bind fun r_3 =>
  bif ((!r_2) || (!r_3)) then (some (((TMatrix.mk 0 0 []), false))) else ((F_impl_matrixOf m.Rows m.Cols (fun x_0 x_1 => F_impl_ScaleMatrix_1 x_0 x_1 m x)).bind fun (r_4, r_5) =>
  some ((r_4, r_5)))

def F_impl_MatrixOfForm (f_ : TNormalForm) : Option (TMatrix × Bool) :=
  (F_impl_IsValidForm f_).bind fun r_2 =>
  bif (!r_2) then (some (((TMatrix.mk 0 0 []), false))) else ((F_impl_formGates f_).bind fun r_3 =>
  (F_impl_OperatorOf (TCircuit.mk 1 r_3)).bind fun (r_4, r_5) =>
  bif (!r_5) then (some (((TMatrix.mk 0 0 []), false))) else ((F_impl_phase f_.Phase).bind fun r_6 =>
  (F_impl_ScaleMatrix r_4 r_6).bind fun (r_7, r_8) =>
  some ((r_7, r_8))))

def F_spec_l1In (n : Int) (lo : Int) (hi : Int) : Option (Bool) :=
  some (((decide (lo ≤ n)) && (decide (n ≤ hi))))

def F_spec_l10Valid_l1 (f_ : TNormalForm) : Nat → Unit → Option (Ex (Unit) (Bool)) := fun i1 _ =>
  (getI f_.Syllables (i1 : Int)).bind fun x =>
  bif ((((x.toNat : Int) != 72) && ((x.toNat : Int) != 83)) && (((x.toNat : Int) != 84) || (decide (0 < (i1 : Int))))) then (some (.rt false)) else (some (.nx ()))
def F_spec_l10Valid (f_ : TNormalForm) : Option (Bool) :=
  chk (f_.Syllables.length ≤ 9223372036854775807) <|
  (forX (F_spec_l10Valid_l1 f_) f_.Syllables.length 0 ()).bind <| orR fun _ =>
  (gb (decide ((f_.Syllables.length : Int) ≤ 40)) false (F_spec_l1In f_.Clifford 0 23)).bind fun r_1 =>
  (gb ((decide ((f_.Syllables.length : Int) ≤ 40)) && r_1) false (F_spec_l1In f_.Phase 0 7)).bind fun r_2 =>
  some ((((decide ((f_.Syllables.length : Int) ≤ 40)) && r_1) && r_2))

def F_spec_l1All_l1 (l : List Int) (lo : Int) (hi : Int) : Nat → Unit → Option (Ex (Unit) (Bool)) := fun i _ =>
  (getI l (i : Int)).bind fun x =>
  (F_spec_l1In x lo hi).bind fun r_1 =>
  bif (!r_1) then (some (.rt false)) else (some (.nx ()))
def F_spec_l1All (l : List Int) (lo : Int) (hi : Int) : Option (Bool) :=
  chk (l.length ≤ 9223372036854775807) <|
  (forX (F_spec_l1All_l1 l lo hi) l.length 0 ()).bind <| orR fun _ =>
  some (true)

def F_spec_l1Good (x : TRing) : Option (Bool) :=
  (F_spec_l1All [x.A, x.B, x.C, x.D] (-1000000000) 1000000000).bind fun r_1 =>
  some (r_1)

def F_spec_l2C_ring (c : Tl2C) (x : TRing) : Option (TRing × Tl2C) :=
  (F_spec_l1Good x).bind fun r_1 =>
  bif (!r_1) then (some (((TRing.mk 0 0 0 0), (Tl2C.mk true)))) else (some ((x, c)))

def F_spec_l1Root (x : TRing) : Option (TRing) :=
  some ((TRing.mk (IntKind.i64.wrap (x.B - x.D)) (IntKind.i64.wrap (x.A + x.C)) (IntKind.i64.wrap (x.B + x.D)) (IntKind.i64.wrap (x.C - x.A))))

def F_spec_l1Even (x : TRing) : Option (Bool) :=
  some ((((Int.tmod (IntKind.i64.wrap (x.A + x.C)) 2) == 0) && ((Int.tmod (IntKind.i64.wrap (x.B + x.D)) 2) == 0)))

def F_spec_l1Half (x : TRing) : Option (TRing) :=
  (F_spec_l1Root x).bind fun r_1 =>
  some ((TRing.mk (IntKind.i64.wrap (Int.tdiv r_1.A 2)) (IntKind.i64.wrap (Int.tdiv r_1.B 2)) (IntKind.i64.wrap (Int.tdiv r_1.C 2)) (IntKind.i64.wrap (Int.tdiv r_1.D 2))))

def F_spec_l2Low_l1 : (Int × Int × Int × Int × Int) → Option (Ex (Int × Int × Int × Int × Int) (TDyadic)) := fun (exp1, A, B, C, D) =>
  (gb (decide (0 < exp1)) false (F_spec_l1Even (TRing.mk A B C D))).bind fun r_1 =>
  bif ((decide (0 < exp1)) && r_1) then ((F_spec_l1Half (TRing.mk A B C D)).bind fun r_2 =>
  some (.nx ((IntKind.i64.wrap (exp1 - 1)), r_2.A, r_2.B, r_2.C, r_2.D))) else (some (.br (exp1, A, B, C, D)))
def F_spec_l2Low (num : TRing) (exp : Int) : Option (TDyadic) :=
  (whX F_spec_l2Low_l1 fuel (exp, num.A, num.B, num.C, num.D)).bind <| orR fun (exp1, A, B, C, D) =>
  some ((TDyadic.mk (TRing.mk A B C D) exp1))

def F_spec_l1Add (x : TRing) (y : TRing) : Option (TRing) :=
  some ((TRing.mk (IntKind.i64.wrap (x.A + y.A)) (IntKind.i64.wrap (x.B + y.B)) (IntKind.i64.wrap (x.C + y.C)) (IntKind.i64.wrap (x.D + y.D))))

def F_spec_l2C_add_l2 (Exp : Int) (bad : Bool) (A : Int) (C : Int) (D : Int) : (Bool × Int × Int × Int × Int × Int) → Option (Ex (Bool × Int × Int × Int × Int × Int) (TDyadic × Tl2C)) := fun (bad1, A1, B2, C1, D1, Exp1) =>
  bif (decide (Exp1 < Exp)) then ((F_spec_l1Root (TRing.mk A1 B2 C1 D1)).bind fun r_3 =>
  (F_spec_l2C_ring (Tl2C.mk bad1) r_3).bind fun (r_4, m2) =>
  some (.nx (m2.bad, r_4.A, r_4.B, r_4.C, r_4.D, (IntKind.i64.wrap (Exp1 + 1))))) else (some (.br (bad1, A1, B2, C1, D1, Exp1)))
def F_spec_l2C_add_l1 (y : TDyadic) : (Bool × Int × Int × Int × Int × Int) → Option (Ex (Bool × Int × Int × Int × Int × Int) (TDyadic × Tl2C)) := fun (bad, A, B1, C, D, Exp) =>
  bif (decide (Exp < y.Exp)) then ((F_spec_l1Root (TRing.mk A B1 C D)).bind fun r_1 =>
  (F_spec_l2C_ring (Tl2C.mk bad) r_1).bind fun (r_2, m1) =>
  some (.nx (m1.bad, r_2.A, r_2.B, r_2.C, r_2.D, (IntKind.i64.wrap (Exp + 1))))) else (some (.br (bad, A, B1, C, D, Exp)))
def F_spec_l2C_add (c : Tl2C) (x : TDyadic) (y : TDyadic) : Option (TDyadic × Tl2C) :=
  (whX (F_spec_l2C_add_l1 y) fuel (c.bad, x.Num.A, x.Num.B, x.Num.C, x.Num.D, x.Exp)).bind <| orR fun (bad, A, B1, C, D, Exp) =>
  (whX (F_spec_l2C_add_l2 Exp bad A C D) fuel (bad, y.Num.A, y.Num.B, y.Num.C, y.Num.D, y.Exp)).bind <| orR fun (bad1, A1, B2, C1, D1, Exp1) =>
  (F_spec_l1Add (TRing.mk A B1 C D) (TRing.mk A1 B2 C1 D1)).bind fun r_5 =>
  (F_spec_l2C_ring (Tl2C.mk bad1) r_5).bind fun (r_6, m3) =>
  (F_spec_l2Low r_6 Exp).bind fun r_7 =>
  some ((r_7, m3))

def F_spec_l1Mul (x : TRing) (y : TRing) : Option (TRing) :=
  some ((TRing.mk (IntKind.i64.wrap ((IntKind.i64.wrap ((IntKind.i64.wrap ((IntKind.i64.wrap (x.A * y.A)) - (IntKind.i64.wrap (x.B * y.D)))) - (IntKind.i64.wrap (x.C * y.C)))) - (IntKind.i64.wrap (x.D * y.B)))) (IntKind.i64.wrap ((IntKind.i64.wrap ((IntKind.i64.wrap ((IntKind.i64.wrap (x.A * y.B)) + (IntKind.i64.wrap (x.B * y.A)))) - (IntKind.i64.wrap (x.C * y.D)))) - (IntKind.i64.wrap (x.D * y.C)))) (IntKind.i64.wrap ((IntKind.i64.wrap ((IntKind.i64.wrap ((IntKind.i64.wrap (x.A * y.C)) + (IntKind.i64.wrap (x.B * y.B)))) + (IntKind.i64.wrap (x.C * y.A)))) - (IntKind.i64.wrap (x.D * y.D)))) (IntKind.i64.wrap ((IntKind.i64.wrap ((IntKind.i64.wrap ((IntKind.i64.wrap (x.A * y.D)) + (IntKind.i64.wrap (x.B * y.C)))) + (IntKind.i64.wrap (x.C * y.B)))) + (IntKind.i64.wrap (x.D * y.A))))))

def F_spec_l2C_mul (c : Tl2C) (x : TDyadic) (y : TDyadic) : Option (TDyadic × Tl2C) :=
  bif (decide (60 < (IntKind.i64.wrap (x.Exp + y.Exp)))) then (some (((TDyadic.mk (TRing.mk 0 0 0 0) 0), (Tl2C.mk true)))) else ((F_spec_l1Mul x.Num y.Num).bind fun r_1 =>
  (F_spec_l2C_ring c r_1).bind fun (r_2, m1) =>
  (F_spec_l2Low r_2 (IntKind.i64.wrap (x.Exp + y.Exp))).bind fun r_3 =>
  some ((r_3, m1)))

def F_spec_l2C_times_l3 (a : TMatrix) (Cells : List TDyadic) (i1 : Nat) (b : TMatrix) (j : Nat) (bad : Bool) : (Bool × Int × Int × Int × Int × Int × Int) → Option (Ex (Bool × Int × Int × Int × Int × Int × Int) (Bool × List TDyadic)) := fun (bad2, A, B6, C, D, Exp, K14) =>
  bif ((decide (K14 < a.Cols)) && (!bad2)) then ((getI a.Cells (IntKind.i64.wrap ((IntKind.i64.wrap ((i1 : Int) * a.Cols)) + K14))).bind fun x =>
  (getI b.Cells (IntKind.i64.wrap ((IntKind.i64.wrap (K14 * b.Cols)) + (j : Int)))).bind fun x1 =>
  (F_spec_l2C_mul (Tl2C.mk bad2) x x1).bind fun (r_1, m1) =>
  (F_spec_l2C_add m1 (TDyadic.mk (TRing.mk A B6 C D) Exp) r_1).bind fun (r_2, m2) =>
  some (.nx (m2.bad, r_2.Num.A, r_2.Num.B, r_2.Num.C, r_2.Num.D, r_2.Exp, (IntKind.i64.wrap (K14 + 1))))) else (some (.br (bad2, A, B6, C, D, Exp, K14)))
def F_spec_l2C_times_l2 (a : TMatrix) (Cells : List TDyadic) (i1 : Nat) (b : TMatrix) (bad : Bool) : Nat → (Bool × List TDyadic) → Option (Bool × List TDyadic) := fun j (bad1, Cells1) =>
  (whX (F_spec_l2C_times_l3 a Cells i1 b j bad) fuel (bad1, 0, 0, 0, 0, 0, 0)).bind <| orR fun (bad2, A, B6, C, D, Exp, K14) =>
  chk (Cells1.length + 1 ≤ 1099511627776) <|
  some (bad2, (Cells1 ++ [(TDyadic.mk (TRing.mk A B6 C D) Exp)]))
def F_spec_l2C_times_l1 (b : TMatrix) (a : TMatrix) : Nat → (Bool × List TDyadic) → Option (Bool × List TDyadic) := fun i1 (bad, Cells) =>
  chk (b.Cols.toNat ≤ 9223372036854775807) <|
  (forN (F_spec_l2C_times_l2 a Cells i1 b bad) b.Cols.toNat 0 (bad, Cells)).bind fun (bad1, Cells1) =>
  some (bad1, Cells1)
def F_spec_l2C_times (c : Tl2C) (a : TMatrix) (b : TMatrix) : Option (TMatrix × Tl2C) :=
  chk (a.Rows.toNat ≤ 9223372036854775807) <|
  (forN (F_spec_l2C_times_l1 b a) a.Rows.toNat 0 (c.bad, [])).bind fun (bad, Cells) =>
  some (((TMatrix.mk a.Rows b.Cols Cells), (Tl2C.mk bad)))

def F_spec_l1Turn_l1 : (Int × Int × Int × Int × Int) → Option (Ex (Int × Int × Int × Int × Int) (TRing)) := fun (K7, A, B, C, D) =>
  bif (decide (0 < K7)) then (some (.nx ((IntKind.i64.wrap (K7 - 1)), (IntKind.i64.wrap (-D)), A, B, C))) else (some (.br (K7, A, B, C, D)))
def F_spec_l1Turn (x : TRing) (k_ : Int) : Option (TRing) :=
  (whX F_spec_l1Turn_l1 fuel ((Int.tmod (IntKind.i64.wrap ((Int.tmod k_ 8) + 8)) 8), x.A, x.B, x.C, x.D)).bind <| orR fun (K7, A, B, C, D) =>
  some ((TRing.mk A B C D))

def F_spec_l2Power (k_ : Int) : Option (TDyadic) :=
  (F_spec_l1Turn (TRing.mk 1 0 0 0) k_).bind fun r_1 =>
  some ((TDyadic.mk r_1 0))

def F_spec_l6Bit (n : Int) (k_ : Int) (q : Int) : Option (Int) :=
  chk ((0 : Int) ≤ (IntKind.u64.wrap (IntKind.i64.wrap ((IntKind.i64.wrap (n - 1)) - q)))) <|
  some ((bits .and .i64 (shrK .i64 k_ (IntKind.u64.wrap (IntKind.i64.wrap ((IntKind.i64.wrap (n - 1)) - q)))) 1))

def F_spec_l1Neg (x : TRing) : Option (TRing) :=
  some ((TRing.mk (IntKind.i64.wrap (-x.A)) (IntKind.i64.wrap (-x.B)) (IntKind.i64.wrap (-x.C)) (IntKind.i64.wrap (-x.D))))

def F_spec_l2Neg (x : TDyadic) : Option (TDyadic) :=
  (F_spec_l1Neg x.Num).bind fun r_1 =>
  some ((TDyadic.mk r_1 x.Exp))

def F_spec_l6One (kind : Int) : Option (List TDyadic) :=
  (F_spec_l2Power 0).bind fun r_1 =>
  bif (kind == 1) then ((F_spec_l2Neg (TDyadic.mk (TRing.mk 1 0 0 0) 1)).bind fun r_2 =>
  some ([(TDyadic.mk (TRing.mk 1 0 0 0) 1), (TDyadic.mk (TRing.mk 1 0 0 0) 1), (TDyadic.mk (TRing.mk 1 0 0 0) 1), r_2])) else (bif (kind == 2) then (some ([(TDyadic.mk (TRing.mk 0 0 0 0) 0), r_1, r_1, (TDyadic.mk (TRing.mk 0 0 0 0) 0)])) else (bif (kind == 3) then ((F_spec_l2Power 6).bind fun r_3 =>
  (F_spec_l2Power 2).bind fun r_4 =>
  some ([(TDyadic.mk (TRing.mk 0 0 0 0) 0), r_3, r_4, (TDyadic.mk (TRing.mk 0 0 0 0) 0)])) else ((getI [4, 2, 6, 1, 7] (IntKind.i64.wrap (kind - 4))).bind fun x =>
  (F_spec_l2Power x).bind fun r_5 =>
  some ([r_1, (TDyadic.mk (TRing.mk 0 0 0 0) 0), (TDyadic.mk (TRing.mk 0 0 0 0) 0), r_5]))))

def F_spec_l6Cell (n : Int) (g : TGate) (row : Int) (col : Int) : Option (TDyadic) :=
  (F_spec_l2Power 0).bind fun r_1 =>
  ((bif (g.Kind == 12) then ((F_spec_l2Power 1).bind fun r_2 =>
  some (.inl (r_2.Num.A, r_2.Num.B, r_2.Num.C, r_2.Num.D, r_2.Exp, col))) else (bif (g.Kind == 9) then ((F_spec_l6Bit n col g.A).bind fun r_3 =>
  bif (r_3 == 1) then (chk ((0 : Int) ≤ (IntKind.u64.wrap (IntKind.i64.wrap ((IntKind.i64.wrap (n - 1)) - g.B)))) <|
  some (.inl (r_1.Num.A, r_1.Num.B, r_1.Num.C, r_1.Num.D, r_1.Exp, (bits .xor .i64 col (shlK .i64 1 (IntKind.u64.wrap (IntKind.i64.wrap ((IntKind.i64.wrap (n - 1)) - g.B)))))))) else (some (.inl (r_1.Num.A, r_1.Num.B, r_1.Num.C, r_1.Num.D, r_1.Exp, col)))) else (bif (g.Kind == 10) then ((F_spec_l6Bit n col g.A).bind fun r_4 =>
  (gb (r_4 == 1) 0 (F_spec_l6Bit n col g.B)).bind fun r_5 =>
  bif ((r_4 == 1) && (r_5 == 1)) then ((F_spec_l2Power 4).bind fun r_6 =>
  some (.inl (r_6.Num.A, r_6.Num.B, r_6.Num.C, r_6.Num.D, r_6.Exp, col))) else (some (.inl (r_1.Num.A, r_1.Num.B, r_1.Num.C, r_1.Num.D, r_1.Exp, col)))) else (bif (g.Kind == 11) then ((F_spec_l6Bit n col g.A).bind fun r_7 =>
  (F_spec_l6Bit n col g.B).bind fun r_8 =>
  bif (r_7 != r_8) then (chk ((0 : Int) ≤ (IntKind.u64.wrap (IntKind.i64.wrap ((IntKind.i64.wrap (n - 1)) - g.A)))) <|
  chk ((0 : Int) ≤ (IntKind.u64.wrap (IntKind.i64.wrap ((IntKind.i64.wrap (n - 1)) - g.B)))) <|
  some (.inl (r_1.Num.A, r_1.Num.B, r_1.Num.C, r_1.Num.D, r_1.Exp, (bits .xor .i64 (bits .xor .i64 col (shlK .i64 1 (IntKind.u64.wrap (IntKind.i64.wrap ((IntKind.i64.wrap (n - 1)) - g.A))))) (shlK .i64 1 (IntKind.u64.wrap (IntKind.i64.wrap ((IntKind.i64.wrap (n - 1)) - g.B)))))))) else (some (.inl (r_1.Num.A, r_1.Num.B, r_1.Num.C, r_1.Num.D, r_1.Exp, col)))) else (chk ((0 : Int) ≤ (IntKind.u64.wrap (IntKind.i64.wrap ((IntKind.i64.wrap (n - 1)) - g.A)))) <|
  bif ((bits .andNot .i64 (bits .xor .i64 row col) (shlK .i64 1 (IntKind.u64.wrap (IntKind.i64.wrap ((IntKind.i64.wrap (n - 1)) - g.A))))) != 0) then (some (.inr (TDyadic.mk (TRing.mk 0 0 0 0) 0))) else ((F_spec_l6One g.Kind).bind fun r_9 =>
  (F_spec_l6Bit n row g.A).bind fun r_10 =>
  (F_spec_l6Bit n col g.A).bind fun r_11 =>
  (getI r_9 (IntKind.i64.wrap ((IntKind.i64.wrap (2 * r_10)) + r_11))).bind fun x =>
  some (.inr x))))))) : Option ((Int × Int × Int × Int × Int × Int) ⊕ (TDyadic))).bind <| orR fun (A, B, C, D, Exp, to_) =>
  bif (row == to_) then (some ((TDyadic.mk (TRing.mk A B C D) Exp))) else (some ((TDyadic.mk (TRing.mk 0 0 0 0) 0)))

def F_spec_l6Gate_l2 (n : Int) (g : TGate) (i1 : Nat) : Nat → (List TDyadic) → Option (List TDyadic) := fun j Cells1 =>
  (F_spec_l6Cell n g (i1 : Int) (j : Int)).bind fun r_1 =>
  chk (Cells1.length + 1 ≤ 1099511627776) <|
  some (Cells1 ++ [r_1])
def F_spec_l6Gate_l1 (n : Int) (g : TGate) : Nat → (List TDyadic) → Option (List TDyadic) := fun i1 Cells =>
  chk (((shlK .i64 1 (IntKind.u64.wrap n)).toNat) ≤ 9223372036854775807) <|
  (forN (F_spec_l6Gate_l2 n g i1) ((shlK .i64 1 (IntKind.u64.wrap n)).toNat) 0 Cells).bind fun Cells1 =>
  some Cells1
def F_spec_l6Gate (n : Int) (g : TGate) : Option (TMatrix) :=
  chk ((0 : Int) ≤ (IntKind.u64.wrap n)) <|
  chk (((shlK .i64 1 (IntKind.u64.wrap n)).toNat) ≤ 9223372036854775807) <|
  (forN (F_spec_l6Gate_l1 n g) ((shlK .i64 1 (IntKind.u64.wrap n)).toNat) 0 []).bind fun Cells =>
  some ((TMatrix.mk (shlK .i64 1 (IntKind.u64.wrap n)) (shlK .i64 1 (IntKind.u64.wrap n)) Cells))

def F_spec_l2C_run_l1 (x : TCircuit) : Nat → (Bool × Int × Int × List TDyadic) → Option (Bool × Int × Int × List TDyadic) := fun i (bad, Rows, Cols, Cells) =>
  (((getI x.Gates (i : Int)).bind fun x1 =>
  bif (!bad) then ((F_spec_l6Gate x.Qubits x1).bind fun r_1 =>
  (F_spec_l2C_times (Tl2C.mk bad) r_1 (TMatrix.mk Rows Cols Cells)).bind fun (r_2, m2) =>
  some (m2.bad, r_2.Rows, r_2.Cols, r_2.Cells)) else (some (bad, Rows, Cols, Cells))) : Option (Bool × Int × Int × List TDyadic)).bind fun (bad1, Rows1, Cols1, Cells1) =>
  some (bad1, Rows1, Cols1, Cells1)
def F_spec_l2C_run (c : Tl2C) (x : TCircuit) (m : TMatrix) : Option (TMatrix × Tl2C) :=
  chk (x.Gates.length ≤ 9223372036854775807) <|
  (forN (F_spec_l2C_run_l1 x) x.Gates.length 0 (c.bad, m.Rows, m.Cols, m.Cells)).bind fun (bad, Rows, Cols, Cells) =>
  some (((TMatrix.mk Rows Cols Cells), (Tl2C.mk bad)))

def F_spec_l3Unit_l1 (n : Int) : Nat → (List TDyadic) → Option (List TDyadic) := fun i1 Cells =>
  (F_spec_l2Power 0).bind fun r_1 =>
  (getI Cells (IntKind.i64.wrap ((IntKind.i64.wrap ((i1 : Int) * n)) + (i1 : Int)))).bind fun x =>
  some (Cells.set (IntKind.i64.wrap ((IntKind.i64.wrap ((i1 : Int) * n)) + (i1 : Int))).toNat r_1)
def F_spec_l3Unit (n : Int) : Option (TMatrix) :=
  chk ((0 : Int) ≤ (IntKind.i64.wrap (n * n)) ∧ (IntKind.i64.wrap (n * n)) ≤ 1099511627776) <|
  chk (n.toNat ≤ 9223372036854775807) <|
  (forN (F_spec_l3Unit_l1 n) n.toNat 0 (List.replicate ((IntKind.i64.wrap (n * n)).toNat) (TDyadic.mk (TRing.mk 0 0 0 0) 0))).bind fun Cells =>
  some ((TMatrix.mk n n Cells))

def F_spec_l6Op (x : TCircuit) : Option (TMatrix) :=
  chk ((0 : Int) ≤ (IntKind.u64.wrap x.Qubits)) <|
  (F_spec_l3Unit (shlK .i64 1 (IntKind.u64.wrap x.Qubits))).bind fun r_1 =>
  (F_spec_l2C_run (Tl2C.mk false) x r_1).bind fun (r_2, m) =>
  some (r_2)

def F_spec_l9Pauli (i : Int) : Option (TMatrix) :=
  (F_spec_l6One (IntKind.i64.wrap (2 + i))).bind fun r_1 =>
  some ((TMatrix.mk 2 2 r_1))

def F_spec_l1Conj (x : TRing) : Option (TRing) :=
  some ((TRing.mk x.A (IntKind.i64.wrap (-x.D)) (IntKind.i64.wrap (-x.C)) (IntKind.i64.wrap (-x.B))))

def F_spec_l2Conj (x : TDyadic) : Option (TDyadic) :=
  (F_spec_l1Conj x.Num).bind fun r_1 =>
  some ((TDyadic.mk r_1 x.Exp))

def F_spec_l3Adj_l2 (m : TMatrix) (Cells : List TDyadic) (j : Nat) : Nat → (List TDyadic) → Option (List TDyadic) := fun i2 Cells1 =>
  (getI m.Cells (IntKind.i64.wrap ((IntKind.i64.wrap ((i2 : Int) * m.Cols)) + (j : Int)))).bind fun x =>
  (F_spec_l2Conj x).bind fun r_1 =>
  chk (Cells1.length + 1 ≤ 1099511627776) <|
  some (Cells1 ++ [r_1])
def F_spec_l3Adj_l1 (m : TMatrix) : Nat → (List TDyadic) → Option (List TDyadic) := fun j Cells =>
  chk (m.Rows.toNat ≤ 9223372036854775807) <|
  (forN (F_spec_l3Adj_l2 m Cells j) m.Rows.toNat 0 Cells).bind fun Cells1 =>
  some Cells1
def F_spec_l3Adj (m : TMatrix) : Option (TMatrix) :=
  chk (m.Cols.toNat ≤ 9223372036854775807) <|
  (forN (F_spec_l3Adj_l1 m) m.Cols.toNat 0 []).bind fun Cells =>
  some ((TMatrix.mk m.Cols m.Rows Cells))

def F_spec_l9Bloch_l2 (i1 : Nat) (m : TMatrix) (Cells : List TDyadic) (bad : Bool) : Nat → (Bool × List TDyadic) → Option (Bool × List TDyadic) := fun j (bad1, Cells1) =>
  (F_spec_l9Pauli (i1 : Int)).bind fun r_2 =>
  (F_spec_l2C_times (Tl2C.mk bad1) r_2 m).bind fun (r_3, m1) =>
  (F_spec_l9Pauli (j : Int)).bind fun r_4 =>
  (F_spec_l2C_times m1 r_3 r_4).bind fun (r_5, m2) =>
  (F_spec_l3Adj m).bind fun r_6 =>
  (F_spec_l2C_times m2 r_5 r_6).bind fun (r_7, m3) =>
  (getI r_7.Cells 0).bind fun x =>
  (getI r_7.Cells 3).bind fun x1 =>
  (F_spec_l2C_add m3 x x1).bind fun (r_8, m4) =>
  (F_spec_l2C_mul m4 r_8 (TDyadic.mk (TRing.mk 1 0 0 0) 2)).bind fun (r_9, m5) =>
  chk (Cells1.length + 1 ≤ 1099511627776) <|
  some (m5.bad, (Cells1 ++ [r_9]))
def F_spec_l9Bloch_l1 (m : TMatrix) : Nat → (Bool × List TDyadic) → Option (Bool × List TDyadic) := fun i1 (bad, Cells) =>
  (forN (F_spec_l9Bloch_l2 i1 m Cells bad) 3 0 (bad, Cells)).bind fun (bad1, Cells1) =>
  some (bad1, Cells1)
def F_spec_l9Bloch (m : TMatrix) : Option (TBloch × Bool) :=
  (forN (F_spec_l9Bloch_l1 m) 3 0 (false, [])).bind fun (bad, Cells) =>
  bif bad then (some (((TBloch.mk []), false))) else (some (((TBloch.mk Cells), true)))

def F_spec_l9Word_l1 (w_ : List UInt8) : Nat → (List TGate) → Option (List TGate) := fun i1 Gates =>
  (((getI w_ (i1 : Int)).bind fun x =>
  bif ((x.toNat : Int) == 83) then (some 5) else (some 1)) : Option (Int)).bind fun kind =>
  chk (Gates.length + 1 ≤ 1099511627776) <|
  some (Gates ++ [(TGate.mk kind 0 0)])
def F_spec_l9Word (w_ : List UInt8) : Option (TMatrix) :=
  chk (w_.length ≤ 9223372036854775807) <|
  (forN (F_spec_l9Word_l1 w_) w_.length 0 []).bind fun Gates =>
  (F_spec_l6Op (TCircuit.mk 1 Gates)).bind fun r_1 =>
  some (r_1)

def F_spec_l9Same_l1 (a : TBloch) (b : TBloch) : Nat → Unit → Option (Ex (Unit) (Bool)) := fun i _ =>
  (getI a.Cells (i : Int)).bind fun x =>
  (getI b.Cells (i : Int)).bind fun x1 =>
  bif (!(((x.Num.A == x1.Num.A) && ((x.Num.B == x1.Num.B) && ((x.Num.C == x1.Num.C) && ((x.Num.D == x1.Num.D) && true)))) && ((x.Exp == x1.Exp) && true))) then (some (.rt false)) else (some (.nx ()))
def F_spec_l9Same (a : TBloch) (b : TBloch) : Option (Bool) :=
  chk (a.Cells.length ≤ 9223372036854775807) <|
  (forX (F_spec_l9Same_l1 a b) a.Cells.length 0 ()).bind <| orR fun _ =>
  some (true)

def F_spec_l9Words_l3 (seen1 : List TBloch) (r_2 : TBloch) : Nat → Bool → Option (Bool) := fun i1 known =>
  (getI seen1 (i1 : Int)).bind fun x1 =>
  (gb (!known) false (F_spec_l9Same x1 r_2)).bind fun r_4 =>
  some (known || r_4)
def F_spec_l9Words_l2 (level : List (List UInt8)) : Nat → (List (List UInt8) × List TBloch × List (List UInt8)) → Option (List (List UInt8) × List TBloch × List (List UInt8)) := fun i (words1, seen1, next_) =>
  (((getI level (i : Int)).bind fun x =>
  (F_spec_l9Word x).bind fun r_1 =>
  (F_spec_l9Bloch r_1).bind fun (r_2, r_3) =>
  chk (seen1.length ≤ 9223372036854775807) <|
  (forN (F_spec_l9Words_l3 seen1 r_2) seen1.length 0 false).bind fun known =>
  bif (!known) then (chk (words1.length + 1 ≤ 1099511627776) <|
  chk (seen1.length + 1 ≤ 1099511627776) <|
  chk (x.length + ([72] : List UInt8).length ≤ 1099511627776) <|
  chk (x.length + ([83] : List UInt8).length ≤ 1099511627776) <|
  chk (next_.length + 2 ≤ 1099511627776) <|
  some ((words1 ++ [x]), (seen1 ++ ([r_2] : List TBloch)), (next_ ++ [(x ++ ([72] : List UInt8)), (x ++ ([83] : List UInt8))]))) else (some (words1, seen1, next_))) : Option (List (List UInt8) × List TBloch × List (List UInt8))).bind fun (words2, seen2, next_1) =>
  some (words2, seen2, next_1)
def F_spec_l9Words_l1 : (List (List UInt8) × List TBloch × List (List UInt8)) → Option (Ex (List (List UInt8) × List TBloch × List (List UInt8)) (List (List UInt8))) := fun (words, seen, level) =>
  bif (decide ((words.length : Int) < 24)) then (chk (level.length ≤ 9223372036854775807) <|
  (forN (F_spec_l9Words_l2 level) level.length 0 (words, seen, [])).bind fun (words1, seen1, next_) =>
  some (.nx (words1, seen1, next_))) else (some (.br (words, seen, level)))
def F_spec_l9Words  : Option (List (List UInt8)) :=
  (whX F_spec_l9Words_l1 fuel ([], ([] : List TBloch), [([] : List UInt8)])).bind <| orR fun (words, seen, level) =>
  some (words)

def F_spec_l10Gates (b : Int) : Option (List TGate) :=
  ((bif (b != 84) then (some ([(TGate.mk 7 0 0)] ++ [(TGate.mk 1 0 0)])) else (some [(TGate.mk 7 0 0)])) : Option (List TGate)).bind fun l =>
  ((bif (b == 83) then (chk (l.length + 1 ≤ 1099511627776) <|
  some (l ++ [(TGate.mk 5 0 0)])) else (some l)) : Option (List TGate)).bind fun l1 =>
  some (l1)

def F_spec_l10Circuit_l3 : Nat → (List TGate) → Option (List TGate) := fun i4 Gates2 =>
  chk (Gates2.length + 1 ≤ 1099511627776) <|
  some (Gates2 ++ [(TGate.mk 12 0 0)])
def F_spec_l10Circuit_l2 (f_ : TNormalForm) : (List TGate × Int) → Option (Ex (List TGate × Int) (TCircuit)) := fun (Gates1, i2) =>
  bif (decide (0 ≤ i2)) then ((getI f_.Syllables i2).bind fun x2 =>
  (F_spec_l10Gates (x2.toNat : Int)).bind fun r_2 =>
  chk (Gates1.length + r_2.length ≤ 1099511627776) <|
  some (.nx ((Gates1 ++ r_2), (IntKind.i64.wrap (i2 - 1))))) else (some (.br (Gates1, i2)))
def F_spec_l10Circuit_l1 (x : List UInt8) : Nat → (List TGate) → Option (List TGate) := fun i1 Gates =>
  (((getI x (i1 : Int)).bind fun x1 =>
  bif ((x1.toNat : Int) == 83) then (some 5) else (some 1)) : Option (Int)).bind fun kind =>
  chk (Gates.length + 1 ≤ 1099511627776) <|
  some (Gates ++ [(TGate.mk kind 0 0)])
def F_spec_l10Circuit (f_ : TNormalForm) : Option (TCircuit) :=
  (F_spec_l9Words).bind fun r_1 =>
  (getI r_1 f_.Clifford).bind fun x =>
  chk (x.length ≤ 9223372036854775807) <|
  (forN (F_spec_l10Circuit_l1 x) x.length 0 []).bind fun Gates =>
  (whX (F_spec_l10Circuit_l2 f_) fuel (Gates, (IntKind.i64.wrap ((f_.Syllables.length : Int) - 1)))).bind <| orR fun (Gates1, i2) =>
  chk (f_.Phase.toNat ≤ 9223372036854775807) <|
  (forN F_spec_l10Circuit_l3 f_.Phase.toNat 0 Gates1).bind fun Gates2 =>
  some ((TCircuit.mk 1 Gates2))

def F_spec_MatrixOfForm (f_ : TNormalForm) : Option (TMatrix × Bool) :=
  (F_spec_l10Valid f_).bind fun r_2 =>
  bif (!r_2) then (some (((TMatrix.mk 0 0 []), false))) else ((F_spec_l10Circuit f_).bind fun r_3 =>
  (F_spec_l6Op r_3).bind fun r_4 =>
  some ((r_4, true)))

def F_spec_EqualMatrices_l1 (a : TMatrix) (b : TMatrix) : Nat → Unit → Option (Ex (Unit) (Bool)) := fun i _ =>
  (getI a.Cells (i : Int)).bind fun x =>
  (getI b.Cells (i : Int)).bind fun x1 =>
  bif (!(((x.Num.A == x1.Num.A) && ((x.Num.B == x1.Num.B) && ((x.Num.C == x1.Num.C) && ((x.Num.D == x1.Num.D) && true)))) && ((x.Exp == x1.Exp) && true))) then (some (.rt false)) else (some (.nx ()))
def F_spec_EqualMatrices (a : TMatrix) (b : TMatrix) : Option (Bool) :=
  bif (((a.Rows != b.Rows) || (a.Cols != b.Cols)) || ((a.Cells.length : Int) != (b.Cells.length : Int))) then (some (false)) else (chk (a.Cells.length ≤ 9223372036854775807) <|
  (forX (F_spec_EqualMatrices_l1 a b) a.Cells.length 0 ()).bind <| orR fun _ =>
  some (true))

def F_impl_blochExp_l1 (b : TBloch) : Nat → Int → Option (Int) := fun i most =>
  (getI b.Cells (i : Int)).bind fun x =>
  some (if most < x.Exp then x.Exp else most)
def F_impl_blochExp (b : TBloch) : Option (Int) :=
  chk (b.Cells.length ≤ 9223372036854775807) <|
  (forN (F_impl_blochExp_l1 b) b.Cells.length 0 0).bind fun most =>
  some (most)

def F_impl_transposed_l2 (a : List TDyadic) (i : Nat) : Nat → (List TDyadic) → Option (List TDyadic) := fun i1 out1 =>
  (getI a (IntKind.i64.wrap ((IntKind.i64.wrap (3 * (i1 : Int))) + (i : Int)))).bind fun x =>
  chk (out1.length + 1 ≤ 1099511627776) <|
  some (out1 ++ [x])
def F_impl_transposed_l1 (a : List TDyadic) : Nat → (List TDyadic) → Option (List TDyadic) := fun i out =>
  (forN (F_impl_transposed_l2 a i) 3 0 out).bind fun out1 =>
  some out1
def F_impl_transposed (a : List TDyadic) : Option (List TDyadic) :=
  (forN (F_impl_transposed_l1 a) 3 0 []).bind fun out =>
  some (out)

def F_impl_blochOfGates (gates : List TGate) : Option (List TDyadic) :=
  (F_impl_OperatorOf (TCircuit.mk 1 gates)).bind fun (r_1, r_2) =>
  (F_impl_BlochOf r_1).bind fun (r_3, r_4) =>
  some (r_3.Cells)

def F_impl_stripped_l1 (cells : List TDyadic) : Nat → Unit → Option (Ex (Unit) (List UInt8 × List TDyadic × Bool)) := fun i _ =>
  chk ((0 : Int) ≤ (i : Int) ∧ (i : Int) ≤ (IntKind.i64.wrap ((i : Int) + 1)) ∧ (IntKind.i64.wrap ((i : Int) + 1)) ≤ (([84, 72, 83] : List UInt8).length : Int)) <|
  (getI (List.drop (i : Int).toNat (List.take (IntKind.i64.wrap ((i : Int) + 1)).toNat ([84, 72, 83] : List UInt8))) 0).bind fun x =>
  (F_impl_syllableGates (x.toNat : Int)).bind fun r_3 =>
  (F_impl_blochOfGates r_3).bind fun r_4 =>
  (F_impl_transposed r_4).bind fun r_5 =>
  (F_impl_mulBloch r_5 cells).bind fun (r_6, r_7) =>
  (gb r_7 0 (F_impl_blochExp (TBloch.mk r_6))).bind fun r_8 =>
  (gb r_7 0 (F_impl_blochExp (TBloch.mk cells))).bind fun r_9 =>
  bif (r_7 && (r_8 == (IntKind.i64.wrap (r_9 - 1)))) then (some (.rt ((List.drop (i : Int).toNat (List.take (IntKind.i64.wrap ((i : Int) + 1)).toNat ([84, 72, 83] : List UInt8))), r_6, true))) else (some (.nx ()))
def F_impl_stripped (cells : List TDyadic) : Option (List UInt8 × List TDyadic × Bool) :=
  (forX (F_impl_stripped_l1 cells) 3 0 ()).bind <| orR fun _ =>
  some ((([] : List UInt8), [], false))

def F_impl_isReal (x : TDyadic) : Option (Bool) :=
  (F_impl_IsValidDyadic x).bind fun r_1 =>
  some (((r_1 && (x.Num.C == 0)) && (x.Num.D == (IntKind.i64.wrap (-x.Num.B)))))

def F_impl_IsValidBloch_1 (x : TDyadic) : Option (Bool) :=
  (F_impl_isReal x).bind fun r_1 =>
  some ((!r_1))

def F_impl_SubRing (x : TRing) (y : TRing) : Option (TRing × Bool) :=
  (F_impl_ringIf (TRing.mk (IntKind.i64.wrap (x.A - y.A)) (IntKind.i64.wrap (x.B - y.B)) (IntKind.i64.wrap (x.C - y.C)) (IntKind.i64.wrap (x.D - y.D))) [x, y]).bind fun (r_2, r_3) =>
  some ((r_2, r_3))

def F_impl_SubDyadic (x : TDyadic) (y : TDyadic) : Option (TDyadic × Bool) :=
  (F_impl_combined x y F_impl_SubRing).bind fun (r_2, r_3) =>
  some ((r_2, r_3))

def F_impl_minor (a : TDyadic) (b : TDyadic) (c : TDyadic) (d : TDyadic) : Option (TDyadic × Bool) :=
  (F_impl_MulDyadic a d).bind fun (r_2, r_3) =>
  (F_impl_MulDyadic b c).bind fun (r_4, r_5) =>
  (F_impl_SubDyadic r_2 r_4).bind fun (r_6, r_7) =>
  some ((r_6, ((r_3 && r_5) && r_7)))

def F_impl_determinant_l2 (i : Nat) (a : List TDyadic) : Nat → (List TDyadic) → Option (List TDyadic) := fun i1 rest_ =>
  ((bif ((i1 : Int) != (i : Int)) then ((getI a (IntKind.i64.wrap (3 + (i1 : Int)))).bind fun x =>
  (getI a (IntKind.i64.wrap (6 + (i1 : Int)))).bind fun x1 =>
  chk (rest_.length + 2 ≤ 1099511627776) <|
  some (rest_ ++ [x, x1])) else (some rest_)) : Option (List TDyadic)).bind fun rest_1 =>
  some rest_1
def F_impl_determinant_l1 (a : List TDyadic) : Nat → (Int × Int × Int × Int × Int) → Option (Ex (Int × Int × Int × Int × Int) (TDyadic × Bool)) := fun i (A, B1, C, D, Exp) =>
  (forN (F_impl_determinant_l2 i a) 3 0 []).bind fun rest_ =>
  (getI rest_ 0).bind fun x2 =>
  (getI rest_ 2).bind fun x3 =>
  (getI rest_ 1).bind fun x4 =>
  (getI rest_ 3).bind fun x5 =>
  (F_impl_minor x2 x3 x4 x5).bind fun (r_2, r_3) =>
  (getI a (i : Int)).bind fun x6 =>
  (F_impl_MulDyadic x6 r_2).bind fun (r_4, r_5) =>
  bif ((i : Int) == 1) then ((F_impl_SubDyadic (TDyadic.mk (TRing.mk A B1 C D) Exp) r_4).bind fun (r_6, r_7) =>
  bif (((!r_3) || (!r_5)) || (!r_7)) then (some (.rt ((TDyadic.mk (TRing.mk 0 0 0 0) 0), false))) else (some (.nx (r_6.Num.A, r_6.Num.B, r_6.Num.C, r_6.Num.D, r_6.Exp)))) else ((F_impl_AddDyadic (TDyadic.mk (TRing.mk A B1 C D) Exp) r_4).bind fun (r_8, r_9) =>
  bif (((!r_3) || (!r_5)) || (!r_9)) then (some (.rt ((TDyadic.mk (TRing.mk 0 0 0 0) 0), false))) else (some (.nx (r_8.Num.A, r_8.Num.B, r_8.Num.C, r_8.Num.D, r_8.Exp))))
def F_impl_determinant (a : List TDyadic) : Option (TDyadic × Bool) :=
  (forX (F_impl_determinant_l1 a) 3 0 (0, 0, 0, 0, 0)).bind <| orR fun (A, B1, C, D, Exp) =>
  some (((TDyadic.mk (TRing.mk A B1 C D) Exp), true))

def F_impl_IsValidBloch_l1 (r_3 : List TDyadic) : Nat → Unit → Option (Ex (Unit) (Bool)) := fun i _ =>
  (getI r_3 (i : Int)).bind fun x =>
  (F_impl_small ((Int.tmod (i : Int) 4) == 0)).bind fun r_8 =>
  (F_impl_whole r_8).bind fun r_9 =>
  bif (!(((x.Num.A == r_9.Num.A) && ((x.Num.B == r_9.Num.B) && ((x.Num.C == r_9.Num.C) && ((x.Num.D == r_9.Num.D) && true)))) && ((x.Exp == r_9.Exp) && true))) then (some (.rt false)) else (some (.nx ()))
def F_impl_IsValidBloch (b : TBloch) : Option (Bool) :=
  (gb (!((b.Cells.length : Int) != 9)) false (F_slices_ContainsFunc_impl_Dyadic_impl_Dyadic b.Cells F_impl_IsValidBloch_1)).bind fun r_1 =>
  bif (((b.Cells.length : Int) != 9) || r_1) then (some (false)) else ((F_impl_transposed b.Cells).bind fun r_2 =>
  (F_impl_mulBloch b.Cells r_2).bind fun (r_3, r_4) =>
  (F_impl_determinant b.Cells).bind fun (r_5, r_6) =>
  (gb (!((!r_4) || (!r_6))) (TDyadic.mk (TRing.mk 0 0 0 0) 0) (F_impl_whole 1)).bind fun r_7 =>
  bif (((!r_4) || (!r_6)) || (!(((r_5.Num.A == r_7.Num.A) && ((r_5.Num.B == r_7.Num.B) && ((r_5.Num.C == r_7.Num.C) && ((r_5.Num.D == r_7.Num.D) && true)))) && ((r_5.Exp == r_7.Exp) && true)))) then (some (false)) else (chk (r_3.length ≤ 9223372036854775807) <|
  (forX (F_impl_IsValidBloch_l1 r_3) r_3.length 0 ()).bind <| orR fun _ =>
  some (true)))

def F_impl_CliffordIndex_l1 (r_4 : List (List TDyadic)) (b : TBloch) : Nat → Unit → Option (Ex (Unit) (Int × Bool)) := fun i _ =>
  (getI r_4 (i : Int)).bind fun x =>
  (F_slices_Equal_impl_Dyadic_impl_Dyadic x b.Cells).bind fun r_5 =>
  bif r_5 then (some (.rt ((i : Int), true))) else (some (.nx ()))
def F_impl_CliffordIndex (b : TBloch) : Option (Int × Bool) :=
  (F_impl_IsValidBloch b).bind fun r_2 =>
  bif (!r_2) then (some ((0, false))) else ((F_impl_cliffordList).bind fun (r_3, r_4) =>
  chk (r_4.length ≤ 9223372036854775807) <|
  (forX (F_impl_CliffordIndex_l1 r_4 b) r_4.length 0 ()).bind <| orR fun _ =>
  some ((0, false)))

def F_impl_EqualUpToPhase_l1 (b : TMatrix) (a : TMatrix) : Nat → Unit → Option (Ex (Unit) (Int × Bool × Bool)) := fun i _ =>
  (F_impl_phase (i : Int)).bind fun r_5 =>
  (F_impl_ScaleMatrix b r_5).bind fun (r_6, r_7) =>
  (gb r_7 false (F_impl_EqualMatrices a r_6)).bind fun r_8 =>
  bif (r_7 && r_8) then (some (.rt ((i : Int), true, true))) else (some (.nx ()))
def F_impl_EqualUpToPhase (a : TMatrix) (b : TMatrix) : Option (Int × Bool × Bool) :=
  (F_impl_IsValidMatrix a).bind fun r_3 =>
  (gb (!(!r_3)) false (F_impl_IsValidMatrix b)).bind fun r_4 =>
  bif ((!r_3) || (!r_4)) then (some ((0, false, false))) else ((forX (F_impl_EqualUpToPhase_l1 b a) 8 0 ()).bind <| orR fun _ =>
  some ((0, false, true)))

def F_impl_NormalFormOf_l1 : (List UInt8 × List TDyadic) → Option (Ex (List UInt8 × List TDyadic) (TNormalForm × Bool)) := fun (Syllables, cells) =>
  (F_impl_blochExp (TBloch.mk cells)).bind fun r_5 =>
  bif (decide (0 < r_5)) then ((F_impl_stripped cells).bind fun (r_6, r_7, r_8) =>
  bif (!r_8) then (some (.rt ((TNormalForm.mk ([] : List UInt8) 0 0), false))) else (chk (Syllables.length + r_6.length ≤ 1099511627776) <|
  some (.nx ((Syllables ++ r_6), r_7)))) else (some (.br (Syllables, cells)))
def F_impl_NormalFormOf (m : TMatrix) : Option (TNormalForm × Bool) :=
  (F_impl_BlochOf m).bind fun (r_2, r_3) =>
  (gb (!(!r_3)) 0 (F_impl_blochExp r_2)).bind fun r_4 =>
  bif ((!r_3) || (decide (40 < r_4))) then (some (((TNormalForm.mk ([] : List UInt8) 0 0), false))) else ((whX F_impl_NormalFormOf_l1 fuel (([] : List UInt8), r_2.Cells)).bind <| orR fun (Syllables, cells) =>
  (F_impl_CliffordIndex (TBloch.mk cells)).bind fun (r_9, r_10) =>
  (F_impl_MatrixOfForm (TNormalForm.mk Syllables r_9 0)).bind fun (r_11, r_12) =>
  (F_impl_EqualUpToPhase m r_11).bind fun (r_13, r_14, r_15) =>
  (gb (!((((!r_10) || (!r_12)) || (!r_15)) || (!r_14))) false (F_impl_IsValidForm (TNormalForm.mk Syllables r_9 r_13))).bind fun r_16 =>
  bif (((((!r_10) || (!r_12)) || (!r_15)) || (!r_14)) || (!r_16)) then (some (((TNormalForm.mk ([] : List UInt8) 0 0), false))) else (some (((TNormalForm.mk Syllables r_9 r_13), true))))

def F_impl_LeastTCount (m : TMatrix) : Option (Int × Bool) :=
  (F_impl_BlochOf m).bind fun (r_2, r_3) =>
  bif (!r_3) then (some ((0, false))) else ((F_impl_blochExp r_2).bind fun r_4 =>
  some ((r_4, true)))

def F_impl_circuitIf (n : Int) (gates : List TGate) : Option (TCircuit × Bool) :=
  chk (0 + gates.length ≤ 1099511627776) <|
  (F_impl_IsValidCircuit (TCircuit.mk n gates)).bind fun r_2 =>
  bif (!r_2) then (some (((TCircuit.mk 0 []), false))) else (some (((TCircuit.mk n gates), true)))

def F_impl_CircuitOfForm_l1 : Nat → (List TGate) → Option (List TGate) := fun i out =>
  chk (out.length + 1 ≤ 1099511627776) <|
  some (out ++ [(TGate.mk 12 0 0)])
def F_impl_CircuitOfForm (f_ : TNormalForm) : Option (TCircuit × Bool) :=
  (F_impl_IsValidForm f_).bind fun r_2 =>
  bif (!r_2) then (some (((TCircuit.mk 0 []), false))) else ((F_impl_formGates f_).bind fun r_3 =>
  chk (f_.Phase.toNat ≤ 9223372036854775807) <|
  (forN F_impl_CircuitOfForm_l1 f_.Phase.toNat 0 r_3).bind fun out =>
  (F_impl_circuitIf 1 out).bind fun (r_4, r_5) =>
  some ((r_4, r_5)))

def F_impl_counted_l1 (c : TCircuit) (is_ : Int → Option (Bool)) : Nat → Int → Option (Int) := fun i count =>
  (((getI c.Gates (i : Int)).bind fun x1 =>
  (is_ x1.Kind).bind fun r_3 =>
  bif r_3 then (some (IntKind.i64.wrap (count + 1))) else (some count)) : Option (Int)).bind fun count1 =>
  some count1
def F_impl_counted (c : TCircuit) (is_ : Int → Option (Bool)) : Option (Int × Bool) :=
  (F_impl_IsValidCircuit c).bind fun r_2 =>
  bif (!r_2) then (some ((0, false))) else (chk (c.Gates.length ≤ 9223372036854775807) <|
  (forN (F_impl_counted_l1 c is_) c.Gates.length 0 0).bind fun count =>
  some ((count, true)))

def F_impl_isT (kind : Int) : Option (Bool) :=
  some (((kind == 7) || (kind == 8)))

def F_impl_CountT (c : TCircuit) : Option (Int × Bool) :=
  (F_impl_counted c F_impl_isT).bind fun (r_2, r_3) =>
  some ((r_2, r_3))

def F_laws_FnOneForm (f_ : TNormalForm) (g : TNormalForm) : Option (Bool) :=
  (F_impl_MatrixOfForm f_).bind fun (r_1, r_2) =>
  (F_spec_MatrixOfForm f_).bind fun (r_3, r_4) =>
  (gb (!(!(r_2 == r_4))) false (F_impl_IsValidForm f_)).bind fun r_5 =>
  (gb (!((!(r_2 == r_4)) || (!(r_2 == r_5)))) false (F_spec_EqualMatrices r_1 r_3)).bind fun r_6 =>
  bif (((!(r_2 == r_4)) || (!(r_2 == r_5))) || (!r_6)) then (some (false)) else (bif (!r_2) then (some (true)) else ((F_impl_NormalFormOf r_1).bind fun (r_7, r_8) =>
  (F_impl_LeastTCount r_1).bind fun (r_9, r_10) =>
  bif (((!r_8) || (!((r_7.Syllables == f_.Syllables) && ((r_7.Clifford == f_.Clifford) && ((r_7.Phase == f_.Phase) && true))))) || (!r_10)) then (some (false)) else ((F_impl_CircuitOfForm f_).bind fun (r_11, r_12) =>
  (F_impl_CountT r_11).bind fun (r_13, r_14) =>
  bif (((!r_12) || (!r_14)) || (r_13 != r_9)) then (some (false)) else ((F_impl_MatrixOfForm g).bind fun (r_15, r_16) =>
  (gb (!(!r_16)) false (F_spec_EqualMatrices r_1 r_15)).bind fun r_17 =>
  some (((!r_16) || (r_17 == ((f_.Syllables == g.Syllables) && ((f_.Clifford == g.Clifford) && ((f_.Phase == g.Phase) && true))))))))))
end Go.VK
