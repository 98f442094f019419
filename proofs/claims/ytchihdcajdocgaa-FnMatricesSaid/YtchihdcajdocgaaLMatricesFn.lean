/- What each Go function computes, by program. -/
import Derived.Test.YtchihdcajdocgaaLMatricesTy
set_option linter.unusedVariables false
namespace Go.VK
open Go.RowKit
def F_laws_big (code : List Int) (more : List Int) : Option (Bool) :=
  some (((decide (1048576 < (code.length : Int))) || (decide ((IntKind.i64.wrap (1048576 - (code.length : Int))) < (more.length : Int)))))

def F_spec_l1Cur_next (c : Tl1Cur) : Option (Int × Tl1Cur) :=
  ((bif (decide (c.at_ < (c.code.length : Int))) then ((getI c.code c.at_).bind fun x =>
  some (IntKind.i64.wrap x)) else (some 0)) : Option (Int)).bind fun b =>
  bif (decide ((IntKind.i64.wrap (c.at_ + 1)) ≤ (c.code.length : Int))) then (some ((b, (Tl1Cur.mk c.code (IntKind.i64.wrap (c.at_ + 1)) (IntKind.u64.wrap ((IntKind.u64.wrap ((IntKind.u64.wrap (c.seed * 6364136223846793005)) + (IntKind.u64.wrap b))) + 1442695040888963407)))))) else (some (((IntKind.i64.wrap (bits .and .u64 (shrK .u64 (IntKind.u64.wrap ((IntKind.u64.wrap ((IntKind.u64.wrap (c.seed * 6364136223846793005)) + (IntKind.u64.wrap b))) + 1442695040888963407)) 40) 255)), (Tl1Cur.mk c.code (IntKind.i64.wrap (c.at_ + 1)) (IntKind.u64.wrap ((IntKind.u64.wrap ((IntKind.u64.wrap (c.seed * 6364136223846793005)) + (IntKind.u64.wrap b))) + 1442695040888963407))))))

def F_spec_l1Cur_pick (c : Tl1Cur) (n1 : Int) : Option (Int × Tl1Cur) :=
  bif (decide (n1 ≤ 1)) then (some ((0, c))) else ((F_spec_l1Cur_next c).bind fun (r_1, m1) =>
  ((bif (decide (200 < n1)) then ((F_spec_l1Cur_next (Tl1Cur.mk c.code m1.at_ m1.seed)).bind fun (r_2, m2) =>
  some (m2.at_, m2.seed, (IntKind.i64.wrap ((IntKind.i64.wrap (r_1 * 256)) + r_2)))) else (some (m1.at_, m1.seed, r_1))) : Option (Int × Int × Int)).bind fun (at_, seed, x) =>
  chk (n1 ≠ (0 : Int)) <|
  some (((Int.tmod x n1), (Tl1Cur.mk c.code at_ seed))))

def F_spec_l1Cur_among (c : Tl1Cur) (list : List Int) : Option (Int × Tl1Cur) :=
  (F_spec_l1Cur_pick c (list.length : Int)).bind fun (r_1, m1) =>
  (getI list r_1).bind fun x =>
  some ((x, (Tl1Cur.mk c.code m1.at_ m1.seed)))

def F_spec_l1Even (x : TRing) : Option (Bool) :=
  some ((((Int.tmod (IntKind.i64.wrap (x.A + x.C)) 2) == 0) && ((Int.tmod (IntKind.i64.wrap (x.B + x.D)) 2) == 0)))

def F_spec_l1Root (x : TRing) : Option (TRing) :=
  some ((TRing.mk (IntKind.i64.wrap (x.B - x.D)) (IntKind.i64.wrap (x.A + x.C)) (IntKind.i64.wrap (x.B + x.D)) (IntKind.i64.wrap (x.C - x.A))))

def F_spec_l1Half (x : TRing) : Option (TRing) :=
  (F_spec_l1Root x).bind fun r_1 =>
  some ((TRing.mk (IntKind.i64.wrap (Int.tdiv r_1.A 2)) (IntKind.i64.wrap (Int.tdiv r_1.B 2)) (IntKind.i64.wrap (Int.tdiv r_1.C 2)) (IntKind.i64.wrap (Int.tdiv r_1.D 2))))

def F_spec_l2Low_l1 : (Int × Int × Int × Int × Int) → Option (Ex (Int × Int × Int × Int × Int) (TDyadic)) := fun (exp1, A, B, C, D) =>
  (gb (decide (0 < exp1)) false (F_spec_l1Even (TRing.mk A B C D))).bind fun r_1 =>
  bif ((decide (0 < exp1)) && r_1) then ((F_spec_l1Half (TRing.mk A B C D)).bind fun r_2 =>
  some (.nx ((IntKind.i64.wrap (exp1 - 1)), r_2.A, r_2.B, r_2.C, r_2.D))) else (some (.br (exp1, A, B, C, D)))
def F_spec_l2Low (num : TRing) (exp : Int) : Option (TDyadic) :=
  (whX F_spec_l2Low_l1 fuel (exp, num.A, num.B, num.C, num.D)).bind <| orR fun (exp1, A, B, C, D) =>
  some ((TDyadic.mk (TRing.mk A B C D) exp1))

def F_spec_l1Cur_ring (c : Tl1Cur) : Option (TRing × Tl1Cur) :=
  (F_spec_l1Cur_pick c 9).bind fun (r_1, m1) =>
  (F_spec_l1Cur_pick (Tl1Cur.mk c.code m1.at_ m1.seed) 9).bind fun (r_2, m2) =>
  (F_spec_l1Cur_pick (Tl1Cur.mk c.code m2.at_ m2.seed) 9).bind fun (r_3, m3) =>
  (F_spec_l1Cur_pick (Tl1Cur.mk c.code m3.at_ m3.seed) 9).bind fun (r_4, m4) =>
  some (((TRing.mk (IntKind.i64.wrap (r_1 - 4)) (IntKind.i64.wrap (r_2 - 4)) (IntKind.i64.wrap (r_3 - 4)) (IntKind.i64.wrap (r_4 - 4))), (Tl1Cur.mk c.code m4.at_ m4.seed)))

def F_spec_l1Cur_dyadic (c : Tl1Cur) : Option (TDyadic × Tl1Cur) :=
  (F_spec_l1Cur_ring c).bind fun (r_1, m1) =>
  (F_spec_l1Cur_pick (Tl1Cur.mk c.code m1.at_ m1.seed) 5).bind fun (r_2, m2) =>
  (F_spec_l2Low r_1 r_2).bind fun r_3 =>
  some ((r_3, (Tl1Cur.mk c.code m2.at_ m2.seed)))

def F_spec_l1Cur_matrix_l1 (c : Tl1Cur) : Nat → (Int × Int × List TDyadic) → Option (Int × Int × List TDyadic) := fun k_ (at_, seed, Cells) =>
  (F_spec_l1Cur_dyadic (Tl1Cur.mk c.code at_ seed)).bind fun (r_1, m1) =>
  chk (Cells.length + 1 ≤ 1099511627776) <|
  some (m1.at_, m1.seed, (Cells ++ [r_1]))
def F_spec_l1Cur_matrix (c : Tl1Cur) (rows : Int) (cols : Int) : Option (TMatrix × Tl1Cur) :=
  chk (((IntKind.i64.wrap (rows * cols)).toNat) ≤ 9223372036854775807) <|
  (forN (F_spec_l1Cur_matrix_l1 c) ((IntKind.i64.wrap (rows * cols)).toNat) 0 (c.at_, c.seed, [])).bind fun (at_, seed, Cells) =>
  some (((TMatrix.mk rows cols Cells), (Tl1Cur.mk c.code at_ seed)))

def F_spec_l1Cur_one (c : Tl1Cur) (n1 : Int) : Option (Bool × Tl1Cur) :=
  (F_spec_l1Cur_pick c n1).bind fun (r_1, m1) =>
  some (((r_1 == 0), (Tl1Cur.mk c.code m1.at_ m1.seed)))

def F_spec_l1Cur_coef (c : Tl1Cur) : Option (Int × Tl1Cur) :=
  (F_spec_l1Cur_pick c 24).bind fun (r_1, m1) =>
  bif (r_1 == 0) then ((F_spec_l1Cur_among (Tl1Cur.mk c.code m1.at_ m1.seed) [1000000000, (-1000000000), 1000000001, (-1000000001)]).bind fun (r_2, m2) =>
  some ((r_2, (Tl1Cur.mk c.code m2.at_ m2.seed)))) else (bif (r_1 == 1) then ((F_spec_l1Cur_pick (Tl1Cur.mk c.code m1.at_ m1.seed) 60000).bind fun (r_3, m3) =>
  some (((IntKind.i64.wrap (r_3 * 1000)), (Tl1Cur.mk c.code m3.at_ m3.seed)))) else (((bif (r_1 == 2) then (some (r_1 == 2)) else (some (r_1 == 3))) : Option (Bool)).bind fun t =>
  bif t then ((F_spec_l1Cur_pick (Tl1Cur.mk c.code m1.at_ m1.seed) 2000).bind fun (r_4, m4) =>
  some (((IntKind.i64.wrap (r_4 - 1000)), (Tl1Cur.mk c.code m4.at_ m4.seed)))) else ((F_spec_l1Cur_pick (Tl1Cur.mk c.code m1.at_ m1.seed) 9).bind fun (r_5, m5) =>
  some (((IntKind.i64.wrap (r_5 - 4)), (Tl1Cur.mk c.code m5.at_ m5.seed))))))

def F_spec_l1Cur_anyRing (c : Tl1Cur) : Option (TRing × Tl1Cur) :=
  (F_spec_l1Cur_one c 3).bind fun (r_1, m1) =>
  bif r_1 then ((F_spec_l1Cur_coef (Tl1Cur.mk c.code m1.at_ m1.seed)).bind fun (r_2, m2) =>
  (F_spec_l1Cur_coef (Tl1Cur.mk c.code m2.at_ m2.seed)).bind fun (r_3, m3) =>
  (F_spec_l1Cur_coef (Tl1Cur.mk c.code m3.at_ m3.seed)).bind fun (r_4, m4) =>
  (F_spec_l1Cur_coef (Tl1Cur.mk c.code m4.at_ m4.seed)).bind fun (r_5, m5) =>
  some (((TRing.mk r_2 r_3 r_4 r_5), (Tl1Cur.mk c.code m5.at_ m5.seed)))) else ((F_spec_l1Cur_ring (Tl1Cur.mk c.code m1.at_ m1.seed)).bind fun (r_6, m6) =>
  some ((r_6, (Tl1Cur.mk c.code m6.at_ m6.seed))))

def F_spec_l1In (n : Int) (lo : Int) (hi : Int) : Option (Bool) :=
  some (((decide (lo ≤ n)) && (decide (n ≤ hi))))

def F_spec_l1All_l1 (l : List Int) (lo : Int) (hi : Int) : Nat → Unit → Option (Ex (Unit) (Bool)) := fun i _ =>
  (getI l (i : Int)).bind fun x =>
  (F_spec_l1In x lo hi).bind fun r_1 =>
  bif (!r_1) then (some (.rt false)) else (some (.nx ()))
def F_spec_l1All (l : List Int) (lo : Int) (hi : Int) : Option (Bool) :=
  chk (l.length ≤ 9223372036854775807) <|
  (forX (F_spec_l1All_l1 l lo hi) l.length 0 ()).bind <| orR fun _ =>
  some (true)

def F_spec_l1Good (x : TRing) : Option (Bool) :=
  (F_spec_l1All [x.A, x.B, x.C, x.D] (-1000000000) 1000000000).bind fun r_1 =>
  some (r_1)

def F_spec_l1Turn_l1 : (Int × Int × Int × Int × Int) → Option (Ex (Int × Int × Int × Int × Int) (TRing)) := fun (k_1, A, B, C, D) =>
  bif (decide (0 < k_1)) then (some (.nx ((IntKind.i64.wrap (k_1 - 1)), (IntKind.i64.wrap (-D)), A, B, C))) else (some (.br (k_1, A, B, C, D)))
def F_spec_l1Turn (x : TRing) (k_ : Int) : Option (TRing) :=
  (whX F_spec_l1Turn_l1 fuel ((Int.tmod (IntKind.i64.wrap ((Int.tmod k_ 8) + 8)) 8), x.A, x.B, x.C, x.D)).bind <| orR fun (k_1, A, B, C, D) =>
  some ((TRing.mk A B C D))

def F_spec_l2Power (k_ : Int) : Option (TDyadic) :=
  (F_spec_l1Turn (TRing.mk 1 0 0 0) k_).bind fun r_1 =>
  some ((TDyadic.mk r_1 0))

def F_spec_l1Cur_anyDyadic (c : Tl1Cur) : Option (TDyadic × Tl1Cur) :=
  (((F_spec_l1Cur_pick c 14).bind fun (r_1, m1) =>
  bif (r_1 == 0) then ((F_spec_l1Cur_ring (Tl1Cur.mk c.code m1.at_ m1.seed)).bind fun (r_2, m2) =>
  (F_spec_l1Cur_among (Tl1Cur.mk c.code m2.at_ m2.seed) [1, 2, 60, 61, (-1)]).bind fun (r_3, m3) =>
  some (.inr ((TDyadic.mk r_2 r_3), (Tl1Cur.mk c.code m3.at_ m3.seed)))) else (bif (r_1 == 1) then ((F_spec_l1Cur_anyRing (Tl1Cur.mk c.code m1.at_ m1.seed)).bind fun (r_4, m4) =>
  (F_spec_l1Good r_4).bind fun r_5 =>
  bif r_5 then ((F_spec_l1Cur_among (Tl1Cur.mk c.code m4.at_ m4.seed) [0, 3, 59, 60]).bind fun (r_6, m5) =>
  (F_spec_l2Low r_4 r_6).bind fun r_7 =>
  some (.inr (r_7, (Tl1Cur.mk c.code m5.at_ m5.seed)))) else (some (.inl (m4.at_, m4.seed)))) else (bif (r_1 == 2) then ((F_spec_l1Cur_pick (Tl1Cur.mk c.code m1.at_ m1.seed) 8).bind fun (r_8, m6) =>
  (F_spec_l2Power r_8).bind fun r_9 =>
  some (.inr (r_9, (Tl1Cur.mk c.code m6.at_ m6.seed)))) else (some (.inl (m1.at_, m1.seed)))))) : Option ((Int × Int) ⊕ (TDyadic × Tl1Cur))).bind <| orR fun (at_, seed) =>
  (F_spec_l1Cur_dyadic (Tl1Cur.mk c.code at_ seed)).bind fun (r_10, m7) =>
  some ((r_10, (Tl1Cur.mk c.code m7.at_ m7.seed)))

def F_spec_l3Unit_l1 (n : Int) : Nat → (List TDyadic) → Option (List TDyadic) := fun i1 Cells =>
  (F_spec_l2Power 0).bind fun r_1 =>
  (getI Cells (IntKind.i64.wrap ((IntKind.i64.wrap ((i1 : Int) * n)) + (i1 : Int)))).bind fun x =>
  some (Cells.set (IntKind.i64.wrap ((IntKind.i64.wrap ((i1 : Int) * n)) + (i1 : Int))).toNat r_1)
def F_spec_l3Unit (n : Int) : Option (TMatrix) :=
  chk ((0 : Int) ≤ (IntKind.i64.wrap (n * n)) ∧ (IntKind.i64.wrap (n * n)) ≤ 1099511627776) <|
  chk (n.toNat ≤ 9223372036854775807) <|
  (forN (F_spec_l3Unit_l1 n) n.toNat 0 (List.replicate ((IntKind.i64.wrap (n * n)).toNat) (TDyadic.mk (TRing.mk 0 0 0 0) 0))).bind fun Cells =>
  some ((TMatrix.mk n n Cells))

def F_spec_l1Cur_anyMatrix (c : Tl1Cur) : Option (TMatrix × Tl1Cur) :=
  (F_spec_l1Cur_among c [1, 2, 2, 4]).bind fun (r_1, m1) =>
  (F_spec_l1Cur_among (Tl1Cur.mk c.code m1.at_ m1.seed) [1, 2, 2, 4]).bind fun (r_2, m2) =>
  (F_spec_l1Cur_matrix (Tl1Cur.mk c.code m2.at_ m2.seed) r_1 r_2).bind fun (r_3, m3) =>
  (((F_spec_l1Cur_pick (Tl1Cur.mk c.code m3.at_ m3.seed) 12).bind fun (r_4, m4) =>
  bif (r_4 == 0) then ((F_spec_l1Cur_among (Tl1Cur.mk c.code m4.at_ m4.seed) [0, 3, 64, (-1), 1]).bind fun (r_5, m5) =>
  some (m5.at_, m5.seed, r_5, r_3.Cols, r_3.Cells)) else (bif (r_4 == 1) then ((F_spec_l1Cur_pick (Tl1Cur.mk c.code m4.at_ m4.seed) (r_3.Cells.length : Int)).bind fun (r_6, m6) =>
  (F_spec_l1Cur_anyDyadic (Tl1Cur.mk c.code m6.at_ m6.seed)).bind fun (r_7, m7) =>
  (getI r_3.Cells r_6).bind fun x =>
  some (m7.at_, m7.seed, r_3.Rows, r_3.Cols, (r_3.Cells.set r_6.toNat r_7))) else (bif (r_4 == 2) then (chk ((0 : Int) ≤ 1 ∧ 1 ≤ (r_3.Cells.length : Int)) <|
  some (m4.at_, m4.seed, r_3.Rows, r_3.Cols, (List.drop 1 r_3.Cells))) else (bif (r_4 == 3) then ((F_spec_l1Cur_among (Tl1Cur.mk c.code m4.at_ m4.seed) [1, 2, 4]).bind fun (r_8, m8) =>
  (F_spec_l3Unit r_8).bind fun r_9 =>
  some (m8.at_, m8.seed, r_9.Rows, r_9.Cols, r_9.Cells)) else (some (m4.at_, m4.seed, r_3.Rows, r_3.Cols, r_3.Cells)))))) : Option (Int × Int × Int × Int × List TDyadic)).bind fun (at_, seed, Rows, Cols, Cells) =>
  some (((TMatrix.mk Rows Cols Cells), (Tl1Cur.mk c.code at_ seed)))

def F_spec_DrawMulMatrix (code : List Int) : Option (TMatrix × TMatrix) :=
  (F_spec_l1Cur_among (Tl1Cur.mk code 0 0) [1, 2, 2, 4]).bind fun (r_2, m) =>
  (F_spec_l1Cur_among (Tl1Cur.mk code m.at_ m.seed) [1, 2, 4]).bind fun (r_3, m1) =>
  (F_spec_l1Cur_matrix (Tl1Cur.mk code m1.at_ m1.seed) r_3 r_2).bind fun (r_4, m2) =>
  (F_spec_l1Cur_among (Tl1Cur.mk code m2.at_ m2.seed) [1, 2, 4]).bind fun (r_5, m3) =>
  (F_spec_l1Cur_matrix (Tl1Cur.mk code m3.at_ m3.seed) r_2 r_5).bind fun (r_6, m4) =>
  (((F_spec_l1Cur_one (Tl1Cur.mk code m4.at_ m4.seed) 10).bind fun (r_7, m5) =>
  bif r_7 then ((F_spec_l1Cur_anyMatrix (Tl1Cur.mk code m5.at_ m5.seed)).bind fun (r_8, m6) =>
  some (r_8.Rows, r_8.Cols, r_8.Cells)) else (some (r_6.Rows, r_6.Cols, r_6.Cells))) : Option (Int × Int × List TDyadic)).bind fun (Rows, Cols, Cells) =>
  some ((r_4, (TMatrix.mk Rows Cols Cells)))

def F_impl_within (n : Int) (low : Int) (high : Int) : Option (Bool) :=
  some (((decide (low ≤ n)) && (decide (n ≤ high))))

def F_impl_isDim (n : Int) : Option (Bool) :=
  (F_impl_within n 1 32).bind fun r_1 =>
  some ((r_1 && ((bits .and .i64 n (IntKind.i64.wrap (n - 1))) == 0)))

def F_impl_matrixOf_l2 (cell : Int → Int → Option (TDyadic × Bool)) (i : Nat) : Nat → (List TDyadic) → Option (Ex (List TDyadic) (Ex (List TDyadic) (TMatrix × Bool))) := fun i1 Cells1 =>
  (cell (i : Int) (i1 : Int)).bind fun (r_4, r_5) =>
  bif (!r_5) then (some (.rt (.rt ((TMatrix.mk 0 0 []), false)))) else (chk (Cells1.length + 1 ≤ 1099511627776) <|
  some (.nx (Cells1 ++ [r_4])))
def F_impl_matrixOf_l1 (cols : Int) (cell : Int → Int → Option (TDyadic × Bool)) : Nat → (List TDyadic) → Option (Ex (List TDyadic) (TMatrix × Bool)) := fun i Cells =>
  chk (cols.toNat ≤ 9223372036854775807) <|
  (forX (F_impl_matrixOf_l2 cell i) cols.toNat 0 Cells).bind <| orR fun Cells1 =>
  some (.nx Cells1)
def F_impl_matrixOf (rows : Int) (cols : Int) (cell : Int → Int → Option (TDyadic × Bool)) : Option (TMatrix × Bool) :=
  (F_impl_isDim rows).bind fun r_2 =>
  (gb (!(!r_2)) false (F_impl_isDim cols)).bind fun r_3 =>
  bif ((!r_2) || (!r_3)) then (some (((TMatrix.mk 0 0 []), false))) else (chk (rows.toNat ≤ 9223372036854775807) <|
  (forX (F_impl_matrixOf_l1 cols cell) rows.toNat 0 []).bind <| orR fun Cells =>
  some (((TMatrix.mk rows cols Cells), true)))

def F_slices_IndexFunc_impl_Dyadic_impl_Dyadic_l1 (s : List TDyadic) (f_ : TDyadic → Option (Bool)) : Nat → Unit → Option (Ex (Unit) (Int)) := fun i _ =>
  (getI s (i : Int)).bind fun x1 =>
  (f_ x1).bind fun r_1 =>
  bif r_1 then (some (.rt (i : Int))) else (some (.nx ()))
def F_slices_IndexFunc_impl_Dyadic_impl_Dyadic (s : List TDyadic) (f_ : TDyadic → Option (Bool)) : Option (Int) :=
  chk (s.length ≤ 9223372036854775807) <|
  (forX (F_slices_IndexFunc_impl_Dyadic_impl_Dyadic_l1 s f_) s.length 0 ()).bind <| orR fun _ =>
  some ((-1))

def F_slices_ContainsFunc_impl_Dyadic_impl_Dyadic (s : List TDyadic) (f_ : TDyadic → Option (Bool)) : Option (Bool) :=
  (F_slices_IndexFunc_impl_Dyadic_impl_Dyadic s f_).bind fun r_1 =>
  some ((decide (0 ≤ r_1)))

def F_impl_isCoef (n : Int) : Option (Bool) :=
  (F_impl_within n (-1000000000) 1000000000).bind fun r_1 =>
  some (r_1)

def F_impl_IsValidRing (x : TRing) : Option (Bool) :=
  (F_impl_isCoef x.A).bind fun r_1 =>
  (gb r_1 false (F_impl_isCoef x.B)).bind fun r_2 =>
  (gb (r_1 && r_2) false (F_impl_isCoef x.C)).bind fun r_3 =>
  (gb ((r_1 && r_2) && r_3) false (F_impl_isCoef x.D)).bind fun r_4 =>
  some ((((r_1 && r_2) && r_3) && r_4))

def F_impl_isEven (x : TRing) : Option (Bool) :=
  some ((((Int.tmod (IntKind.i64.wrap (x.A + x.C)) 2) == 0) && ((Int.tmod (IntKind.i64.wrap (x.B + x.D)) 2) == 0)))

def F_impl_IsValidDyadic (x : TDyadic) : Option (Bool) :=
  (F_impl_IsValidRing x.Num).bind fun r_1 =>
  (gb r_1 false (F_impl_within x.Exp 0 60)).bind fun r_2 =>
  (gb ((r_1 && r_2) && (!(x.Exp == 0))) false (F_impl_isEven x.Num)).bind fun r_3 =>
  some (((r_1 && r_2) && ((x.Exp == 0) || (!r_3))))

def F_impl_IsValidMatrix_1 (x : TDyadic) : Option (Bool) :=
  (F_impl_IsValidDyadic x).bind fun r_1 =>
  some ((!r_1))

def F_impl_IsValidMatrix (m : TMatrix) : Option (Bool) :=
  (F_impl_isDim m.Rows).bind fun r_1 =>
  (gb r_1 false (F_impl_isDim m.Cols)).bind fun r_2 =>
  (gb ((r_1 && r_2) && ((m.Cells.length : Int) == (IntKind.i64.wrap (m.Rows * m.Cols)))) false (F_slices_ContainsFunc_impl_Dyadic_impl_Dyadic m.Cells F_impl_IsValidMatrix_1)).bind fun r_3 =>
  some ((((r_1 && r_2) && ((m.Cells.length : Int) == (IntKind.i64.wrap (m.Rows * m.Cols)))) && (!r_3)))

def F_impl_ringIf_l1 (args : List TRing) (out : TRing) : Nat → Unit → Option (Ex (Unit) (TRing × Bool)) := fun i _ =>
  (getI (args ++ [out]) (i : Int)).bind fun x =>
  (F_impl_IsValidRing x).bind fun r_2 =>
  bif (!r_2) then (some (.rt ((TRing.mk 0 0 0 0), false))) else (some (.nx ()))
def F_impl_ringIf (out : TRing) (args : List TRing) : Option (TRing × Bool) :=
  chk (args.length + 1 ≤ 1099511627776) <|
  chk (((args ++ [out]).length) ≤ 9223372036854775807) <|
  (forX (F_impl_ringIf_l1 args out) ((args ++ [out]).length) 0 ()).bind <| orR fun _ =>
  some ((out, true))

def F_impl_MulRing (x : TRing) (y : TRing) : Option (TRing × Bool) :=
  (F_impl_ringIf (TRing.mk (IntKind.i64.wrap ((IntKind.i64.wrap ((IntKind.i64.wrap ((IntKind.i64.wrap (x.A * y.A)) - (IntKind.i64.wrap (x.B * y.D)))) - (IntKind.i64.wrap (x.C * y.C)))) - (IntKind.i64.wrap (x.D * y.B)))) (IntKind.i64.wrap ((IntKind.i64.wrap ((IntKind.i64.wrap ((IntKind.i64.wrap (x.A * y.B)) + (IntKind.i64.wrap (x.B * y.A)))) - (IntKind.i64.wrap (x.C * y.D)))) - (IntKind.i64.wrap (x.D * y.C)))) (IntKind.i64.wrap ((IntKind.i64.wrap ((IntKind.i64.wrap ((IntKind.i64.wrap (x.A * y.C)) + (IntKind.i64.wrap (x.B * y.B)))) + (IntKind.i64.wrap (x.C * y.A)))) - (IntKind.i64.wrap (x.D * y.D)))) (IntKind.i64.wrap ((IntKind.i64.wrap ((IntKind.i64.wrap ((IntKind.i64.wrap (x.A * y.D)) + (IntKind.i64.wrap (x.B * y.C)))) + (IntKind.i64.wrap (x.C * y.B)))) + (IntKind.i64.wrap (x.D * y.A))))) [x, y]).bind fun (r_2, r_3) =>
  some ((r_2, r_3))

def F_impl_DivRootTwo (x : TRing) : Option (TRing × Bool) :=
  (F_impl_IsValidRing x).bind fun r_2 =>
  (gb (!(!r_2)) false (F_impl_isEven x)).bind fun r_3 =>
  bif ((!r_2) || (!r_3)) then (some (((TRing.mk 0 0 0 0), false))) else ((F_impl_ringIf (TRing.mk (IntKind.i64.wrap (Int.tdiv (IntKind.i64.wrap (x.B - x.D)) 2)) (IntKind.i64.wrap (Int.tdiv (IntKind.i64.wrap (x.A + x.C)) 2)) (IntKind.i64.wrap (Int.tdiv (IntKind.i64.wrap (x.B + x.D)) 2)) (IntKind.i64.wrap (Int.tdiv (IntKind.i64.wrap (x.C - x.A)) 2))) [x]).bind fun (r_4, r_5) =>
  some ((r_4, r_5)))

def F_impl_DyadicOf_l1 : (Int × Int × Int × Int × Int) → Option (Ex (Int × Int × Int × Int × Int) (TDyadic × Bool)) := fun (exp1, A, B, C, D) =>
  (gb (decide (0 < exp1)) false (F_impl_isEven (TRing.mk A B C D))).bind fun r_4 =>
  bif ((decide (0 < exp1)) && r_4) then ((F_impl_DivRootTwo (TRing.mk A B C D)).bind fun (r_5, r_6) =>
  some (.nx ((IntKind.i64.wrap (exp1 - 1)), r_5.A, r_5.B, r_5.C, r_5.D))) else (some (.br (exp1, A, B, C, D)))
def F_impl_DyadicOf (num : TRing) (exp : Int) : Option (TDyadic × Bool) :=
  (F_impl_IsValidRing num).bind fun r_2 =>
  (gb (!(!r_2)) false (F_impl_within exp 0 60)).bind fun r_3 =>
  bif ((!r_2) || (!r_3)) then (some (((TDyadic.mk (TRing.mk 0 0 0 0) 0), false))) else ((whX F_impl_DyadicOf_l1 fuel (exp, num.A, num.B, num.C, num.D)).bind <| orR fun (exp1, A, B, C, D) =>
  some (((TDyadic.mk (TRing.mk A B C D) exp1), true)))

def F_impl_MulDyadic (x : TDyadic) (y : TDyadic) : Option (TDyadic × Bool) :=
  (F_impl_MulRing x.Num y.Num).bind fun (r_2, r_3) =>
  (F_impl_IsValidDyadic x).bind fun r_4 =>
  (gb (!(!r_4)) false (F_impl_IsValidDyadic y)).bind fun r_5 =>
  bif (((!r_4) || (!r_5)) || (!r_3)) then (some (((TDyadic.mk (TRing.mk 0 0 0 0) 0), false))) else ((F_impl_DyadicOf r_2 (IntKind.i64.wrap (x.Exp + y.Exp))).bind fun (r_6, r_7) =>
  some ((r_6, r_7)))

def F_impl_Matrix_at (m : TMatrix) (i : Int) (j : Int) : Option (TDyadic) :=
  (getI m.Cells (IntKind.i64.wrap ((IntKind.i64.wrap (i * m.Cols)) + j))).bind fun x =>
  some (x)

def F_impl_MulRootTwo (x : TRing) : Option (TRing × Bool) :=
  (F_impl_ringIf (TRing.mk (IntKind.i64.wrap (x.B - x.D)) (IntKind.i64.wrap (x.A + x.C)) (IntKind.i64.wrap (x.B + x.D)) (IntKind.i64.wrap (x.C - x.A))) [x]).bind fun (r_2, r_3) =>
  some ((r_2, r_3))

def F_impl_raised_l1 (exp : Int) : (Int × Int × Int × Int × Bool × Int) → Option (Ex (Int × Int × Int × Int × Bool × Int) (TRing × Bool)) := fun (A, B, C, D, ok, k_) =>
  bif ((decide (k_ < exp)) && ok) then ((F_impl_MulRootTwo (TRing.mk A B C D)).bind fun (r_2, r_3) =>
  some (.nx (r_2.A, r_2.B, r_2.C, r_2.D, r_3, (IntKind.i64.wrap (k_ + 1))))) else (some (.br (A, B, C, D, ok, k_)))
def F_impl_raised (x : TDyadic) (exp : Int) : Option (TRing × Bool) :=
  (whX (F_impl_raised_l1 exp) fuel (x.Num.A, x.Num.B, x.Num.C, x.Num.D, true, x.Exp)).bind <| orR fun (A, B, C, D, ok, k_) =>
  some (((TRing.mk A B C D), ok))

def F_impl_combined (x : TDyadic) (y : TDyadic) (operation : TRing → TRing → Option (TRing × Bool)) : Option (TDyadic × Bool) :=
  (F_impl_IsValidDyadic x).bind fun r_2 =>
  (gb (!(!r_2)) false (F_impl_IsValidDyadic y)).bind fun r_3 =>
  bif ((!r_2) || (!r_3)) then (some (((TDyadic.mk (TRing.mk 0 0 0 0) 0), false))) else ((F_impl_raised x (if x.Exp < y.Exp then y.Exp else x.Exp)).bind fun (r_4, r_5) =>
  (F_impl_raised y (if x.Exp < y.Exp then y.Exp else x.Exp)).bind fun (r_6, r_7) =>
  (operation r_4 r_6).bind fun (r_8, r_9) =>
  bif (((!r_5) || (!r_7)) || (!r_9)) then (some (((TDyadic.mk (TRing.mk 0 0 0 0) 0), false))) else ((F_impl_DyadicOf r_8 (if x.Exp < y.Exp then y.Exp else x.Exp)).bind fun (r_10, r_11) =>
  some ((r_10, r_11))))

def F_impl_AddRing (x : TRing) (y : TRing) : Option (TRing × Bool) :=
  (F_impl_ringIf (TRing.mk (IntKind.i64.wrap (x.A + y.A)) (IntKind.i64.wrap (x.B + y.B)) (IntKind.i64.wrap (x.C + y.C)) (IntKind.i64.wrap (x.D + y.D))) [x, y]).bind fun (r_2, r_3) =>
  some ((r_2, r_3))

def F_impl_AddDyadic (x : TDyadic) (y : TDyadic) : Option (TDyadic × Bool) :=
  (F_impl_combined x y F_impl_AddRing).bind fun (r_2, r_3) =>
  some ((r_2, r_3))

def F_impl_MulMatrix_1_l1 (p : TMatrix) (i : Int) (p1 : TMatrix) (j : Int) : Nat → (Int × Int × Int × Int × Int) → Option (Ex (Int × Int × Int × Int × Int) (TDyadic × Bool)) := fun i1 (A, B4, C, D, Exp) =>
  (F_impl_Matrix_at p i (i1 : Int)).bind fun r_2 =>
  (F_impl_Matrix_at p1 (i1 : Int) j).bind fun r_3 =>
  (F_impl_MulDyadic r_2 r_3).bind fun (r_4, r_5) =>
  (F_impl_AddDyadic (TDyadic.mk (TRing.mk A B4 C D) Exp) r_4).bind fun (r_6, r_7) =>
  bif ((!r_5) || (!r_7)) then (some (.rt ((TDyadic.mk (TRing.mk 0 0 0 0) 0), false))) else (some (.nx (r_6.Num.A, r_6.Num.B, r_6.Num.C, r_6.Num.D, r_6.Exp)))
def F_impl_MulMatrix_1 (i : Int) (j : Int) (p : TMatrix) (p1 : TMatrix) : Option (TDyadic × Bool) :=
  chk (p.Cols.toNat ≤ 9223372036854775807) <|
  (forX (F_impl_MulMatrix_1_l1 p i p1 j) p.Cols.toNat 0 (0, 0, 0, 0, 0)).bind <| orR fun (A, B4, C, D, Exp) =>
  some (((TDyadic.mk (TRing.mk A B4 C D) Exp), true))

def F_impl_MulMatrix (a : TMatrix) (b : TMatrix) : Option (TMatrix × Bool) :=
  (F_impl_IsValidMatrix a).bind fun r_2 =>
  (gb (!(!r_2)) false (F_impl_IsValidMatrix b)).bind fun r_3 =>
  bif (((!r_2) || (!r_3)) || (a.Cols != b.Rows)) then (some (((TMatrix.mk 0 0 []), false))) else ((F_impl_matrixOf a.Rows b.Cols (fun x_0 x_1 => F_impl_MulMatrix_1 x_0 x_1 a b)).bind fun (r_4, r_5) =>
  some ((r_4, r_5)))

def F_spec_l1Has_l1 (l : List Int) (n1 : Int) : Nat → Unit → Option (Ex (Unit) (Bool)) := fun i _ =>
  (getI l (i : Int)).bind fun x =>
  bif (x == n1) then (some (.rt true)) else (some (.nx ()))
def F_spec_l1Has (l : List Int) (n1 : Int) : Option (Bool) :=
  chk (l.length ≤ 9223372036854775807) <|
  (forX (F_spec_l1Has_l1 l n1) l.length 0 ()).bind <| orR fun _ =>
  some (false)

def F_spec_l3Dim (n : Int) : Option (Bool) :=
  (F_spec_l1Has [1, 2, 4, 8, 16, 32] n).bind fun r_1 =>
  some (r_1)

def F_spec_l2Good (x : TDyadic) : Option (Bool) :=
  (F_spec_l1Good x.Num).bind fun r_1 =>
  (gb r_1 false (F_spec_l1In x.Exp 0 60)).bind fun r_2 =>
  (gb ((r_1 && r_2) && (!(x.Exp == 0))) false (F_spec_l1Even x.Num)).bind fun r_3 =>
  some (((r_1 && r_2) && ((x.Exp == 0) || (!r_3))))

def F_spec_l3Good_l1 (m : TMatrix) : Nat → Unit → Option (Ex (Unit) (Bool)) := fun i _ =>
  (getI m.Cells (i : Int)).bind fun x =>
  (F_spec_l2Good x).bind fun r_3 =>
  bif (!r_3) then (some (.rt false)) else (some (.nx ()))
def F_spec_l3Good (m : TMatrix) : Option (Bool) :=
  (F_spec_l3Dim m.Rows).bind fun r_1 =>
  (gb (!(!r_1)) false (F_spec_l3Dim m.Cols)).bind fun r_2 =>
  bif (((!r_1) || (!r_2)) || ((m.Cells.length : Int) != (IntKind.i64.wrap (m.Rows * m.Cols)))) then (some (false)) else (chk (m.Cells.length ≤ 9223372036854775807) <|
  (forX (F_spec_l3Good_l1 m) m.Cells.length 0 ()).bind <| orR fun _ =>
  some (true))

def F_spec_l2C_matrix (c : Tl2C) (m : TMatrix) : Option (TMatrix × Bool) :=
  bif c.bad then (some (((TMatrix.mk 0 0 []), false))) else (some ((m, true)))

def F_spec_l2C_ring (c : Tl2C) (x : TRing) : Option (TRing × Tl2C) :=
  (F_spec_l1Good x).bind fun r_1 =>
  bif (!r_1) then (some (((TRing.mk 0 0 0 0), (Tl2C.mk true)))) else (some ((x, c)))

def F_spec_l1Add (x : TRing) (y : TRing) : Option (TRing) :=
  some ((TRing.mk (IntKind.i64.wrap (x.A + y.A)) (IntKind.i64.wrap (x.B + y.B)) (IntKind.i64.wrap (x.C + y.C)) (IntKind.i64.wrap (x.D + y.D))))

def F_spec_l2C_add_l2 (Exp : Int) (bad : Bool) (A : Int) (C : Int) (D : Int) : (Bool × Int × Int × Int × Int × Int) → Option (Ex (Bool × Int × Int × Int × Int × Int) (TDyadic × Tl2C)) := fun (bad1, A1, B2, C1, D1, Exp1) =>
  bif (decide (Exp1 < Exp)) then ((F_spec_l1Root (TRing.mk A1 B2 C1 D1)).bind fun r_3 =>
  (F_spec_l2C_ring (Tl2C.mk bad1) r_3).bind fun (r_4, m2) =>
  some (.nx (m2.bad, r_4.A, r_4.B, r_4.C, r_4.D, (IntKind.i64.wrap (Exp1 + 1))))) else (some (.br (bad1, A1, B2, C1, D1, Exp1)))
def F_spec_l2C_add_l1 (y : TDyadic) : (Bool × Int × Int × Int × Int × Int) → Option (Ex (Bool × Int × Int × Int × Int × Int) (TDyadic × Tl2C)) := fun (bad, A, B1, C, D, Exp) =>
  bif (decide (Exp < y.Exp)) then ((F_spec_l1Root (TRing.mk A B1 C D)).bind fun r_1 =>
  (F_spec_l2C_ring (Tl2C.mk bad) r_1).bind fun (r_2, m1) =>
  some (.nx (m1.bad, r_2.A, r_2.B, r_2.C, r_2.D, (IntKind.i64.wrap (Exp + 1))))) else (some (.br (bad, A, B1, C, D, Exp)))
def F_spec_l2C_add (c : Tl2C) (x : TDyadic) (y : TDyadic) : Option (TDyadic × Tl2C) :=
  (whX (F_spec_l2C_add_l1 y) fuel (c.bad, x.Num.A, x.Num.B, x.Num.C, x.Num.D, x.Exp)).bind <| orR fun (bad, A, B1, C, D, Exp) =>
  (whX (F_spec_l2C_add_l2 Exp bad A C D) fuel (bad, y.Num.A, y.Num.B, y.Num.C, y.Num.D, y.Exp)).bind <| orR fun (bad1, A1, B2, C1, D1, Exp1) =>
  (F_spec_l1Add (TRing.mk A B1 C D) (TRing.mk A1 B2 C1 D1)).bind fun r_5 =>
  (F_spec_l2C_ring (Tl2C.mk bad1) r_5).bind fun (r_6, m3) =>
  (F_spec_l2Low r_6 Exp).bind fun r_7 =>
  some ((r_7, m3))

def F_spec_l1Mul (x : TRing) (y : TRing) : Option (TRing) :=
  some ((TRing.mk (IntKind.i64.wrap ((IntKind.i64.wrap ((IntKind.i64.wrap ((IntKind.i64.wrap (x.A * y.A)) - (IntKind.i64.wrap (x.B * y.D)))) - (IntKind.i64.wrap (x.C * y.C)))) - (IntKind.i64.wrap (x.D * y.B)))) (IntKind.i64.wrap ((IntKind.i64.wrap ((IntKind.i64.wrap ((IntKind.i64.wrap (x.A * y.B)) + (IntKind.i64.wrap (x.B * y.A)))) - (IntKind.i64.wrap (x.C * y.D)))) - (IntKind.i64.wrap (x.D * y.C)))) (IntKind.i64.wrap ((IntKind.i64.wrap ((IntKind.i64.wrap ((IntKind.i64.wrap (x.A * y.C)) + (IntKind.i64.wrap (x.B * y.B)))) + (IntKind.i64.wrap (x.C * y.A)))) - (IntKind.i64.wrap (x.D * y.D)))) (IntKind.i64.wrap ((IntKind.i64.wrap ((IntKind.i64.wrap ((IntKind.i64.wrap (x.A * y.D)) + (IntKind.i64.wrap (x.B * y.C)))) + (IntKind.i64.wrap (x.C * y.B)))) + (IntKind.i64.wrap (x.D * y.A))))))

def F_spec_l2C_mul (c : Tl2C) (x : TDyadic) (y : TDyadic) : Option (TDyadic × Tl2C) :=
  bif (decide (60 < (IntKind.i64.wrap (x.Exp + y.Exp)))) then (some (((TDyadic.mk (TRing.mk 0 0 0 0) 0), (Tl2C.mk true)))) else ((F_spec_l1Mul x.Num y.Num).bind fun r_1 =>
  (F_spec_l2C_ring c r_1).bind fun (r_2, m1) =>
  (F_spec_l2Low r_2 (IntKind.i64.wrap (x.Exp + y.Exp))).bind fun r_3 =>
  some ((r_3, m1)))

def F_spec_l2C_times_l3 (a : TMatrix) (Cells : List TDyadic) (i1 : Nat) (b : TMatrix) (j : Nat) (bad : Bool) : (Bool × Int × Int × Int × Int × Int × Int) → Option (Ex (Bool × Int × Int × Int × Int × Int × Int) (Bool × List TDyadic)) := fun (bad2, A, B6, C, D, Exp, k_4) =>
  bif ((decide (k_4 < a.Cols)) && (!bad2)) then ((getI a.Cells (IntKind.i64.wrap ((IntKind.i64.wrap ((i1 : Int) * a.Cols)) + k_4))).bind fun x =>
  (getI b.Cells (IntKind.i64.wrap ((IntKind.i64.wrap (k_4 * b.Cols)) + (j : Int)))).bind fun x1 =>
  (F_spec_l2C_mul (Tl2C.mk bad2) x x1).bind fun (r_1, m1) =>
  (F_spec_l2C_add m1 (TDyadic.mk (TRing.mk A B6 C D) Exp) r_1).bind fun (r_2, m2) =>
  some (.nx (m2.bad, r_2.Num.A, r_2.Num.B, r_2.Num.C, r_2.Num.D, r_2.Exp, (IntKind.i64.wrap (k_4 + 1))))) else (some (.br (bad2, A, B6, C, D, Exp, k_4)))
def F_spec_l2C_times_l2 (a : TMatrix) (Cells : List TDyadic) (i1 : Nat) (b : TMatrix) (bad : Bool) : Nat → (Bool × List TDyadic) → Option (Bool × List TDyadic) := fun j (bad1, Cells1) =>
  (whX (F_spec_l2C_times_l3 a Cells i1 b j bad) fuel (bad1, 0, 0, 0, 0, 0, 0)).bind <| orR fun (bad2, A, B6, C, D, Exp, k_4) =>
  chk (Cells1.length + 1 ≤ 1099511627776) <|
  some (bad2, (Cells1 ++ [(TDyadic.mk (TRing.mk A B6 C D) Exp)]))
def F_spec_l2C_times_l1 (b : TMatrix) (a : TMatrix) : Nat → (Bool × List TDyadic) → Option (Bool × List TDyadic) := fun i1 (bad, Cells) =>
  chk (b.Cols.toNat ≤ 9223372036854775807) <|
  (forN (F_spec_l2C_times_l2 a Cells i1 b bad) b.Cols.toNat 0 (bad, Cells)).bind fun (bad1, Cells1) =>
  some (bad1, Cells1)
def F_spec_l2C_times (c : Tl2C) (a : TMatrix) (b : TMatrix) : Option (TMatrix × Tl2C) :=
  chk (a.Rows.toNat ≤ 9223372036854775807) <|
  (forN (F_spec_l2C_times_l1 b a) a.Rows.toNat 0 (c.bad, [])).bind fun (bad, Cells) =>
  some (((TMatrix.mk a.Rows b.Cols Cells), (Tl2C.mk bad)))

def F_spec_MulMatrix (a : TMatrix) (b : TMatrix) : Option (TMatrix × Bool) :=
  (F_spec_l3Good a).bind fun r_2 =>
  (gb (!(!r_2)) false (F_spec_l3Good b)).bind fun r_3 =>
  bif (((!r_2) || (!r_3)) || (a.Cols != b.Rows)) then (some (((TMatrix.mk 0 0 []), false))) else ((F_spec_l2C_times (Tl2C.mk false) a b).bind fun (r_4, m) =>
  (F_spec_l2C_matrix m r_4).bind fun (r_5, r_6) =>
  some ((r_5, r_6)))

def F_spec_EqualMatrices_l1 (a : TMatrix) (b : TMatrix) : Nat → Unit → Option (Ex (Unit) (Bool)) := fun i _ =>
  (getI a.Cells (i : Int)).bind fun x =>
  (getI b.Cells (i : Int)).bind fun x1 =>
  bif (!(((x.Num.A == x1.Num.A) && ((x.Num.B == x1.Num.B) && ((x.Num.C == x1.Num.C) && ((x.Num.D == x1.Num.D) && true)))) && ((x.Exp == x1.Exp) && true))) then (some (.rt false)) else (some (.nx ()))
def F_spec_EqualMatrices (a : TMatrix) (b : TMatrix) : Option (Bool) :=
  bif (((a.Rows != b.Rows) || (a.Cols != b.Cols)) || ((a.Cells.length : Int) != (b.Cells.length : Int))) then (some (false)) else (chk (a.Cells.length ≤ 9223372036854775807) <|
  (forX (F_spec_EqualMatrices_l1 a b) a.Cells.length 0 ()).bind <| orR fun _ =>
  some (true))

def F_impl_Conjugate (x : TRing) : Option (TRing × Bool) :=
  (F_impl_ringIf (TRing.mk x.A (IntKind.i64.wrap (-x.D)) (IntKind.i64.wrap (-x.C)) (IntKind.i64.wrap (-x.B))) [x]).bind fun (r_2, r_3) =>
  some ((r_2, r_3))

def F_impl_ConjDyadic (x : TDyadic) : Option (TDyadic × Bool) :=
  (F_impl_IsValidDyadic x).bind fun r_2 =>
  bif (!r_2) then (some (((TDyadic.mk (TRing.mk 0 0 0 0) 0), false))) else ((F_impl_Conjugate x.Num).bind fun (r_3, r_4) =>
  some (((TDyadic.mk r_3 x.Exp), true)))

def F_impl_Adjoint_1 (i : Int) (j : Int) (p : TMatrix) : Option (TDyadic × Bool) :=
  (F_impl_Matrix_at p j i).bind fun r_2 =>
  (F_impl_ConjDyadic r_2).bind fun (r_3, r_4) =>
  some ((r_3, r_4))

def F_impl_Adjoint (m : TMatrix) : Option (TMatrix × Bool) :=
  (F_impl_IsValidMatrix m).bind fun r_2 =>
  bif (!r_2) then (some (((TMatrix.mk 0 0 []), false))) else ((F_impl_matrixOf m.Cols m.Rows (fun x_0 x_1 => F_impl_Adjoint_1 x_0 x_1 m)).bind fun (r_3, r_4) =>
  some ((r_3, r_4)))

def F_impl_whole (n : Int) : Option (TDyadic) :=
  some ((TDyadic.mk (TRing.mk n 0 0 0) 0))

def F_impl_IdentityMatrix_1 (i : Int) (j : Int) : Option (TDyadic × Bool) :=
  bif (i == j) then ((F_impl_whole 1).bind fun r_2 =>
  some ((r_2, true))) else (some (((TDyadic.mk (TRing.mk 0 0 0 0) 0), true)))

def F_impl_IdentityMatrix (n : Int) : Option (TMatrix × Bool) :=
  (F_impl_matrixOf n n F_impl_IdentityMatrix_1).bind fun (r_2, r_3) =>
  some ((r_2, r_3))

def F_impl_TraceOf_l1 (m : TMatrix) : (Int × Int × Int × Int × Int × Bool × Int) → Option (Ex (Int × Int × Int × Int × Int × Bool × Int) (TDyadic × Bool)) := fun (A, B1, C, D, Exp, ok, i) =>
  bif ((decide (i < m.Rows)) && ok) then ((F_impl_Matrix_at m i i).bind fun r_3 =>
  (F_impl_AddDyadic (TDyadic.mk (TRing.mk A B1 C D) Exp) r_3).bind fun (r_4, r_5) =>
  some (.nx (r_4.Num.A, r_4.Num.B, r_4.Num.C, r_4.Num.D, r_4.Exp, r_5, (IntKind.i64.wrap (i + 1))))) else (some (.br (A, B1, C, D, Exp, ok, i)))
def F_impl_TraceOf (m : TMatrix) : Option (TDyadic × Bool) :=
  (F_impl_IsValidMatrix m).bind fun r_2 =>
  bif ((!r_2) || (m.Rows != m.Cols)) then (some (((TDyadic.mk (TRing.mk 0 0 0 0) 0), false))) else ((whX (F_impl_TraceOf_l1 m) fuel (0, 0, 0, 0, 0, true, 0)).bind <| orR fun (A, B1, C, D, Exp, ok, i) =>
  some (((TDyadic.mk (TRing.mk A B1 C D) Exp), ok)))

def F_spec_DrawKron (code : List Int) : Option (TMatrix × TMatrix) :=
  (F_spec_l1Cur_anyMatrix (Tl1Cur.mk code 0 0)).bind fun (r_2, m) =>
  (F_spec_l1Cur_anyMatrix (Tl1Cur.mk code m.at_ m.seed)).bind fun (r_3, m1) =>
  some ((r_2, r_3))

def F_impl_Kron_1 (i : Int) (j : Int) (p : TMatrix) (p1 : TMatrix) : Option (TDyadic × Bool) :=
  chk (p1.Rows ≠ (0 : Int)) <|
  chk (p1.Cols ≠ (0 : Int)) <|
  (F_impl_Matrix_at p (IntKind.i64.wrap (Int.tdiv i p1.Rows)) (IntKind.i64.wrap (Int.tdiv j p1.Cols))).bind fun r_2 =>
  chk (p1.Rows ≠ (0 : Int)) <|
  chk (p1.Cols ≠ (0 : Int)) <|
  (F_impl_Matrix_at p1 (Int.tmod i p1.Rows) (Int.tmod j p1.Cols)).bind fun r_3 =>
  (F_impl_MulDyadic r_2 r_3).bind fun (r_4, r_5) =>
  some ((r_4, r_5))

def F_impl_Kron (a : TMatrix) (b : TMatrix) : Option (TMatrix × Bool) :=
  (F_impl_IsValidMatrix a).bind fun r_2 =>
  (gb (!(!r_2)) false (F_impl_IsValidMatrix b)).bind fun r_3 =>
  bif ((!r_2) || (!r_3)) then (some (((TMatrix.mk 0 0 []), false))) else ((F_impl_matrixOf (IntKind.i64.wrap (a.Rows * b.Rows)) (IntKind.i64.wrap (a.Cols * b.Cols)) (fun x_0 x_1 => F_impl_Kron_1 x_0 x_1 a b)).bind fun (r_4, r_5) =>
  some ((r_4, r_5)))

def F_laws_FnMatrices (code : List Int) (more : List Int) : Option (Bool) :=
  (F_laws_big code more).bind fun r_1 =>
  bif r_1 then (some (true)) else ((F_spec_DrawMulMatrix code).bind fun (r_2, r_3) =>
  (F_impl_MulMatrix r_2 r_3).bind fun (r_4, r_5) =>
  (F_spec_MulMatrix r_2 r_3).bind fun (r_6, r_7) =>
  (gb (!(!(r_5 == r_7))) false (F_spec_EqualMatrices r_4 r_6)).bind fun r_8 =>
  bif ((!(r_5 == r_7)) || (!r_8)) then (some (false)) else (((bif r_5 then ((F_impl_Adjoint r_2).bind fun (r_9, r_10) =>
  (F_impl_Adjoint r_3).bind fun (r_11, r_12) =>
  (F_impl_Adjoint r_4).bind fun (r_13, r_14) =>
  (F_impl_MulMatrix r_11 r_9).bind fun (r_15, r_16) =>
  (gb (((r_10 && r_12) && r_14) && r_16) false (F_spec_EqualMatrices r_13 r_15)).bind fun r_17 =>
  bif ((((r_10 && r_12) && r_14) && r_16) && (!r_17)) then (some (.inr false)) else ((F_impl_IdentityMatrix r_6.Cols).bind fun (r_18, r_19) =>
  (F_impl_MulMatrix r_6 r_18).bind fun (r_20, r_21) =>
  (gb (!((!r_19) || (!r_21))) false (F_spec_EqualMatrices r_20 r_6)).bind fun r_22 =>
  bif (((!r_19) || (!r_21)) || (!r_22)) then (some (.inr false)) else ((F_impl_MulMatrix r_3 r_2).bind fun (r_23, r_24) =>
  (F_impl_TraceOf r_4).bind fun (r_25, r_26) =>
  (F_impl_TraceOf r_23).bind fun (r_27, r_28) =>
  bif (((r_24 && r_26) && r_28) && (!(((r_25.Num.A == r_27.Num.A) && ((r_25.Num.B == r_27.Num.B) && ((r_25.Num.C == r_27.Num.C) && ((r_25.Num.D == r_27.Num.D) && true)))) && ((r_25.Exp == r_27.Exp) && true)))) then (some (.inr false)) else (some (.inl ()))))) else (some (.inl ()))) : Option ((Unit) ⊕ (Bool))).bind <| orR fun _ =>
  (F_spec_DrawKron more).bind fun (r_29, r_30) =>
  (F_impl_Kron r_29 r_30).bind fun (r_31, r_32) =>
  (F_impl_Adjoint r_31).bind fun (r_33, r_34) =>
  (F_impl_Adjoint r_29).bind fun (r_35, r_36) =>
  (F_impl_Adjoint r_30).bind fun (r_37, r_38) =>
  (F_impl_Kron r_35 r_37).bind fun (r_39, r_40) =>
  (gb (!(((((!r_32) || (!r_34)) || (!r_36)) || (!r_38)) || (!r_40))) false (F_spec_EqualMatrices r_33 r_39)).bind fun r_41 =>
  some (((((((!r_32) || (!r_34)) || (!r_36)) || (!r_38)) || (!r_40)) || r_41))))
end Go.VK
