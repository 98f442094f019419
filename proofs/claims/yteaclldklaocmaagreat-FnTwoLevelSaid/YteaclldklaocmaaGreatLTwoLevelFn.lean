/- What each Go function computes, by program. -/
import Derived.Test.YteaclldklaocmaaGreatLTwoLevelTy
set_option linter.unusedVariables false
namespace Go.VK
open Go.RowKit
def F_laws_big (code : List Int) (more : List Int) : Option (Bool) :=
  some (((decide (1048576 < (code.length : Int))) || (decide ((IntKind.i64.wrap (1048576 - (code.length : Int))) < (more.length : Int)))))

def F_spec_l1Cur_next (c : Tl1Cur) : Option (Int × Tl1Cur) :=
  ((bif (decide (c.at_ < (c.code.length : Int))) then ((getI c.code c.at_).bind fun x =>
  some (IntKind.i64.wrap x)) else (some 0)) : Option (Int)).bind fun b =>
  bif (decide ((IntKind.i64.wrap (c.at_ + 1)) ≤ (c.code.length : Int))) then (some ((b, (Tl1Cur.mk c.code (IntKind.i64.wrap (c.at_ + 1)) (IntKind.u64.wrap ((IntKind.u64.wrap ((IntKind.u64.wrap (c.seed * 6364136223846793005)) + (IntKind.u64.wrap b))) + 1442695040888963407)))))) else (some (((IntKind.i64.wrap (bits .and .u64 (shrK .u64 (IntKind.u64.wrap ((IntKind.u64.wrap ((IntKind.u64.wrap (c.seed * 6364136223846793005)) + (IntKind.u64.wrap b))) + 1442695040888963407)) 40) 255)), (Tl1Cur.mk c.code (IntKind.i64.wrap (c.at_ + 1)) (IntKind.u64.wrap ((IntKind.u64.wrap ((IntKind.u64.wrap (c.seed * 6364136223846793005)) + (IntKind.u64.wrap b))) + 1442695040888963407))))))

def F_spec_l1Cur_pick (c : Tl1Cur) (n1 : Int) : Option (Int × Tl1Cur) :=
  bif (decide (n1 ≤ 1)) then (some ((0, c))) else ((F_spec_l1Cur_next c).bind fun (r_1, m1) =>
  ((bif (decide (200 < n1)) then ((F_spec_l1Cur_next (Tl1Cur.mk c.code m1.at_ m1.seed)).bind fun (r_2, m2) =>
  some (m2.at_, m2.seed, (IntKind.i64.wrap ((IntKind.i64.wrap (r_1 * 256)) + r_2)))) else (some (m1.at_, m1.seed, r_1))) : Option (Int × Int × Int)).bind fun (at_, seed, x) =>
  chk (n1 ≠ (0 : Int)) <|
  some (((Int.tmod x n1), (Tl1Cur.mk c.code at_ seed))))

def F_spec_l1Cur_among (c : Tl1Cur) (list : List Int) : Option (Int × Tl1Cur) :=
  (F_spec_l1Cur_pick c (list.length : Int)).bind fun (r_1, m1) =>
  (getI list r_1).bind fun x =>
  some ((x, (Tl1Cur.mk c.code m1.at_ m1.seed)))

def F_spec_l1Cur_dim (c : Tl1Cur) : Option (Int × Tl1Cur) :=
  (F_spec_l1Cur_among c [2, 4, 8, 4, 4, 8, 2, 3]).bind fun (r_1, m1) =>
  some ((r_1, (Tl1Cur.mk c.code m1.at_ m1.seed)))

def F_spec_l1Cur_one (c : Tl1Cur) (n1 : Int) : Option (Bool × Tl1Cur) :=
  (F_spec_l1Cur_pick c n1).bind fun (r_1, m1) =>
  some (((r_1 == 0), (Tl1Cur.mk c.code m1.at_ m1.seed)))

def F_spec_l1Least (a : Int) (b : Int) : Option (Int) :=
  bif (decide (a < b)) then (some (a)) else (some (b))

def F_spec_l1Most (a : Int) (b : Int) : Option (Int) :=
  bif (decide (b < a)) then (some (a)) else (some (b))

def F_spec_l1Cur_level (c : Tl1Cur) (n1 : Int) : Option (TTwoLevel × Tl1Cur) :=
  (F_spec_l1Cur_pick c n1).bind fun (r_1, m1) =>
  (F_spec_l1Cur_pick (Tl1Cur.mk c.code m1.at_ m1.seed) n1).bind fun (r_2, m2) =>
  (F_spec_l1Cur_pick (Tl1Cur.mk c.code m2.at_ m2.seed) 3).bind fun (r_3, m3) =>
  (F_spec_l1Least r_1 r_2).bind fun r_4 =>
  (F_spec_l1Most r_1 r_2).bind fun r_5 =>
  (F_spec_l1Cur_pick (Tl1Cur.mk c.code m3.at_ m3.seed) 8).bind fun (r_6, m4) =>
  ((bif ((IntKind.i64.wrap (1 + r_3)) == 1) then ((F_spec_l1Cur_pick (Tl1Cur.mk c.code m4.at_ m4.seed) 7).bind fun (r_7, m5) =>
  some (m5.at_, m5.seed, 0, (IntKind.i64.wrap (1 + r_7)))) else (bif ((IntKind.i64.wrap (1 + r_3)) == 2) then (some (m4.at_, m4.seed, r_5, 0)) else (some (m4.at_, m4.seed, r_5, r_6)))) : Option (Int × Int × Int × Int)).bind fun (at_, seed, J, M_) =>
  bif (((IntKind.i64.wrap (1 + r_3)) != 1) && (r_1 == r_2)) then ((F_spec_l1Cur_pick (Tl1Cur.mk c.code at_ seed) 7).bind fun (r_8, m6) =>
  some (((TTwoLevel.mk 1 r_1 0 (IntKind.i64.wrap (1 + r_8))), (Tl1Cur.mk c.code m6.at_ m6.seed)))) else ((((F_spec_l1Cur_one (Tl1Cur.mk c.code at_ seed) 20).bind fun (r_9, m7) =>
  bif r_9 then ((F_spec_l1Cur_among (Tl1Cur.mk c.code m7.at_ m7.seed) [8, (-1), 0]).bind fun (r_10, m8) =>
  some (m8.at_, m8.seed, r_10)) else (some (m7.at_, m7.seed, M_))) : Option (Int × Int × Int)).bind fun (at_1, seed1, M_1) =>
  (((F_spec_l1Cur_one (Tl1Cur.mk c.code at_1 seed1) 20).bind fun (r_11, m9) =>
  bif r_11 then ((F_spec_l1Cur_among (Tl1Cur.mk c.code m9.at_ m9.seed) [n1, (-1), 0]).bind fun (r_12, m10) =>
  some (m10.at_, m10.seed, r_12)) else (some (m9.at_, m9.seed, J))) : Option (Int × Int × Int)).bind fun (at_2, seed2, J1) =>
  some (((TTwoLevel.mk (IntKind.i64.wrap (1 + r_3)) r_4 J1 M_1), (Tl1Cur.mk c.code at_2 seed2))))

def F_spec_DrawIsValidTwoLevel (code : List Int) : Option (Int × TTwoLevel) :=
  (F_spec_l1Cur_dim (Tl1Cur.mk code 0 0)).bind fun (r_2, m) =>
  (F_spec_l1Cur_level (Tl1Cur.mk code m.at_ m.seed) r_2).bind fun (r_3, m1) =>
  some ((r_2, r_3))

def F_spec_DrawInverseTwoLevel (code : List Int) : Option (Int × TTwoLevel) :=
  (F_spec_DrawIsValidTwoLevel code).bind fun (r_2, r_3) =>
  some ((r_2, r_3))

def F_impl_isLevelDim (n : Int) : Option (Bool) :=
  some ((((n == 2) || (n == 4)) || (n == 8)))

def F_impl_within (n : Int) (low : Int) (high : Int) : Option (Bool) :=
  some (((decide (low ≤ n)) && (decide (n ≤ high))))

def F_impl_IsValidTwoLevel (n : Int) (t : TTwoLevel) : Option (Bool) :=
  (F_impl_isLevelDim n).bind fun r_1 =>
  (gb (!(!r_1)) false (F_impl_within t.I 0 (IntKind.i64.wrap (n - 1)))).bind fun r_2 =>
  bif ((!r_1) || (!r_2)) then (some (false)) else (bif (t.Kind == 1) then ((gb (t.J == 0) false (F_impl_within t.M_ 1 7)).bind fun r_3 =>
  some (((t.J == 0) && r_3))) else (bif (t.Kind == 2) then ((F_impl_within t.J (IntKind.i64.wrap (t.I + 1)) (IntKind.i64.wrap (n - 1))).bind fun r_4 =>
  some ((r_4 && (t.M_ == 0)))) else (bif (t.Kind == 3) then ((F_impl_within t.J (IntKind.i64.wrap (t.I + 1)) (IntKind.i64.wrap (n - 1))).bind fun r_5 =>
  (gb r_5 false (F_impl_within t.M_ 0 7)).bind fun r_6 =>
  some ((r_5 && r_6))) else (some (false)))))

def F_impl_inverseLevels (t : TTwoLevel) : Option (List TTwoLevel) :=
  bif (t.Kind == 1) then (some ([(TTwoLevel.mk 1 t.I 0 (IntKind.i64.wrap (8 - t.M_)))])) else (bif ((t.Kind == 3) && (decide (0 < t.M_))) then (some ([(TTwoLevel.mk 1 t.J 0 (IntKind.i64.wrap (8 - t.M_))), (TTwoLevel.mk 3 t.I t.J 0)])) else (some ([t])))

def F_impl_InverseTwoLevel (n : Int) (t : TTwoLevel) : Option (List TTwoLevel × Bool) :=
  (F_impl_IsValidTwoLevel n t).bind fun r_2 =>
  bif (!r_2) then (some (([], false))) else ((F_impl_inverseLevels t).bind fun r_3 =>
  some ((r_3, true)))

def F_spec_l1In (n : Int) (lo : Int) (hi : Int) : Option (Bool) :=
  some (((decide (lo ≤ n)) && (decide (n ≤ hi))))

def F_spec_l11Dim (n : Int) : Option (Bool) :=
  some ((((n == 2) || (n == 4)) || (n == 8)))

def F_spec_l11Valid (n : Int) (t : TTwoLevel) : Option (Bool) :=
  (F_spec_l11Dim n).bind fun r_1 =>
  (gb (!(!r_1)) false (F_spec_l1In t.I 0 (IntKind.i64.wrap (n - 1)))).bind fun r_2 =>
  (gb (!((!r_1) || (!r_2))) false (F_spec_l1In t.J 0 (IntKind.i64.wrap (n - 1)))).bind fun r_3 =>
  bif (((!r_1) || (!r_2)) || (!r_3)) then (some (false)) else (bif (t.Kind == 1) then ((gb (t.J == 0) false (F_spec_l1In t.M_ 1 7)).bind fun r_4 =>
  some (((t.J == 0) && r_4))) else (bif (t.Kind == 2) then (some (((decide (t.I < t.J)) && (t.M_ == 0)))) else ((gb ((t.Kind == 3) && (decide (t.I < t.J))) false (F_spec_l1In t.M_ 0 7)).bind fun r_5 =>
  some ((((t.Kind == 3) && (decide (t.I < t.J))) && r_5)))))

def F_spec_IsValidTwoLevel (n : Int) (t : TTwoLevel) : Option (Bool) :=
  (F_spec_l11Valid n t).bind fun r_1 =>
  some (r_1)

def F_impl_isDim (n : Int) : Option (Bool) :=
  (F_impl_within n 1 32).bind fun r_1 =>
  some ((r_1 && ((bits .and .i64 n (IntKind.i64.wrap (n - 1))) == 0)))

def F_impl_matrixOf_l2 (cell : Int → Int → Option (TDyadic × Bool)) (i : Nat) : Nat → (List TDyadic) → Option (Ex (List TDyadic) (Ex (List TDyadic) (TMatrix × Bool))) := fun i1 Cells1 =>
  (cell (i : Int) (i1 : Int)).bind fun (r_4, r_5) =>
  bif (!r_5) then (some (.rt (.rt ((TMatrix.mk 0 0 []), false)))) else (chk (Cells1.length + 1 ≤ 1099511627776) <|
  some (.nx (Cells1 ++ [r_4])))
def F_impl_matrixOf_l1 (cols : Int) (cell : Int → Int → Option (TDyadic × Bool)) : Nat → (List TDyadic) → Option (Ex (List TDyadic) (TMatrix × Bool)) := fun i Cells =>
  chk (cols.toNat ≤ 9223372036854775807) <|
  (forX (F_impl_matrixOf_l2 cell i) cols.toNat 0 Cells).bind <| orR fun Cells1 =>
  some (.nx Cells1)
def F_impl_matrixOf (rows : Int) (cols : Int) (cell : Int → Int → Option (TDyadic × Bool)) : Option (TMatrix × Bool) :=
  (F_impl_isDim rows).bind fun r_2 =>
  (gb (!(!r_2)) false (F_impl_isDim cols)).bind fun r_3 =>
  bif ((!r_2) || (!r_3)) then (some (((TMatrix.mk 0 0 []), false))) else (chk (rows.toNat ≤ 9223372036854775807) <|
  (forX (F_impl_matrixOf_l1 cols cell) rows.toNat 0 []).bind <| orR fun Cells =>
  some (((TMatrix.mk rows cols Cells), true)))

def F_impl_whole (n : Int) : Option (TDyadic) :=
  some ((TDyadic.mk (TRing.mk n 0 0 0) 0))

def F_impl_IdentityMatrix_1 (i : Int) (j : Int) : Option (TDyadic × Bool) :=
  bif (i == j) then ((F_impl_whole 1).bind fun r_2 =>
  some ((r_2, true))) else (some (((TDyadic.mk (TRing.mk 0 0 0 0) 0), true)))

def F_impl_IdentityMatrix (n : Int) : Option (TMatrix × Bool) :=
  (F_impl_matrixOf n n F_impl_IdentityMatrix_1).bind fun (r_2, r_3) =>
  some ((r_2, r_3))

def F_impl_isCoef (n : Int) : Option (Bool) :=
  (F_impl_within n (-1000000000) 1000000000).bind fun r_1 =>
  some (r_1)

def F_impl_IsValidRing (x : TRing) : Option (Bool) :=
  (F_impl_isCoef x.A).bind fun r_1 =>
  (gb r_1 false (F_impl_isCoef x.B)).bind fun r_2 =>
  (gb (r_1 && r_2) false (F_impl_isCoef x.C)).bind fun r_3 =>
  (gb ((r_1 && r_2) && r_3) false (F_impl_isCoef x.D)).bind fun r_4 =>
  some ((((r_1 && r_2) && r_3) && r_4))

def F_impl_isEven (x : TRing) : Option (Bool) :=
  some ((((Int.tmod (IntKind.i64.wrap (x.A + x.C)) 2) == 0) && ((Int.tmod (IntKind.i64.wrap (x.B + x.D)) 2) == 0)))

def F_impl_IsValidDyadic (x : TDyadic) : Option (Bool) :=
  (F_impl_IsValidRing x.Num).bind fun r_1 =>
  (gb r_1 false (F_impl_within x.Exp 0 60)).bind fun r_2 =>
  (gb ((r_1 && r_2) && (!(x.Exp == 0))) false (F_impl_isEven x.Num)).bind fun r_3 =>
  some (((r_1 && r_2) && ((x.Exp == 0) || (!r_3))))

def F_impl_ringIf_l1 (args : List TRing) (out : TRing) : Nat → Unit → Option (Ex (Unit) (TRing × Bool)) := fun i _ =>
  (getI (args ++ [out]) (i : Int)).bind fun x =>
  (F_impl_IsValidRing x).bind fun r_2 =>
  bif (!r_2) then (some (.rt ((TRing.mk 0 0 0 0), false))) else (some (.nx ()))
def F_impl_ringIf (out : TRing) (args : List TRing) : Option (TRing × Bool) :=
  chk (args.length + 1 ≤ 1099511627776) <|
  chk (((args ++ [out]).length) ≤ 9223372036854775807) <|
  (forX (F_impl_ringIf_l1 args out) ((args ++ [out]).length) 0 ()).bind <| orR fun _ =>
  some ((out, true))

def F_impl_MulRing (x : TRing) (y : TRing) : Option (TRing × Bool) :=
  (F_impl_ringIf (TRing.mk (IntKind.i64.wrap ((IntKind.i64.wrap ((IntKind.i64.wrap ((IntKind.i64.wrap (x.A * y.A)) - (IntKind.i64.wrap (x.B * y.D)))) - (IntKind.i64.wrap (x.C * y.C)))) - (IntKind.i64.wrap (x.D * y.B)))) (IntKind.i64.wrap ((IntKind.i64.wrap ((IntKind.i64.wrap ((IntKind.i64.wrap (x.A * y.B)) + (IntKind.i64.wrap (x.B * y.A)))) - (IntKind.i64.wrap (x.C * y.D)))) - (IntKind.i64.wrap (x.D * y.C)))) (IntKind.i64.wrap ((IntKind.i64.wrap ((IntKind.i64.wrap ((IntKind.i64.wrap (x.A * y.C)) + (IntKind.i64.wrap (x.B * y.B)))) + (IntKind.i64.wrap (x.C * y.A)))) - (IntKind.i64.wrap (x.D * y.D)))) (IntKind.i64.wrap ((IntKind.i64.wrap ((IntKind.i64.wrap ((IntKind.i64.wrap (x.A * y.D)) + (IntKind.i64.wrap (x.B * y.C)))) + (IntKind.i64.wrap (x.C * y.B)))) + (IntKind.i64.wrap (x.D * y.A))))) [x, y]).bind fun (r_2, r_3) =>
  some ((r_2, r_3))

def F_impl_DivRootTwo (x : TRing) : Option (TRing × Bool) :=
  (F_impl_IsValidRing x).bind fun r_2 =>
  (gb (!(!r_2)) false (F_impl_isEven x)).bind fun r_3 =>
  bif ((!r_2) || (!r_3)) then (some (((TRing.mk 0 0 0 0), false))) else ((F_impl_ringIf (TRing.mk (IntKind.i64.wrap (Int.tdiv (IntKind.i64.wrap (x.B - x.D)) 2)) (IntKind.i64.wrap (Int.tdiv (IntKind.i64.wrap (x.A + x.C)) 2)) (IntKind.i64.wrap (Int.tdiv (IntKind.i64.wrap (x.B + x.D)) 2)) (IntKind.i64.wrap (Int.tdiv (IntKind.i64.wrap (x.C - x.A)) 2))) [x]).bind fun (r_4, r_5) =>
  some ((r_4, r_5)))

def F_impl_DyadicOf_l1 : (Int × Int × Int × Int × Int) → Option (Ex (Int × Int × Int × Int × Int) (TDyadic × Bool)) := fun (exp1, A, B, C, D) =>
  (gb (decide (0 < exp1)) false (F_impl_isEven (TRing.mk A B C D))).bind fun r_4 =>
  bif ((decide (0 < exp1)) && r_4) then ((F_impl_DivRootTwo (TRing.mk A B C D)).bind fun (r_5, r_6) =>
  some (.nx ((IntKind.i64.wrap (exp1 - 1)), r_5.A, r_5.B, r_5.C, r_5.D))) else (some (.br (exp1, A, B, C, D)))
def F_impl_DyadicOf (num : TRing) (exp : Int) : Option (TDyadic × Bool) :=
  (F_impl_IsValidRing num).bind fun r_2 =>
  (gb (!(!r_2)) false (F_impl_within exp 0 60)).bind fun r_3 =>
  bif ((!r_2) || (!r_3)) then (some (((TDyadic.mk (TRing.mk 0 0 0 0) 0), false))) else ((whX F_impl_DyadicOf_l1 fuel (exp, num.A, num.B, num.C, num.D)).bind <| orR fun (exp1, A, B, C, D) =>
  some (((TDyadic.mk (TRing.mk A B C D) exp1), true)))

def F_impl_MulDyadic (x : TDyadic) (y : TDyadic) : Option (TDyadic × Bool) :=
  (F_impl_MulRing x.Num y.Num).bind fun (r_2, r_3) =>
  (F_impl_IsValidDyadic x).bind fun r_4 =>
  (gb (!(!r_4)) false (F_impl_IsValidDyadic y)).bind fun r_5 =>
  bif (((!r_4) || (!r_5)) || (!r_3)) then (some (((TDyadic.mk (TRing.mk 0 0 0 0) 0), false))) else ((F_impl_DyadicOf r_2 (IntKind.i64.wrap (x.Exp + y.Exp))).bind fun (r_6, r_7) =>
  some ((r_6, r_7)))

def F_impl_MulOmega_l1 : Nat → (Int × Int × Int × Int) → Option (Int × Int × Int × Int) := fun i (A, B, C, D) =>
  some ((IntKind.i64.wrap (-D)), A, B, C)
def F_impl_MulOmega (x : TRing) (k_ : Int) : Option (TRing × Bool) :=
  (F_impl_within k_ (-1000) 1000).bind fun r_2 =>
  (gb (!(!r_2)) false (F_impl_IsValidRing x)).bind fun r_3 =>
  bif ((!r_2) || (!r_3)) then (some (((TRing.mk 0 0 0 0), false))) else (chk (((Int.tmod (IntKind.i64.wrap ((Int.tmod k_ 8) + 8)) 8).toNat) ≤ 9223372036854775807) <|
  (forN F_impl_MulOmega_l1 ((Int.tmod (IntKind.i64.wrap ((Int.tmod k_ 8) + 8)) 8).toNat) 0 (x.A, x.B, x.C, x.D)).bind fun (A, B, C, D) =>
  some (((TRing.mk A B C D), true)))

def F_impl_phase (k_ : Int) : Option (TDyadic) :=
  (F_impl_MulOmega (TRing.mk 1 0 0 0) k_).bind fun (r_1, r_2) =>
  some ((TDyadic.mk r_1 0))

def F_impl_small (holds : Bool) : Option (Int) :=
  bif holds then (some (1)) else (some (0))

def F_impl_levelCell (t : TTwoLevel) (i : Int) (j : Int) : Option (TDyadic) :=
  (F_impl_phase t.M_).bind fun r_1 =>
  (F_impl_MulDyadic (TDyadic.mk (TRing.mk 1 0 0 0) 1) r_1).bind fun (r_2, r_3) =>
  (F_impl_phase (IntKind.i64.wrap (t.M_ + 4))).bind fun r_4 =>
  (F_impl_MulDyadic (TDyadic.mk (TRing.mk 1 0 0 0) 1) r_4).bind fun (r_5, r_6) =>
  bif (((t.Kind == 1) && (i == t.I)) && (j == t.I)) then ((F_impl_phase t.M_).bind fun r_7 =>
  some (r_7)) else (bif ((t.Kind == 2) && (((t.Kind != 1) && ((i == t.I) || (i == t.J))) && ((j == t.I) || (j == t.J)))) then ((F_impl_small (i != j)).bind fun r_8 =>
  (F_impl_whole r_8).bind fun r_9 =>
  some (r_9)) else (bif (((t.Kind == 3) && (((t.Kind != 1) && ((i == t.I) || (i == t.J))) && ((j == t.I) || (j == t.J)))) && (j == t.I)) then (some ((TDyadic.mk (TRing.mk 1 0 0 0) 1))) else (bif (((t.Kind == 3) && (((t.Kind != 1) && ((i == t.I) || (i == t.J))) && ((j == t.I) || (j == t.J)))) && (i == t.I)) then (some (r_2)) else (bif ((t.Kind == 3) && (((t.Kind != 1) && ((i == t.I) || (i == t.J))) && ((j == t.I) || (j == t.J)))) then (some (r_5)) else ((F_impl_small (i == j)).bind fun r_10 =>
  (F_impl_whole r_10).bind fun r_11 =>
  some (r_11))))))

def F_impl_TwoLevelMatrix_1 (i : Int) (j : Int) (p : TTwoLevel) : Option (TDyadic × Bool) :=
  (F_impl_levelCell p i j).bind fun r_2 =>
  some ((r_2, true))

def F_impl_TwoLevelMatrix (n : Int) (t : TTwoLevel) : Option (TMatrix × Bool) :=
  (F_impl_IsValidTwoLevel n t).bind fun r_2 =>
  bif (!r_2) then (some (((TMatrix.mk 0 0 []), false))) else ((F_impl_matrixOf n n (fun x_0 x_1 => F_impl_TwoLevelMatrix_1 x_0 x_1 t)).bind fun (r_3, r_4) =>
  some ((r_3, r_4)))

def F_slices_IndexFunc_impl_Dyadic_impl_Dyadic_l1 (s : List TDyadic) (f_ : TDyadic → Option (Bool)) : Nat → Unit → Option (Ex (Unit) (Int)) := fun i _ =>
  (getI s (i : Int)).bind fun x1 =>
  (f_ x1).bind fun r_1 =>
  bif r_1 then (some (.rt (i : Int))) else (some (.nx ()))
def F_slices_IndexFunc_impl_Dyadic_impl_Dyadic (s : List TDyadic) (f_ : TDyadic → Option (Bool)) : Option (Int) :=
  chk (s.length ≤ 9223372036854775807) <|
  (forX (F_slices_IndexFunc_impl_Dyadic_impl_Dyadic_l1 s f_) s.length 0 ()).bind <| orR fun _ =>
  some ((-1))

def F_slices_ContainsFunc_impl_Dyadic_impl_Dyadic (s : List TDyadic) (f_ : TDyadic → Option (Bool)) : Option (Bool) :=
  (F_slices_IndexFunc_impl_Dyadic_impl_Dyadic s f_).bind fun r_1 =>
  some ((decide (0 ≤ r_1)))

def F_impl_IsValidMatrix_1 (x : TDyadic) : Option (Bool) :=
  (F_impl_IsValidDyadic x).bind fun r_1 =>
  some ((!r_1))

def F_impl_IsValidMatrix (m : TMatrix) : Option (Bool) :=
  (F_impl_isDim m.Rows).bind fun r_1 =>
  (gb r_1 false (F_impl_isDim m.Cols)).bind fun r_2 =>
  (gb ((r_1 && r_2) && ((m.Cells.length : Int) == (IntKind.i64.wrap (m.Rows * m.Cols)))) false (F_slices_ContainsFunc_impl_Dyadic_impl_Dyadic m.Cells F_impl_IsValidMatrix_1)).bind fun r_3 =>
  some ((((r_1 && r_2) && ((m.Cells.length : Int) == (IntKind.i64.wrap (m.Rows * m.Cols)))) && (!r_3)))

def F_impl_Matrix_at (m : TMatrix) (i : Int) (j : Int) : Option (TDyadic) :=
  (getI m.Cells (IntKind.i64.wrap ((IntKind.i64.wrap (i * m.Cols)) + j))).bind fun x =>
  some (x)

def F_impl_MulRootTwo (x : TRing) : Option (TRing × Bool) :=
  (F_impl_ringIf (TRing.mk (IntKind.i64.wrap (x.B - x.D)) (IntKind.i64.wrap (x.A + x.C)) (IntKind.i64.wrap (x.B + x.D)) (IntKind.i64.wrap (x.C - x.A))) [x]).bind fun (r_2, r_3) =>
  some ((r_2, r_3))

def F_impl_raised_l1 (exp : Int) : (Int × Int × Int × Int × Bool × Int) → Option (Ex (Int × Int × Int × Int × Bool × Int) (TRing × Bool)) := fun (A, B, C, D, ok, k_) =>
  bif ((decide (k_ < exp)) && ok) then ((F_impl_MulRootTwo (TRing.mk A B C D)).bind fun (r_2, r_3) =>
  some (.nx (r_2.A, r_2.B, r_2.C, r_2.D, r_3, (IntKind.i64.wrap (k_ + 1))))) else (some (.br (A, B, C, D, ok, k_)))
def F_impl_raised (x : TDyadic) (exp : Int) : Option (TRing × Bool) :=
  (whX (F_impl_raised_l1 exp) fuel (x.Num.A, x.Num.B, x.Num.C, x.Num.D, true, x.Exp)).bind <| orR fun (A, B, C, D, ok, k_) =>
  some (((TRing.mk A B C D), ok))

def F_impl_combined (x : TDyadic) (y : TDyadic) (operation : TRing → TRing → Option (TRing × Bool)) : Option (TDyadic × Bool) :=
  (F_impl_IsValidDyadic x).bind fun r_2 =>
  (gb (!(!r_2)) false (F_impl_IsValidDyadic y)).bind fun r_3 =>
  bif ((!r_2) || (!r_3)) then (some (((TDyadic.mk (TRing.mk 0 0 0 0) 0), false))) else ((F_impl_raised x (if x.Exp < y.Exp then y.Exp else x.Exp)).bind fun (r_4, r_5) =>
  (F_impl_raised y (if x.Exp < y.Exp then y.Exp else x.Exp)).bind fun (r_6, r_7) =>
  (operation r_4 r_6).bind fun (r_8, r_9) =>
  bif (((!r_5) || (!r_7)) || (!r_9)) then (some (((TDyadic.mk (TRing.mk 0 0 0 0) 0), false))) else ((F_impl_DyadicOf r_8 (if x.Exp < y.Exp then y.Exp else x.Exp)).bind fun (r_10, r_11) =>
  some ((r_10, r_11))))

def F_impl_AddRing (x : TRing) (y : TRing) : Option (TRing × Bool) :=
  (F_impl_ringIf (TRing.mk (IntKind.i64.wrap (x.A + y.A)) (IntKind.i64.wrap (x.B + y.B)) (IntKind.i64.wrap (x.C + y.C)) (IntKind.i64.wrap (x.D + y.D))) [x, y]).bind fun (r_2, r_3) =>
  some ((r_2, r_3))

def F_impl_AddDyadic (x : TDyadic) (y : TDyadic) : Option (TDyadic × Bool) :=
  (F_impl_combined x y F_impl_AddRing).bind fun (r_2, r_3) =>
  some ((r_2, r_3))

def F_impl_MulMatrix_1_l1 (p : TMatrix) (i : Int) (p1 : TMatrix) (j : Int) : Nat → (Int × Int × Int × Int × Int) → Option (Ex (Int × Int × Int × Int × Int) (TDyadic × Bool)) := fun i1 (A, B4, C, D, Exp) =>
  (F_impl_Matrix_at p i (i1 : Int)).bind fun r_2 =>
  (F_impl_Matrix_at p1 (i1 : Int) j).bind fun r_3 =>
  (F_impl_MulDyadic r_2 r_3).bind fun (r_4, r_5) =>
  (F_impl_AddDyadic (TDyadic.mk (TRing.mk A B4 C D) Exp) r_4).bind fun (r_6, r_7) =>
  bif ((!r_5) || (!r_7)) then (some (.rt ((TDyadic.mk (TRing.mk 0 0 0 0) 0), false))) else (some (.nx (r_6.Num.A, r_6.Num.B, r_6.Num.C, r_6.Num.D, r_6.Exp)))
def F_impl_MulMatrix_1 (i : Int) (j : Int) (p : TMatrix) (p1 : TMatrix) : Option (TDyadic × Bool) :=
  chk (p.Cols.toNat ≤ 9223372036854775807) <|
  (forX (F_impl_MulMatrix_1_l1 p i p1 j) p.Cols.toNat 0 (0, 0, 0, 0, 0)).bind <| orR fun (A, B4, C, D, Exp) =>
  some (((TDyadic.mk (TRing.mk A B4 C D) Exp), true))

def F_impl_MulMatrix (a : TMatrix) (b : TMatrix) : Option (TMatrix × Bool) :=
  (F_impl_IsValidMatrix a).bind fun r_2 =>
  (gb (!(!r_2)) false (F_impl_IsValidMatrix b)).bind fun r_3 =>
  bif (((!r_2) || (!r_3)) || (a.Cols != b.Rows)) then (some (((TMatrix.mk 0 0 []), false))) else ((F_impl_matrixOf a.Rows b.Cols (fun x_0 x_1 => F_impl_MulMatrix_1 x_0 x_1 a b)).bind fun (r_4, r_5) =>
  some ((r_4, r_5)))

def F_impl_ComposeTwoLevel_l2 (l : List TTwoLevel) (n : Int) : (Int × Int × List TDyadic × Bool × Int) → Option (Ex (Int × Int × List TDyadic × Bool × Int) (TMatrix × Bool)) := fun (Rows, Cols, Cells, ok, i1) =>
  bif ((decide (i1 < (l.length : Int))) && ok) then ((getI l i1).bind fun x1 =>
  (F_impl_TwoLevelMatrix n x1).bind fun (r_6, r_7) =>
  (F_impl_MulMatrix (TMatrix.mk Rows Cols Cells) r_6).bind fun (r_8, r_9) =>
  some (.nx (r_8.Rows, r_8.Cols, r_8.Cells, r_9, (IntKind.i64.wrap (i1 + 1))))) else (some (.br (Rows, Cols, Cells, ok, i1)))
def F_impl_ComposeTwoLevel_l1 (l : List TTwoLevel) (n : Int) : Nat → Unit → Option (Ex (Unit) (TMatrix × Bool)) := fun i _ =>
  (getI l (i : Int)).bind fun x =>
  (F_impl_IsValidTwoLevel n x).bind fun r_5 =>
  bif (!r_5) then (some (.rt ((TMatrix.mk 0 0 []), false))) else (some (.nx ()))
def F_impl_ComposeTwoLevel (n : Int) (l : List TTwoLevel) : Option (TMatrix × Bool) :=
  (F_impl_isLevelDim n).bind fun r_2 =>
  bif ((!r_2) || (decide (500 < (l.length : Int)))) then (some (((TMatrix.mk 0 0 []), false))) else ((F_impl_IdentityMatrix n).bind fun (r_3, r_4) =>
  chk (l.length ≤ 9223372036854775807) <|
  (forX (F_impl_ComposeTwoLevel_l1 l n) l.length 0 ()).bind <| orR fun _ =>
  (whX (F_impl_ComposeTwoLevel_l2 l n) fuel (r_3.Rows, r_3.Cols, r_3.Cells, r_4, 0)).bind <| orR fun (Rows, Cols, Cells, ok, i1) =>
  some (((TMatrix.mk Rows Cols Cells), ok)))

def F_spec_l1Has_l1 (l : List Int) (n1 : Int) : Nat → Unit → Option (Ex (Unit) (Bool)) := fun i _ =>
  (getI l (i : Int)).bind fun x =>
  bif (x == n1) then (some (.rt true)) else (some (.nx ()))
def F_spec_l1Has (l : List Int) (n1 : Int) : Option (Bool) :=
  chk (l.length ≤ 9223372036854775807) <|
  (forX (F_spec_l1Has_l1 l n1) l.length 0 ()).bind <| orR fun _ =>
  some (false)

def F_spec_l3Dim (n : Int) : Option (Bool) :=
  (F_spec_l1Has [1, 2, 4, 8, 16, 32] n).bind fun r_1 =>
  some (r_1)

def F_spec_l1Turn_l1 : (Int × Int × Int × Int × Int) → Option (Ex (Int × Int × Int × Int × Int) (TRing)) := fun (K9, A, B, C, D) =>
  bif (decide (0 < K9)) then (some (.nx ((IntKind.i64.wrap (K9 - 1)), (IntKind.i64.wrap (-D)), A, B, C))) else (some (.br (K9, A, B, C, D)))
def F_spec_l1Turn (x : TRing) (k_ : Int) : Option (TRing) :=
  (whX F_spec_l1Turn_l1 fuel ((Int.tmod (IntKind.i64.wrap ((Int.tmod k_ 8) + 8)) 8), x.A, x.B, x.C, x.D)).bind <| orR fun (K9, A, B, C, D) =>
  some ((TRing.mk A B C D))

def F_spec_l2Power (k_ : Int) : Option (TDyadic) :=
  (F_spec_l1Turn (TRing.mk 1 0 0 0) k_).bind fun r_1 =>
  some ((TDyadic.mk r_1 0))

def F_spec_l3Unit_l1 (n : Int) : Nat → (List TDyadic) → Option (List TDyadic) := fun i1 Cells =>
  (F_spec_l2Power 0).bind fun r_1 =>
  (getI Cells (IntKind.i64.wrap ((IntKind.i64.wrap ((i1 : Int) * n)) + (i1 : Int)))).bind fun x =>
  some (Cells.set (IntKind.i64.wrap ((IntKind.i64.wrap ((i1 : Int) * n)) + (i1 : Int))).toNat r_1)
def F_spec_l3Unit (n : Int) : Option (TMatrix) :=
  chk ((0 : Int) ≤ (IntKind.i64.wrap (n * n)) ∧ (IntKind.i64.wrap (n * n)) ≤ 1099511627776) <|
  chk (n.toNat ≤ 9223372036854775807) <|
  (forN (F_spec_l3Unit_l1 n) n.toNat 0 (List.replicate ((IntKind.i64.wrap (n * n)).toNat) (TDyadic.mk (TRing.mk 0 0 0 0) 0))).bind fun Cells =>
  some ((TMatrix.mk n n Cells))

def F_spec_IdentityMatrix (n : Int) : Option (TMatrix × Bool) :=
  (F_spec_l3Dim n).bind fun r_2 =>
  bif (!r_2) then (some (((TMatrix.mk 0 0 []), false))) else ((F_spec_l3Unit n).bind fun r_3 =>
  some ((r_3, true)))

def F_spec_EqualMatrices_l1 (a : TMatrix) (b : TMatrix) : Nat → Unit → Option (Ex (Unit) (Bool)) := fun i _ =>
  (getI a.Cells (i : Int)).bind fun x =>
  (getI b.Cells (i : Int)).bind fun x1 =>
  bif (!(((x.Num.A == x1.Num.A) && ((x.Num.B == x1.Num.B) && ((x.Num.C == x1.Num.C) && ((x.Num.D == x1.Num.D) && true)))) && ((x.Exp == x1.Exp) && true))) then (some (.rt false)) else (some (.nx ()))
def F_spec_EqualMatrices (a : TMatrix) (b : TMatrix) : Option (Bool) :=
  bif (((a.Rows != b.Rows) || (a.Cols != b.Cols)) || ((a.Cells.length : Int) != (b.Cells.length : Int))) then (some (false)) else (chk (a.Cells.length ≤ 9223372036854775807) <|
  (forX (F_spec_EqualMatrices_l1 a b) a.Cells.length 0 ()).bind <| orR fun _ =>
  some (true))

def F_spec_l1Even (x : TRing) : Option (Bool) :=
  some ((((Int.tmod (IntKind.i64.wrap (x.A + x.C)) 2) == 0) && ((Int.tmod (IntKind.i64.wrap (x.B + x.D)) 2) == 0)))

def F_spec_l1Root (x : TRing) : Option (TRing) :=
  some ((TRing.mk (IntKind.i64.wrap (x.B - x.D)) (IntKind.i64.wrap (x.A + x.C)) (IntKind.i64.wrap (x.B + x.D)) (IntKind.i64.wrap (x.C - x.A))))

def F_spec_l1Half (x : TRing) : Option (TRing) :=
  (F_spec_l1Root x).bind fun r_1 =>
  some ((TRing.mk (IntKind.i64.wrap (Int.tdiv r_1.A 2)) (IntKind.i64.wrap (Int.tdiv r_1.B 2)) (IntKind.i64.wrap (Int.tdiv r_1.C 2)) (IntKind.i64.wrap (Int.tdiv r_1.D 2))))

def F_spec_l2Low_l1 : (Int × Int × Int × Int × Int) → Option (Ex (Int × Int × Int × Int × Int) (TDyadic)) := fun (exp1, A, B, C, D) =>
  (gb (decide (0 < exp1)) false (F_spec_l1Even (TRing.mk A B C D))).bind fun r_1 =>
  bif ((decide (0 < exp1)) && r_1) then ((F_spec_l1Half (TRing.mk A B C D)).bind fun r_2 =>
  some (.nx ((IntKind.i64.wrap (exp1 - 1)), r_2.A, r_2.B, r_2.C, r_2.D))) else (some (.br (exp1, A, B, C, D)))
def F_spec_l2Low (num : TRing) (exp : Int) : Option (TDyadic) :=
  (whX F_spec_l2Low_l1 fuel (exp, num.A, num.B, num.C, num.D)).bind <| orR fun (exp1, A, B, C, D) =>
  some ((TDyadic.mk (TRing.mk A B C D) exp1))

def F_spec_l1Cur_ring (c : Tl1Cur) : Option (TRing × Tl1Cur) :=
  (F_spec_l1Cur_pick c 9).bind fun (r_1, m1) =>
  (F_spec_l1Cur_pick (Tl1Cur.mk c.code m1.at_ m1.seed) 9).bind fun (r_2, m2) =>
  (F_spec_l1Cur_pick (Tl1Cur.mk c.code m2.at_ m2.seed) 9).bind fun (r_3, m3) =>
  (F_spec_l1Cur_pick (Tl1Cur.mk c.code m3.at_ m3.seed) 9).bind fun (r_4, m4) =>
  some (((TRing.mk (IntKind.i64.wrap (r_1 - 4)) (IntKind.i64.wrap (r_2 - 4)) (IntKind.i64.wrap (r_3 - 4)) (IntKind.i64.wrap (r_4 - 4))), (Tl1Cur.mk c.code m4.at_ m4.seed)))

def F_spec_l1Cur_dyadic (c : Tl1Cur) : Option (TDyadic × Tl1Cur) :=
  (F_spec_l1Cur_ring c).bind fun (r_1, m1) =>
  (F_spec_l1Cur_pick (Tl1Cur.mk c.code m1.at_ m1.seed) 5).bind fun (r_2, m2) =>
  (F_spec_l2Low r_1 r_2).bind fun r_3 =>
  some ((r_3, (Tl1Cur.mk c.code m2.at_ m2.seed)))

def F_spec_l1Cur_matrix_l1 (c : Tl1Cur) : Nat → (Int × Int × List TDyadic) → Option (Int × Int × List TDyadic) := fun k_ (at_, seed, Cells) =>
  (F_spec_l1Cur_dyadic (Tl1Cur.mk c.code at_ seed)).bind fun (r_1, m1) =>
  chk (Cells.length + 1 ≤ 1099511627776) <|
  some (m1.at_, m1.seed, (Cells ++ [r_1]))
def F_spec_l1Cur_matrix (c : Tl1Cur) (rows : Int) (cols : Int) : Option (TMatrix × Tl1Cur) :=
  chk (((IntKind.i64.wrap (rows * cols)).toNat) ≤ 9223372036854775807) <|
  (forN (F_spec_l1Cur_matrix_l1 c) ((IntKind.i64.wrap (rows * cols)).toNat) 0 (c.at_, c.seed, [])).bind fun (at_, seed, Cells) =>
  some (((TMatrix.mk rows cols Cells), (Tl1Cur.mk c.code at_ seed)))

def F_spec_l1Cur_coef (c : Tl1Cur) : Option (Int × Tl1Cur) :=
  (F_spec_l1Cur_pick c 24).bind fun (r_1, m1) =>
  bif (r_1 == 0) then ((F_spec_l1Cur_among (Tl1Cur.mk c.code m1.at_ m1.seed) [1000000000, (-1000000000), 1000000001, (-1000000001)]).bind fun (r_2, m2) =>
  some ((r_2, (Tl1Cur.mk c.code m2.at_ m2.seed)))) else (bif (r_1 == 1) then ((F_spec_l1Cur_pick (Tl1Cur.mk c.code m1.at_ m1.seed) 60000).bind fun (r_3, m3) =>
  some (((IntKind.i64.wrap (r_3 * 1000)), (Tl1Cur.mk c.code m3.at_ m3.seed)))) else (((bif (r_1 == 2) then (some (r_1 == 2)) else (some (r_1 == 3))) : Option (Bool)).bind fun t =>
  bif t then ((F_spec_l1Cur_pick (Tl1Cur.mk c.code m1.at_ m1.seed) 2000).bind fun (r_4, m4) =>
  some (((IntKind.i64.wrap (r_4 - 1000)), (Tl1Cur.mk c.code m4.at_ m4.seed)))) else ((F_spec_l1Cur_pick (Tl1Cur.mk c.code m1.at_ m1.seed) 9).bind fun (r_5, m5) =>
  some (((IntKind.i64.wrap (r_5 - 4)), (Tl1Cur.mk c.code m5.at_ m5.seed))))))

def F_spec_l1Cur_anyRing (c : Tl1Cur) : Option (TRing × Tl1Cur) :=
  (F_spec_l1Cur_one c 3).bind fun (r_1, m1) =>
  bif r_1 then ((F_spec_l1Cur_coef (Tl1Cur.mk c.code m1.at_ m1.seed)).bind fun (r_2, m2) =>
  (F_spec_l1Cur_coef (Tl1Cur.mk c.code m2.at_ m2.seed)).bind fun (r_3, m3) =>
  (F_spec_l1Cur_coef (Tl1Cur.mk c.code m3.at_ m3.seed)).bind fun (r_4, m4) =>
  (F_spec_l1Cur_coef (Tl1Cur.mk c.code m4.at_ m4.seed)).bind fun (r_5, m5) =>
  some (((TRing.mk r_2 r_3 r_4 r_5), (Tl1Cur.mk c.code m5.at_ m5.seed)))) else ((F_spec_l1Cur_ring (Tl1Cur.mk c.code m1.at_ m1.seed)).bind fun (r_6, m6) =>
  some ((r_6, (Tl1Cur.mk c.code m6.at_ m6.seed))))

def F_spec_l1All_l1 (l : List Int) (lo : Int) (hi : Int) : Nat → Unit → Option (Ex (Unit) (Bool)) := fun i _ =>
  (getI l (i : Int)).bind fun x =>
  (F_spec_l1In x lo hi).bind fun r_1 =>
  bif (!r_1) then (some (.rt false)) else (some (.nx ()))
def F_spec_l1All (l : List Int) (lo : Int) (hi : Int) : Option (Bool) :=
  chk (l.length ≤ 9223372036854775807) <|
  (forX (F_spec_l1All_l1 l lo hi) l.length 0 ()).bind <| orR fun _ =>
  some (true)

def F_spec_l1Good (x : TRing) : Option (Bool) :=
  (F_spec_l1All [x.A, x.B, x.C, x.D] (-1000000000) 1000000000).bind fun r_1 =>
  some (r_1)

def F_spec_l1Cur_anyDyadic (c : Tl1Cur) : Option (TDyadic × Tl1Cur) :=
  (((F_spec_l1Cur_pick c 14).bind fun (r_1, m1) =>
  bif (r_1 == 0) then ((F_spec_l1Cur_ring (Tl1Cur.mk c.code m1.at_ m1.seed)).bind fun (r_2, m2) =>
  (F_spec_l1Cur_among (Tl1Cur.mk c.code m2.at_ m2.seed) [1, 2, 60, 61, (-1)]).bind fun (r_3, m3) =>
  some (.inr ((TDyadic.mk r_2 r_3), (Tl1Cur.mk c.code m3.at_ m3.seed)))) else (bif (r_1 == 1) then ((F_spec_l1Cur_anyRing (Tl1Cur.mk c.code m1.at_ m1.seed)).bind fun (r_4, m4) =>
  (F_spec_l1Good r_4).bind fun r_5 =>
  bif r_5 then ((F_spec_l1Cur_among (Tl1Cur.mk c.code m4.at_ m4.seed) [0, 3, 59, 60]).bind fun (r_6, m5) =>
  (F_spec_l2Low r_4 r_6).bind fun r_7 =>
  some (.inr (r_7, (Tl1Cur.mk c.code m5.at_ m5.seed)))) else (some (.inl (m4.at_, m4.seed)))) else (bif (r_1 == 2) then ((F_spec_l1Cur_pick (Tl1Cur.mk c.code m1.at_ m1.seed) 8).bind fun (r_8, m6) =>
  (F_spec_l2Power r_8).bind fun r_9 =>
  some (.inr (r_9, (Tl1Cur.mk c.code m6.at_ m6.seed)))) else (some (.inl (m1.at_, m1.seed)))))) : Option ((Int × Int) ⊕ (TDyadic × Tl1Cur))).bind <| orR fun (at_, seed) =>
  (F_spec_l1Cur_dyadic (Tl1Cur.mk c.code at_ seed)).bind fun (r_10, m7) =>
  some ((r_10, (Tl1Cur.mk c.code m7.at_ m7.seed)))

def F_spec_l1Cur_anyMatrix (c : Tl1Cur) : Option (TMatrix × Tl1Cur) :=
  (F_spec_l1Cur_among c [1, 2, 2, 4]).bind fun (r_1, m1) =>
  (F_spec_l1Cur_among (Tl1Cur.mk c.code m1.at_ m1.seed) [1, 2, 2, 4]).bind fun (r_2, m2) =>
  (F_spec_l1Cur_matrix (Tl1Cur.mk c.code m2.at_ m2.seed) r_1 r_2).bind fun (r_3, m3) =>
  (((F_spec_l1Cur_pick (Tl1Cur.mk c.code m3.at_ m3.seed) 12).bind fun (r_4, m4) =>
  bif (r_4 == 0) then ((F_spec_l1Cur_among (Tl1Cur.mk c.code m4.at_ m4.seed) [0, 3, 64, (-1), 1]).bind fun (r_5, m5) =>
  some (m5.at_, m5.seed, r_5, r_3.Cols, r_3.Cells)) else (bif (r_4 == 1) then ((F_spec_l1Cur_pick (Tl1Cur.mk c.code m4.at_ m4.seed) (r_3.Cells.length : Int)).bind fun (r_6, m6) =>
  (F_spec_l1Cur_anyDyadic (Tl1Cur.mk c.code m6.at_ m6.seed)).bind fun (r_7, m7) =>
  (getI r_3.Cells r_6).bind fun x =>
  some (m7.at_, m7.seed, r_3.Rows, r_3.Cols, (r_3.Cells.set r_6.toNat r_7))) else (bif (r_4 == 2) then (chk ((0 : Int) ≤ 1 ∧ 1 ≤ (r_3.Cells.length : Int)) <|
  some (m4.at_, m4.seed, r_3.Rows, r_3.Cols, (List.drop 1 r_3.Cells))) else (bif (r_4 == 3) then ((F_spec_l1Cur_among (Tl1Cur.mk c.code m4.at_ m4.seed) [1, 2, 4]).bind fun (r_8, m8) =>
  (F_spec_l3Unit r_8).bind fun r_9 =>
  some (m8.at_, m8.seed, r_9.Rows, r_9.Cols, r_9.Cells)) else (some (m4.at_, m4.seed, r_3.Rows, r_3.Cols, r_3.Cells)))))) : Option (Int × Int × Int × Int × List TDyadic)).bind fun (at_, seed, Rows, Cols, Cells) =>
  some (((TMatrix.mk Rows Cols Cells), (Tl1Cur.mk c.code at_ seed)))

def F_spec_l2C_ring (c : Tl2C) (x : TRing) : Option (TRing × Tl2C) :=
  (F_spec_l1Good x).bind fun r_1 =>
  bif (!r_1) then (some (((TRing.mk 0 0 0 0), (Tl2C.mk true)))) else (some ((x, c)))

def F_spec_l1Mul (x : TRing) (y : TRing) : Option (TRing) :=
  some ((TRing.mk (IntKind.i64.wrap ((IntKind.i64.wrap ((IntKind.i64.wrap ((IntKind.i64.wrap (x.A * y.A)) - (IntKind.i64.wrap (x.B * y.D)))) - (IntKind.i64.wrap (x.C * y.C)))) - (IntKind.i64.wrap (x.D * y.B)))) (IntKind.i64.wrap ((IntKind.i64.wrap ((IntKind.i64.wrap ((IntKind.i64.wrap (x.A * y.B)) + (IntKind.i64.wrap (x.B * y.A)))) - (IntKind.i64.wrap (x.C * y.D)))) - (IntKind.i64.wrap (x.D * y.C)))) (IntKind.i64.wrap ((IntKind.i64.wrap ((IntKind.i64.wrap ((IntKind.i64.wrap (x.A * y.C)) + (IntKind.i64.wrap (x.B * y.B)))) + (IntKind.i64.wrap (x.C * y.A)))) - (IntKind.i64.wrap (x.D * y.D)))) (IntKind.i64.wrap ((IntKind.i64.wrap ((IntKind.i64.wrap ((IntKind.i64.wrap (x.A * y.D)) + (IntKind.i64.wrap (x.B * y.C)))) + (IntKind.i64.wrap (x.C * y.B)))) + (IntKind.i64.wrap (x.D * y.A))))))

def F_spec_l2C_mul (c : Tl2C) (x : TDyadic) (y : TDyadic) : Option (TDyadic × Tl2C) :=
  bif (decide (60 < (IntKind.i64.wrap (x.Exp + y.Exp)))) then (some (((TDyadic.mk (TRing.mk 0 0 0 0) 0), (Tl2C.mk true)))) else ((F_spec_l1Mul x.Num y.Num).bind fun r_1 =>
  (F_spec_l2C_ring c r_1).bind fun (r_2, m1) =>
  (F_spec_l2Low r_2 (IntKind.i64.wrap (x.Exp + y.Exp))).bind fun r_3 =>
  some ((r_3, m1)))

def F_spec_l1Add (x : TRing) (y : TRing) : Option (TRing) :=
  some ((TRing.mk (IntKind.i64.wrap (x.A + y.A)) (IntKind.i64.wrap (x.B + y.B)) (IntKind.i64.wrap (x.C + y.C)) (IntKind.i64.wrap (x.D + y.D))))

def F_spec_l2C_add_l2 (Exp : Int) (bad : Bool) (A : Int) (C : Int) (D : Int) : (Bool × Int × Int × Int × Int × Int) → Option (Ex (Bool × Int × Int × Int × Int × Int) (TDyadic × Tl2C)) := fun (bad1, A1, B2, C1, D1, Exp1) =>
  bif (decide (Exp1 < Exp)) then ((F_spec_l1Root (TRing.mk A1 B2 C1 D1)).bind fun r_3 =>
  (F_spec_l2C_ring (Tl2C.mk bad1) r_3).bind fun (r_4, m2) =>
  some (.nx (m2.bad, r_4.A, r_4.B, r_4.C, r_4.D, (IntKind.i64.wrap (Exp1 + 1))))) else (some (.br (bad1, A1, B2, C1, D1, Exp1)))
def F_spec_l2C_add_l1 (y : TDyadic) : (Bool × Int × Int × Int × Int × Int) → Option (Ex (Bool × Int × Int × Int × Int × Int) (TDyadic × Tl2C)) := fun (bad, A, B1, C, D, Exp) =>
  bif (decide (Exp < y.Exp)) then ((F_spec_l1Root (TRing.mk A B1 C D)).bind fun r_1 =>
  (F_spec_l2C_ring (Tl2C.mk bad) r_1).bind fun (r_2, m1) =>
  some (.nx (m1.bad, r_2.A, r_2.B, r_2.C, r_2.D, (IntKind.i64.wrap (Exp + 1))))) else (some (.br (bad, A, B1, C, D, Exp)))
def F_spec_l2C_add (c : Tl2C) (x : TDyadic) (y : TDyadic) : Option (TDyadic × Tl2C) :=
  (whX (F_spec_l2C_add_l1 y) fuel (c.bad, x.Num.A, x.Num.B, x.Num.C, x.Num.D, x.Exp)).bind <| orR fun (bad, A, B1, C, D, Exp) =>
  (whX (F_spec_l2C_add_l2 Exp bad A C D) fuel (bad, y.Num.A, y.Num.B, y.Num.C, y.Num.D, y.Exp)).bind <| orR fun (bad1, A1, B2, C1, D1, Exp1) =>
  (F_spec_l1Add (TRing.mk A B1 C D) (TRing.mk A1 B2 C1 D1)).bind fun r_5 =>
  (F_spec_l2C_ring (Tl2C.mk bad1) r_5).bind fun (r_6, m3) =>
  (F_spec_l2Low r_6 Exp).bind fun r_7 =>
  some ((r_7, m3))

def F_spec_l1Neg (x : TRing) : Option (TRing) :=
  some ((TRing.mk (IntKind.i64.wrap (-x.A)) (IntKind.i64.wrap (-x.B)) (IntKind.i64.wrap (-x.C)) (IntKind.i64.wrap (-x.D))))

def F_spec_l2Neg (x : TDyadic) : Option (TDyadic) :=
  (F_spec_l1Neg x.Num).bind fun r_1 =>
  some ((TDyadic.mk r_1 x.Exp))

def F_spec_l2C_level_l1 (m : TMatrix) (t : TTwoLevel) : Nat → (Bool × List TDyadic) → Option (Bool × List TDyadic) := fun k_ (bad, Cells) =>
  (((getI m.Cells (IntKind.i64.wrap ((IntKind.i64.wrap (t.I * m.Cols)) + (k_ : Int)))).bind fun x =>
  (F_spec_l2Power t.M_).bind fun r_1 =>
  (getI m.Cells (IntKind.i64.wrap ((IntKind.i64.wrap (t.J * m.Cols)) + (k_ : Int)))).bind fun x1 =>
  (F_spec_l2C_mul (Tl2C.mk bad) r_1 x1).bind fun (r_2, m2) =>
  bif (t.Kind == 1) then ((F_spec_l2Power t.M_).bind fun r_3 =>
  (F_spec_l2C_mul m2 r_3 x).bind fun (r_4, m3) =>
  (getI Cells (IntKind.i64.wrap ((IntKind.i64.wrap (t.I * m.Cols)) + (k_ : Int)))).bind fun x2 =>
  some (m3.bad, (Cells.set (IntKind.i64.wrap ((IntKind.i64.wrap (t.I * m.Cols)) + (k_ : Int))).toNat r_4))) else (bif (t.Kind == 2) then ((getI Cells (IntKind.i64.wrap ((IntKind.i64.wrap (t.I * m.Cols)) + (k_ : Int)))).bind fun x3 =>
  (getI (Cells.set (IntKind.i64.wrap ((IntKind.i64.wrap (t.I * m.Cols)) + (k_ : Int))).toNat r_2) (IntKind.i64.wrap ((IntKind.i64.wrap (t.J * m.Cols)) + (k_ : Int)))).bind fun x4 =>
  some (m2.bad, ((Cells.set (IntKind.i64.wrap ((IntKind.i64.wrap (t.I * m.Cols)) + (k_ : Int))).toNat r_2).set (IntKind.i64.wrap ((IntKind.i64.wrap (t.J * m.Cols)) + (k_ : Int))).toNat x))) else ((F_spec_l2C_add m2 x r_2).bind fun (r_5, m4) =>
  (F_spec_l2C_mul m4 (TDyadic.mk (TRing.mk 1 0 0 0) 1) r_5).bind fun (r_6, m5) =>
  (getI Cells (IntKind.i64.wrap ((IntKind.i64.wrap (t.I * m.Cols)) + (k_ : Int)))).bind fun x5 =>
  (F_spec_l2Neg r_2).bind fun r_7 =>
  (F_spec_l2C_add m5 x r_7).bind fun (r_8, m6) =>
  (F_spec_l2C_mul m6 (TDyadic.mk (TRing.mk 1 0 0 0) 1) r_8).bind fun (r_9, m7) =>
  (getI (Cells.set (IntKind.i64.wrap ((IntKind.i64.wrap (t.I * m.Cols)) + (k_ : Int))).toNat r_6) (IntKind.i64.wrap ((IntKind.i64.wrap (t.J * m.Cols)) + (k_ : Int)))).bind fun x6 =>
  some (m7.bad, ((Cells.set (IntKind.i64.wrap ((IntKind.i64.wrap (t.I * m.Cols)) + (k_ : Int))).toNat r_6).set (IntKind.i64.wrap ((IntKind.i64.wrap (t.J * m.Cols)) + (k_ : Int))).toNat r_9))))) : Option (Bool × List TDyadic)).bind fun (bad1, Cells1) =>
  some (bad1, Cells1)
def F_spec_l2C_level (c : Tl2C) (m : TMatrix) (t : TTwoLevel) : Option (TMatrix × Tl2C) :=
  chk (0 + m.Cells.length ≤ 1099511627776) <|
  chk (m.Cols.toNat ≤ 9223372036854775807) <|
  (forN (F_spec_l2C_level_l1 m t) m.Cols.toNat 0 (c.bad, m.Cells)).bind fun (bad, Cells) =>
  some (((TMatrix.mk m.Rows m.Cols Cells), (Tl2C.mk bad)))

def F_spec_ComposeTwoLevel_l1 (l : List TTwoLevel) (n : Int) : (Bool × Int × Int × List TDyadic × Int) → Option (Ex (Bool × Int × Int × List TDyadic × Int) (TMatrix × Bool)) := fun (bad, Rows, Cols, Cells, i) =>
  bif (decide (0 ≤ i)) then ((getI l i).bind fun x =>
  (F_spec_l11Valid n x).bind fun r_4 =>
  bif (!r_4) then (some (.rt ((TMatrix.mk 0 0 []), false))) else ((F_spec_l2C_level (Tl2C.mk bad) (TMatrix.mk Rows Cols Cells) x).bind fun (r_5, m) =>
  some (.nx (m.bad, r_5.Rows, r_5.Cols, r_5.Cells, (IntKind.i64.wrap (i - 1)))))) else (some (.br (bad, Rows, Cols, Cells, i)))
def F_spec_ComposeTwoLevel (n : Int) (l : List TTwoLevel) : Option (TMatrix × Bool) :=
  (F_spec_l11Dim n).bind fun r_2 =>
  bif ((!r_2) || (decide (500 < (l.length : Int)))) then (some (((TMatrix.mk 0 0 []), false))) else ((F_spec_l3Unit n).bind fun r_3 =>
  (whX (F_spec_ComposeTwoLevel_l1 l n) fuel (false, r_3.Rows, r_3.Cols, r_3.Cells, (IntKind.i64.wrap ((l.length : Int) - 1)))).bind <| orR fun (bad, Rows, Cols, Cells, i) =>
  bif bad then (some (((TMatrix.mk 0 0 []), false))) else (some (((TMatrix.mk Rows Cols Cells), true))))

def F_spec_l1Cur_levels_l1 (c : Tl1Cur) (n1 : Int) : (Int × Int × List TTwoLevel × Int) → Option (Ex (Int × Int × List TTwoLevel × Int) (List TTwoLevel × Tl1Cur)) := fun (at_, seed, l, k_) =>
  bif (decide (0 < k_)) then ((((F_spec_l1Cur_level (Tl1Cur.mk c.code at_ seed) n1).bind fun (r_2, m2) =>
  (F_spec_l11Valid n1 r_2).bind fun r_3 =>
  bif (!r_3) then ((F_spec_l1Cur_one (Tl1Cur.mk c.code m2.at_ m2.seed) 8).bind fun (r_4, m3) =>
  bif r_4 then (chk (l.length + 1 ≤ 1099511627776) <|
  some (m3.at_, m3.seed, (l ++ [r_2]))) else (some (m3.at_, m3.seed, l))) else (chk (l.length + 1 ≤ 1099511627776) <|
  some (m2.at_, m2.seed, (l ++ [r_2])))) : Option (Int × Int × List TTwoLevel)).bind fun (at_1, seed1, l1) =>
  some (.nx (at_1, seed1, l1, (IntKind.i64.wrap (k_ - 1))))) else (some (.br (at_, seed, l, k_)))
def F_spec_l1Cur_levels (c : Tl1Cur) (n1 : Int) : Option (List TTwoLevel × Tl1Cur) :=
  (F_spec_l1Cur_pick c 9).bind fun (r_1, m1) =>
  (whX (F_spec_l1Cur_levels_l1 c n1) fuel (m1.at_, m1.seed, [], r_1)).bind <| orR fun (at_, seed, l, k_) =>
  some ((l, (Tl1Cur.mk c.code at_ seed)))

def F_spec_l2C_times_l3 (a : TMatrix) (Cells : List TDyadic) (i1 : Nat) (b : TMatrix) (j : Nat) (bad : Bool) : (Bool × Int × Int × Int × Int × Int × Int) → Option (Ex (Bool × Int × Int × Int × Int × Int × Int) (Bool × List TDyadic)) := fun (bad2, A, B6, C, D, Exp, K23) =>
  bif ((decide (K23 < a.Cols)) && (!bad2)) then ((getI a.Cells (IntKind.i64.wrap ((IntKind.i64.wrap ((i1 : Int) * a.Cols)) + K23))).bind fun x =>
  (getI b.Cells (IntKind.i64.wrap ((IntKind.i64.wrap (K23 * b.Cols)) + (j : Int)))).bind fun x1 =>
  (F_spec_l2C_mul (Tl2C.mk bad2) x x1).bind fun (r_1, m1) =>
  (F_spec_l2C_add m1 (TDyadic.mk (TRing.mk A B6 C D) Exp) r_1).bind fun (r_2, m2) =>
  some (.nx (m2.bad, r_2.Num.A, r_2.Num.B, r_2.Num.C, r_2.Num.D, r_2.Exp, (IntKind.i64.wrap (K23 + 1))))) else (some (.br (bad2, A, B6, C, D, Exp, K23)))
def F_spec_l2C_times_l2 (a : TMatrix) (Cells : List TDyadic) (i1 : Nat) (b : TMatrix) (bad : Bool) : Nat → (Bool × List TDyadic) → Option (Bool × List TDyadic) := fun j (bad1, Cells1) =>
  (whX (F_spec_l2C_times_l3 a Cells i1 b j bad) fuel (bad1, 0, 0, 0, 0, 0, 0)).bind <| orR fun (bad2, A, B6, C, D, Exp, K23) =>
  chk (Cells1.length + 1 ≤ 1099511627776) <|
  some (bad2, (Cells1 ++ [(TDyadic.mk (TRing.mk A B6 C D) Exp)]))
def F_spec_l2C_times_l1 (b : TMatrix) (a : TMatrix) : Nat → (Bool × List TDyadic) → Option (Bool × List TDyadic) := fun i1 (bad, Cells) =>
  chk (b.Cols.toNat ≤ 9223372036854775807) <|
  (forN (F_spec_l2C_times_l2 a Cells i1 b bad) b.Cols.toNat 0 (bad, Cells)).bind fun (bad1, Cells1) =>
  some (bad1, Cells1)
def F_spec_l2C_times (c : Tl2C) (a : TMatrix) (b : TMatrix) : Option (TMatrix × Tl2C) :=
  chk (a.Rows.toNat ≤ 9223372036854775807) <|
  (forN (F_spec_l2C_times_l1 b a) a.Rows.toNat 0 (c.bad, [])).bind fun (bad, Cells) =>
  some (((TMatrix.mk a.Rows b.Cols Cells), (Tl2C.mk bad)))

def F_spec_l6Bit (n : Int) (k_ : Int) (q : Int) : Option (Int) :=
  chk ((0 : Int) ≤ (IntKind.u64.wrap (IntKind.i64.wrap ((IntKind.i64.wrap (n - 1)) - q)))) <|
  some ((bits .and .i64 (shrK .i64 k_ (IntKind.u64.wrap (IntKind.i64.wrap ((IntKind.i64.wrap (n - 1)) - q)))) 1))

def F_spec_l6One (kind : Int) : Option (List TDyadic) :=
  (F_spec_l2Power 0).bind fun r_1 =>
  bif (kind == 1) then ((F_spec_l2Neg (TDyadic.mk (TRing.mk 1 0 0 0) 1)).bind fun r_2 =>
  some ([(TDyadic.mk (TRing.mk 1 0 0 0) 1), (TDyadic.mk (TRing.mk 1 0 0 0) 1), (TDyadic.mk (TRing.mk 1 0 0 0) 1), r_2])) else (bif (kind == 2) then (some ([(TDyadic.mk (TRing.mk 0 0 0 0) 0), r_1, r_1, (TDyadic.mk (TRing.mk 0 0 0 0) 0)])) else (bif (kind == 3) then ((F_spec_l2Power 6).bind fun r_3 =>
  (F_spec_l2Power 2).bind fun r_4 =>
  some ([(TDyadic.mk (TRing.mk 0 0 0 0) 0), r_3, r_4, (TDyadic.mk (TRing.mk 0 0 0 0) 0)])) else ((getI [4, 2, 6, 1, 7] (IntKind.i64.wrap (kind - 4))).bind fun x =>
  (F_spec_l2Power x).bind fun r_5 =>
  some ([r_1, (TDyadic.mk (TRing.mk 0 0 0 0) 0), (TDyadic.mk (TRing.mk 0 0 0 0) 0), r_5]))))

def F_spec_l6Cell (n : Int) (g : TGate) (row : Int) (col : Int) : Option (TDyadic) :=
  (F_spec_l2Power 0).bind fun r_1 =>
  ((bif (g.Kind == 12) then ((F_spec_l2Power 1).bind fun r_2 =>
  some (.inl (r_2.Num.A, r_2.Num.B, r_2.Num.C, r_2.Num.D, r_2.Exp, col))) else (bif (g.Kind == 9) then ((F_spec_l6Bit n col g.A).bind fun r_3 =>
  bif (r_3 == 1) then (chk ((0 : Int) ≤ (IntKind.u64.wrap (IntKind.i64.wrap ((IntKind.i64.wrap (n - 1)) - g.B)))) <|
  some (.inl (r_1.Num.A, r_1.Num.B, r_1.Num.C, r_1.Num.D, r_1.Exp, (bits .xor .i64 col (shlK .i64 1 (IntKind.u64.wrap (IntKind.i64.wrap ((IntKind.i64.wrap (n - 1)) - g.B)))))))) else (some (.inl (r_1.Num.A, r_1.Num.B, r_1.Num.C, r_1.Num.D, r_1.Exp, col)))) else (bif (g.Kind == 10) then ((F_spec_l6Bit n col g.A).bind fun r_4 =>
  (gb (r_4 == 1) 0 (F_spec_l6Bit n col g.B)).bind fun r_5 =>
  bif ((r_4 == 1) && (r_5 == 1)) then ((F_spec_l2Power 4).bind fun r_6 =>
  some (.inl (r_6.Num.A, r_6.Num.B, r_6.Num.C, r_6.Num.D, r_6.Exp, col))) else (some (.inl (r_1.Num.A, r_1.Num.B, r_1.Num.C, r_1.Num.D, r_1.Exp, col)))) else (bif (g.Kind == 11) then ((F_spec_l6Bit n col g.A).bind fun r_7 =>
  (F_spec_l6Bit n col g.B).bind fun r_8 =>
  bif (r_7 != r_8) then (chk ((0 : Int) ≤ (IntKind.u64.wrap (IntKind.i64.wrap ((IntKind.i64.wrap (n - 1)) - g.A)))) <|
  chk ((0 : Int) ≤ (IntKind.u64.wrap (IntKind.i64.wrap ((IntKind.i64.wrap (n - 1)) - g.B)))) <|
  some (.inl (r_1.Num.A, r_1.Num.B, r_1.Num.C, r_1.Num.D, r_1.Exp, (bits .xor .i64 (bits .xor .i64 col (shlK .i64 1 (IntKind.u64.wrap (IntKind.i64.wrap ((IntKind.i64.wrap (n - 1)) - g.A))))) (shlK .i64 1 (IntKind.u64.wrap (IntKind.i64.wrap ((IntKind.i64.wrap (n - 1)) - g.B)))))))) else (some (.inl (r_1.Num.A, r_1.Num.B, r_1.Num.C, r_1.Num.D, r_1.Exp, col)))) else (chk ((0 : Int) ≤ (IntKind.u64.wrap (IntKind.i64.wrap ((IntKind.i64.wrap (n - 1)) - g.A)))) <|
  bif ((bits .andNot .i64 (bits .xor .i64 row col) (shlK .i64 1 (IntKind.u64.wrap (IntKind.i64.wrap ((IntKind.i64.wrap (n - 1)) - g.A))))) != 0) then (some (.inr (TDyadic.mk (TRing.mk 0 0 0 0) 0))) else ((F_spec_l6One g.Kind).bind fun r_9 =>
  (F_spec_l6Bit n row g.A).bind fun r_10 =>
  (F_spec_l6Bit n col g.A).bind fun r_11 =>
  (getI r_9 (IntKind.i64.wrap ((IntKind.i64.wrap (2 * r_10)) + r_11))).bind fun x =>
  some (.inr x))))))) : Option ((Int × Int × Int × Int × Int × Int) ⊕ (TDyadic))).bind <| orR fun (A, B, C, D, Exp, to_) =>
  bif (row == to_) then (some ((TDyadic.mk (TRing.mk A B C D) Exp))) else (some ((TDyadic.mk (TRing.mk 0 0 0 0) 0)))

def F_spec_l6Gate_l2 (n : Int) (g : TGate) (i1 : Nat) : Nat → (List TDyadic) → Option (List TDyadic) := fun j Cells1 =>
  (F_spec_l6Cell n g (i1 : Int) (j : Int)).bind fun r_1 =>
  chk (Cells1.length + 1 ≤ 1099511627776) <|
  some (Cells1 ++ [r_1])
def F_spec_l6Gate_l1 (n : Int) (g : TGate) : Nat → (List TDyadic) → Option (List TDyadic) := fun i1 Cells =>
  chk (((shlK .i64 1 (IntKind.u64.wrap n)).toNat) ≤ 9223372036854775807) <|
  (forN (F_spec_l6Gate_l2 n g i1) ((shlK .i64 1 (IntKind.u64.wrap n)).toNat) 0 Cells).bind fun Cells1 =>
  some Cells1
def F_spec_l6Gate (n : Int) (g : TGate) : Option (TMatrix) :=
  chk ((0 : Int) ≤ (IntKind.u64.wrap n)) <|
  chk (((shlK .i64 1 (IntKind.u64.wrap n)).toNat) ≤ 9223372036854775807) <|
  (forN (F_spec_l6Gate_l1 n g) ((shlK .i64 1 (IntKind.u64.wrap n)).toNat) 0 []).bind fun Cells =>
  some ((TMatrix.mk (shlK .i64 1 (IntKind.u64.wrap n)) (shlK .i64 1 (IntKind.u64.wrap n)) Cells))

def F_spec_l2C_run_l1 (x : TCircuit) : Nat → (Bool × Int × Int × List TDyadic) → Option (Bool × Int × Int × List TDyadic) := fun i (bad, Rows, Cols, Cells) =>
  (((getI x.Gates (i : Int)).bind fun x1 =>
  bif (!bad) then ((F_spec_l6Gate x.Qubits x1).bind fun r_1 =>
  (F_spec_l2C_times (Tl2C.mk bad) r_1 (TMatrix.mk Rows Cols Cells)).bind fun (r_2, m2) =>
  some (m2.bad, r_2.Rows, r_2.Cols, r_2.Cells)) else (some (bad, Rows, Cols, Cells))) : Option (Bool × Int × Int × List TDyadic)).bind fun (bad1, Rows1, Cols1, Cells1) =>
  some (bad1, Rows1, Cols1, Cells1)
def F_spec_l2C_run (c : Tl2C) (x : TCircuit) (m : TMatrix) : Option (TMatrix × Tl2C) :=
  chk (x.Gates.length ≤ 9223372036854775807) <|
  (forN (F_spec_l2C_run_l1 x) x.Gates.length 0 (c.bad, m.Rows, m.Cols, m.Cells)).bind fun (bad, Rows, Cols, Cells) =>
  some (((TMatrix.mk Rows Cols Cells), (Tl2C.mk bad)))

def F_spec_l6Op (x : TCircuit) : Option (TMatrix) :=
  chk ((0 : Int) ≤ (IntKind.u64.wrap x.Qubits)) <|
  (F_spec_l3Unit (shlK .i64 1 (IntKind.u64.wrap x.Qubits))).bind fun r_1 =>
  (F_spec_l2C_run (Tl2C.mk false) x r_1).bind fun (r_2, m) =>
  some (r_2)

def F_spec_l1Cur_gate (c : Tl1Cur) (n1 : Int) (kinds : List Int) : Option (TGate × Tl1Cur) :=
  (F_spec_l1Cur_pick c (kinds.length : Int)).bind fun (r_1, m1) =>
  (getI kinds r_1).bind fun x =>
  bif (x == 12) then (some (((TGate.mk x 0 0), (Tl1Cur.mk c.code m1.at_ m1.seed)))) else ((F_spec_l1Cur_pick (Tl1Cur.mk c.code m1.at_ m1.seed) n1).bind fun (r_2, m2) =>
  (((F_spec_l1In x 9 11).bind fun r_3 =>
  bif r_3 then (bif (n1 == 1) then (some (.inr ((TGate.mk 1 0 0), (Tl1Cur.mk c.code m2.at_ m2.seed)))) else ((F_spec_l1Cur_pick (Tl1Cur.mk c.code m2.at_ m2.seed) (IntKind.i64.wrap (n1 - 1))).bind fun (r_4, m3) =>
  chk (n1 ≠ (0 : Int)) <|
  some (.inl (m3.at_, m3.seed, (Int.tmod (IntKind.i64.wrap ((IntKind.i64.wrap (r_2 + 1)) + r_4)) n1))))) else (some (.inl (m2.at_, m2.seed, 0)))) : Option ((Int × Int × Int) ⊕ (TGate × Tl1Cur))).bind <| orR fun (at_, seed, B3) =>
  some (((TGate.mk x r_2 B3), (Tl1Cur.mk c.code at_ seed))))

def F_spec_l1Cur_built_l1 (c : Tl1Cur) (n1 : Int) (kinds : List Int) : (Int × Int × List TGate × Int) → Option (Ex (Int × Int × List TGate × Int) (TCircuit × Tl1Cur)) := fun (at_, seed, Gates, k_) =>
  bif (decide (0 < k_)) then ((F_spec_l1Cur_gate (Tl1Cur.mk c.code at_ seed) n1 kinds).bind fun (r_2, m2) =>
  chk (Gates.length + 1 ≤ 1099511627776) <|
  some (.nx (m2.at_, m2.seed, (Gates ++ [r_2]), (IntKind.i64.wrap (k_ - 1))))) else (some (.br (at_, seed, Gates, k_)))
def F_spec_l1Cur_built (c : Tl1Cur) (n1 : Int) (most : Int) (kinds : List Int) : Option (TCircuit × Tl1Cur) :=
  (F_spec_l1Cur_pick c (IntKind.i64.wrap (most + 1))).bind fun (r_1, m1) =>
  (whX (F_spec_l1Cur_built_l1 c n1 kinds) fuel (m1.at_, m1.seed, [], r_1)).bind <| orR fun (at_, seed, Gates, k_) =>
  some (((TCircuit.mk n1 Gates), (Tl1Cur.mk c.code at_ seed)))

def F_spec_l1Cur_unitary (c : Tl1Cur) : Option (TMatrix × Tl1Cur) :=
  (((F_spec_l1Cur_one c 2).bind fun (r_1, m1) =>
  bif r_1 then ((F_spec_l1Cur_among (Tl1Cur.mk c.code m1.at_ m1.seed) [2, 4, 4, 8]).bind fun (r_2, m2) =>
  (F_spec_l1Cur_levels (Tl1Cur.mk c.code m2.at_ m2.seed) r_2).bind fun (r_3, m3) =>
  (F_spec_ComposeTwoLevel r_2 r_3).bind fun (r_4, r_5) =>
  bif r_5 then (some (.inr (r_4, (Tl1Cur.mk c.code m3.at_ m3.seed)))) else (some (.inl (m3.at_, m3.seed)))) else (some (.inl (m1.at_, m1.seed)))) : Option ((Int × Int) ⊕ (TMatrix × Tl1Cur))).bind <| orR fun (at_, seed) =>
  (F_spec_l1Cur_pick (Tl1Cur.mk c.code at_ seed) 3).bind fun (r_6, m4) =>
  (F_spec_l1Cur_built (Tl1Cur.mk c.code m4.at_ m4.seed) (IntKind.i64.wrap (1 + r_6)) 9 [1, 1, 7, 7, 5, 3, 9, 9, 10, 12, 2]).bind fun (r_7, m5) =>
  (F_spec_l6Op r_7).bind fun r_8 =>
  some ((r_8, (Tl1Cur.mk c.code m5.at_ m5.seed)))

def F_spec_l3Column_l1 (m : TMatrix) (k_ : Int) : Nat → (List TDyadic) → Option (List TDyadic) := fun i1 Cells =>
  (getI m.Cells (IntKind.i64.wrap ((IntKind.i64.wrap ((i1 : Int) * m.Cols)) + k_))).bind fun x =>
  chk (Cells.length + 1 ≤ 1099511627776) <|
  some (Cells ++ [x])
def F_spec_l3Column (m : TMatrix) (k_ : Int) : Option (TMatrix) :=
  chk (m.Rows.toNat ≤ 9223372036854775807) <|
  (forN (F_spec_l3Column_l1 m k_) m.Rows.toNat 0 []).bind fun Cells =>
  some ((TMatrix.mk m.Rows 1 Cells))

def F_spec_DrawReduceColumn_l1 (r_7 : TMatrix) (Cells : List TDyadic) : Int → Option (Ex (Int) (Int × Int × Int)) := fun from_1 =>
  (gb (decide ((IntKind.i64.wrap (from_1 + 1)) < r_7.Rows)) (TDyadic.mk (TRing.mk 0 0 0 0) 0) (getI Cells from_1)).bind fun x1 =>
  bif ((decide ((IntKind.i64.wrap (from_1 + 1)) < r_7.Rows)) && (((x1.Num.A == 0) && ((x1.Num.B == 0) && ((x1.Num.C == 0) && ((x1.Num.D == 0) && true)))) && ((x1.Exp == 0) && true))) then (some (.nx (IntKind.i64.wrap (from_1 + 1)))) else (some (.br from_1))
def F_spec_DrawReduceColumn (code : List Int) : Option (TMatrix × Int) :=
  (F_spec_l1Cur_one (Tl1Cur.mk code 0 0) 12).bind fun (r_2, m) =>
  bif r_2 then ((F_spec_l1Cur_anyMatrix (Tl1Cur.mk code m.at_ m.seed)).bind fun (r_3, m1) =>
  (F_spec_l1Cur_pick (Tl1Cur.mk code m1.at_ m1.seed) 4).bind fun (r_4, m2) =>
  some ((r_3, r_4))) else ((F_spec_l1Cur_unitary (Tl1Cur.mk code m.at_ m.seed)).bind fun (r_5, m3) =>
  (F_spec_l1Cur_pick (Tl1Cur.mk code m3.at_ m3.seed) r_5.Cols).bind fun (r_6, m4) =>
  (F_spec_l3Column r_5 r_6).bind fun r_7 =>
  (((F_spec_l1Cur_one (Tl1Cur.mk code m4.at_ m4.seed) 16).bind fun (r_8, m5) =>
  bif r_8 then ((F_spec_l1Cur_pick (Tl1Cur.mk code m5.at_ m5.seed) r_7.Rows).bind fun (r_9, m6) =>
  (F_spec_l1Cur_dyadic (Tl1Cur.mk code m6.at_ m6.seed)).bind fun (r_10, m7) =>
  (getI r_7.Cells r_9).bind fun x =>
  some (m7.at_, m7.seed, (r_7.Cells.set r_9.toNat r_10))) else (some (m5.at_, m5.seed, r_7.Cells))) : Option (Int × Int × List TDyadic)).bind fun (at_, seed, Cells) =>
  (((F_spec_l1Cur_one (Tl1Cur.mk code at_ seed) 3).bind fun (r_11, m8) =>
  bif r_11 then ((whX (F_spec_DrawReduceColumn_l1 r_7 Cells) fuel 0).bind <| orR fun from_1 =>
  some (m8.at_, m8.seed, from_1)) else (some (m8.at_, m8.seed, 0))) : Option (Int × Int × Int)).bind fun (at_1, seed1, from_) =>
  (F_spec_l1Cur_pick (Tl1Cur.mk code at_1 seed1) 12).bind fun (r_12, m9) =>
  (F_spec_l1Cur_pick (Tl1Cur.mk code m9.at_ m9.seed) 12).bind fun (r_13, m10) =>
  some (((TMatrix.mk r_7.Rows r_7.Cols Cells), (IntKind.i64.wrap ((IntKind.i64.wrap (from_ + (IntKind.i64.wrap (Int.tdiv r_12 11)))) - (IntKind.i64.wrap (Int.tdiv r_13 11)))))))

def F_impl_Conjugate (x : TRing) : Option (TRing × Bool) :=
  (F_impl_ringIf (TRing.mk x.A (IntKind.i64.wrap (-x.D)) (IntKind.i64.wrap (-x.C)) (IntKind.i64.wrap (-x.B))) [x]).bind fun (r_2, r_3) =>
  some ((r_2, r_3))

def F_impl_ConjDyadic (x : TDyadic) : Option (TDyadic × Bool) :=
  (F_impl_IsValidDyadic x).bind fun r_2 =>
  bif (!r_2) then (some (((TDyadic.mk (TRing.mk 0 0 0 0) 0), false))) else ((F_impl_Conjugate x.Num).bind fun (r_3, r_4) =>
  some (((TDyadic.mk r_3 x.Exp), true)))

def F_impl_NormSquare (x : TDyadic) : Option (TDyadic × Bool) :=
  (F_impl_ConjDyadic x).bind fun (r_2, r_3) =>
  bif (!r_3) then (some (((TDyadic.mk (TRing.mk 0 0 0 0) 0), false))) else ((F_impl_MulDyadic x r_2).bind fun (r_4, r_5) =>
  some ((r_4, r_5)))

def F_impl_isColumn_l1 (v_ : TMatrix) (from_ : Int) : Nat → (Int × Int × Int × Int × Int) → Option (Ex (Int × Int × Int × Int × Int) (Bool)) := fun i (A, B1, C, D, Exp) =>
  (getI v_.Cells (i : Int)).bind fun x =>
  (F_impl_NormSquare x).bind fun (r_4, r_5) =>
  (F_impl_AddDyadic (TDyadic.mk (TRing.mk A B1 C D) Exp) r_4).bind fun (r_6, r_7) =>
  bif (((!r_5) || (!r_7)) || ((decide ((i : Int) < from_)) && (!(((x.Num.A == 0) && ((x.Num.B == 0) && ((x.Num.C == 0) && ((x.Num.D == 0) && true)))) && ((x.Exp == 0) && true))))) then (some (.rt false)) else (some (.nx (r_6.Num.A, r_6.Num.B, r_6.Num.C, r_6.Num.D, r_6.Exp)))
def F_impl_isColumn (v_ : TMatrix) (from_ : Int) : Option (Bool) :=
  (F_impl_IsValidMatrix v_).bind fun r_1 =>
  (gb (!((!r_1) || (v_.Cols != 1))) false (F_impl_isLevelDim v_.Rows)).bind fun r_2 =>
  (gb (!(((!r_1) || (v_.Cols != 1)) || (!r_2))) false (F_impl_within from_ 0 (IntKind.i64.wrap (v_.Rows - 1)))).bind fun r_3 =>
  bif ((((!r_1) || (v_.Cols != 1)) || (!r_2)) || (!r_3)) then (some (false)) else (chk (v_.Cells.length ≤ 9223372036854775807) <|
  (forX (F_impl_isColumn_l1 v_ from_) v_.Cells.length 0 (0, 0, 0, 0, 0)).bind <| orR fun (A, B1, C, D, Exp) =>
  (F_impl_whole 1).bind fun r_8 =>
  some ((((A == r_8.Num.A) && ((B1 == r_8.Num.B) && ((C == r_8.Num.C) && ((D == r_8.Num.D) && true)))) && ((Exp == r_8.Exp) && true))))

def F_impl_LeastExp_l1 (m : TMatrix) : Nat → Int → Option (Int) := fun i most =>
  (getI m.Cells (i : Int)).bind fun x =>
  some (if most < x.Exp then x.Exp else most)
def F_impl_LeastExp (m : TMatrix) : Option (Int × Bool) :=
  (F_impl_IsValidMatrix m).bind fun r_2 =>
  bif (!r_2) then (some ((0, false))) else (chk (m.Cells.length ≤ 9223372036854775807) <|
  (forN (F_impl_LeastExp_l1 m) m.Cells.length 0 0).bind fun most =>
  some ((most, true)))

def F_impl_PhaseOf_l1 (x : TDyadic) : Nat → Unit → Option (Ex (Unit) (Int × Bool)) := fun i _ =>
  (F_impl_phase (i : Int)).bind fun r_2 =>
  bif (((x.Num.A == r_2.Num.A) && ((x.Num.B == r_2.Num.B) && ((x.Num.C == r_2.Num.C) && ((x.Num.D == r_2.Num.D) && true)))) && ((x.Exp == r_2.Exp) && true)) then (some (.rt ((i : Int), true))) else (some (.nx ()))
def F_impl_PhaseOf (x : TDyadic) : Option (Int × Bool) :=
  (forX (F_impl_PhaseOf_l1 x) 8 0 ()).bind <| orR fun _ =>
  some ((0, false))

def F_impl_finishing_l1 (v_ : TMatrix) (from_ : Int) : Nat → Unit → Option (Ex (Unit) (List TTwoLevel × Bool)) := fun i _ =>
  (getI v_.Cells (i : Int)).bind fun x =>
  bif (((x.Num.A == 0) && ((x.Num.B == 0) && ((x.Num.C == 0) && ((x.Num.D == 0) && true)))) && ((x.Exp == 0) && true)) then (some (.nx ())) else ((F_impl_PhaseOf x).bind fun (r_2, r_3) =>
  bif (!r_3) then (some (.rt ([], false))) else (((bif ((i : Int) != from_) then (some [(TTwoLevel.mk 2 (if from_ < (i : Int) then from_ else (i : Int)) (if (i : Int) < from_ then from_ else (i : Int)) 0)]) else (some [])) : Option (List TTwoLevel)).bind fun out =>
  ((bif (decide (0 < r_2)) then (chk (out.length + 1 ≤ 1099511627776) <|
  some (out ++ [(TTwoLevel.mk 1 from_ 0 (IntKind.i64.wrap (8 - r_2)))])) else (some out)) : Option (List TTwoLevel)).bind fun out1 =>
  some (.rt (out1, true))))
def F_impl_finishing (v_ : TMatrix) (from_ : Int) : Option (List TTwoLevel × Bool) :=
  chk (v_.Cells.length ≤ 9223372036854775807) <|
  (forX (F_impl_finishing_l1 v_ from_) v_.Cells.length 0 ()).bind <| orR fun _ =>
  some (([], false))

def F_impl_ResidueType (x : TRing) : Option (Int × Bool) :=
  (F_impl_IsValidRing x).bind fun r_2 =>
  bif (!r_2) then (some ((0, false))) else ((F_impl_isEven x).bind fun r_3 =>
  bif r_3 then (some ((0, true))) else (bif ((Int.tmod (IntKind.i64.wrap ((IntKind.i64.wrap ((IntKind.i64.wrap (x.A + x.B)) + x.C)) + x.D)) 2) != 0) then (some ((1, true))) else (some ((2, true)))))

def F_impl_nextPair_l2 (list : List TRing) (kind : Int) : Nat → (List Int) → Option (List Int) := fun i rows =>
  (((getI list (i : Int)).bind fun x =>
  (F_impl_ResidueType x).bind fun (r_3, r_4) =>
  bif (r_3 == kind) then (chk (rows.length + 1 ≤ 1099511627776) <|
  some (rows ++ [(i : Int)])) else (some rows)) : Option (List Int)).bind fun rows1 =>
  some rows1
def F_impl_nextPair_l1 (list : List TRing) : Int → Option (Ex (Int) (Int × Int × Bool)) := fun kind =>
  bif (decide (kind ≤ 2)) then (chk (list.length ≤ 9223372036854775807) <|
  (forN (F_impl_nextPair_l2 list kind) list.length 0 []).bind fun rows =>
  bif (decide (2 ≤ (rows.length : Int))) then ((getI rows 0).bind fun x1 =>
  (getI rows 1).bind fun x2 =>
  some (.rt (x1, x2, true))) else (some (.nx (IntKind.i64.wrap (kind + 1))))) else (some (.br kind))
def F_impl_nextPair (list : List TRing) : Option (Int × Int × Bool) :=
  (whX (F_impl_nextPair_l1 list) fuel 1).bind <| orR fun kind =>
  some ((0, 0, false))

def F_impl_parities (x : TRing) : Option (Bool × Bool) :=
  some ((((IntKind.i64.wrap ((IntKind.i64.wrap ((IntKind.i64.wrap ((bits .and .i64 x.A 1) + (bits .and .i64 x.B 1))) + (bits .and .i64 x.C 1))) + (bits .and .i64 x.D 1))) == 0), ((IntKind.i64.wrap ((IntKind.i64.wrap ((IntKind.i64.wrap ((bits .and .i64 x.A 1) + (bits .and .i64 x.B 1))) + (bits .and .i64 x.C 1))) + (bits .and .i64 x.D 1))) == 4)))

def F_impl_MatchingPower_l1 (y : TRing) (x : TRing) (r_2 : Int) : Nat → Unit → Option (Ex (Unit) (Int × Bool)) := fun i _ =>
  (F_impl_MulOmega y (i : Int)).bind fun (r_6, r_7) =>
  (F_impl_parities (TRing.mk (IntKind.i64.wrap (x.A + r_6.A)) (IntKind.i64.wrap (x.B + r_6.B)) (IntKind.i64.wrap (x.C + r_6.C)) (IntKind.i64.wrap (x.D + r_6.D)))).bind fun (r_8, r_9) =>
  bif (r_8 || (r_9 && (r_2 == 1))) then (some (.rt ((i : Int), true))) else (some (.nx ()))
def F_impl_MatchingPower (x : TRing) (y : TRing) : Option (Int × Bool) :=
  (F_impl_ResidueType x).bind fun (r_2, r_3) =>
  (F_impl_ResidueType y).bind fun (r_4, r_5) =>
  bif ((((!r_3) || (!r_5)) || (r_2 != r_4)) || (r_2 == 0)) then (some ((0, false))) else ((forX (F_impl_MatchingPower_l1 y x r_2) 8 0 ()).bind <| orR fun _ =>
  some ((0, false)))

def F_impl_lowering_l1 (v_ : TMatrix) (k_ : Int) : Nat → (List TRing) → Option (Ex (List TRing) (TTwoLevel × Bool)) := fun i list =>
  (getI v_.Cells (i : Int)).bind fun x =>
  (F_impl_raised x k_).bind fun (r_2, r_3) =>
  bif (!r_3) then (some (.rt ((TTwoLevel.mk 0 0 0 0), false))) else (chk (list.length + 1 ≤ 1099511627776) <|
  some (.nx (list ++ [r_2])))
def F_impl_lowering (v_ : TMatrix) (k_ : Int) : Option (TTwoLevel × Bool) :=
  chk (v_.Cells.length ≤ 9223372036854775807) <|
  (forX (F_impl_lowering_l1 v_ k_) v_.Cells.length 0 []).bind <| orR fun list =>
  (F_impl_nextPair list).bind fun (r_4, r_5, r_6) =>
  bif (!r_6) then (some (((TTwoLevel.mk 0 0 0 0), false))) else ((getI list r_4).bind fun x1 =>
  (getI list r_5).bind fun x2 =>
  (F_impl_MatchingPower x1 x2).bind fun (r_7, r_8) =>
  some (((TTwoLevel.mk 3 r_4 r_5 r_7), r_8)))

def F_impl_ReduceColumn_l1 (from_ : Int) : (Int × Int × List TDyadic × List TTwoLevel) → Option (Ex (Int × Int × List TDyadic × List TTwoLevel) (List TTwoLevel × Bool)) := fun (Rows, Cols, Cells, out) =>
  (F_impl_LeastExp (TMatrix.mk Rows Cols Cells)).bind fun (r_3, r_4) =>
  bif (r_3 == 0) then ((F_impl_finishing (TMatrix.mk Rows Cols Cells) from_).bind fun (r_5, r_6) =>
  bif (!r_6) then (some (.rt ([], false))) else (chk (out.length + r_5.length ≤ 1099511627776) <|
  some (.rt ((out ++ r_5), true)))) else ((F_impl_lowering (TMatrix.mk Rows Cols Cells) r_3).bind fun (r_7, r_8) =>
  bif (!r_8) then (some (.rt ([], false))) else ((F_impl_TwoLevelMatrix Rows r_7).bind fun (r_9, r_10) =>
  (F_impl_MulMatrix r_9 (TMatrix.mk Rows Cols Cells)).bind fun (r_11, r_12) =>
  bif (!r_12) then (some (.rt ([], false))) else (chk (out.length + 1 ≤ 1099511627776) <|
  some (.nx (r_11.Rows, r_11.Cols, r_11.Cells, (out ++ [r_7]))))))
def F_impl_ReduceColumn (v_ : TMatrix) (from_ : Int) : Option (List TTwoLevel × Bool) :=
  (F_impl_isColumn v_ from_).bind fun r_2 =>
  bif (!r_2) then (some (([], false))) else ((whX (F_impl_ReduceColumn_l1 from_) fuel (v_.Rows, v_.Cols, v_.Cells, [])).bind <| orR fun _ => none)

def F_spec_TwoLevelMatrix (n : Int) (t : TTwoLevel) : Option (TMatrix × Bool) :=
  (F_spec_l11Valid n t).bind fun r_2 =>
  bif (!r_2) then (some (((TMatrix.mk 0 0 []), false))) else ((F_spec_l3Unit n).bind fun r_3 =>
  (F_spec_l2C_level (Tl2C.mk false) r_3 t).bind fun (r_4, m) =>
  some ((r_4, true)))

def F_spec_l2Good (x : TDyadic) : Option (Bool) :=
  (F_spec_l1Good x.Num).bind fun r_1 =>
  (gb r_1 false (F_spec_l1In x.Exp 0 60)).bind fun r_2 =>
  (gb ((r_1 && r_2) && (!(x.Exp == 0))) false (F_spec_l1Even x.Num)).bind fun r_3 =>
  some (((r_1 && r_2) && ((x.Exp == 0) || (!r_3))))

def F_spec_l3Good_l1 (m : TMatrix) : Nat → Unit → Option (Ex (Unit) (Bool)) := fun i _ =>
  (getI m.Cells (i : Int)).bind fun x =>
  (F_spec_l2Good x).bind fun r_3 =>
  bif (!r_3) then (some (.rt false)) else (some (.nx ()))
def F_spec_l3Good (m : TMatrix) : Option (Bool) :=
  (F_spec_l3Dim m.Rows).bind fun r_1 =>
  (gb (!(!r_1)) false (F_spec_l3Dim m.Cols)).bind fun r_2 =>
  bif (((!r_1) || (!r_2)) || ((m.Cells.length : Int) != (IntKind.i64.wrap (m.Rows * m.Cols)))) then (some (false)) else (chk (m.Cells.length ≤ 9223372036854775807) <|
  (forX (F_spec_l3Good_l1 m) m.Cells.length 0 ()).bind <| orR fun _ =>
  some (true))

def F_spec_l2C_matrix (c : Tl2C) (m : TMatrix) : Option (TMatrix × Bool) :=
  bif c.bad then (some (((TMatrix.mk 0 0 []), false))) else (some ((m, true)))

def F_spec_MulMatrix (a : TMatrix) (b : TMatrix) : Option (TMatrix × Bool) :=
  (F_spec_l3Good a).bind fun r_2 =>
  (gb (!(!r_2)) false (F_spec_l3Good b)).bind fun r_3 =>
  bif (((!r_2) || (!r_3)) || (a.Cols != b.Rows)) then (some (((TMatrix.mk 0 0 []), false))) else ((F_spec_l2C_times (Tl2C.mk false) a b).bind fun (r_4, m) =>
  (F_spec_l2C_matrix m r_4).bind fun (r_5, r_6) =>
  some ((r_5, r_6)))

def F_spec_ColumnOf (m : TMatrix) (k_ : Int) : Option (TMatrix × Bool) :=
  (F_spec_l3Good m).bind fun r_2 =>
  (gb (!(!r_2)) false (F_spec_l1In k_ 0 (IntKind.i64.wrap (m.Cols - 1)))).bind fun r_3 =>
  bif ((!r_2) || (!r_3)) then (some (((TMatrix.mk 0 0 []), false))) else ((F_spec_l3Column m k_).bind fun r_4 =>
  some ((r_4, true)))

def F_laws_FnTwoLevel_l1 (r_14 : List TTwoLevel) (r_12 : TMatrix) : Nat → (Int × Int × List TDyadic) → Option (Ex (Int × Int × List TDyadic) (Bool)) := fun i (Rows, Cols, Cells) =>
  (getI r_14 (i : Int)).bind fun x =>
  (F_spec_TwoLevelMatrix r_12.Rows x).bind fun (r_16, r_17) =>
  (F_spec_MulMatrix r_16 (TMatrix.mk Rows Cols Cells)).bind fun (r_18, r_19) =>
  bif (!r_17) then (some (.rt false)) else (bif (!r_19) then (some (.rt true)) else (some (.nx (r_18.Rows, r_18.Cols, r_18.Cells))))
def F_laws_FnTwoLevel (code : List Int) (more : List Int) : Option (Bool) :=
  (F_laws_big code more).bind fun r_1 =>
  bif r_1 then (some (true)) else ((F_spec_DrawInverseTwoLevel code).bind fun (r_2, r_3) =>
  (F_impl_InverseTwoLevel r_2 r_3).bind fun (r_4, r_5) =>
  (F_spec_IsValidTwoLevel r_2 r_3).bind fun r_6 =>
  bif (!(r_5 == r_6)) then (some (false)) else (((bif r_5 then (chk (1 + r_4.length ≤ 1099511627776) <|
  (F_impl_ComposeTwoLevel r_2 ([r_3] ++ r_4)).bind fun (r_7, r_8) =>
  (F_spec_IdentityMatrix r_2).bind fun (r_9, r_10) =>
  (gb (!((!r_8) || (!r_10))) false (F_spec_EqualMatrices r_7 r_9)).bind fun r_11 =>
  bif (((!r_8) || (!r_10)) || (!r_11)) then (some (.inr false)) else (some (.inl ()))) else (some (.inl ()))) : Option ((Unit) ⊕ (Bool))).bind <| orR fun _ =>
  (F_spec_DrawReduceColumn more).bind fun (r_12, r_13) =>
  (F_impl_ReduceColumn r_12 r_13).bind fun (r_14, r_15) =>
  bif r_15 then (chk (r_14.length ≤ 9223372036854775807) <|
  (forX (F_laws_FnTwoLevel_l1 r_14 r_12) r_14.length 0 (r_12.Rows, r_12.Cols, r_12.Cells)).bind <| orR fun (Rows, Cols, Cells) =>
  (F_spec_IdentityMatrix r_12.Rows).bind fun (r_20, r_21) =>
  (F_spec_ColumnOf r_20 r_13).bind fun (r_22, r_23) =>
  (gb (r_21 && r_23) false (F_spec_EqualMatrices (TMatrix.mk Rows Cols Cells) r_22)).bind fun r_24 =>
  some (((r_21 && r_23) && r_24))) else (some (true))))
end Go.VK
