/- What each Go function computes, by program. -/
import Derived.Test.YtchihdcajdocgaaLPhaseAlgebraTy
set_option linter.unusedVariables false
namespace Go.VK
open Go.RowKit
def F_spec_l1Cur_next (c : Tl1Cur) : Option (Int × Tl1Cur) :=
  ((bif (decide (c.at_ < (c.code.length : Int))) then ((getI c.code c.at_).bind fun x =>
  some (IntKind.i64.wrap x)) else (some 0)) : Option (Int)).bind fun b =>
  bif (decide ((IntKind.i64.wrap (c.at_ + 1)) ≤ (c.code.length : Int))) then (some ((b, (Tl1Cur.mk c.code (IntKind.i64.wrap (c.at_ + 1)) (IntKind.u64.wrap ((IntKind.u64.wrap ((IntKind.u64.wrap (c.seed * 6364136223846793005)) + (IntKind.u64.wrap b))) + 1442695040888963407)))))) else (some (((IntKind.i64.wrap (bits .and .u64 (shrK .u64 (IntKind.u64.wrap ((IntKind.u64.wrap ((IntKind.u64.wrap (c.seed * 6364136223846793005)) + (IntKind.u64.wrap b))) + 1442695040888963407)) 40) 255)), (Tl1Cur.mk c.code (IntKind.i64.wrap (c.at_ + 1)) (IntKind.u64.wrap ((IntKind.u64.wrap ((IntKind.u64.wrap (c.seed * 6364136223846793005)) + (IntKind.u64.wrap b))) + 1442695040888963407))))))

def F_spec_l1Cur_pick (c : Tl1Cur) (n1 : Int) : Option (Int × Tl1Cur) :=
  bif (decide (n1 ≤ 1)) then (some ((0, c))) else ((F_spec_l1Cur_next c).bind fun (r_1, m1) =>
  ((bif (decide (200 < n1)) then ((F_spec_l1Cur_next (Tl1Cur.mk c.code m1.at_ m1.seed)).bind fun (r_2, m2) =>
  some (m2.at_, m2.seed, (IntKind.i64.wrap ((IntKind.i64.wrap (r_1 * 256)) + r_2)))) else (some (m1.at_, m1.seed, r_1))) : Option (Int × Int × Int)).bind fun (at_, seed, x) =>
  chk (n1 ≠ (0 : Int)) <|
  some (((Int.tmod x n1), (Tl1Cur.mk c.code at_ seed))))

def F_spec_l1Cur_one (c : Tl1Cur) (n1 : Int) : Option (Bool × Tl1Cur) :=
  (F_spec_l1Cur_pick c n1).bind fun (r_1, m1) =>
  some (((r_1 == 0), (Tl1Cur.mk c.code m1.at_ m1.seed)))

def F_spec_l13List_l1 (by_ : List Int) : Nat → (List TTerm) → Option (List TTerm) := fun i out =>
  (((getI by_ (i : Int)).bind fun x =>
  bif ((decide (0 < (i : Int))) && (decide (0 < (Int.tmod (IntKind.i64.wrap ((Int.tmod x 8) + 8)) 8)))) then (chk (out.length + 1 ≤ 1099511627776) <|
  some (out ++ [(TTerm.mk (i : Int) (Int.tmod (IntKind.i64.wrap ((Int.tmod x 8) + 8)) 8))])) else (some out)) : Option (List TTerm)).bind fun out1 =>
  some out1
def F_spec_l13List (by_ : List Int) : Option (List TTerm) :=
  chk (by_.length ≤ 9223372036854775807) <|
  (forN (F_spec_l13List_l1 by_) by_.length 0 []).bind fun out =>
  some (out)

def F_spec_l12Identity_l1 : Nat → (List Int) → Option (List Int) := fun i1 Rows =>
  chk ((0 : Int) ≤ (IntKind.u64.wrap (i1 : Int))) <|
  chk (Rows.length + 1 ≤ 1099511627776) <|
  some (Rows ++ [(shlK .i64 1 (IntKind.u64.wrap (i1 : Int)))])
def F_spec_l12Identity (n : Int) : Option (TLinear) :=
  chk (n.toNat ≤ 9223372036854775807) <|
  (forN F_spec_l12Identity_l1 n.toNat 0 []).bind fun Rows =>
  some ((TLinear.mk Rows))

def F_spec_l1Own (l : List Int) : Option (List Int) :=
  chk (0 + l.length ≤ 1099511627776) <|
  some (l)

def F_spec_l12CX (m : TLinear) (a : Int) (b : Int) : Option (TLinear) :=
  (F_spec_l1Own m.Rows).bind fun r_1 =>
  (getI r_1 b).bind fun x =>
  (getI r_1 a).bind fun x1 =>
  some ((TLinear.mk (r_1.set b.toNat (bits .xor .i64 x x1))))

def F_spec_l1Cur_linear_l1 (n1 : Int) (c : Tl1Cur) : (Int × Int × List Int × Int) → Option (Ex (Int × Int × List Int × Int) (TLinear × Tl1Cur)) := fun (at_, seed, Rows, k_) =>
  bif ((decide (0 < k_)) && (decide (1 < n1))) then ((F_spec_l1Cur_pick (Tl1Cur.mk c.code at_ seed) n1).bind fun (r_3, m2) =>
  (F_spec_l1Cur_pick (Tl1Cur.mk c.code m2.at_ m2.seed) (IntKind.i64.wrap (n1 - 1))).bind fun (r_4, m3) =>
  chk (n1 ≠ (0 : Int)) <|
  (F_spec_l12CX (TLinear.mk Rows) r_3 (Int.tmod (IntKind.i64.wrap ((IntKind.i64.wrap (r_3 + 1)) + r_4)) n1)).bind fun r_5 =>
  some (.nx (m3.at_, m3.seed, r_5.Rows, (IntKind.i64.wrap (k_ - 1))))) else (some (.br (at_, seed, Rows, k_)))
def F_spec_l1Cur_linear (c : Tl1Cur) (n1 : Int) : Option (TLinear × Tl1Cur) :=
  (F_spec_l12Identity n1).bind fun r_1 =>
  (F_spec_l1Cur_pick c 8).bind fun (r_2, m1) =>
  (whX (F_spec_l1Cur_linear_l1 n1 c) fuel (m1.at_, m1.seed, r_1.Rows, r_2)).bind <| orR fun (at_, seed, Rows, k_) =>
  some (((TLinear.mk Rows), (Tl1Cur.mk c.code at_ seed)))

def F_spec_l1Cur_phasePoly_l2 (c : Tl1Cur) (at_ : Int) (seed : Int) : Nat → (Int × Int × List Int) → Option (Int × Int × List Int) := fun i (at_2, seed2, by_2) =>
  (F_spec_l1Cur_pick (Tl1Cur.mk c.code at_2 seed2) 8).bind fun (r_5, m5) =>
  (getI by_2 (i : Int)).bind fun x1 =>
  some (m5.at_, m5.seed, (by_2.set (i : Int).toNat r_5))
def F_spec_l1Cur_phasePoly_l1 (c : Tl1Cur) (n1 : Int) : (Int × Int × List Int × Int) → Option (Ex (Int × Int × List Int × Int) (TPhasePoly × Tl1Cur)) := fun (at_, seed, by_, k_) =>
  bif (decide (0 < k_)) then ((F_spec_l1Cur_pick (Tl1Cur.mk c.code at_ seed) ((shlK .i64 1 (IntKind.u64.wrap n1)).toNat : Int)).bind fun (r_2, m2) =>
  (F_spec_l1Cur_pick (Tl1Cur.mk c.code m2.at_ m2.seed) 8).bind fun (r_3, m3) =>
  (getI by_ r_2).bind fun x =>
  some (.nx (m3.at_, m3.seed, (by_.set r_2.toNat r_3), (IntKind.i64.wrap (k_ - 1))))) else (some (.br (at_, seed, by_, k_)))
def F_spec_l1Cur_phasePoly (c : Tl1Cur) (n1 : Int) : Option (TPhasePoly × Tl1Cur) :=
  chk ((0 : Int) ≤ (IntKind.u64.wrap n1)) <|
  chk ((0 : Int) ≤ (shlK .i64 1 (IntKind.u64.wrap n1)) ∧ (shlK .i64 1 (IntKind.u64.wrap n1)) ≤ 1099511627776) <|
  (F_spec_l1Cur_pick c 6).bind fun (r_1, m1) =>
  (whX (F_spec_l1Cur_phasePoly_l1 c n1) fuel (m1.at_, m1.seed, (List.replicate ((shlK .i64 1 (IntKind.u64.wrap n1)).toNat) 0), r_1)).bind <| orR fun (at_, seed, by_, k_) =>
  (((F_spec_l1Cur_one (Tl1Cur.mk c.code at_ seed) 6).bind fun (r_4, m4) =>
  bif r_4 then (chk (((shlK .i64 1 (IntKind.u64.wrap n1)).toNat) ≤ 9223372036854775807) <|
  (forN (F_spec_l1Cur_phasePoly_l2 c at_ seed) ((shlK .i64 1 (IntKind.u64.wrap n1)).toNat) 0 (m4.at_, m4.seed, by_)).bind fun (at_2, seed2, by_2) =>
  some (at_2, seed2, by_2)) else (some (m4.at_, m4.seed, by_))) : Option (Int × Int × List Int)).bind fun (at_1, seed1, by_1) =>
  (F_spec_l1Cur_pick (Tl1Cur.mk c.code at_1 seed1) 8).bind fun (r_6, m6) =>
  (F_spec_l13List by_1).bind fun r_7 =>
  (F_spec_l1Cur_linear (Tl1Cur.mk c.code m6.at_ m6.seed) n1).bind fun (r_8, m7) =>
  some (((TPhasePoly.mk n1 r_6 r_7 r_8), (Tl1Cur.mk c.code m7.at_ m7.seed)))

def F_spec_l1Cur_among (c : Tl1Cur) (list : List Int) : Option (Int × Tl1Cur) :=
  (F_spec_l1Cur_pick c (list.length : Int)).bind fun (r_1, m1) =>
  (getI list r_1).bind fun x =>
  some ((x, (Tl1Cur.mk c.code m1.at_ m1.seed)))

def F_spec_l1Cur_anyLinear (c : Tl1Cur) : Option (TLinear × Tl1Cur) :=
  (F_spec_l1Cur_pick c 5).bind fun (r_1, m1) =>
  (F_spec_l1Cur_linear (Tl1Cur.mk c.code m1.at_ m1.seed) (IntKind.i64.wrap (1 + r_1))).bind fun (r_2, m2) =>
  (((F_spec_l1Cur_pick (Tl1Cur.mk c.code m2.at_ m2.seed) 12).bind fun (r_3, m3) =>
  bif (r_3 == 0) then ((F_spec_l1Cur_among (Tl1Cur.mk c.code m3.at_ m3.seed) [(-1), 0, 31, 32, 3]).bind fun (r_4, m4) =>
  (getI r_2.Rows 0).bind fun x =>
  some (m4.at_, m4.seed, (r_2.Rows.set (0 : Int).toNat r_4))) else (bif (r_3 == 1) then ((F_spec_l1Cur_pick (Tl1Cur.mk c.code m3.at_ m3.seed) 70).bind fun (r_5, m5) =>
  chk (r_2.Rows.length + 1 ≤ 1099511627776) <|
  some (m5.at_, m5.seed, (r_2.Rows ++ [r_5]))) else (bif (r_3 == 2) then (chk ((0 : Int) ≤ 1 ∧ 1 ≤ (r_2.Rows.length : Int)) <|
  some (m3.at_, m3.seed, (List.drop 1 r_2.Rows))) else (some (m3.at_, m3.seed, r_2.Rows))))) : Option (Int × Int × List Int)).bind fun (at_, seed, Rows) =>
  some (((TLinear.mk Rows), (Tl1Cur.mk c.code at_ seed)))

def F_spec_l1Cur_anyPhasePoly (c : Tl1Cur) : Option (TPhasePoly × Tl1Cur) :=
  (F_spec_l1Cur_pick c 5).bind fun (r_1, m1) =>
  (F_spec_l1Cur_phasePoly (Tl1Cur.mk c.code m1.at_ m1.seed) (IntKind.i64.wrap (1 + r_1))).bind fun (r_2, m2) =>
  (((F_spec_l1Cur_pick (Tl1Cur.mk c.code m2.at_ m2.seed) 16).bind fun (r_3, m3) =>
  bif (r_3 == 0) then ((F_spec_l1Cur_among (Tl1Cur.mk c.code m3.at_ m3.seed) [(-1), 8, 0]).bind fun (r_4, m4) =>
  some (m4.at_, m4.seed, r_2.Qubits, r_4, r_2.Terms, r_2.Out.Rows)) else (bif (r_3 == 1) then ((F_spec_l1Cur_pick (Tl1Cur.mk c.code m3.at_ m3.seed) 33).bind fun (r_5, m5) =>
  (F_spec_l1Cur_pick (Tl1Cur.mk c.code m5.at_ m5.seed) 9).bind fun (r_6, m6) =>
  chk (r_2.Terms.length + 1 ≤ 1099511627776) <|
  some (m6.at_, m6.seed, r_2.Qubits, r_2.Phase, (r_2.Terms ++ [(TTerm.mk r_5 r_6)]), r_2.Out.Rows)) else (bif (r_3 == 2) then ((F_spec_l1Cur_anyLinear (Tl1Cur.mk c.code m3.at_ m3.seed)).bind fun (r_7, m7) =>
  some (m7.at_, m7.seed, r_2.Qubits, r_2.Phase, r_2.Terms, r_7.Rows)) else (bif (r_3 == 3) then ((F_spec_l1Cur_pick (Tl1Cur.mk c.code m3.at_ m3.seed) 7).bind fun (r_8, m8) =>
  some (m8.at_, m8.seed, r_8, r_2.Phase, r_2.Terms, r_2.Out.Rows)) else (some (m3.at_, m3.seed, r_2.Qubits, r_2.Phase, r_2.Terms, r_2.Out.Rows)))))) : Option (Int × Int × Int × Int × List TTerm × List Int)).bind fun (at_, seed, Qubits, Phase, Terms, Out) =>
  some (((TPhasePoly.mk Qubits Phase Terms (TLinear.mk Out)), (Tl1Cur.mk c.code at_ seed)))

def F_spec_DrawComposePhase (code : List Int) : Option (TPhasePoly × TPhasePoly) :=
  (F_spec_l1Cur_pick (Tl1Cur.mk code 0 0) 5).bind fun (r_2, m) =>
  (F_spec_l1Cur_phasePoly (Tl1Cur.mk code m.at_ m.seed) (IntKind.i64.wrap (1 + r_2))).bind fun (r_3, m1) =>
  (F_spec_l1Cur_one (Tl1Cur.mk code m1.at_ m1.seed) 8).bind fun (r_4, m2) =>
  bif r_4 then ((F_spec_l1Cur_anyPhasePoly (Tl1Cur.mk code m2.at_ m2.seed)).bind fun (r_5, m3) =>
  some ((r_3, r_5))) else ((F_spec_l1Cur_phasePoly (Tl1Cur.mk code m2.at_ m2.seed) (IntKind.i64.wrap (1 + r_2))).bind fun (r_6, m4) =>
  some ((r_3, r_6)))

def F_impl_within (n : Int) (low : Int) (high : Int) : Option (Bool) :=
  some (((decide (low ≤ n)) && (decide (n ≤ high))))

def F_impl_areTerms_l1 (terms : List TTerm) (n : Int) : Nat → Unit → Option (Ex (Unit) (Bool)) := fun i _ =>
  (getI terms (i : Int)).bind fun x =>
  chk ((0 : Int) ≤ n) <|
  (F_impl_within x.Mask 1 (IntKind.i64.wrap ((shlK .i64 1 n) - 1))).bind fun r_1 =>
  (gb (!(!r_1)) false (F_impl_within x.Coef 1 7)).bind fun r_2 =>
  (gb ((!((!r_1) || (!r_2))) && (decide (0 < (i : Int)))) (TTerm.mk 0 0) (getI terms (IntKind.i64.wrap ((i : Int) - 1)))).bind fun x1 =>
  bif (((!r_1) || (!r_2)) || ((decide (0 < (i : Int))) && (decide (x.Mask ≤ x1.Mask)))) then (some (.rt false)) else (some (.nx ()))
def F_impl_areTerms (n : Int) (terms : List TTerm) : Option (Bool) :=
  chk (terms.length ≤ 9223372036854775807) <|
  (forX (F_impl_areTerms_l1 terms n) terms.length 0 ()).bind <| orR fun _ =>
  some (true)

def F_slices_IndexFunc_int_int_l1 (s : List Int) (f_ : Int → Option (Bool)) : Nat → Unit → Option (Ex (Unit) (Int)) := fun i _ =>
  (getI s (i : Int)).bind fun x1 =>
  (f_ x1).bind fun r_1 =>
  bif r_1 then (some (.rt (i : Int))) else (some (.nx ()))
def F_slices_IndexFunc_int_int (s : List Int) (f_ : Int → Option (Bool)) : Option (Int) :=
  chk (s.length ≤ 9223372036854775807) <|
  (forX (F_slices_IndexFunc_int_int_l1 s f_) s.length 0 ()).bind <| orR fun _ =>
  some ((-1))

def F_slices_ContainsFunc_int_int (s : List Int) (f_ : Int → Option (Bool)) : Option (Bool) :=
  (F_slices_IndexFunc_int_int s f_).bind fun r_1 =>
  some ((decide (0 ≤ r_1)))

def F_impl_IsValidLinear_1 (row : Int) (p : Int) : Option (Bool) :=
  chk ((0 : Int) ≤ p) <|
  (F_impl_within row 0 (IntKind.i64.wrap ((shlK .i64 1 p) - 1))).bind fun r_1 =>
  some ((!r_1))

def F_slices_Clone_int_int (s : List Int) : Option (List Int) :=
  chk (0 + s.length ≤ 1099511627776) <|
  some (s)

def F_impl_rankOf_1 (row : Int) (p : Int) : Option (Bool) :=
  chk ((0 : Int) ≤ p) <|
  some (((bits .and .i64 (shrK .i64 row p) 1) == 1))

def F_slices_Delete_int_int (s : List Int) (i : Int) (j : Int) : Option (List Int) :=
  chk ((0 : Int) ≤ i ∧ i ≤ j ∧ j ≤ (s.length : Int)) <|
  bif (i == j) then (some (s)) else (chk (i.toNat ≤ j.toNat) <|
  some ((List.take i.toNat s ++ List.drop j.toNat s)))

def F_impl_rankOf_l2 (i : Nat) (x : Int) : Nat → (List Int) → Option (List Int) := fun i1 left2 =>
  (((getI left2 (i1 : Int)).bind fun x1 =>
  chk ((0 : Int) ≤ (i : Int)) <|
  bif ((bits .and .i64 (shrK .i64 x1 (i : Int)) 1) == 1) then (some (left2.set (i1 : Int).toNat (bits .xor .i64 x1 x))) else (some left2)) : Option (List Int)).bind fun left3 =>
  some left3
def F_impl_rankOf_l1 : Nat → (List Int × Int) → Option (List Int × Int) := fun i (left, rank) =>
  (((F_slices_IndexFunc_int_int left (fun x_0 => F_impl_rankOf_1 x_0 (i : Int))).bind fun r_2 =>
  bif (decide (r_2 < 0)) then (some (left, rank)) else ((getI left r_2).bind fun x =>
  (F_slices_Delete_int_int left r_2 (IntKind.i64.wrap (r_2 + 1))).bind fun r_3 =>
  chk (r_3.length ≤ 9223372036854775807) <|
  (forN (F_impl_rankOf_l2 i x) r_3.length 0 r_3).bind fun left2 =>
  some (left2, (IntKind.i64.wrap (rank + 1))))) : Option (List Int × Int)).bind fun (left1, rank1) =>
  some (left1, rank1)
def F_impl_rankOf (rows : List Int) : Option (Int) :=
  (F_slices_Clone_int_int rows).bind fun r_1 =>
  (forN F_impl_rankOf_l1 10 0 (r_1, 0)).bind fun (left, rank) =>
  some (rank)

def F_impl_IsValidLinear (m : TLinear) : Option (Bool) :=
  (F_impl_within (m.Rows.length : Int) 1 5).bind fun r_1 =>
  (gb r_1 false (F_slices_ContainsFunc_int_int m.Rows (fun x_0 => F_impl_IsValidLinear_1 x_0 (m.Rows.length : Int)))).bind fun r_2 =>
  (gb (r_1 && (!r_2)) 0 (F_impl_rankOf m.Rows)).bind fun r_3 =>
  some (((r_1 && (!r_2)) && (r_3 == (m.Rows.length : Int))))

def F_impl_IsValidPhasePoly (p : TPhasePoly) : Option (Bool) :=
  (F_impl_within p.Qubits 1 5).bind fun r_1 =>
  (gb r_1 false (F_impl_within p.Phase 0 7)).bind fun r_2 =>
  (gb (r_1 && r_2) false (F_impl_areTerms p.Qubits p.Terms)).bind fun r_3 =>
  (gb (((r_1 && r_2) && r_3) && ((p.Out.Rows.length : Int) == p.Qubits)) false (F_impl_IsValidLinear p.Out)).bind fun r_4 =>
  some (((((r_1 && r_2) && r_3) && ((p.Out.Rows.length : Int) == p.Qubits)) && r_4))

def F_impl_coefficients_add (c : List Int) (mask : Int) (coef : Int) : Option (List Int) :=
  (getI c mask).bind fun x =>
  some ((c.set mask.toNat (Int.tmod (IntKind.i64.wrap ((Int.tmod (IntKind.i64.wrap (x + coef)) 8) + 8)) 8)))

def F_impl_Linear_through_l1 (m : TLinear) (mask : Int) : Nat → Int → Option (Int) := fun i out =>
  (((getI m.Rows (i : Int)).bind fun x =>
  chk ((0 : Int) ≤ (i : Int)) <|
  bif ((bits .and .i64 (shrK .i64 mask (i : Int)) 1) == 1) then (some (bits .xor .i64 out x)) else (some out)) : Option (Int)).bind fun out1 =>
  some out1
def F_impl_Linear_through (m : TLinear) (mask : Int) : Option (Int) :=
  chk (m.Rows.length ≤ 9223372036854775807) <|
  (forN (F_impl_Linear_through_l1 m mask) m.Rows.length 0 0).bind fun out =>
  some (out)

def F_impl_ComposeLinear_l1 (second : TLinear) (first : TLinear) : (List Int × Int) → Option (Ex (List Int × Int) (TLinear × Bool)) := fun (Rows, t) =>
  bif (decide (t < (second.Rows.length : Int))) then ((getI second.Rows t).bind fun x =>
  (F_impl_Linear_through first x).bind fun r_4 =>
  chk (Rows.length + 1 ≤ 1099511627776) <|
  some (.nx ((Rows ++ [r_4]), (IntKind.i64.wrap (t + 1))))) else (some (.br (Rows, t)))
def F_impl_ComposeLinear (first : TLinear) (second : TLinear) : Option (TLinear × Bool) :=
  (F_impl_IsValidLinear first).bind fun r_2 =>
  (gb (!(!r_2)) false (F_impl_IsValidLinear second)).bind fun r_3 =>
  bif (((!r_2) || (!r_3)) || ((first.Rows.length : Int) != (second.Rows.length : Int))) then (some (((TLinear.mk []), false))) else ((whX (F_impl_ComposeLinear_l1 second first) fuel ([], 0)).bind <| orR fun (Rows, t) =>
  some (((TLinear.mk Rows), true)))

def F_impl_coefficients_terms_l1 (c : List Int) : Nat → (List TTerm) → Option (List TTerm) := fun i out =>
  (((getI c (i : Int)).bind fun x =>
  bif ((decide (0 < (i : Int))) && (decide (0 < x))) then (chk (out.length + 1 ≤ 1099511627776) <|
  some (out ++ [(TTerm.mk (i : Int) x)])) else (some out)) : Option (List TTerm)).bind fun out1 =>
  some out1
def F_impl_coefficients_terms (c : List Int) : Option (List TTerm) :=
  (forN (F_impl_coefficients_terms_l1 c) 32 0 []).bind fun out =>
  some (out)

def F_impl_ComposePhase_l2 (second : TPhasePoly) (first : TPhasePoly) : Nat → (List Int) → Option (List Int) := fun i1 sums1 =>
  (getI second.Terms (i1 : Int)).bind fun x1 =>
  (F_impl_Linear_through first.Out x1.Mask).bind fun r_4 =>
  (F_impl_coefficients_add sums1 r_4 x1.Coef).bind fun m1 =>
  some m1
def F_impl_ComposePhase_l1 (first : TPhasePoly) : Nat → (List Int) → Option (List Int) := fun i sums =>
  (getI first.Terms (i : Int)).bind fun x =>
  (F_impl_coefficients_add sums x.Mask x.Coef).bind fun m =>
  some m
def F_impl_ComposePhase (first : TPhasePoly) (second : TPhasePoly) : Option (TPhasePoly × Bool) :=
  (F_impl_IsValidPhasePoly first).bind fun r_2 =>
  (gb (!(!r_2)) false (F_impl_IsValidPhasePoly second)).bind fun r_3 =>
  bif (((!r_2) || (!r_3)) || (first.Qubits != second.Qubits)) then (some (((TPhasePoly.mk 0 0 [] (TLinear.mk [])), false))) else (chk (first.Terms.length ≤ 9223372036854775807) <|
  (forN (F_impl_ComposePhase_l1 first) first.Terms.length 0 (List.replicate 32 0)).bind fun sums =>
  chk (second.Terms.length ≤ 9223372036854775807) <|
  (forN (F_impl_ComposePhase_l2 second first) second.Terms.length 0 sums).bind fun sums1 =>
  (F_impl_ComposeLinear first.Out second.Out).bind fun (r_5, r_6) =>
  (F_impl_coefficients_terms sums1).bind fun r_7 =>
  some (((TPhasePoly.mk first.Qubits (Int.tmod (IntKind.i64.wrap (first.Phase + second.Phase)) 8) r_7 r_5), true)))

def F_spec_l1In (n : Int) (lo : Int) (hi : Int) : Option (Bool) :=
  some (((decide (lo ≤ n)) && (decide (n ≤ hi))))

def F_spec_l1All_l1 (l : List Int) (lo : Int) (hi : Int) : Nat → Unit → Option (Ex (Unit) (Bool)) := fun i _ =>
  (getI l (i : Int)).bind fun x =>
  (F_spec_l1In x lo hi).bind fun r_1 =>
  bif (!r_1) then (some (.rt false)) else (some (.nx ()))
def F_spec_l1All (l : List Int) (lo : Int) (hi : Int) : Option (Bool) :=
  chk (l.length ≤ 9223372036854775807) <|
  (forX (F_spec_l1All_l1 l lo hi) l.length 0 ()).bind <| orR fun _ =>
  some (true)

def F_spec_l12Rank_l2 (r_1 : List Int) (l : List Int) (bit : Nat) : (Int × Int) → Option (Ex (Int × Int) (List Int × Int)) := fun (at_1, i2) =>
  bif (decide (i2 < (r_1.length : Int))) then ((getI l i2).bind fun x =>
  chk ((0 : Int) ≤ (IntKind.u64.wrap (bit : Int))) <|
  bif ((bits .and .i64 (shrK .i64 x (IntKind.u64.wrap (bit : Int))) 1) == 1) then (some (.br (i2, i2))) else (some (.nx (at_1, (IntKind.i64.wrap (i2 + 1)))))) else (some (.br (at_1, i2)))
def F_spec_l12Rank_l3 (rank : Int) (bit : Nat) (x1 : Int) : Nat → (List Int) → Option (List Int) := fun i3 l2 =>
  (((gb ((i3 : Int) != rank) 0 (getI l2 (i3 : Int))).bind fun x4 =>
  chk (((i3 : Int) != rank) = true → (0 : Int) ≤ (IntKind.u64.wrap (bit : Int))) <|
  bif (((i3 : Int) != rank) && ((bits .and .i64 (shrK .i64 x4 (IntKind.u64.wrap (bit : Int))) 1) == 1)) then ((getI l2 (i3 : Int)).bind fun x5 =>
  some (l2.set (i3 : Int).toNat (bits .xor .i64 x5 x1))) else (some l2)) : Option (List Int)).bind fun l3 =>
  some l3
def F_spec_l12Rank_l1 (r_1 : List Int) : Nat → (List Int × Int) → Option (List Int × Int) := fun bit (l, rank) =>
  (((whX (F_spec_l12Rank_l2 r_1 l bit) fuel ((-1), rank)).bind <| orR fun (at_, i1) =>
  bif (decide (at_ < 0)) then (some (l, rank)) else ((getI l at_).bind fun x1 =>
  (getI l rank).bind fun x2 =>
  (getI (l.set at_.toNat x2) rank).bind fun x3 =>
  chk (r_1.length ≤ 9223372036854775807) <|
  (forN (F_spec_l12Rank_l3 rank bit x1) r_1.length 0 ((l.set at_.toNat x2).set rank.toNat x1)).bind fun l2 =>
  some (l2, (IntKind.i64.wrap (rank + 1))))) : Option (List Int × Int)).bind fun (l1, rank1) =>
  some (l1, rank1)
def F_spec_l12Rank (rows : List Int) : Option (Int) :=
  (F_spec_l1Own rows).bind fun r_1 =>
  (forN (F_spec_l12Rank_l1 r_1) 10 0 (r_1, 0)).bind fun (l, rank) =>
  some (rank)

def F_spec_l12Valid (m : TLinear) : Option (Bool) :=
  (F_spec_l1In (m.Rows.length : Int) 1 5).bind fun r_1 =>
  chk (r_1 = true → (0 : Int) ≤ (IntKind.u64.wrap (m.Rows.length : Int))) <|
  (gb r_1 false (F_spec_l1All m.Rows 0 (IntKind.i64.wrap ((shlK .i64 1 (IntKind.u64.wrap (m.Rows.length : Int))) - 1)))).bind fun r_2 =>
  (gb (r_1 && r_2) 0 (F_spec_l12Rank m.Rows)).bind fun r_3 =>
  some (((r_1 && r_2) && (r_3 == (m.Rows.length : Int))))

def F_spec_l13Valid_l1 (p : TPhasePoly) : Nat → Unit → Option (Ex (Unit) (Bool)) := fun i _ =>
  (getI p.Terms (i : Int)).bind fun x =>
  chk ((0 : Int) ≤ (IntKind.u64.wrap p.Qubits)) <|
  (F_spec_l1In x.Mask 1 (IntKind.i64.wrap ((shlK .i64 1 (IntKind.u64.wrap p.Qubits)) - 1))).bind fun r_4 =>
  (gb (!(!r_4)) false (F_spec_l1In x.Coef 1 7)).bind fun r_5 =>
  (gb ((!((!r_4) || (!r_5))) && (decide (0 < (i : Int)))) (TTerm.mk 0 0) (getI p.Terms (IntKind.i64.wrap ((i : Int) - 1)))).bind fun x1 =>
  bif (((!r_4) || (!r_5)) || ((decide (0 < (i : Int))) && (decide (x.Mask ≤ x1.Mask)))) then (some (.rt false)) else (some (.nx ()))
def F_spec_l13Valid (p : TPhasePoly) : Option (Bool) :=
  (F_spec_l1In p.Qubits 1 5).bind fun r_1 =>
  (gb (!(!r_1)) false (F_spec_l1In p.Phase 0 7)).bind fun r_2 =>
  (gb (!(((!r_1) || (!r_2)) || ((p.Out.Rows.length : Int) != p.Qubits))) false (F_spec_l12Valid p.Out)).bind fun r_3 =>
  bif ((((!r_1) || (!r_2)) || ((p.Out.Rows.length : Int) != p.Qubits)) || (!r_3)) then (some (false)) else (chk (p.Terms.length ≤ 9223372036854775807) <|
  (forX (F_spec_l13Valid_l1 p) p.Terms.length 0 ()).bind <| orR fun _ =>
  some (true))

def F_spec_l13By_l1 (p : TPhasePoly) : Nat → (List Int) → Option (List Int) := fun i by_ =>
  (getI p.Terms (i : Int)).bind fun x =>
  (getI by_ x.Mask).bind fun x1 =>
  some (by_.set x.Mask.toNat x.Coef)
def F_spec_l13By (p : TPhasePoly) : Option (List Int) :=
  chk ((0 : Int) ≤ (IntKind.u64.wrap p.Qubits)) <|
  chk ((0 : Int) ≤ (shlK .i64 1 (IntKind.u64.wrap p.Qubits)) ∧ (shlK .i64 1 (IntKind.u64.wrap p.Qubits)) ≤ 1099511627776) <|
  chk (p.Terms.length ≤ 9223372036854775807) <|
  (forN (F_spec_l13By_l1 p) p.Terms.length 0 (List.replicate ((shlK .i64 1 (IntKind.u64.wrap p.Qubits)).toNat) 0)).bind fun by_ =>
  some (by_)

def F_spec_l1Set_l1 (row : Int) : (List Int × Int) → Option (Ex (List Int × Int) (List Int)) := fun (out, k_) =>
  chk ((0 : Int) ≤ (IntKind.u64.wrap k_)) <|
  bif (decide (0 < (shrK .i64 row (IntKind.u64.wrap k_)))) then (((chk ((0 : Int) ≤ (IntKind.u64.wrap k_)) <|
  bif ((bits .and .i64 (shrK .i64 row (IntKind.u64.wrap k_)) 1) == 1) then (chk (out.length + 1 ≤ 1099511627776) <|
  some (out ++ [k_])) else (some out)) : Option (List Int)).bind fun out1 =>
  some (.nx (out1, (IntKind.i64.wrap (k_ + 1))))) else (some (.br (out, k_)))
def F_spec_l1Set (row : Int) : Option (List Int) :=
  (whX (F_spec_l1Set_l1 row) fuel ([], 0)).bind <| orR fun (out, k_) =>
  some (out)

def F_spec_l13Through_l1 (r_1 : List Int) (m : TLinear) : Nat → Int → Option (Int) := fun i x =>
  (getI r_1 (i : Int)).bind fun x1 =>
  (getI m.Rows x1).bind fun x2 =>
  some (bits .xor .i64 x x2)
def F_spec_l13Through (m : TLinear) (mask : Int) : Option (Int) :=
  (F_spec_l1Set mask).bind fun r_1 =>
  chk (r_1.length ≤ 9223372036854775807) <|
  (forN (F_spec_l13Through_l1 r_1 m) r_1.length 0 0).bind fun x =>
  some (x)

def F_spec_l12Then_l2 (r_1 : List Int) (first : TLinear) (Rows : List Int) : Nat → Int → Option (Int) := fun i1 x1 =>
  (getI r_1 (i1 : Int)).bind fun x2 =>
  (getI first.Rows x2).bind fun x3 =>
  some (bits .xor .i64 x1 x3)
def F_spec_l12Then_l1 (second : TLinear) (first : TLinear) : (List Int × Int) → Option (Ex (List Int × Int) (TLinear)) := fun (Rows, t) =>
  bif (decide (t < (second.Rows.length : Int))) then ((getI second.Rows t).bind fun x =>
  (F_spec_l1Set x).bind fun r_1 =>
  chk (r_1.length ≤ 9223372036854775807) <|
  (forN (F_spec_l12Then_l2 r_1 first Rows) r_1.length 0 0).bind fun x1 =>
  chk (Rows.length + 1 ≤ 1099511627776) <|
  some (.nx ((Rows ++ [x1]), (IntKind.i64.wrap (t + 1))))) else (some (.br (Rows, t)))
def F_spec_l12Then (first : TLinear) (second : TLinear) : Option (TLinear) :=
  (whX (F_spec_l12Then_l1 second first) fuel ([], 0)).bind <| orR fun (Rows, t) =>
  some ((TLinear.mk Rows))

def F_spec_ComposePhase_l1 (second : TPhasePoly) (first : TPhasePoly) : Nat → (List Int) → Option (List Int) := fun i by_ =>
  (getI second.Terms (i : Int)).bind fun x =>
  (F_spec_l13Through first.Out x.Mask).bind fun r_5 =>
  (getI by_ r_5).bind fun x1 =>
  some (by_.set r_5.toNat (IntKind.i64.wrap (x1 + x.Coef)))
def F_spec_ComposePhase (first : TPhasePoly) (second : TPhasePoly) : Option (TPhasePoly × Bool) :=
  (F_spec_l13Valid first).bind fun r_2 =>
  (gb (!(!r_2)) false (F_spec_l13Valid second)).bind fun r_3 =>
  bif (((!r_2) || (!r_3)) || (first.Qubits != second.Qubits)) then (some (((TPhasePoly.mk 0 0 [] (TLinear.mk [])), false))) else ((F_spec_l13By first).bind fun r_4 =>
  chk (second.Terms.length ≤ 9223372036854775807) <|
  (forN (F_spec_ComposePhase_l1 second first) second.Terms.length 0 r_4).bind fun by_ =>
  (F_spec_l13List by_).bind fun r_6 =>
  (F_spec_l12Then first.Out second.Out).bind fun r_7 =>
  some (((TPhasePoly.mk first.Qubits (Int.tmod (IntKind.i64.wrap (first.Phase + second.Phase)) 8) r_6 r_7), true)))

def F_laws_qInts_l1 (a : List Int) (b : List Int) : Nat → Unit → Option (Ex (Unit) (Bool)) := fun i _ =>
  (getI a (i : Int)).bind fun x =>
  (getI b (i : Int)).bind fun x1 =>
  bif (x != x1) then (some (.rt false)) else (some (.nx ()))
def F_laws_qInts (a : List Int) (b : List Int) : Option (Bool) :=
  bif ((a.length : Int) != (b.length : Int)) then (some (false)) else (chk (a.length ≤ 9223372036854775807) <|
  (forX (F_laws_qInts_l1 a b) a.length 0 ()).bind <| orR fun _ =>
  some (true))

def F_laws_qTerms_l1 (a : List TTerm) (b : List TTerm) : Nat → Unit → Option (Ex (Unit) (Bool)) := fun i _ =>
  (getI a (i : Int)).bind fun x =>
  (getI b (i : Int)).bind fun x1 =>
  bif (!((x.Mask == x1.Mask) && ((x.Coef == x1.Coef) && true))) then (some (.rt false)) else (some (.nx ()))
def F_laws_qTerms (a : List TTerm) (b : List TTerm) : Option (Bool) :=
  bif ((a.length : Int) != (b.length : Int)) then (some (false)) else (chk (a.length ≤ 9223372036854775807) <|
  (forX (F_laws_qTerms_l1 a b) a.length 0 ()).bind <| orR fun _ =>
  some (true))

def F_laws_qPoly (p : TPhasePoly) (q : TPhasePoly) : Option (Bool) :=
  (gb ((p.Qubits == q.Qubits) && (p.Phase == q.Phase)) false (F_laws_qTerms p.Terms q.Terms)).bind fun r_1 =>
  (gb (((p.Qubits == q.Qubits) && (p.Phase == q.Phase)) && r_1) false (F_laws_qInts p.Out.Rows q.Out.Rows)).bind fun r_2 =>
  some (((((p.Qubits == q.Qubits) && (p.Phase == q.Phase)) && r_1) && r_2))

def F_impl_identityLinear_l1 : Nat → (List Int) → Option (List Int) := fun i Rows =>
  chk ((0 : Int) ≤ (i : Int)) <|
  chk (Rows.length + 1 ≤ 1099511627776) <|
  some (Rows ++ [(shlK .i64 1 (i : Int))])
def F_impl_identityLinear (n : Int) : Option (TLinear) :=
  chk (n.toNat ≤ 9223372036854775807) <|
  (forN F_impl_identityLinear_l1 n.toNat 0 []).bind fun Rows =>
  some ((TLinear.mk Rows))

def F_impl_eliminated_1 (from_ : Int) (to_ : Int) (p : List Int) (p1 : List TGate) : Option (List Int × List TGate) :=
  (getI p to_).bind fun x =>
  (getI p from_).bind fun x1 =>
  chk (p1.length + 1 ≤ 1099511627776) <|
  some (((p.set to_.toNat (bits .xor .i64 x x1)), (p1 ++ [(TGate.mk 9 from_ to_)])))

def F_impl_eliminated_l3 (i : Nat) : Nat → (List Int × List TGate) → Option (List Int × List TGate) := fun i2 (rows3, out3) =>
  (((gb ((i2 : Int) != (i : Int)) 0 (getI rows3 (i2 : Int))).bind fun x2 =>
  chk (((i2 : Int) != (i : Int)) = true → (0 : Int) ≤ (i : Int)) <|
  bif (((i2 : Int) != (i : Int)) && ((bits .and .i64 (shrK .i64 x2 (i : Int)) 1) == 1)) then ((F_impl_eliminated_1 (i : Int) (i2 : Int) rows3 out3).bind fun (m3, m4) =>
  some (m3, m4)) else (some (rows3, out3))) : Option (List Int × List TGate)).bind fun (rows4, out4) =>
  some (rows4, out4)
def F_impl_eliminated_l2 (r_1 : List Int) (i : Nat) : (List Int × List TGate × Int) → Option (Ex (List Int × List TGate × Int) (List Int × List TGate)) := fun (rows1, out1, i1) =>
  (gb (decide (i1 < (r_1.length : Int))) 0 (getI rows1 (i : Int))).bind fun x =>
  chk ((decide (i1 < (r_1.length : Int))) = true → (0 : Int) ≤ (i : Int)) <|
  bif ((decide (i1 < (r_1.length : Int))) && ((bits .and .i64 (shrK .i64 x (i : Int)) 1) == 0)) then ((((getI rows1 i1).bind fun x1 =>
  chk ((0 : Int) ≤ (i : Int)) <|
  bif ((bits .and .i64 (shrK .i64 x1 (i : Int)) 1) == 1) then ((F_impl_eliminated_1 i1 (i : Int) rows1 out1).bind fun (m1, m2) =>
  some (m1, m2)) else (some (rows1, out1))) : Option (List Int × List TGate)).bind fun (rows2, out2) =>
  some (.nx (rows2, out2, (IntKind.i64.wrap (i1 + 1))))) else (some (.br (rows1, out1, i1)))
def F_impl_eliminated_l1 (r_1 : List Int) : Nat → (List Int × List TGate) → Option (List Int × List TGate) := fun i (rows, out) =>
  (whX (F_impl_eliminated_l2 r_1 i) fuel (rows, out, (IntKind.i64.wrap ((i : Int) + 1)))).bind <| orR fun (rows1, out1, i1) =>
  chk (r_1.length ≤ 9223372036854775807) <|
  (forN (F_impl_eliminated_l3 i) r_1.length 0 (rows1, out1)).bind fun (rows3, out3) =>
  some (rows3, out3)
def F_impl_eliminated (m : TLinear) : Option (List TGate) :=
  (F_slices_Clone_int_int m.Rows).bind fun r_1 =>
  chk (r_1.length ≤ 9223372036854775807) <|
  (forN (F_impl_eliminated_l1 r_1) r_1.length 0 (r_1, [])).bind fun (rows, out) =>
  some (out)

def F_impl_Linear_inverted_l1 (r_2 : List TGate) : Nat → (List Int) → Option (List Int) := fun i Rows =>
  (getI r_2 (i : Int)).bind fun x =>
  (getI Rows x.B).bind fun x1 =>
  (getI Rows x.A).bind fun x2 =>
  some (Rows.set x.B.toNat (bits .xor .i64 x1 x2))
def F_impl_Linear_inverted (m : TLinear) : Option (TLinear) :=
  (F_impl_identityLinear (m.Rows.length : Int)).bind fun r_1 =>
  (F_impl_eliminated m).bind fun r_2 =>
  chk (r_2.length ≤ 9223372036854775807) <|
  (forN (F_impl_Linear_inverted_l1 r_2) r_2.length 0 r_1.Rows).bind fun Rows =>
  some ((TLinear.mk Rows))

def F_impl_InvertPhase_l1 (p : TPhasePoly) (r_3 : TLinear) : Nat → (List Int) → Option (List Int) := fun i sums =>
  (getI p.Terms (i : Int)).bind fun x =>
  (F_impl_Linear_through r_3 x.Mask).bind fun r_4 =>
  (F_impl_coefficients_add sums r_4 (IntKind.i64.wrap (-x.Coef))).bind fun m =>
  some m
def F_impl_InvertPhase (p : TPhasePoly) : Option (TPhasePoly × Bool) :=
  (F_impl_IsValidPhasePoly p).bind fun r_2 =>
  bif (!r_2) then (some (((TPhasePoly.mk 0 0 [] (TLinear.mk [])), false))) else ((F_impl_Linear_inverted p.Out).bind fun r_3 =>
  chk (p.Terms.length ≤ 9223372036854775807) <|
  (forN (F_impl_InvertPhase_l1 p r_3) p.Terms.length 0 (List.replicate 32 0)).bind fun sums =>
  (F_impl_coefficients_terms sums).bind fun r_5 =>
  some (((TPhasePoly.mk p.Qubits (Int.tmod (IntKind.i64.wrap (8 - p.Phase)) 8) r_5 r_3), true)))

def F_impl_IdentityLinear (n : Int) : Option (TLinear × Bool) :=
  (F_impl_within n 1 5).bind fun r_2 =>
  bif (!r_2) then (some (((TLinear.mk []), false))) else ((F_impl_identityLinear n).bind fun r_3 =>
  some ((r_3, true)))

def F_math_bits_OnesCount64 (x : Int) : Option (Int) :=
  some ((bits .and .i64 (IntKind.i64.wrap (IntKind.u64.wrap ((IntKind.u64.wrap ((IntKind.u64.wrap ((bits .and .u64 (IntKind.u64.wrap ((shrK .u64 (IntKind.u64.wrap ((bits .and .u64 (shrK .u64 (IntKind.u64.wrap ((bits .and .u64 (shrK .u64 x 1) 6148914691236517205) + (bits .and .u64 x 6148914691236517205))) 2) 3689348814741910323) + (bits .and .u64 (IntKind.u64.wrap ((bits .and .u64 (shrK .u64 x 1) 6148914691236517205) + (bits .and .u64 x 6148914691236517205))) 3689348814741910323))) 4) + (IntKind.u64.wrap ((bits .and .u64 (shrK .u64 (IntKind.u64.wrap ((bits .and .u64 (shrK .u64 x 1) 6148914691236517205) + (bits .and .u64 x 6148914691236517205))) 2) 3689348814741910323) + (bits .and .u64 (IntKind.u64.wrap ((bits .and .u64 (shrK .u64 x 1) 6148914691236517205) + (bits .and .u64 x 6148914691236517205))) 3689348814741910323))))) 1085102592571150095) + (shrK .u64 (bits .and .u64 (IntKind.u64.wrap ((shrK .u64 (IntKind.u64.wrap ((bits .and .u64 (shrK .u64 (IntKind.u64.wrap ((bits .and .u64 (shrK .u64 x 1) 6148914691236517205) + (bits .and .u64 x 6148914691236517205))) 2) 3689348814741910323) + (bits .and .u64 (IntKind.u64.wrap ((bits .and .u64 (shrK .u64 x 1) 6148914691236517205) + (bits .and .u64 x 6148914691236517205))) 3689348814741910323))) 4) + (IntKind.u64.wrap ((bits .and .u64 (shrK .u64 (IntKind.u64.wrap ((bits .and .u64 (shrK .u64 x 1) 6148914691236517205) + (bits .and .u64 x 6148914691236517205))) 2) 3689348814741910323) + (bits .and .u64 (IntKind.u64.wrap ((bits .and .u64 (shrK .u64 x 1) 6148914691236517205) + (bits .and .u64 x 6148914691236517205))) 3689348814741910323))))) 1085102592571150095) 8))) + (shrK .u64 (IntKind.u64.wrap ((bits .and .u64 (IntKind.u64.wrap ((shrK .u64 (IntKind.u64.wrap ((bits .and .u64 (shrK .u64 (IntKind.u64.wrap ((bits .and .u64 (shrK .u64 x 1) 6148914691236517205) + (bits .and .u64 x 6148914691236517205))) 2) 3689348814741910323) + (bits .and .u64 (IntKind.u64.wrap ((bits .and .u64 (shrK .u64 x 1) 6148914691236517205) + (bits .and .u64 x 6148914691236517205))) 3689348814741910323))) 4) + (IntKind.u64.wrap ((bits .and .u64 (shrK .u64 (IntKind.u64.wrap ((bits .and .u64 (shrK .u64 x 1) 6148914691236517205) + (bits .and .u64 x 6148914691236517205))) 2) 3689348814741910323) + (bits .and .u64 (IntKind.u64.wrap ((bits .and .u64 (shrK .u64 x 1) 6148914691236517205) + (bits .and .u64 x 6148914691236517205))) 3689348814741910323))))) 1085102592571150095) + (shrK .u64 (bits .and .u64 (IntKind.u64.wrap ((shrK .u64 (IntKind.u64.wrap ((bits .and .u64 (shrK .u64 (IntKind.u64.wrap ((bits .and .u64 (shrK .u64 x 1) 6148914691236517205) + (bits .and .u64 x 6148914691236517205))) 2) 3689348814741910323) + (bits .and .u64 (IntKind.u64.wrap ((bits .and .u64 (shrK .u64 x 1) 6148914691236517205) + (bits .and .u64 x 6148914691236517205))) 3689348814741910323))) 4) + (IntKind.u64.wrap ((bits .and .u64 (shrK .u64 (IntKind.u64.wrap ((bits .and .u64 (shrK .u64 x 1) 6148914691236517205) + (bits .and .u64 x 6148914691236517205))) 2) 3689348814741910323) + (bits .and .u64 (IntKind.u64.wrap ((bits .and .u64 (shrK .u64 x 1) 6148914691236517205) + (bits .and .u64 x 6148914691236517205))) 3689348814741910323))))) 1085102592571150095) 8))) 16))) + (shrK .u64 (IntKind.u64.wrap ((IntKind.u64.wrap ((bits .and .u64 (IntKind.u64.wrap ((shrK .u64 (IntKind.u64.wrap ((bits .and .u64 (shrK .u64 (IntKind.u64.wrap ((bits .and .u64 (shrK .u64 x 1) 6148914691236517205) + (bits .and .u64 x 6148914691236517205))) 2) 3689348814741910323) + (bits .and .u64 (IntKind.u64.wrap ((bits .and .u64 (shrK .u64 x 1) 6148914691236517205) + (bits .and .u64 x 6148914691236517205))) 3689348814741910323))) 4) + (IntKind.u64.wrap ((bits .and .u64 (shrK .u64 (IntKind.u64.wrap ((bits .and .u64 (shrK .u64 x 1) 6148914691236517205) + (bits .and .u64 x 6148914691236517205))) 2) 3689348814741910323) + (bits .and .u64 (IntKind.u64.wrap ((bits .and .u64 (shrK .u64 x 1) 6148914691236517205) + (bits .and .u64 x 6148914691236517205))) 3689348814741910323))))) 1085102592571150095) + (shrK .u64 (bits .and .u64 (IntKind.u64.wrap ((shrK .u64 (IntKind.u64.wrap ((bits .and .u64 (shrK .u64 (IntKind.u64.wrap ((bits .and .u64 (shrK .u64 x 1) 6148914691236517205) + (bits .and .u64 x 6148914691236517205))) 2) 3689348814741910323) + (bits .and .u64 (IntKind.u64.wrap ((bits .and .u64 (shrK .u64 x 1) 6148914691236517205) + (bits .and .u64 x 6148914691236517205))) 3689348814741910323))) 4) + (IntKind.u64.wrap ((bits .and .u64 (shrK .u64 (IntKind.u64.wrap ((bits .and .u64 (shrK .u64 x 1) 6148914691236517205) + (bits .and .u64 x 6148914691236517205))) 2) 3689348814741910323) + (bits .and .u64 (IntKind.u64.wrap ((bits .and .u64 (shrK .u64 x 1) 6148914691236517205) + (bits .and .u64 x 6148914691236517205))) 3689348814741910323))))) 1085102592571150095) 8))) + (shrK .u64 (IntKind.u64.wrap ((bits .and .u64 (IntKind.u64.wrap ((shrK .u64 (IntKind.u64.wrap ((bits .and .u64 (shrK .u64 (IntKind.u64.wrap ((bits .and .u64 (shrK .u64 x 1) 6148914691236517205) + (bits .and .u64 x 6148914691236517205))) 2) 3689348814741910323) + (bits .and .u64 (IntKind.u64.wrap ((bits .and .u64 (shrK .u64 x 1) 6148914691236517205) + (bits .and .u64 x 6148914691236517205))) 3689348814741910323))) 4) + (IntKind.u64.wrap ((bits .and .u64 (shrK .u64 (IntKind.u64.wrap ((bits .and .u64 (shrK .u64 x 1) 6148914691236517205) + (bits .and .u64 x 6148914691236517205))) 2) 3689348814741910323) + (bits .and .u64 (IntKind.u64.wrap ((bits .and .u64 (shrK .u64 x 1) 6148914691236517205) + (bits .and .u64 x 6148914691236517205))) 3689348814741910323))))) 1085102592571150095) + (shrK .u64 (bits .and .u64 (IntKind.u64.wrap ((shrK .u64 (IntKind.u64.wrap ((bits .and .u64 (shrK .u64 (IntKind.u64.wrap ((bits .and .u64 (shrK .u64 x 1) 6148914691236517205) + (bits .and .u64 x 6148914691236517205))) 2) 3689348814741910323) + (bits .and .u64 (IntKind.u64.wrap ((bits .and .u64 (shrK .u64 x 1) 6148914691236517205) + (bits .and .u64 x 6148914691236517205))) 3689348814741910323))) 4) + (IntKind.u64.wrap ((bits .and .u64 (shrK .u64 (IntKind.u64.wrap ((bits .and .u64 (shrK .u64 x 1) 6148914691236517205) + (bits .and .u64 x 6148914691236517205))) 2) 3689348814741910323) + (bits .and .u64 (IntKind.u64.wrap ((bits .and .u64 (shrK .u64 x 1) 6148914691236517205) + (bits .and .u64 x 6148914691236517205))) 3689348814741910323))))) 1085102592571150095) 8))) 16))) 32)))) 127))

def F_math_bits_OnesCount (x : Int) : Option (Int) :=
  (F_math_bits_OnesCount64 x).bind fun r_1 =>
  some (r_1)

def F_impl_parityOf (mask : Int) : Option (Int) :=
  (F_math_bits_OnesCount (IntKind.u64.wrap mask)).bind fun r_1 =>
  some ((Int.tmod r_1 2))

def F_impl_PhaseAt_l1 (p : TPhasePoly) (bits_ : Int) : Nat → Int → Option (Int) := fun i e =>
  (getI p.Terms (i : Int)).bind fun x =>
  (F_impl_parityOf (bits .and .i64 x.Mask bits_)).bind fun r_4 =>
  some (IntKind.i64.wrap (e + (IntKind.i64.wrap (x.Coef * r_4))))
def F_impl_PhaseAt (p : TPhasePoly) (bits_ : Int) : Option (Int × Bool) :=
  (F_impl_IsValidPhasePoly p).bind fun r_2 =>
  chk ((!(!r_2)) = true → (0 : Int) ≤ p.Qubits) <|
  (gb (!(!r_2)) false (F_impl_within bits_ 0 (IntKind.i64.wrap ((shlK .i64 1 p.Qubits) - 1)))).bind fun r_3 =>
  bif ((!r_2) || (!r_3)) then (some ((0, false))) else (chk (p.Terms.length ≤ 9223372036854775807) <|
  (forN (F_impl_PhaseAt_l1 p bits_) p.Terms.length 0 p.Phase).bind fun e =>
  some (((Int.tmod e 8), true)))

def F_laws_qWeight_l1 : (Int × Int) → Option (Ex (Int × Int) (Int)) := fun (n1, k_) =>
  bif (decide (0 < n1)) then (some (.nx ((shrK .i64 n1 1), (IntKind.i64.wrap (k_ + (bits .and .i64 n1 1)))))) else (some (.br (n1, k_)))
def F_laws_qWeight (n : Int) : Option (Int) :=
  (whX F_laws_qWeight_l1 fuel (n, 0)).bind <| orR fun (n1, k_) =>
  some (k_)

def F_laws_FnPhaseAlgebra_l2 (r_1 : TPhasePoly) (bits_ : Nat) : Nat → Int → Option (Int) := fun i1 middle =>
  (getI r_1.Out.Rows (i1 : Int)).bind fun x =>
  (F_laws_qWeight (bits .and .i64 x (bits_ : Int))).bind fun r_18 =>
  chk ((0 : Int) ≤ (IntKind.u64.wrap (i1 : Int))) <|
  some (bits .or .i64 middle (shlK .i64 (Int.tmod r_18 2) (IntKind.u64.wrap (i1 : Int))))
def F_laws_FnPhaseAlgebra_l1 (r_1 : TPhasePoly) (r_2 : TPhasePoly) (r_3 : TPhasePoly) (r_10 : TPhasePoly) : Nat → Unit → Option (Ex (Unit) (Bool)) := fun bits_ _ =>
  (F_impl_PhaseAt r_1 (bits_ : Int)).bind fun (r_16, r_17) =>
  chk (r_1.Out.Rows.length ≤ 9223372036854775807) <|
  (forN (F_laws_FnPhaseAlgebra_l2 r_1 bits_) r_1.Out.Rows.length 0 0).bind fun middle =>
  (F_impl_PhaseAt r_2 middle).bind fun (r_19, r_20) =>
  (F_impl_PhaseAt r_3 (bits_ : Int)).bind fun (r_21, r_22) =>
  (F_impl_PhaseAt r_10 (bits_ : Int)).bind fun (r_23, r_24) =>
  bif ((((!r_22) || (!r_24)) || (r_21 != (Int.tmod (IntKind.i64.wrap (r_16 + r_19)) 8))) || (r_23 != 0)) then (some (.rt false)) else (some (.nx ()))
def F_laws_FnPhaseAlgebra (code : List Int) (more : List Int) : Option (Bool) :=
  bif (decide (1048576 < (IntKind.i64.wrap ((code.length : Int) + (more.length : Int))))) then (some (true)) else ((F_spec_DrawComposePhase code).bind fun (r_1, r_2) =>
  (F_impl_ComposePhase r_1 r_2).bind fun (r_3, r_4) =>
  (F_spec_ComposePhase r_1 r_2).bind fun (r_5, r_6) =>
  (gb (!(!(r_4 == r_6))) false (F_laws_qPoly r_3 r_5)).bind fun r_7 =>
  bif ((!(r_4 == r_6)) || (!r_7)) then (some (false)) else (bif (!r_4) then (some (true)) else ((F_impl_InvertPhase r_3).bind fun (r_8, r_9) =>
  (F_impl_ComposePhase r_3 r_8).bind fun (r_10, r_11) =>
  (F_impl_IdentityLinear r_3.Qubits).bind fun (r_12, r_13) =>
  (gb (!((!r_9) || (!r_11))) false (F_laws_qInts r_10.Out.Rows r_12.Rows)).bind fun r_14 =>
  (gb (!(((!r_9) || (!r_11)) || (!r_14))) false (F_impl_IsValidPhasePoly r_3)).bind fun r_15 =>
  bif ((((!r_9) || (!r_11)) || (!r_14)) || (!r_15)) then (some (false)) else (chk (((shlK .i64 1 (IntKind.u64.wrap r_3.Qubits)).toNat) ≤ 9223372036854775807) <|
  (forX (F_laws_FnPhaseAlgebra_l1 r_1 r_2 r_3 r_10) ((shlK .i64 1 (IntKind.u64.wrap r_3.Qubits)).toNat) 0 ()).bind <| orR fun _ =>
  some (true)))))
end Go.VK
