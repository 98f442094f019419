/- What each Go function computes, by program. -/
import Derived.Test.YtchihdcajdocgaaGreatLReductionsTy
set_option linter.unusedVariables false
namespace Go.VK
open Go.RowKit
def F_laws_qTerms_l1 (a : List TTerm) (b : List TTerm) : Nat → Unit → Option (Ex (Unit) (Bool)) := fun i _ =>
  (getI a (i : Int)).bind fun x =>
  (getI b (i : Int)).bind fun x1 =>
  bif (!((x.Mask == x1.Mask) && ((x.Coef == x1.Coef) && true))) then (some (.rt false)) else (some (.nx ()))
def F_laws_qTerms (a : List TTerm) (b : List TTerm) : Option (Bool) :=
  bif ((a.length : Int) != (b.length : Int)) then (some (false)) else (chk (a.length ≤ 9223372036854775807) <|
  (forX (F_laws_qTerms_l1 a b) a.length 0 ()).bind <| orR fun _ =>
  some (true))

def F_laws_qInts_l1 (a : List Int) (b : List Int) : Nat → Unit → Option (Ex (Unit) (Bool)) := fun i _ =>
  (getI a (i : Int)).bind fun x =>
  (getI b (i : Int)).bind fun x1 =>
  bif (x != x1) then (some (.rt false)) else (some (.nx ()))
def F_laws_qInts (a : List Int) (b : List Int) : Option (Bool) :=
  bif ((a.length : Int) != (b.length : Int)) then (some (false)) else (chk (a.length ≤ 9223372036854775807) <|
  (forX (F_laws_qInts_l1 a b) a.length 0 ()).bind <| orR fun _ =>
  some (true))

def F_laws_qPoly (p : TPhasePoly) (q : TPhasePoly) : Option (Bool) :=
  (gb ((p.Qubits == q.Qubits) && (p.Phase == q.Phase)) false (F_laws_qTerms p.Terms q.Terms)).bind fun r_1 =>
  (gb (((p.Qubits == q.Qubits) && (p.Phase == q.Phase)) && r_1) false (F_laws_qInts p.Out.Rows q.Out.Rows)).bind fun r_2 =>
  some (((((p.Qubits == q.Qubits) && (p.Phase == q.Phase)) && r_1) && r_2))

def F_spec_l1Cur_next (c : Tl1Cur) : Option (Int × Tl1Cur) :=
  ((bif (decide (c.at_ < (c.code.length : Int))) then ((getI c.code c.at_).bind fun x =>
  some (IntKind.i64.wrap x)) else (some 0)) : Option (Int)).bind fun b =>
  bif (decide ((IntKind.i64.wrap (c.at_ + 1)) ≤ (c.code.length : Int))) then (some ((b, (Tl1Cur.mk c.code (IntKind.i64.wrap (c.at_ + 1)) (IntKind.u64.wrap ((IntKind.u64.wrap ((IntKind.u64.wrap (c.seed * 6364136223846793005)) + (IntKind.u64.wrap b))) + 1442695040888963407)))))) else (some (((IntKind.i64.wrap (bits .and .u64 (shrK .u64 (IntKind.u64.wrap ((IntKind.u64.wrap ((IntKind.u64.wrap (c.seed * 6364136223846793005)) + (IntKind.u64.wrap b))) + 1442695040888963407)) 40) 255)), (Tl1Cur.mk c.code (IntKind.i64.wrap (c.at_ + 1)) (IntKind.u64.wrap ((IntKind.u64.wrap ((IntKind.u64.wrap (c.seed * 6364136223846793005)) + (IntKind.u64.wrap b))) + 1442695040888963407))))))

def F_spec_l1Cur_pick (c : Tl1Cur) (n1 : Int) : Option (Int × Tl1Cur) :=
  bif (decide (n1 ≤ 1)) then (some ((0, c))) else ((F_spec_l1Cur_next c).bind fun (r_1, m1) =>
  ((bif (decide (200 < n1)) then ((F_spec_l1Cur_next (Tl1Cur.mk c.code m1.at_ m1.seed)).bind fun (r_2, m2) =>
  some (m2.at_, m2.seed, (IntKind.i64.wrap ((IntKind.i64.wrap (r_1 * 256)) + r_2)))) else (some (m1.at_, m1.seed, r_1))) : Option (Int × Int × Int)).bind fun (at_, seed, x) =>
  chk (n1 ≠ (0 : Int)) <|
  some (((Int.tmod x n1), (Tl1Cur.mk c.code at_ seed))))

def F_spec_l1Cur_one (c : Tl1Cur) (n1 : Int) : Option (Bool × Tl1Cur) :=
  (F_spec_l1Cur_pick c n1).bind fun (r_1, m1) =>
  some (((r_1 == 0), (Tl1Cur.mk c.code m1.at_ m1.seed)))

def F_spec_l13List_l1 (by_ : List Int) : Nat → (List TTerm) → Option (List TTerm) := fun i out =>
  (((getI by_ (i : Int)).bind fun x =>
  bif ((decide (0 < (i : Int))) && (decide (0 < (Int.tmod (IntKind.i64.wrap ((Int.tmod x 8) + 8)) 8)))) then (chk (out.length + 1 ≤ 1099511627776) <|
  some (out ++ [(TTerm.mk (i : Int) (Int.tmod (IntKind.i64.wrap ((Int.tmod x 8) + 8)) 8))])) else (some out)) : Option (List TTerm)).bind fun out1 =>
  some out1
def F_spec_l13List (by_ : List Int) : Option (List TTerm) :=
  chk (by_.length ≤ 9223372036854775807) <|
  (forN (F_spec_l13List_l1 by_) by_.length 0 []).bind fun out =>
  some (out)

def F_spec_l1Put_l1 (l : List Int) (n1 : Int) : Int → Option (Ex (Int) (List Int)) := fun k_ =>
  (gb (decide (k_ < (l.length : Int))) 0 (getI l k_)).bind fun x =>
  bif ((decide (k_ < (l.length : Int))) && (decide (x < n1))) then (some (.nx (IntKind.i64.wrap (k_ + 1)))) else (some (.br k_))
def F_spec_l1Put (l : List Int) (n1 : Int) : Option (List Int) :=
  (whX (F_spec_l1Put_l1 l n1) fuel 0).bind <| orR fun k_ =>
  (gb (decide (k_ < (l.length : Int))) 0 (getI l k_)).bind fun x1 =>
  bif ((decide (k_ < (l.length : Int))) && (x1 == n1)) then (some (l)) else (chk ((0 : Int) ≤ k_ ∧ k_ ≤ (l.length : Int)) <|
  chk (0 + k_.toNat ≤ 1099511627776) <|
  chk (((List.take k_.toNat l).length) + 1 ≤ 1099511627776) <|
  chk ((0 : Int) ≤ k_ ∧ k_ ≤ (l.length : Int)) <|
  chk ((((List.take k_.toNat l) ++ [n1]).length) + (l.length - k_.toNat) ≤ 1099511627776) <|
  some ((((List.take k_.toNat l) ++ [n1]) ++ (List.drop k_.toNat l))))

def F_spec_l1Set_l1 (row : Int) : (List Int × Int) → Option (Ex (List Int × Int) (List Int)) := fun (out, k_) =>
  chk ((0 : Int) ≤ (IntKind.u64.wrap k_)) <|
  bif (decide (0 < (shrK .i64 row (IntKind.u64.wrap k_)))) then (((chk ((0 : Int) ≤ (IntKind.u64.wrap k_)) <|
  bif ((bits .and .i64 (shrK .i64 row (IntKind.u64.wrap k_)) 1) == 1) then (chk (out.length + 1 ≤ 1099511627776) <|
  some (out ++ [k_])) else (some out)) : Option (List Int)).bind fun out1 =>
  some (.nx (out1, (IntKind.i64.wrap (k_ + 1))))) else (some (.br (out, k_)))
def F_spec_l1Set (row : Int) : Option (List Int) :=
  (whX (F_spec_l1Set_l1 row) fuel ([], 0)).bind <| orR fun (out, k_) =>
  some (out)

def F_spec_l13Parity (n : Int) : Option (Int) :=
  (F_spec_l1Set n).bind fun r_1 =>
  some ((Int.tmod (r_1.length : Int) 2))

def F_spec_l15Affine_l1 (n : Int) (a : Int) (turned : Int) : (Int × Int) → Option (Ex (Int × Int) (Int)) := fun (word, m) =>
  chk ((0 : Int) ≤ (IntKind.u64.wrap n)) <|
  bif (decide (m < (shlK .i64 1 (IntKind.u64.wrap n)))) then ((F_spec_l13Parity (bits .and .i64 m a)).bind fun r_1 =>
  chk ((0 : Int) ≤ (IntKind.u64.wrap (IntKind.i64.wrap (m - 1)))) <|
  some (.nx ((bits .or .i64 word (shlK .i64 (bits .xor .i64 r_1 turned) (IntKind.u64.wrap (IntKind.i64.wrap (m - 1))))), (IntKind.i64.wrap (m + 1))))) else (some (.br (word, m)))
def F_spec_l15Affine (n : Int) (a : Int) (turned : Int) : Option (Int) :=
  (whX (F_spec_l15Affine_l1 n a turned) fuel (0, 1)).bind <| orR fun (word, m) =>
  some (word)

def F_spec_l15Codes_l1 (n : Int) : (List Int × Int) → Option (Ex (List Int × Int) (List Int)) := fun (out1, a) =>
  bif ((n == 5) && (decide (a < 32))) then ((F_spec_l15Affine n a 0).bind fun r_3 =>
  (F_spec_l1Put out1 r_3).bind fun r_4 =>
  (F_spec_l15Affine n a 1).bind fun r_5 =>
  (F_spec_l1Put r_4 r_5).bind fun r_6 =>
  some (.nx (r_6, (IntKind.i64.wrap (a + 1))))) else (some (.br (out1, a)))
def F_spec_l15Codes (n : Int) : Option (List Int) :=
  ((bif (decide (4 ≤ n)) then ((F_spec_l15Affine n 0 1).bind fun r_1 =>
  (F_spec_l1Put [0] r_1).bind fun r_2 =>
  some r_2) else (some [0])) : Option (List Int)).bind fun out =>
  (whX (F_spec_l15Codes_l1 n) fuel (out, 1)).bind <| orR fun (out1, a) =>
  some (out1)

def F_spec_l1Cur_oddWord (c : Tl1Cur) (n1 : Int) : Option (Int × Tl1Cur) :=
  (F_spec_l1Cur_pick c 65536).bind fun (r_1, m1) =>
  (F_spec_l1Cur_pick (Tl1Cur.mk c.code m1.at_ m1.seed) 32768).bind fun (r_2, m2) =>
  chk ((0 : Int) ≤ (IntKind.u64.wrap n1)) <|
  chk ((0 : Int) ≤ (IntKind.u64.wrap ((shlK .u64 1 (IntKind.u64.wrap n1)) - 1))) <|
  (((F_spec_l1Cur_pick (Tl1Cur.mk c.code m2.at_ m2.seed) 3).bind fun (r_3, m3) =>
  bif (r_3 == 0) then ((F_spec_l15Codes n1).bind fun r_4 =>
  (F_spec_l1Cur_pick (Tl1Cur.mk c.code m3.at_ m3.seed) (r_4.length : Int)).bind fun (r_5, m4) =>
  (getI r_4 r_5).bind fun x =>
  some (m4.at_, m4.seed, x)) else (bif (r_3 == 1) then ((F_spec_l15Codes n1).bind fun r_6 =>
  (F_spec_l1Cur_pick (Tl1Cur.mk c.code m3.at_ m3.seed) (r_6.length : Int)).bind fun (r_7, m5) =>
  (getI r_6 r_7).bind fun x1 =>
  chk ((0 : Int) ≤ (IntKind.u64.wrap n1)) <|
  (F_spec_l1Cur_pick (Tl1Cur.mk c.code m5.at_ m5.seed) (IntKind.i64.wrap ((shlK .i64 1 (IntKind.u64.wrap n1)) - 1))).bind fun (r_8, m6) =>
  chk ((0 : Int) ≤ (IntKind.u64.wrap r_8)) <|
  some (m6.at_, m6.seed, (bits .xor .i64 x1 (shlK .i64 1 (IntKind.u64.wrap r_8))))) else (some (m3.at_, m3.seed, (bits .and .i64 (IntKind.i64.wrap (r_1 + (IntKind.i64.wrap (65536 * r_2)))) (IntKind.i64.wrap ((shlK .i64 1 (IntKind.u64.wrap ((shlK .u64 1 (IntKind.u64.wrap n1)) - 1))) - 1))))))) : Option (Int × Int × Int)).bind fun (at_, seed, w_2) =>
  some ((w_2, (Tl1Cur.mk c.code at_ seed)))

def F_spec_l1Cur_among (c : Tl1Cur) (list : List Int) : Option (Int × Tl1Cur) :=
  (F_spec_l1Cur_pick c (list.length : Int)).bind fun (r_1, m1) =>
  (getI list r_1).bind fun x =>
  some ((x, (Tl1Cur.mk c.code m1.at_ m1.seed)))

def F_spec_l13By_l1 (p : TPhasePoly) : Nat → (List Int) → Option (List Int) := fun i by_ =>
  (getI p.Terms (i : Int)).bind fun x =>
  (getI by_ x.Mask).bind fun x1 =>
  some (by_.set x.Mask.toNat x.Coef)
def F_spec_l13By (p : TPhasePoly) : Option (List Int) :=
  chk ((0 : Int) ≤ (IntKind.u64.wrap p.Qubits)) <|
  chk ((0 : Int) ≤ (shlK .i64 1 (IntKind.u64.wrap p.Qubits)) ∧ (shlK .i64 1 (IntKind.u64.wrap p.Qubits)) ≤ 1099511627776) <|
  chk (p.Terms.length ≤ 9223372036854775807) <|
  (forN (F_spec_l13By_l1 p) p.Terms.length 0 (List.replicate ((shlK .i64 1 (IntKind.u64.wrap p.Qubits)).toNat) 0)).bind fun by_ =>
  some (by_)

def F_spec_l12Identity_l1 : Nat → (List Int) → Option (List Int) := fun i1 Rows =>
  chk ((0 : Int) ≤ (IntKind.u64.wrap (i1 : Int))) <|
  chk (Rows.length + 1 ≤ 1099511627776) <|
  some (Rows ++ [(shlK .i64 1 (IntKind.u64.wrap (i1 : Int)))])
def F_spec_l12Identity (n : Int) : Option (TLinear) :=
  chk (n.toNat ≤ 9223372036854775807) <|
  (forN F_spec_l12Identity_l1 n.toNat 0 []).bind fun Rows =>
  some ((TLinear.mk Rows))

def F_spec_l1Own (l : List Int) : Option (List Int) :=
  chk (0 + l.length ≤ 1099511627776) <|
  some (l)

def F_spec_l12CX (m : TLinear) (a : Int) (b : Int) : Option (TLinear) :=
  (F_spec_l1Own m.Rows).bind fun r_1 =>
  (getI r_1 b).bind fun x =>
  (getI r_1 a).bind fun x1 =>
  some ((TLinear.mk (r_1.set b.toNat (bits .xor .i64 x x1))))

def F_spec_l1Cur_linear_l1 (n1 : Int) (c : Tl1Cur) : (Int × Int × List Int × Int) → Option (Ex (Int × Int × List Int × Int) (TLinear × Tl1Cur)) := fun (at_, seed, Rows, k_) =>
  bif ((decide (0 < k_)) && (decide (1 < n1))) then ((F_spec_l1Cur_pick (Tl1Cur.mk c.code at_ seed) n1).bind fun (r_3, m2) =>
  (F_spec_l1Cur_pick (Tl1Cur.mk c.code m2.at_ m2.seed) (IntKind.i64.wrap (n1 - 1))).bind fun (r_4, m3) =>
  chk (n1 ≠ (0 : Int)) <|
  (F_spec_l12CX (TLinear.mk Rows) r_3 (Int.tmod (IntKind.i64.wrap ((IntKind.i64.wrap (r_3 + 1)) + r_4)) n1)).bind fun r_5 =>
  some (.nx (m3.at_, m3.seed, r_5.Rows, (IntKind.i64.wrap (k_ - 1))))) else (some (.br (at_, seed, Rows, k_)))
def F_spec_l1Cur_linear (c : Tl1Cur) (n1 : Int) : Option (TLinear × Tl1Cur) :=
  (F_spec_l12Identity n1).bind fun r_1 =>
  (F_spec_l1Cur_pick c 8).bind fun (r_2, m1) =>
  (whX (F_spec_l1Cur_linear_l1 n1 c) fuel (m1.at_, m1.seed, r_1.Rows, r_2)).bind <| orR fun (at_, seed, Rows, k_) =>
  some (((TLinear.mk Rows), (Tl1Cur.mk c.code at_ seed)))

def F_spec_l1Cur_phasePoly_l2 (c : Tl1Cur) (at_ : Int) (seed : Int) : Nat → (Int × Int × List Int) → Option (Int × Int × List Int) := fun i (at_2, seed2, by_2) =>
  (F_spec_l1Cur_pick (Tl1Cur.mk c.code at_2 seed2) 8).bind fun (r_5, m5) =>
  (getI by_2 (i : Int)).bind fun x1 =>
  some (m5.at_, m5.seed, (by_2.set (i : Int).toNat r_5))
def F_spec_l1Cur_phasePoly_l1 (c : Tl1Cur) (n1 : Int) : (Int × Int × List Int × Int) → Option (Ex (Int × Int × List Int × Int) (TPhasePoly × Tl1Cur)) := fun (at_, seed, by_, k_) =>
  bif (decide (0 < k_)) then ((F_spec_l1Cur_pick (Tl1Cur.mk c.code at_ seed) ((shlK .i64 1 (IntKind.u64.wrap n1)).toNat : Int)).bind fun (r_2, m2) =>
  (F_spec_l1Cur_pick (Tl1Cur.mk c.code m2.at_ m2.seed) 8).bind fun (r_3, m3) =>
  (getI by_ r_2).bind fun x =>
  some (.nx (m3.at_, m3.seed, (by_.set r_2.toNat r_3), (IntKind.i64.wrap (k_ - 1))))) else (some (.br (at_, seed, by_, k_)))
def F_spec_l1Cur_phasePoly (c : Tl1Cur) (n1 : Int) : Option (TPhasePoly × Tl1Cur) :=
  chk ((0 : Int) ≤ (IntKind.u64.wrap n1)) <|
  chk ((0 : Int) ≤ (shlK .i64 1 (IntKind.u64.wrap n1)) ∧ (shlK .i64 1 (IntKind.u64.wrap n1)) ≤ 1099511627776) <|
  (F_spec_l1Cur_pick c 6).bind fun (r_1, m1) =>
  (whX (F_spec_l1Cur_phasePoly_l1 c n1) fuel (m1.at_, m1.seed, (List.replicate ((shlK .i64 1 (IntKind.u64.wrap n1)).toNat) 0), r_1)).bind <| orR fun (at_, seed, by_, k_) =>
  (((F_spec_l1Cur_one (Tl1Cur.mk c.code at_ seed) 6).bind fun (r_4, m4) =>
  bif r_4 then (chk (((shlK .i64 1 (IntKind.u64.wrap n1)).toNat) ≤ 9223372036854775807) <|
  (forN (F_spec_l1Cur_phasePoly_l2 c at_ seed) ((shlK .i64 1 (IntKind.u64.wrap n1)).toNat) 0 (m4.at_, m4.seed, by_)).bind fun (at_2, seed2, by_2) =>
  some (at_2, seed2, by_2)) else (some (m4.at_, m4.seed, by_))) : Option (Int × Int × List Int)).bind fun (at_1, seed1, by_1) =>
  (F_spec_l1Cur_pick (Tl1Cur.mk c.code at_1 seed1) 8).bind fun (r_6, m6) =>
  (F_spec_l13List by_1).bind fun r_7 =>
  (F_spec_l1Cur_linear (Tl1Cur.mk c.code m6.at_ m6.seed) n1).bind fun (r_8, m7) =>
  some (((TPhasePoly.mk n1 r_6 r_7 r_8), (Tl1Cur.mk c.code m7.at_ m7.seed)))

def F_spec_l1Cur_reducible_l1 (r_5 : List Int) : Nat → (List Int) → Option (List Int) := fun i by_ =>
  (getI r_5 (i : Int)).bind fun x =>
  (getI by_ (IntKind.i64.wrap (x + 1))).bind fun x1 =>
  some (by_.set (IntKind.i64.wrap (x + 1)).toNat (IntKind.i64.wrap (x1 + 1)))
def F_spec_l1Cur_reducible (c : Tl1Cur) : Option (TPhasePoly × Tl1Cur) :=
  (F_spec_l1Cur_among c [2, 3, 4, 4, 4, 5]).bind fun (r_1, m1) =>
  (F_spec_l1Cur_phasePoly (Tl1Cur.mk c.code m1.at_ m1.seed) r_1).bind fun (r_2, m2) =>
  (F_spec_l13By r_2).bind fun r_3 =>
  (F_spec_l1Cur_oddWord (Tl1Cur.mk c.code m2.at_ m2.seed) r_2.Qubits).bind fun (r_4, m3) =>
  (F_spec_l1Set r_4).bind fun r_5 =>
  chk (r_5.length ≤ 9223372036854775807) <|
  (forN (F_spec_l1Cur_reducible_l1 r_5) r_5.length 0 r_3).bind fun by_ =>
  (F_spec_l13List by_).bind fun r_6 =>
  some (((TPhasePoly.mk r_2.Qubits r_2.Phase r_6 r_2.Out), (Tl1Cur.mk c.code m3.at_ m3.seed)))

def F_spec_l1Cur_anyLinear (c : Tl1Cur) : Option (TLinear × Tl1Cur) :=
  (F_spec_l1Cur_pick c 5).bind fun (r_1, m1) =>
  (F_spec_l1Cur_linear (Tl1Cur.mk c.code m1.at_ m1.seed) (IntKind.i64.wrap (1 + r_1))).bind fun (r_2, m2) =>
  (((F_spec_l1Cur_pick (Tl1Cur.mk c.code m2.at_ m2.seed) 12).bind fun (r_3, m3) =>
  bif (r_3 == 0) then ((F_spec_l1Cur_among (Tl1Cur.mk c.code m3.at_ m3.seed) [(-1), 0, 31, 32, 3]).bind fun (r_4, m4) =>
  (getI r_2.Rows 0).bind fun x =>
  some (m4.at_, m4.seed, (r_2.Rows.set (0 : Int).toNat r_4))) else (bif (r_3 == 1) then ((F_spec_l1Cur_pick (Tl1Cur.mk c.code m3.at_ m3.seed) 70).bind fun (r_5, m5) =>
  chk (r_2.Rows.length + 1 ≤ 1099511627776) <|
  some (m5.at_, m5.seed, (r_2.Rows ++ [r_5]))) else (bif (r_3 == 2) then (chk ((0 : Int) ≤ 1 ∧ 1 ≤ (r_2.Rows.length : Int)) <|
  some (m3.at_, m3.seed, (List.drop 1 r_2.Rows))) else (some (m3.at_, m3.seed, r_2.Rows))))) : Option (Int × Int × List Int)).bind fun (at_, seed, Rows) =>
  some (((TLinear.mk Rows), (Tl1Cur.mk c.code at_ seed)))

def F_spec_l1Cur_anyPhasePoly (c : Tl1Cur) : Option (TPhasePoly × Tl1Cur) :=
  (F_spec_l1Cur_pick c 5).bind fun (r_1, m1) =>
  (F_spec_l1Cur_phasePoly (Tl1Cur.mk c.code m1.at_ m1.seed) (IntKind.i64.wrap (1 + r_1))).bind fun (r_2, m2) =>
  (((F_spec_l1Cur_pick (Tl1Cur.mk c.code m2.at_ m2.seed) 16).bind fun (r_3, m3) =>
  bif (r_3 == 0) then ((F_spec_l1Cur_among (Tl1Cur.mk c.code m3.at_ m3.seed) [(-1), 8, 0]).bind fun (r_4, m4) =>
  some (m4.at_, m4.seed, r_2.Qubits, r_4, r_2.Terms, r_2.Out.Rows)) else (bif (r_3 == 1) then ((F_spec_l1Cur_pick (Tl1Cur.mk c.code m3.at_ m3.seed) 33).bind fun (r_5, m5) =>
  (F_spec_l1Cur_pick (Tl1Cur.mk c.code m5.at_ m5.seed) 9).bind fun (r_6, m6) =>
  chk (r_2.Terms.length + 1 ≤ 1099511627776) <|
  some (m6.at_, m6.seed, r_2.Qubits, r_2.Phase, (r_2.Terms ++ [(TTerm.mk r_5 r_6)]), r_2.Out.Rows)) else (bif (r_3 == 2) then ((F_spec_l1Cur_anyLinear (Tl1Cur.mk c.code m3.at_ m3.seed)).bind fun (r_7, m7) =>
  some (m7.at_, m7.seed, r_2.Qubits, r_2.Phase, r_2.Terms, r_7.Rows)) else (bif (r_3 == 3) then ((F_spec_l1Cur_pick (Tl1Cur.mk c.code m3.at_ m3.seed) 7).bind fun (r_8, m8) =>
  some (m8.at_, m8.seed, r_8, r_2.Phase, r_2.Terms, r_2.Out.Rows)) else (some (m3.at_, m3.seed, r_2.Qubits, r_2.Phase, r_2.Terms, r_2.Out.Rows)))))) : Option (Int × Int × Int × Int × List TTerm × List Int)).bind fun (at_, seed, Qubits, Phase, Terms, Out) =>
  some (((TPhasePoly.mk Qubits Phase Terms (TLinear.mk Out)), (Tl1Cur.mk c.code at_ seed)))

def F_spec_DrawLeastT (code : List Int) : Option (TPhasePoly) :=
  (F_spec_l1Cur_one (Tl1Cur.mk code 0 0) 8).bind fun (r_1, m) =>
  bif r_1 then ((F_spec_l1Cur_anyPhasePoly (Tl1Cur.mk code m.at_ m.seed)).bind fun (r_2, m1) =>
  some (r_2)) else ((F_spec_l1Cur_reducible (Tl1Cur.mk code m.at_ m.seed)).bind fun (r_3, m2) =>
  some (r_3))

def F_spec_DrawReduceT (code : List Int) : Option (TPhasePoly) :=
  (F_spec_DrawLeastT code).bind fun r_1 =>
  some (r_1)

def F_impl_within (n : Int) (low : Int) (high : Int) : Option (Bool) :=
  some (((decide (low ≤ n)) && (decide (n ≤ high))))

def F_impl_areTerms_l1 (terms : List TTerm) (n : Int) : Nat → Unit → Option (Ex (Unit) (Bool)) := fun i _ =>
  (getI terms (i : Int)).bind fun x =>
  chk ((0 : Int) ≤ n) <|
  (F_impl_within x.Mask 1 (IntKind.i64.wrap ((shlK .i64 1 n) - 1))).bind fun r_1 =>
  (gb (!(!r_1)) false (F_impl_within x.Coef 1 7)).bind fun r_2 =>
  (gb ((!((!r_1) || (!r_2))) && (decide (0 < (i : Int)))) (TTerm.mk 0 0) (getI terms (IntKind.i64.wrap ((i : Int) - 1)))).bind fun x1 =>
  bif (((!r_1) || (!r_2)) || ((decide (0 < (i : Int))) && (decide (x.Mask ≤ x1.Mask)))) then (some (.rt false)) else (some (.nx ()))
def F_impl_areTerms (n : Int) (terms : List TTerm) : Option (Bool) :=
  chk (terms.length ≤ 9223372036854775807) <|
  (forX (F_impl_areTerms_l1 terms n) terms.length 0 ()).bind <| orR fun _ =>
  some (true)

def F_slices_IndexFunc_int_int_l1 (s : List Int) (f_ : Int → Option (Bool)) : Nat → Unit → Option (Ex (Unit) (Int)) := fun i _ =>
  (getI s (i : Int)).bind fun x1 =>
  (f_ x1).bind fun r_1 =>
  bif r_1 then (some (.rt (i : Int))) else (some (.nx ()))
def F_slices_IndexFunc_int_int (s : List Int) (f_ : Int → Option (Bool)) : Option (Int) :=
  chk (s.length ≤ 9223372036854775807) <|
  (forX (F_slices_IndexFunc_int_int_l1 s f_) s.length 0 ()).bind <| orR fun _ =>
  some ((-1))

def F_slices_ContainsFunc_int_int (s : List Int) (f_ : Int → Option (Bool)) : Option (Bool) :=
  (F_slices_IndexFunc_int_int s f_).bind fun r_1 =>
  some ((decide (0 ≤ r_1)))

def F_impl_IsValidLinear_1 (row : Int) (p : Int) : Option (Bool) :=
  chk ((0 : Int) ≤ p) <|
  (F_impl_within row 0 (IntKind.i64.wrap ((shlK .i64 1 p) - 1))).bind fun r_1 =>
  some ((!r_1))

def F_slices_Clone_int_int (s : List Int) : Option (List Int) :=
  chk (0 + s.length ≤ 1099511627776) <|
  some (s)

def F_impl_rankOf_1 (row : Int) (p : Int) : Option (Bool) :=
  chk ((0 : Int) ≤ p) <|
  some (((bits .and .i64 (shrK .i64 row p) 1) == 1))

def F_slices_Delete_int_int (s : List Int) (i : Int) (j : Int) : Option (List Int) :=
  chk ((0 : Int) ≤ i ∧ i ≤ j ∧ j ≤ (s.length : Int)) <|
  bif (i == j) then (some (s)) else (chk (i.toNat ≤ j.toNat) <|
  some ((List.take i.toNat s ++ List.drop j.toNat s)))

def F_impl_rankOf_l2 (i : Nat) (x : Int) : Nat → (List Int) → Option (List Int) := fun i1 left2 =>
  (((getI left2 (i1 : Int)).bind fun x1 =>
  chk ((0 : Int) ≤ (i : Int)) <|
  bif ((bits .and .i64 (shrK .i64 x1 (i : Int)) 1) == 1) then (some (left2.set (i1 : Int).toNat (bits .xor .i64 x1 x))) else (some left2)) : Option (List Int)).bind fun left3 =>
  some left3
def F_impl_rankOf_l1 : Nat → (List Int × Int) → Option (List Int × Int) := fun i (left, rank) =>
  (((F_slices_IndexFunc_int_int left (fun x_0 => F_impl_rankOf_1 x_0 (i : Int))).bind fun r_2 =>
  bif (decide (r_2 < 0)) then (some (left, rank)) else ((getI left r_2).bind fun x =>
  (F_slices_Delete_int_int left r_2 (IntKind.i64.wrap (r_2 + 1))).bind fun r_3 =>
  chk (r_3.length ≤ 9223372036854775807) <|
  (forN (F_impl_rankOf_l2 i x) r_3.length 0 r_3).bind fun left2 =>
  some (left2, (IntKind.i64.wrap (rank + 1))))) : Option (List Int × Int)).bind fun (left1, rank1) =>
  some (left1, rank1)
def F_impl_rankOf (rows : List Int) : Option (Int) :=
  (F_slices_Clone_int_int rows).bind fun r_1 =>
  (forN F_impl_rankOf_l1 10 0 (r_1, 0)).bind fun (left, rank) =>
  some (rank)

def F_impl_IsValidLinear (m : TLinear) : Option (Bool) :=
  (F_impl_within (m.Rows.length : Int) 1 5).bind fun r_1 =>
  (gb r_1 false (F_slices_ContainsFunc_int_int m.Rows (fun x_0 => F_impl_IsValidLinear_1 x_0 (m.Rows.length : Int)))).bind fun r_2 =>
  (gb (r_1 && (!r_2)) 0 (F_impl_rankOf m.Rows)).bind fun r_3 =>
  some (((r_1 && (!r_2)) && (r_3 == (m.Rows.length : Int))))

def F_impl_IsValidPhasePoly (p : TPhasePoly) : Option (Bool) :=
  (F_impl_within p.Qubits 1 5).bind fun r_1 =>
  (gb r_1 false (F_impl_within p.Phase 0 7)).bind fun r_2 =>
  (gb (r_1 && r_2) false (F_impl_areTerms p.Qubits p.Terms)).bind fun r_3 =>
  (gb (((r_1 && r_2) && r_3) && ((p.Out.Rows.length : Int) == p.Qubits)) false (F_impl_IsValidLinear p.Out)).bind fun r_4 =>
  some (((((r_1 && r_2) && r_3) && ((p.Out.Rows.length : Int) == p.Qubits)) && r_4))

def F_math_bits_OnesCount64 (x : Int) : Option (Int) :=
  some ((bits .and .i64 (IntKind.i64.wrap (IntKind.u64.wrap ((IntKind.u64.wrap ((IntKind.u64.wrap ((bits .and .u64 (IntKind.u64.wrap ((shrK .u64 (IntKind.u64.wrap ((bits .and .u64 (shrK .u64 (IntKind.u64.wrap ((bits .and .u64 (shrK .u64 x 1) 6148914691236517205) + (bits .and .u64 x 6148914691236517205))) 2) 3689348814741910323) + (bits .and .u64 (IntKind.u64.wrap ((bits .and .u64 (shrK .u64 x 1) 6148914691236517205) + (bits .and .u64 x 6148914691236517205))) 3689348814741910323))) 4) + (IntKind.u64.wrap ((bits .and .u64 (shrK .u64 (IntKind.u64.wrap ((bits .and .u64 (shrK .u64 x 1) 6148914691236517205) + (bits .and .u64 x 6148914691236517205))) 2) 3689348814741910323) + (bits .and .u64 (IntKind.u64.wrap ((bits .and .u64 (shrK .u64 x 1) 6148914691236517205) + (bits .and .u64 x 6148914691236517205))) 3689348814741910323))))) 1085102592571150095) + (shrK .u64 (bits .and .u64 (IntKind.u64.wrap ((shrK .u64 (IntKind.u64.wrap ((bits .and .u64 (shrK .u64 (IntKind.u64.wrap ((bits .and .u64 (shrK .u64 x 1) 6148914691236517205) + (bits .and .u64 x 6148914691236517205))) 2) 3689348814741910323) + (bits .and .u64 (IntKind.u64.wrap ((bits .and .u64 (shrK .u64 x 1) 6148914691236517205) + (bits .and .u64 x 6148914691236517205))) 3689348814741910323))) 4) + (IntKind.u64.wrap ((bits .and .u64 (shrK .u64 (IntKind.u64.wrap ((bits .and .u64 (shrK .u64 x 1) 6148914691236517205) + (bits .and .u64 x 6148914691236517205))) 2) 3689348814741910323) + (bits .and .u64 (IntKind.u64.wrap ((bits .and .u64 (shrK .u64 x 1) 6148914691236517205) + (bits .and .u64 x 6148914691236517205))) 3689348814741910323))))) 1085102592571150095) 8))) + (shrK .u64 (IntKind.u64.wrap ((bits .and .u64 (IntKind.u64.wrap ((shrK .u64 (IntKind.u64.wrap ((bits .and .u64 (shrK .u64 (IntKind.u64.wrap ((bits .and .u64 (shrK .u64 x 1) 6148914691236517205) + (bits .and .u64 x 6148914691236517205))) 2) 3689348814741910323) + (bits .and .u64 (IntKind.u64.wrap ((bits .and .u64 (shrK .u64 x 1) 6148914691236517205) + (bits .and .u64 x 6148914691236517205))) 3689348814741910323))) 4) + (IntKind.u64.wrap ((bits .and .u64 (shrK .u64 (IntKind.u64.wrap ((bits .and .u64 (shrK .u64 x 1) 6148914691236517205) + (bits .and .u64 x 6148914691236517205))) 2) 3689348814741910323) + (bits .and .u64 (IntKind.u64.wrap ((bits .and .u64 (shrK .u64 x 1) 6148914691236517205) + (bits .and .u64 x 6148914691236517205))) 3689348814741910323))))) 1085102592571150095) + (shrK .u64 (bits .and .u64 (IntKind.u64.wrap ((shrK .u64 (IntKind.u64.wrap ((bits .and .u64 (shrK .u64 (IntKind.u64.wrap ((bits .and .u64 (shrK .u64 x 1) 6148914691236517205) + (bits .and .u64 x 6148914691236517205))) 2) 3689348814741910323) + (bits .and .u64 (IntKind.u64.wrap ((bits .and .u64 (shrK .u64 x 1) 6148914691236517205) + (bits .and .u64 x 6148914691236517205))) 3689348814741910323))) 4) + (IntKind.u64.wrap ((bits .and .u64 (shrK .u64 (IntKind.u64.wrap ((bits .and .u64 (shrK .u64 x 1) 6148914691236517205) + (bits .and .u64 x 6148914691236517205))) 2) 3689348814741910323) + (bits .and .u64 (IntKind.u64.wrap ((bits .and .u64 (shrK .u64 x 1) 6148914691236517205) + (bits .and .u64 x 6148914691236517205))) 3689348814741910323))))) 1085102592571150095) 8))) 16))) + (shrK .u64 (IntKind.u64.wrap ((IntKind.u64.wrap ((bits .and .u64 (IntKind.u64.wrap ((shrK .u64 (IntKind.u64.wrap ((bits .and .u64 (shrK .u64 (IntKind.u64.wrap ((bits .and .u64 (shrK .u64 x 1) 6148914691236517205) + (bits .and .u64 x 6148914691236517205))) 2) 3689348814741910323) + (bits .and .u64 (IntKind.u64.wrap ((bits .and .u64 (shrK .u64 x 1) 6148914691236517205) + (bits .and .u64 x 6148914691236517205))) 3689348814741910323))) 4) + (IntKind.u64.wrap ((bits .and .u64 (shrK .u64 (IntKind.u64.wrap ((bits .and .u64 (shrK .u64 x 1) 6148914691236517205) + (bits .and .u64 x 6148914691236517205))) 2) 3689348814741910323) + (bits .and .u64 (IntKind.u64.wrap ((bits .and .u64 (shrK .u64 x 1) 6148914691236517205) + (bits .and .u64 x 6148914691236517205))) 3689348814741910323))))) 1085102592571150095) + (shrK .u64 (bits .and .u64 (IntKind.u64.wrap ((shrK .u64 (IntKind.u64.wrap ((bits .and .u64 (shrK .u64 (IntKind.u64.wrap ((bits .and .u64 (shrK .u64 x 1) 6148914691236517205) + (bits .and .u64 x 6148914691236517205))) 2) 3689348814741910323) + (bits .and .u64 (IntKind.u64.wrap ((bits .and .u64 (shrK .u64 x 1) 6148914691236517205) + (bits .and .u64 x 6148914691236517205))) 3689348814741910323))) 4) + (IntKind.u64.wrap ((bits .and .u64 (shrK .u64 (IntKind.u64.wrap ((bits .and .u64 (shrK .u64 x 1) 6148914691236517205) + (bits .and .u64 x 6148914691236517205))) 2) 3689348814741910323) + (bits .and .u64 (IntKind.u64.wrap ((bits .and .u64 (shrK .u64 x 1) 6148914691236517205) + (bits .and .u64 x 6148914691236517205))) 3689348814741910323))))) 1085102592571150095) 8))) + (shrK .u64 (IntKind.u64.wrap ((bits .and .u64 (IntKind.u64.wrap ((shrK .u64 (IntKind.u64.wrap ((bits .and .u64 (shrK .u64 (IntKind.u64.wrap ((bits .and .u64 (shrK .u64 x 1) 6148914691236517205) + (bits .and .u64 x 6148914691236517205))) 2) 3689348814741910323) + (bits .and .u64 (IntKind.u64.wrap ((bits .and .u64 (shrK .u64 x 1) 6148914691236517205) + (bits .and .u64 x 6148914691236517205))) 3689348814741910323))) 4) + (IntKind.u64.wrap ((bits .and .u64 (shrK .u64 (IntKind.u64.wrap ((bits .and .u64 (shrK .u64 x 1) 6148914691236517205) + (bits .and .u64 x 6148914691236517205))) 2) 3689348814741910323) + (bits .and .u64 (IntKind.u64.wrap ((bits .and .u64 (shrK .u64 x 1) 6148914691236517205) + (bits .and .u64 x 6148914691236517205))) 3689348814741910323))))) 1085102592571150095) + (shrK .u64 (bits .and .u64 (IntKind.u64.wrap ((shrK .u64 (IntKind.u64.wrap ((bits .and .u64 (shrK .u64 (IntKind.u64.wrap ((bits .and .u64 (shrK .u64 x 1) 6148914691236517205) + (bits .and .u64 x 6148914691236517205))) 2) 3689348814741910323) + (bits .and .u64 (IntKind.u64.wrap ((bits .and .u64 (shrK .u64 x 1) 6148914691236517205) + (bits .and .u64 x 6148914691236517205))) 3689348814741910323))) 4) + (IntKind.u64.wrap ((bits .and .u64 (shrK .u64 (IntKind.u64.wrap ((bits .and .u64 (shrK .u64 x 1) 6148914691236517205) + (bits .and .u64 x 6148914691236517205))) 2) 3689348814741910323) + (bits .and .u64 (IntKind.u64.wrap ((bits .and .u64 (shrK .u64 x 1) 6148914691236517205) + (bits .and .u64 x 6148914691236517205))) 3689348814741910323))))) 1085102592571150095) 8))) 16))) 32)))) 127))

def F_math_bits_OnesCount (x : Int) : Option (Int) :=
  (F_math_bits_OnesCount64 x).bind fun r_1 =>
  some (r_1)

def F_impl_bitsIn (mask : Int) : Option (Int) :=
  (F_math_bits_OnesCount (IntKind.u64.wrap mask)).bind fun r_1 =>
  some (r_1)


def F_impl_codeWords_l3 (r_2 : List Int) (word : Int) : Nat → (List Int) → Option (List Int) := fun i1 out2 =>
  (getI r_2 (i1 : Int)).bind fun x =>
  chk (out2.length + 1 ≤ 1099511627776) <|
  some (out2 ++ [(bits .xor .i64 x word)])
def F_impl_codeWords_l2 (n : Int) (i : Nat) : (Int × Int) → Option (Ex (Int × Int) (List Int)) := fun (word, mask) =>
  chk ((0 : Int) ≤ n) <|
  bif (decide (mask < (shlK .i64 1 n))) then (((bif ((bits .and .i64 mask (i : Int)) == (i : Int)) then (chk ((0 : Int) ≤ (IntKind.i64.wrap (mask - 1))) <|
  some (bits .or .i64 word (shlK .i64 1 (IntKind.i64.wrap (mask - 1))))) else (some word)) : Option (Int)).bind fun word1 =>
  some (.nx (word1, (IntKind.i64.wrap (mask + 1))))) else (some (.br (word, mask)))
def F_impl_codeWords_l1 (n : Int) : Nat → (List Int) → Option (List Int) := fun i out =>
  (((gb (!(decide (n < 4))) 0 (F_impl_bitsIn (i : Int))).bind fun r_1 =>
  bif ((decide (n < 4)) || (decide ((IntKind.i64.wrap (n - 4)) < r_1))) then (some out) else ((whX (F_impl_codeWords_l2 n i) fuel (0, 1)).bind <| orR fun (word, mask) =>
  (F_slices_Clone_int_int out).bind fun r_2 =>
  chk (r_2.length ≤ 9223372036854775807) <|
  (forN (F_impl_codeWords_l3 r_2 word) r_2.length 0 out).bind fun out2 =>
  some out2)) : Option (List Int)).bind fun out1 =>
  some out1
def F_impl_codeWords (n : Int) : Option (List Int) :=
  chk ((0 : Int) ≤ n) <|
  chk (((shlK .i64 1 n).toNat) ≤ 9223372036854775807) <|
  (forN (F_impl_codeWords_l1 n) ((shlK .i64 1 n).toNat) 0 [0]).bind fun out =>
  (F_slices_Sort_int_int out).bind fun m =>
  some (m)

def F_impl_nearest_l1 (r_2 : List Int) (word : Int) : Nat → (Int × Int) → Option (Int × Int) := fun i (best, least) =>
  (((getI r_2 (i : Int)).bind fun x =>
  (F_impl_bitsIn (bits .xor .i64 x word)).bind fun r_3 =>
  bif (decide (r_3 < least)) then (some (x, r_3)) else (some (best, least))) : Option (Int × Int)).bind fun (best1, least1) =>
  some (best1, least1)
def F_impl_nearest (n : Int) (word : Int) : Option (Int × Int) :=
  chk ((0 : Int) ≤ n) <|
  (F_impl_codeWords n).bind fun r_2 =>
  chk (r_2.length ≤ 9223372036854775807) <|
  (forN (F_impl_nearest_l1 r_2 word) r_2.length 0 (0, (shlK .i64 1 n))).bind fun (best, least) =>
  some ((best, least))

def F_impl_oddWord_l1 (p : TPhasePoly) : Nat → Int → Option (Int) := fun i word =>
  (((getI p.Terms (i : Int)).bind fun x =>
  bif ((Int.tmod x.Coef 2) == 1) then (chk ((0 : Int) ≤ (IntKind.i64.wrap (x.Mask - 1))) <|
  some (bits .or .i64 word (shlK .i64 1 (IntKind.i64.wrap (x.Mask - 1))))) else (some word)) : Option (Int)).bind fun word1 =>
  some word1
def F_impl_oddWord (p : TPhasePoly) : Option (Int) :=
  chk (p.Terms.length ≤ 9223372036854775807) <|
  (forN (F_impl_oddWord_l1 p) p.Terms.length 0 0).bind fun word =>
  some (word)

def F_impl_coefficients_add (c : List Int) (mask : Int) (coef : Int) : Option (List Int) :=
  (getI c mask).bind fun x =>
  some ((c.set mask.toNat (Int.tmod (IntKind.i64.wrap ((Int.tmod (IntKind.i64.wrap (x + coef)) 8) + 8)) 8)))

def F_impl_coefficients_terms_l1 (c : List Int) : Nat → (List TTerm) → Option (List TTerm) := fun i out =>
  (((getI c (i : Int)).bind fun x =>
  bif ((decide (0 < (i : Int))) && (decide (0 < x))) then (chk (out.length + 1 ≤ 1099511627776) <|
  some (out ++ [(TTerm.mk (i : Int) x)])) else (some out)) : Option (List TTerm)).bind fun out1 =>
  some out1
def F_impl_coefficients_terms (c : List Int) : Option (List TTerm) :=
  (forN (F_impl_coefficients_terms_l1 c) 32 0 []).bind fun out =>
  some (out)

def F_slices_Index_int_int_l1 (s : List Int) (v_ : Int) : Nat → Unit → Option (Ex (Unit) (Int)) := fun i _ =>
  (getI s (i : Int)).bind fun x =>
  bif (v_ == x) then (some (.rt (i : Int))) else (some (.nx ()))
def F_slices_Index_int_int (s : List Int) (v_ : Int) : Option (Int) :=
  chk (s.length ≤ 9223372036854775807) <|
  (forX (F_slices_Index_int_int_l1 s v_) s.length 0 ()).bind <| orR fun _ =>
  some ((-1))

def F_slices_Contains_int_int (s : List Int) (v_ : Int) : Option (Bool) :=
  (F_slices_Index_int_int s v_).bind fun r_1 =>
  some ((decide (0 ≤ r_1)))

def F_impl_isWord (n : Int) (word : Int) : Option (Bool) :=
  (F_impl_within n 1 5).bind fun r_1 =>
  chk (r_1 = true → (0 : Int) ≤ n) <|
  chk (r_1 = true → (0 : Int) ≤ (IntKind.u64.wrap ((shlK .u64 1 n) - 1))) <|
  (gb r_1 false (F_impl_within word 0 (IntKind.i64.wrap ((shlK .i64 1 (IntKind.u64.wrap ((shlK .u64 1 n) - 1))) - 1)))).bind fun r_2 =>
  some ((r_1 && r_2))

def F_impl_IsCodeWord (n : Int) (word : Int) : Option (Bool × Bool) :=
  (F_impl_isWord n word).bind fun r_2 =>
  bif (!r_2) then (some ((false, false))) else ((F_impl_codeWords n).bind fun r_3 =>
  (F_slices_Contains_int_int r_3 word).bind fun r_4 =>
  some ((r_4, true)))

def F_impl_ShiftBy_l2 (p : TPhasePoly) (word : Int) : (List Int × Int) → Option (Ex (List Int × Int) (TPhasePoly × Bool)) := fun (sums1, mask) =>
  chk ((0 : Int) ≤ p.Qubits) <|
  bif (decide (mask < (shlK .i64 1 p.Qubits))) then (((chk ((0 : Int) ≤ (IntKind.i64.wrap (mask - 1))) <|
  bif ((bits .and .i64 (shrK .i64 word (IntKind.i64.wrap (mask - 1))) 1) == 1) then ((F_impl_coefficients_add sums1 mask (-1)).bind fun m1 =>
  some m1) else (some sums1)) : Option (List Int)).bind fun sums2 =>
  some (.nx (sums2, (IntKind.i64.wrap (mask + 1))))) else (some (.br (sums1, mask)))
def F_impl_ShiftBy_l1 (p : TPhasePoly) : Nat → (List Int) → Option (List Int) := fun i sums =>
  (getI p.Terms (i : Int)).bind fun x =>
  (F_impl_coefficients_add sums x.Mask x.Coef).bind fun m =>
  some m
def F_impl_ShiftBy (p : TPhasePoly) (word : Int) : Option (TPhasePoly × Bool) :=
  (F_impl_IsCodeWord p.Qubits word).bind fun (r_2, r_3) =>
  (F_impl_IsValidPhasePoly p).bind fun r_4 =>
  bif (((!r_4) || (!r_3)) || (!r_2)) then (some (((TPhasePoly.mk 0 0 [] (TLinear.mk [])), false))) else (chk (p.Terms.length ≤ 9223372036854775807) <|
  (forN (F_impl_ShiftBy_l1 p) p.Terms.length 0 (List.replicate 32 0)).bind fun sums =>
  (whX (F_impl_ShiftBy_l2 p word) fuel (sums, 1)).bind <| orR fun (sums1, mask) =>
  (F_impl_coefficients_terms sums1).bind fun r_5 =>
  (F_slices_Clone_int_int p.Out.Rows).bind fun r_6 =>
  some (((TPhasePoly.mk p.Qubits p.Phase r_5 (TLinear.mk r_6)), true)))

def F_impl_ReduceT (p : TPhasePoly) : Option (TPhasePoly × Int × Bool) :=
  (F_impl_IsValidPhasePoly p).bind fun r_3 =>
  bif (!r_3) then (some (((TPhasePoly.mk 0 0 [] (TLinear.mk [])), 0, false))) else ((F_impl_oddWord p).bind fun r_4 =>
  (F_impl_nearest p.Qubits r_4).bind fun (r_5, r_6) =>
  (F_impl_ShiftBy p r_5).bind fun (r_7, r_8) =>
  some ((r_7, r_5, r_8)))

def F_spec_l1In (n : Int) (lo : Int) (hi : Int) : Option (Bool) :=
  some (((decide (lo ≤ n)) && (decide (n ≤ hi))))

def F_spec_l1All_l1 (l : List Int) (lo : Int) (hi : Int) : Nat → Unit → Option (Ex (Unit) (Bool)) := fun i _ =>
  (getI l (i : Int)).bind fun x =>
  (F_spec_l1In x lo hi).bind fun r_1 =>
  bif (!r_1) then (some (.rt false)) else (some (.nx ()))
def F_spec_l1All (l : List Int) (lo : Int) (hi : Int) : Option (Bool) :=
  chk (l.length ≤ 9223372036854775807) <|
  (forX (F_spec_l1All_l1 l lo hi) l.length 0 ()).bind <| orR fun _ =>
  some (true)

def F_spec_l12Rank_l2 (r_1 : List Int) (l : List Int) (bit : Nat) : (Int × Int) → Option (Ex (Int × Int) (List Int × Int)) := fun (at_1, i2) =>
  bif (decide (i2 < (r_1.length : Int))) then ((getI l i2).bind fun x =>
  chk ((0 : Int) ≤ (IntKind.u64.wrap (bit : Int))) <|
  bif ((bits .and .i64 (shrK .i64 x (IntKind.u64.wrap (bit : Int))) 1) == 1) then (some (.br (i2, i2))) else (some (.nx (at_1, (IntKind.i64.wrap (i2 + 1)))))) else (some (.br (at_1, i2)))
def F_spec_l12Rank_l3 (rank : Int) (bit : Nat) (x1 : Int) : Nat → (List Int) → Option (List Int) := fun i3 l2 =>
  (((gb ((i3 : Int) != rank) 0 (getI l2 (i3 : Int))).bind fun x4 =>
  chk (((i3 : Int) != rank) = true → (0 : Int) ≤ (IntKind.u64.wrap (bit : Int))) <|
  bif (((i3 : Int) != rank) && ((bits .and .i64 (shrK .i64 x4 (IntKind.u64.wrap (bit : Int))) 1) == 1)) then ((getI l2 (i3 : Int)).bind fun x5 =>
  some (l2.set (i3 : Int).toNat (bits .xor .i64 x5 x1))) else (some l2)) : Option (List Int)).bind fun l3 =>
  some l3
def F_spec_l12Rank_l1 (r_1 : List Int) : Nat → (List Int × Int) → Option (List Int × Int) := fun bit (l, rank) =>
  (((whX (F_spec_l12Rank_l2 r_1 l bit) fuel ((-1), rank)).bind <| orR fun (at_, i1) =>
  bif (decide (at_ < 0)) then (some (l, rank)) else ((getI l at_).bind fun x1 =>
  (getI l rank).bind fun x2 =>
  (getI (l.set at_.toNat x2) rank).bind fun x3 =>
  chk (r_1.length ≤ 9223372036854775807) <|
  (forN (F_spec_l12Rank_l3 rank bit x1) r_1.length 0 ((l.set at_.toNat x2).set rank.toNat x1)).bind fun l2 =>
  some (l2, (IntKind.i64.wrap (rank + 1))))) : Option (List Int × Int)).bind fun (l1, rank1) =>
  some (l1, rank1)
def F_spec_l12Rank (rows : List Int) : Option (Int) :=
  (F_spec_l1Own rows).bind fun r_1 =>
  (forN (F_spec_l12Rank_l1 r_1) 10 0 (r_1, 0)).bind fun (l, rank) =>
  some (rank)

def F_spec_l12Valid (m : TLinear) : Option (Bool) :=
  (F_spec_l1In (m.Rows.length : Int) 1 5).bind fun r_1 =>
  chk (r_1 = true → (0 : Int) ≤ (IntKind.u64.wrap (m.Rows.length : Int))) <|
  (gb r_1 false (F_spec_l1All m.Rows 0 (IntKind.i64.wrap ((shlK .i64 1 (IntKind.u64.wrap (m.Rows.length : Int))) - 1)))).bind fun r_2 =>
  (gb (r_1 && r_2) 0 (F_spec_l12Rank m.Rows)).bind fun r_3 =>
  some (((r_1 && r_2) && (r_3 == (m.Rows.length : Int))))

def F_spec_l13Valid_l1 (p : TPhasePoly) : Nat → Unit → Option (Ex (Unit) (Bool)) := fun i _ =>
  (getI p.Terms (i : Int)).bind fun x =>
  chk ((0 : Int) ≤ (IntKind.u64.wrap p.Qubits)) <|
  (F_spec_l1In x.Mask 1 (IntKind.i64.wrap ((shlK .i64 1 (IntKind.u64.wrap p.Qubits)) - 1))).bind fun r_4 =>
  (gb (!(!r_4)) false (F_spec_l1In x.Coef 1 7)).bind fun r_5 =>
  (gb ((!((!r_4) || (!r_5))) && (decide (0 < (i : Int)))) (TTerm.mk 0 0) (getI p.Terms (IntKind.i64.wrap ((i : Int) - 1)))).bind fun x1 =>
  bif (((!r_4) || (!r_5)) || ((decide (0 < (i : Int))) && (decide (x.Mask ≤ x1.Mask)))) then (some (.rt false)) else (some (.nx ()))
def F_spec_l13Valid (p : TPhasePoly) : Option (Bool) :=
  (F_spec_l1In p.Qubits 1 5).bind fun r_1 =>
  (gb (!(!r_1)) false (F_spec_l1In p.Phase 0 7)).bind fun r_2 =>
  (gb (!(((!r_1) || (!r_2)) || ((p.Out.Rows.length : Int) != p.Qubits))) false (F_spec_l12Valid p.Out)).bind fun r_3 =>
  bif ((((!r_1) || (!r_2)) || ((p.Out.Rows.length : Int) != p.Qubits)) || (!r_3)) then (some (false)) else (chk (p.Terms.length ≤ 9223372036854775807) <|
  (forX (F_spec_l13Valid_l1 p) p.Terms.length 0 ()).bind <| orR fun _ =>
  some (true))

def F_spec_l15Nearest_l1 (r_3 : List Int) (word : Int) : Nat → (Int × Int) → Option (Int × Int) := fun i (best, least) =>
  (((getI r_3 (i : Int)).bind fun x =>
  (F_spec_l1Set (bits .xor .i64 word x)).bind fun r_4 =>
  bif (decide ((r_4.length : Int) < least)) then (some (x, (r_4.length : Int))) else (some (best, least))) : Option (Int × Int)).bind fun (best1, least1) =>
  some (best1, least1)
def F_spec_l15Nearest (n : Int) (word : Int) : Option (Int × Int) :=
  (F_spec_l1Set word).bind fun r_2 =>
  (F_spec_l15Codes n).bind fun r_3 =>
  chk (r_3.length ≤ 9223372036854775807) <|
  (forN (F_spec_l15Nearest_l1 r_3 word) r_3.length 0 (0, (r_2.length : Int))).bind fun (best, least) =>
  some ((best, least))

def F_spec_l15Odd_l1 (p : TPhasePoly) : Nat → Int → Option (Int) := fun i word =>
  (getI p.Terms (i : Int)).bind fun x =>
  chk ((0 : Int) ≤ (IntKind.u64.wrap (IntKind.i64.wrap (x.Mask - 1)))) <|
  some (bits .or .i64 word (shlK .i64 (Int.tmod x.Coef 2) (IntKind.u64.wrap (IntKind.i64.wrap (x.Mask - 1)))))
def F_spec_l15Odd (p : TPhasePoly) : Option (Int) :=
  chk (p.Terms.length ≤ 9223372036854775807) <|
  (forN (F_spec_l15Odd_l1 p) p.Terms.length 0 0).bind fun word =>
  some (word)

def F_spec_l15Shift_l1 (r_2 : List Int) : Nat → (List Int) → Option (List Int) := fun i by_ =>
  (getI r_2 (i : Int)).bind fun x =>
  (getI by_ (IntKind.i64.wrap (x + 1))).bind fun x1 =>
  some (by_.set (IntKind.i64.wrap (x + 1)).toNat (IntKind.i64.wrap (x1 - 1)))
def F_spec_l15Shift (p : TPhasePoly) (word : Int) : Option (TPhasePoly) :=
  (F_spec_l13By p).bind fun r_1 =>
  (F_spec_l1Set word).bind fun r_2 =>
  chk (r_2.length ≤ 9223372036854775807) <|
  (forN (F_spec_l15Shift_l1 r_2) r_2.length 0 r_1).bind fun by_ =>
  (F_spec_l13List by_).bind fun r_3 =>
  (F_spec_l1Own p.Out.Rows).bind fun r_4 =>
  some ((TPhasePoly.mk p.Qubits p.Phase r_3 (TLinear.mk r_4)))

def F_spec_ReduceT (p : TPhasePoly) : Option (TPhasePoly × Int × Bool) :=
  (F_spec_l13Valid p).bind fun r_3 =>
  bif (!r_3) then (some (((TPhasePoly.mk 0 0 [] (TLinear.mk [])), 0, false))) else ((F_spec_l15Odd p).bind fun r_4 =>
  (F_spec_l15Nearest p.Qubits r_4).bind fun (r_5, r_6) =>
  (F_spec_l15Shift p r_5).bind fun r_7 =>
  some ((r_7, r_5, true)))

def F_spec_l1Cur_relative_l1 (p : TPhasePoly) (a : Int) : (List Int × Int) → Option (Ex (List Int × Int) (Int × Int × List Int)) := fun (by_1, m4) =>
  chk ((0 : Int) ≤ (IntKind.u64.wrap p.Qubits)) <|
  bif (decide (m4 < (shlK .i64 1 (IntKind.u64.wrap p.Qubits)))) then ((getI by_1 m4).bind fun x1 =>
  (F_spec_l13Parity (bits .and .i64 m4 a)).bind fun r_7 =>
  some (.nx ((by_1.set m4.toNat (IntKind.i64.wrap (x1 + (IntKind.i64.wrap (2 * (IntKind.i64.wrap (1 - r_7))))))), (IntKind.i64.wrap (m4 + 1))))) else (some (.br (by_1, m4)))
def F_spec_l1Cur_relative (c : Tl1Cur) (p : TPhasePoly) : Option (TPhasePoly × Tl1Cur) :=
  (F_spec_l15Codes p.Qubits).bind fun r_1 =>
  (F_spec_l1Cur_pick c (r_1.length : Int)).bind fun (r_2, m1) =>
  (getI r_1 r_2).bind fun x =>
  (F_spec_l15Shift p x).bind fun r_3 =>
  (F_spec_l13By r_3).bind fun r_4 =>
  ((bif (decide (3 ≤ p.Qubits)) then ((F_spec_l1Cur_one (Tl1Cur.mk c.code m1.at_ m1.seed) 2).bind fun (r_5, m2) =>
  bif r_5 then (((bif (decide (4 ≤ p.Qubits)) then (chk ((0 : Int) ≤ (IntKind.u64.wrap p.Qubits)) <|
  (F_spec_l1Cur_pick (Tl1Cur.mk c.code m2.at_ m2.seed) (shlK .i64 1 (IntKind.u64.wrap p.Qubits))).bind fun (r_6, m3) =>
  some (m3.at_, m3.seed, r_6)) else (some (m2.at_, m2.seed, 0))) : Option (Int × Int × Int)).bind fun (at_1, seed1, a) =>
  (whX (F_spec_l1Cur_relative_l1 p a) fuel (r_4, 1)).bind <| orR fun (by_1, m4) =>
  some (at_1, seed1, by_1)) else (some (m2.at_, m2.seed, r_4))) else (some (m1.at_, m1.seed, r_4))) : Option (Int × Int × List Int)).bind fun (at_, seed, by_) =>
  (((F_spec_l1Cur_one (Tl1Cur.mk c.code at_ seed) 3).bind fun (r_8, m5) =>
  bif r_8 then ((F_spec_l1Cur_pick (Tl1Cur.mk c.code m5.at_ m5.seed) (r_4.length : Int)).bind fun (r_9, m6) =>
  (getI by_ r_9).bind fun x2 =>
  (F_spec_l1Cur_pick (Tl1Cur.mk c.code m6.at_ m6.seed) 7).bind fun (r_10, m7) =>
  some (m7.at_, m7.seed, (by_.set r_9.toNat (IntKind.i64.wrap (x2 + (IntKind.i64.wrap (1 + r_10))))))) else (some (m5.at_, m5.seed, by_))) : Option (Int × Int × List Int)).bind fun (at_2, seed2, by_2) =>
  (F_spec_l13List by_2).bind fun r_11 =>
  (((F_spec_l1Cur_one (Tl1Cur.mk c.code at_2 seed2) 12).bind fun (r_12, m8) =>
  bif r_12 then ((F_spec_l1Cur_pick (Tl1Cur.mk c.code m8.at_ m8.seed) 8).bind fun (r_13, m9) =>
  some (m9.at_, m9.seed, r_13)) else (some (m8.at_, m8.seed, r_3.Phase))) : Option (Int × Int × Int)).bind fun (at_3, seed3, Phase) =>
  some (((TPhasePoly.mk r_3.Qubits Phase r_11 r_3.Out), (Tl1Cur.mk c.code at_3 seed3)))

def F_spec_DrawCheckReduction (code : List Int) : Option (TPhasePoly × Int × TPhasePoly) :=
  (F_spec_l1Cur_reducible (Tl1Cur.mk code 0 0)).bind fun (r_3, m) =>
  (F_spec_ReduceT r_3).bind fun (r_4, r_5, r_6) =>
  (((F_spec_l1Cur_pick (Tl1Cur.mk code m.at_ m.seed) 8).bind fun (r_7, m1) =>
  bif (r_7 == 0) then ((F_spec_l1Cur_oddWord (Tl1Cur.mk code m1.at_ m1.seed) r_3.Qubits).bind fun (r_8, m2) =>
  some (r_4.Qubits, r_4.Phase, r_4.Terms, r_4.Out.Rows, r_8)) else (bif (r_7 == 1) then ((F_spec_l15Codes r_3.Qubits).bind fun r_9 =>
  (F_spec_l1Cur_pick (Tl1Cur.mk code m1.at_ m1.seed) (r_9.length : Int)).bind fun (r_10, m3) =>
  (getI r_9 r_10).bind fun x =>
  (F_spec_l15Shift r_3 x).bind fun r_11 =>
  some (r_11.Qubits, r_11.Phase, r_11.Terms, r_11.Out.Rows, x)) else (bif (r_7 == 2) then ((F_spec_l1Cur_relative (Tl1Cur.mk code m1.at_ m1.seed) r_4).bind fun (r_12, m4) =>
  some (r_12.Qubits, r_12.Phase, r_12.Terms, r_12.Out.Rows, r_5)) else (bif (r_7 == 3) then ((F_spec_l1Cur_anyPhasePoly (Tl1Cur.mk code m1.at_ m1.seed)).bind fun (r_13, m5) =>
  some (r_13.Qubits, r_13.Phase, r_13.Terms, r_13.Out.Rows, r_5)) else (some (r_4.Qubits, r_4.Phase, r_4.Terms, r_4.Out.Rows, r_5)))))) : Option (Int × Int × List TTerm × List Int × Int)).bind fun (Qubits, Phase, Terms, Out, w_9) =>
  some ((r_3, w_9, (TPhasePoly.mk Qubits Phase Terms (TLinear.mk Out))))

def F_impl_LeastT (p : TPhasePoly) : Option (Int × Bool) :=
  (F_impl_IsValidPhasePoly p).bind fun r_2 =>
  bif (!r_2) then (some ((0, false))) else ((F_impl_oddWord p).bind fun r_3 =>
  (F_impl_nearest p.Qubits r_3).bind fun (r_4, r_5) =>
  some ((r_5, true)))

def F_slices_Equal_int_int_l1 (s1 : List Int) (s2 : List Int) : Nat → Unit → Option (Ex (Unit) (Bool)) := fun i _ =>
  (getI s1 (i : Int)).bind fun x =>
  (getI s2 (i : Int)).bind fun x1 =>
  bif (x != x1) then (some (.rt false)) else (some (.nx ()))
def F_slices_Equal_int_int (s1 : List Int) (s2 : List Int) : Option (Bool) :=
  bif ((s1.length : Int) != (s2.length : Int)) then (some (false)) else (chk (s1.length ≤ 9223372036854775807) <|
  (forX (F_slices_Equal_int_int_l1 s1 s2) s1.length 0 ()).bind <| orR fun _ =>
  some (true))

def F_slices_Equal_impl_Term_impl_Term_l1 (s1 : List TTerm) (s2 : List TTerm) : Nat → Unit → Option (Ex (Unit) (Bool)) := fun i _ =>
  (getI s1 (i : Int)).bind fun x =>
  (getI s2 (i : Int)).bind fun x1 =>
  bif (!((x.Mask == x1.Mask) && ((x.Coef == x1.Coef) && true))) then (some (.rt false)) else (some (.nx ()))
def F_slices_Equal_impl_Term_impl_Term (s1 : List TTerm) (s2 : List TTerm) : Option (Bool) :=
  bif ((s1.length : Int) != (s2.length : Int)) then (some (false)) else (chk (s1.length ≤ 9223372036854775807) <|
  (forX (F_slices_Equal_impl_Term_impl_Term_l1 s1 s2) s1.length 0 ()).bind <| orR fun _ =>
  some (true))

def F_impl_equalPolys (p : TPhasePoly) (q : TPhasePoly) : Option (Bool) :=
  (gb ((p.Qubits == q.Qubits) && (p.Phase == q.Phase)) false (F_slices_Equal_impl_Term_impl_Term p.Terms q.Terms)).bind fun r_1 =>
  (gb (((p.Qubits == q.Qubits) && (p.Phase == q.Phase)) && r_1) false (F_slices_Equal_int_int p.Out.Rows q.Out.Rows)).bind fun r_2 =>
  some (((((p.Qubits == q.Qubits) && (p.Phase == q.Phase)) && r_1) && r_2))

def F_impl_oddTerms_l1 (terms : List TTerm) : Nat → Int → Option (Int) := fun i count =>
  (getI terms (i : Int)).bind fun x =>
  some (IntKind.i64.wrap (count + (Int.tmod x.Coef 2)))
def F_impl_oddTerms (terms : List TTerm) : Option (Int) :=
  chk (terms.length ≤ 9223372036854775807) <|
  (forN (F_impl_oddTerms_l1 terms) terms.length 0 0).bind fun count =>
  some (count)

def F_impl_CheckReduction (p : TPhasePoly) (word : Int) (q : TPhasePoly) : Option (Int × Bool) :=
  (F_impl_IsValidPhasePoly p).bind fun r_2 =>
  (gb (!(!r_2)) false (F_impl_IsValidPhasePoly q)).bind fun r_3 =>
  bif ((!r_2) || (!r_3)) then (some ((0, false))) else ((F_impl_ShiftBy p word).bind fun (r_4, r_5) =>
  (F_impl_LeastT p).bind fun (r_6, r_7) =>
  bif (!r_5) then (some ((1, true))) else ((F_impl_equalPolys r_4 q).bind fun r_8 =>
  bif (!r_8) then (some ((2, true))) else ((F_impl_oddTerms q.Terms).bind fun r_9 =>
  bif (r_9 != r_6) then (some ((3, true))) else (some ((0, true))))))

def F_spec_l1Has_l1 (l : List Int) (n1 : Int) : Nat → Unit → Option (Ex (Unit) (Bool)) := fun i _ =>
  (getI l (i : Int)).bind fun x =>
  bif (x == n1) then (some (.rt true)) else (some (.nx ()))
def F_spec_l1Has (l : List Int) (n1 : Int) : Option (Bool) :=
  chk (l.length ≤ 9223372036854775807) <|
  (forX (F_spec_l1Has_l1 l n1) l.length 0 ()).bind <| orR fun _ =>
  some (false)

def F_spec_l1Same_l1 (a : List Int) (b : List Int) : Nat → Unit → Option (Ex (Unit) (Bool)) := fun i _ =>
  (getI a (i : Int)).bind fun x =>
  (getI b (i : Int)).bind fun x1 =>
  bif (x != x1) then (some (.rt false)) else (some (.nx ()))
def F_spec_l1Same (a : List Int) (b : List Int) : Option (Bool) :=
  bif ((a.length : Int) != (b.length : Int)) then (some (false)) else (chk (a.length ≤ 9223372036854775807) <|
  (forX (F_spec_l1Same_l1 a b) a.length 0 ()).bind <| orR fun _ =>
  some (true))

def F_spec_l15SameTerms_l1 (a : List TTerm) (b : List TTerm) : Nat → Unit → Option (Ex (Unit) (Bool)) := fun i _ =>
  (getI a (i : Int)).bind fun x =>
  (getI b (i : Int)).bind fun x1 =>
  bif (!((x.Mask == x1.Mask) && ((x.Coef == x1.Coef) && true))) then (some (.rt false)) else (some (.nx ()))
def F_spec_l15SameTerms (a : List TTerm) (b : List TTerm) : Option (Bool) :=
  bif ((a.length : Int) != (b.length : Int)) then (some (false)) else (chk (a.length ≤ 9223372036854775807) <|
  (forX (F_spec_l15SameTerms_l1 a b) a.length 0 ()).bind <| orR fun _ =>
  some (true))

def F_spec_l15Same (p : TPhasePoly) (q : TPhasePoly) : Option (Bool) :=
  (gb ((p.Qubits == q.Qubits) && (p.Phase == q.Phase)) false (F_spec_l1Same p.Out.Rows q.Out.Rows)).bind fun r_1 =>
  (gb (((p.Qubits == q.Qubits) && (p.Phase == q.Phase)) && r_1) false (F_spec_l15SameTerms p.Terms q.Terms)).bind fun r_2 =>
  some (((((p.Qubits == q.Qubits) && (p.Phase == q.Phase)) && r_1) && r_2))

def F_spec_l13Odd_l1 (p : TPhasePoly) : Nat → Int → Option (Int) := fun i n2 =>
  (getI p.Terms (i : Int)).bind fun x =>
  some (IntKind.i64.wrap (n2 + (Int.tmod x.Coef 2)))
def F_spec_l13Odd (p : TPhasePoly) : Option (Int) :=
  chk (p.Terms.length ≤ 9223372036854775807) <|
  (forN (F_spec_l13Odd_l1 p) p.Terms.length 0 0).bind fun n2 =>
  some (n2)

def F_spec_l15Least (p : TPhasePoly) : Option (Int) :=
  (F_spec_l15Odd p).bind fun r_1 =>
  (F_spec_l15Nearest p.Qubits r_1).bind fun (r_2, r_3) =>
  some (r_3)

def F_spec_CheckReduction (p : TPhasePoly) (word : Int) (q : TPhasePoly) : Option (Int × Bool) :=
  (F_spec_l13Valid p).bind fun r_2 =>
  (gb (!(!r_2)) false (F_spec_l13Valid q)).bind fun r_3 =>
  bif ((!r_2) || (!r_3)) then (some ((0, false))) else ((F_spec_l15Codes p.Qubits).bind fun r_4 =>
  (F_spec_l1Has r_4 word).bind fun r_5 =>
  bif (!r_5) then (some ((1, true))) else ((F_spec_l15Shift p word).bind fun r_6 =>
  (F_spec_l15Same r_6 q).bind fun r_7 =>
  bif (!r_7) then (some ((2, true))) else ((F_spec_l13Odd q).bind fun r_8 =>
  (F_spec_l15Least p).bind fun r_9 =>
  bif (r_8 != r_9) then (some ((3, true))) else (some ((0, true))))))

def F_impl_MonomialsOf_l2 (p : TPhasePoly) (mask : Int) (x : Int) : Nat → (List Int) → Option (List Int) := fun i sums2 =>
  (((getI p.Terms (i : Int)).bind fun x1 =>
  bif ((bits .and .i64 x1.Mask mask) == mask) then ((F_impl_coefficients_add sums2 mask (IntKind.i64.wrap (x * x1.Coef))).bind fun m =>
  some m) else (some sums2)) : Option (List Int)).bind fun sums3 =>
  some sums3
def F_impl_MonomialsOf_l1 (p : TPhasePoly) : (List Int × Int) → Option (Ex (List Int × Int) (List TTerm × Bool)) := fun (sums, mask) =>
  chk ((0 : Int) ≤ p.Qubits) <|
  bif (decide (mask < (shlK .i64 1 p.Qubits))) then ((((F_impl_bitsIn mask).bind fun r_3 =>
  bif (decide (3 < r_3)) then (some sums) else ((F_impl_bitsIn mask).bind fun r_4 =>
  (getI ([0, 1, (-2), 4] : List Int) r_4).bind fun x =>
  chk (p.Terms.length ≤ 9223372036854775807) <|
  (forN (F_impl_MonomialsOf_l2 p mask x) p.Terms.length 0 sums).bind fun sums2 =>
  some sums2)) : Option (List Int)).bind fun sums1 =>
  some (.nx (sums1, (IntKind.i64.wrap (mask + 1))))) else (some (.br (sums, mask)))
def F_impl_MonomialsOf (p : TPhasePoly) : Option (List TTerm × Bool) :=
  (F_impl_IsValidPhasePoly p).bind fun r_2 =>
  bif (!r_2) then (some (([], false))) else ((whX (F_impl_MonomialsOf_l1 p) fuel ((List.replicate 32 0), 1)).bind <| orR fun (sums, mask) =>
  (F_impl_coefficients_terms sums).bind fun r_5 =>
  some ((r_5, true)))

def F_impl_EqualPhases (p : TPhasePoly) (q : TPhasePoly) : Option (Bool × Bool) :=
  (F_impl_IsValidPhasePoly p).bind fun r_2 =>
  (gb (!(!r_2)) false (F_impl_IsValidPhasePoly q)).bind fun r_3 =>
  bif (((!r_2) || (!r_3)) || (p.Qubits != q.Qubits)) then (some ((false, false))) else ((F_impl_MonomialsOf p).bind fun (r_4, r_5) =>
  (F_impl_MonomialsOf q).bind fun (r_6, r_7) =>
  (gb (p.Phase == q.Phase) false (F_slices_Equal_int_int p.Out.Rows q.Out.Rows)).bind fun r_8 =>
  (gb ((p.Phase == q.Phase) && r_8) false (F_slices_Equal_impl_Term_impl_Term r_4 r_6)).bind fun r_9 =>
  some (((((p.Phase == q.Phase) && r_8) && r_9), true)))

def F_impl_OddTerms (p : TPhasePoly) : Option (Int × Bool) :=
  (F_impl_IsValidPhasePoly p).bind fun r_2 =>
  bif (!r_2) then (some ((0, false))) else ((F_impl_oddTerms p.Terms).bind fun r_3 =>
  some ((r_3, true)))

def F_laws_FnReductions (code : List Int) (more : List Int) : Option (Bool) :=
  bif (decide (1048576 < (IntKind.i64.wrap ((code.length : Int) + (more.length : Int))))) then (some (true)) else ((F_spec_DrawReduceT code).bind fun r_1 =>
  (F_impl_ReduceT r_1).bind fun (r_2, r_3, r_4) =>
  (F_spec_ReduceT r_1).bind fun (r_5, r_6, r_7) =>
  (F_spec_DrawCheckReduction more).bind fun (r_8, r_9, r_10) =>
  (F_impl_CheckReduction r_8 r_9 r_10).bind fun (r_11, r_12) =>
  (F_spec_CheckReduction r_8 r_9 r_10).bind fun (r_13, r_14) =>
  (gb (!((!(r_4 == r_7)) || (r_3 != r_6))) false (F_laws_qPoly r_2 r_5)).bind fun r_15 =>
  bif (((((!(r_4 == r_7)) || (r_3 != r_6)) || (!r_15)) || (!(r_12 == r_14))) || (r_11 != r_13)) then (some (false)) else (((bif (r_12 && (r_11 == 0)) then ((F_impl_EqualPhases r_8 r_10).bind fun (r_16, r_17) =>
  bif ((!r_16) || (!r_17)) then (some (.inr false)) else (some (.inl ()))) else (some (.inl ()))) : Option ((Unit) ⊕ (Bool))).bind <| orR fun _ =>
  bif (!r_4) then (some (true)) else ((F_impl_EqualPhases r_1 r_2).bind fun (r_18, r_19) =>
  (F_impl_OddTerms r_2).bind fun (r_20, r_21) =>
  (F_impl_LeastT r_1).bind fun (r_22, r_23) =>
  (F_impl_OddTerms r_1).bind fun (r_24, r_25) =>
  (F_impl_CheckReduction r_1 r_3 r_2).bind fun (r_26, r_27) =>
  some (((((((((r_18 && r_19) && r_21) && r_23) && r_25) && r_27) && (r_20 == r_22)) && (decide (r_20 ≤ r_24))) && (r_26 == 0))))))
end Go.VK
