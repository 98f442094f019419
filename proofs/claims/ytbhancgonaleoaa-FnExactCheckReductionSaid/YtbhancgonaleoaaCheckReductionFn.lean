/- What each Go function computes, by program. -/
import Derived.Test.YtbhancgonaleoaaCheckReductionTy
set_option linter.unusedVariables false
namespace Go.VK
open Go.RowKit
def F_laws_szTermS (a : List TTerm) (left : Int) : Option (Int) :=
  bif (decide ((IntKind.i64.wrap (left - (a.length : Int))) < 0)) then (some ((-1))) else (some ((IntKind.i64.wrap (left - (a.length : Int)))))

def F_laws_szIntS (a : List Int) (left : Int) : Option (Int) :=
  bif (decide ((IntKind.i64.wrap (left - (a.length : Int))) < 0)) then (some ((-1))) else (some ((IntKind.i64.wrap (left - (a.length : Int)))))

def F_laws_szLinear (a : TLinear) (left : Int) : Option (Int) :=
  (F_laws_szIntS a.Rows left).bind fun r_1 =>
  bif (decide (r_1 < 0)) then (some ((-1))) else (some (r_1))

def F_laws_szPhasePoly (a : TPhasePoly) (left : Int) : Option (Int) :=
  (F_laws_szTermS a.Terms left).bind fun r_1 =>
  bif (decide (r_1 < 0)) then (some ((-1))) else ((F_laws_szLinear a.Out r_1).bind fun r_2 =>
  bif (decide (r_2 < 0)) then (some ((-1))) else (some (r_2)))

def F_laws_toTerm (a : TTerm) : Option (TTerm) :=
  some (a)

def F_laws_toTermS_l1 (a : List TTerm) : Nat → (List TTerm) → Option (List TTerm) := fun i1 out =>
  (getI a (i1 : Int)).bind fun x =>
  (F_laws_toTerm x).bind fun r_1 =>
  (getI out (i1 : Int)).bind fun x1 =>
  some (out.set (i1 : Int).toNat r_1)
def F_laws_toTermS (a : List TTerm) : Option (List TTerm) :=
  chk ((0 : Int) ≤ (a.length : Int) ∧ (a.length : Int) ≤ 1099511627776) <|
  chk (a.length ≤ 9223372036854775807) <|
  (forN (F_laws_toTermS_l1 a) a.length 0 (List.replicate a.length (TTerm.mk 0 0))).bind fun out =>
  some (out)

def F_laws_toIntS_l1 (a : List Int) : Nat → (List Int) → Option (List Int) := fun i1 out =>
  (getI a (i1 : Int)).bind fun x =>
  (getI out (i1 : Int)).bind fun x1 =>
  some (out.set (i1 : Int).toNat x)
def F_laws_toIntS (a : List Int) : Option (List Int) :=
  chk ((0 : Int) ≤ (a.length : Int) ∧ (a.length : Int) ≤ 1099511627776) <|
  chk (a.length ≤ 9223372036854775807) <|
  (forN (F_laws_toIntS_l1 a) a.length 0 (List.replicate a.length 0)).bind fun out =>
  some (out)

def F_laws_toLinear (a : TLinear) : Option (TLinear) :=
  (F_laws_toIntS a.Rows).bind fun r_1 =>
  some ((TLinear.mk r_1))

def F_laws_toPhasePoly (a : TPhasePoly) : Option (TPhasePoly) :=
  (F_laws_toTermS a.Terms).bind fun r_1 =>
  (F_laws_toLinear a.Out).bind fun r_2 =>
  some ((TPhasePoly.mk a.Qubits a.Phase r_1 r_2))

def F_laws_eqTerm (a : TTerm) (b : TTerm) : Option (Bool) :=
  bif (a.Mask != b.Mask) then (some (false)) else (bif (a.Coef != b.Coef) then (some (false)) else (some (true)))

def F_laws_eqTermS_l1 (a : List TTerm) (b : List TTerm) : Nat → Unit → Option (Ex (Unit) (Bool)) := fun i1 _ =>
  (getI a (i1 : Int)).bind fun x =>
  (getI b (i1 : Int)).bind fun x1 =>
  (F_laws_eqTerm x x1).bind fun r_1 =>
  bif (!r_1) then (some (.rt false)) else (some (.nx ()))
def F_laws_eqTermS (a : List TTerm) (b : List TTerm) : Option (Bool) :=
  bif ((a.length : Int) != (b.length : Int)) then (some (false)) else (chk (a.length ≤ 9223372036854775807) <|
  (forX (F_laws_eqTermS_l1 a b) a.length 0 ()).bind <| orR fun _ =>
  some (true))

def F_laws_eqIntS_l1 (a : List Int) (b : List Int) : Nat → Unit → Option (Ex (Unit) (Bool)) := fun i1 _ =>
  (getI a (i1 : Int)).bind fun x =>
  (getI b (i1 : Int)).bind fun x1 =>
  bif (x != x1) then (some (.rt false)) else (some (.nx ()))
def F_laws_eqIntS (a : List Int) (b : List Int) : Option (Bool) :=
  bif ((a.length : Int) != (b.length : Int)) then (some (false)) else (chk (a.length ≤ 9223372036854775807) <|
  (forX (F_laws_eqIntS_l1 a b) a.length 0 ()).bind <| orR fun _ =>
  some (true))

def F_laws_eqLinear (a : TLinear) (b : TLinear) : Option (Bool) :=
  (F_laws_eqIntS a.Rows b.Rows).bind fun r_1 =>
  bif (!r_1) then (some (false)) else (some (true))

def F_laws_eqPhasePoly (a : TPhasePoly) (b : TPhasePoly) : Option (Bool) :=
  bif (a.Qubits != b.Qubits) then (some (false)) else (bif (a.Phase != b.Phase) then (some (false)) else ((F_laws_eqTermS a.Terms b.Terms).bind fun r_1 =>
  bif (!r_1) then (some (false)) else ((F_laws_eqLinear a.Out b.Out).bind fun r_2 =>
  bif (!r_2) then (some (false)) else (some (true)))))

def F_spec_l1In (n : Int) (lo : Int) (hi : Int) : Option (Bool) :=
  some (((decide (lo ≤ n)) && (decide (n ≤ hi))))

def F_spec_l1All_l1 (l : List Int) (lo : Int) (hi : Int) : Nat → Unit → Option (Ex (Unit) (Bool)) := fun i _ =>
  (getI l (i : Int)).bind fun x =>
  (F_spec_l1In x lo hi).bind fun r_1 =>
  bif (!r_1) then (some (.rt false)) else (some (.nx ()))
def F_spec_l1All (l : List Int) (lo : Int) (hi : Int) : Option (Bool) :=
  chk (l.length ≤ 9223372036854775807) <|
  (forX (F_spec_l1All_l1 l lo hi) l.length 0 ()).bind <| orR fun _ =>
  some (true)

def F_spec_l1Own (l : List Int) : Option (List Int) :=
  chk (0 + l.length ≤ 1099511627776) <|
  some (l)

def F_spec_l12Rank_l2 (r_1 : List Int) (l : List Int) (bit : Nat) : (Int × Int) → Option (Ex (Int × Int) (List Int × Int)) := fun (at_1, i2) =>
  bif (decide (i2 < (r_1.length : Int))) then ((getI l i2).bind fun x =>
  chk ((0 : Int) ≤ (IntKind.u64.wrap (bit : Int))) <|
  bif ((bits .and .i64 (shrK .i64 x (IntKind.u64.wrap (bit : Int))) 1) == 1) then (some (.br (i2, i2))) else (some (.nx (at_1, (IntKind.i64.wrap (i2 + 1)))))) else (some (.br (at_1, i2)))
def F_spec_l12Rank_l3 (rank : Int) (bit : Nat) (x1 : Int) : Nat → (List Int) → Option (List Int) := fun i3 l2 =>
  (((gb ((i3 : Int) != rank) 0 (getI l2 (i3 : Int))).bind fun x4 =>
  chk (((i3 : Int) != rank) = true → (0 : Int) ≤ (IntKind.u64.wrap (bit : Int))) <|
  bif (((i3 : Int) != rank) && ((bits .and .i64 (shrK .i64 x4 (IntKind.u64.wrap (bit : Int))) 1) == 1)) then ((getI l2 (i3 : Int)).bind fun x5 =>
  some (l2.set (i3 : Int).toNat (bits .xor .i64 x5 x1))) else (some l2)) : Option (List Int)).bind fun l3 =>
  some l3
def F_spec_l12Rank_l1 (r_1 : List Int) : Nat → (List Int × Int) → Option (List Int × Int) := fun bit (l, rank) =>
  (((whX (F_spec_l12Rank_l2 r_1 l bit) fuel ((-1), rank)).bind <| orR fun (at_, i1) =>
  bif (decide (at_ < 0)) then (some (l, rank)) else ((getI l at_).bind fun x1 =>
  (getI l rank).bind fun x2 =>
  (getI (l.set at_.toNat x2) rank).bind fun x3 =>
  chk (r_1.length ≤ 9223372036854775807) <|
  (forN (F_spec_l12Rank_l3 rank bit x1) r_1.length 0 ((l.set at_.toNat x2).set rank.toNat x1)).bind fun l2 =>
  some (l2, (IntKind.i64.wrap (rank + 1))))) : Option (List Int × Int)).bind fun (l1, rank1) =>
  some (l1, rank1)
def F_spec_l12Rank (rows : List Int) : Option (Int) :=
  (F_spec_l1Own rows).bind fun r_1 =>
  (forN (F_spec_l12Rank_l1 r_1) 10 0 (r_1, 0)).bind fun (l, rank) =>
  some (rank)

def F_spec_l12Valid (m : TLinear) : Option (Bool) :=
  (F_spec_l1In (m.Rows.length : Int) 1 5).bind fun r_1 =>
  chk (r_1 = true → (0 : Int) ≤ (IntKind.u64.wrap (m.Rows.length : Int))) <|
  (gb r_1 false (F_spec_l1All m.Rows 0 (IntKind.i64.wrap ((shlK .i64 1 (IntKind.u64.wrap (m.Rows.length : Int))) - 1)))).bind fun r_2 =>
  (gb (r_1 && r_2) 0 (F_spec_l12Rank m.Rows)).bind fun r_3 =>
  some (((r_1 && r_2) && (r_3 == (m.Rows.length : Int))))

def F_spec_l13Valid_l1 (p : TPhasePoly) : Nat → Unit → Option (Ex (Unit) (Bool)) := fun i _ =>
  (getI p.Terms (i : Int)).bind fun x =>
  chk ((0 : Int) ≤ (IntKind.u64.wrap p.Qubits)) <|
  (F_spec_l1In x.Mask 1 (IntKind.i64.wrap ((shlK .i64 1 (IntKind.u64.wrap p.Qubits)) - 1))).bind fun r_4 =>
  (gb (!(!r_4)) false (F_spec_l1In x.Coef 1 7)).bind fun r_5 =>
  (gb ((!((!r_4) || (!r_5))) && (decide (0 < (i : Int)))) (TTerm.mk 0 0) (getI p.Terms (IntKind.i64.wrap ((i : Int) - 1)))).bind fun x1 =>
  bif (((!r_4) || (!r_5)) || ((decide (0 < (i : Int))) && (decide (x.Mask ≤ x1.Mask)))) then (some (.rt false)) else (some (.nx ()))
def F_spec_l13Valid (p : TPhasePoly) : Option (Bool) :=
  (F_spec_l1In p.Qubits 1 5).bind fun r_1 =>
  (gb (!(!r_1)) false (F_spec_l1In p.Phase 0 7)).bind fun r_2 =>
  (gb (!(((!r_1) || (!r_2)) || ((p.Out.Rows.length : Int) != p.Qubits))) false (F_spec_l12Valid p.Out)).bind fun r_3 =>
  bif ((((!r_1) || (!r_2)) || ((p.Out.Rows.length : Int) != p.Qubits)) || (!r_3)) then (some (false)) else (chk (p.Terms.length ≤ 9223372036854775807) <|
  (forX (F_spec_l13Valid_l1 p) p.Terms.length 0 ()).bind <| orR fun _ =>
  some (true))

def F_spec_l1Has_l1 (l : List Int) (n1 : Int) : Nat → Unit → Option (Ex (Unit) (Bool)) := fun i _ =>
  (getI l (i : Int)).bind fun x =>
  bif (x == n1) then (some (.rt true)) else (some (.nx ()))
def F_spec_l1Has (l : List Int) (n1 : Int) : Option (Bool) :=
  chk (l.length ≤ 9223372036854775807) <|
  (forX (F_spec_l1Has_l1 l n1) l.length 0 ()).bind <| orR fun _ =>
  some (false)

def F_spec_l1Put_l1 (l : List Int) (n1 : Int) : Int → Option (Ex (Int) (List Int)) := fun k_ =>
  (gb (decide (k_ < (l.length : Int))) 0 (getI l k_)).bind fun x =>
  bif ((decide (k_ < (l.length : Int))) && (decide (x < n1))) then (some (.nx (IntKind.i64.wrap (k_ + 1)))) else (some (.br k_))
def F_spec_l1Put (l : List Int) (n1 : Int) : Option (List Int) :=
  (whX (F_spec_l1Put_l1 l n1) fuel 0).bind <| orR fun k_ =>
  (gb (decide (k_ < (l.length : Int))) 0 (getI l k_)).bind fun x1 =>
  bif ((decide (k_ < (l.length : Int))) && (x1 == n1)) then (some (l)) else (chk ((0 : Int) ≤ k_ ∧ k_ ≤ (l.length : Int)) <|
  chk (0 + k_.toNat ≤ 1099511627776) <|
  chk (((List.take k_.toNat l).length) + 1 ≤ 1099511627776) <|
  chk ((0 : Int) ≤ k_ ∧ k_ ≤ (l.length : Int)) <|
  chk ((((List.take k_.toNat l) ++ [n1]).length) + (l.length - k_.toNat) ≤ 1099511627776) <|
  some ((((List.take k_.toNat l) ++ [n1]) ++ (List.drop k_.toNat l))))

def F_spec_l1Set_l1 (row : Int) : (List Int × Int) → Option (Ex (List Int × Int) (List Int)) := fun (out, k_) =>
  chk ((0 : Int) ≤ (IntKind.u64.wrap k_)) <|
  bif (decide (0 < (shrK .i64 row (IntKind.u64.wrap k_)))) then (((chk ((0 : Int) ≤ (IntKind.u64.wrap k_)) <|
  bif ((bits .and .i64 (shrK .i64 row (IntKind.u64.wrap k_)) 1) == 1) then (chk (out.length + 1 ≤ 1099511627776) <|
  some (out ++ [k_])) else (some out)) : Option (List Int)).bind fun out1 =>
  some (.nx (out1, (IntKind.i64.wrap (k_ + 1))))) else (some (.br (out, k_)))
def F_spec_l1Set (row : Int) : Option (List Int) :=
  (whX (F_spec_l1Set_l1 row) fuel ([], 0)).bind <| orR fun (out, k_) =>
  some (out)

def F_spec_l13Parity (n : Int) : Option (Int) :=
  (F_spec_l1Set n).bind fun r_1 =>
  some ((Int.tmod (r_1.length : Int) 2))

def F_spec_l15Affine_l1 (n : Int) (a : Int) (turned : Int) : (Int × Int) → Option (Ex (Int × Int) (Int)) := fun (word, m) =>
  chk ((0 : Int) ≤ (IntKind.u64.wrap n)) <|
  bif (decide (m < (shlK .i64 1 (IntKind.u64.wrap n)))) then ((F_spec_l13Parity (bits .and .i64 m a)).bind fun r_1 =>
  chk ((0 : Int) ≤ (IntKind.u64.wrap (IntKind.i64.wrap (m - 1)))) <|
  some (.nx ((bits .or .i64 word (shlK .i64 (bits .xor .i64 r_1 turned) (IntKind.u64.wrap (IntKind.i64.wrap (m - 1))))), (IntKind.i64.wrap (m + 1))))) else (some (.br (word, m)))
def F_spec_l15Affine (n : Int) (a : Int) (turned : Int) : Option (Int) :=
  (whX (F_spec_l15Affine_l1 n a turned) fuel (0, 1)).bind <| orR fun (word, m) =>
  some (word)

def F_spec_l15Codes_l1 (n : Int) : (List Int × Int) → Option (Ex (List Int × Int) (List Int)) := fun (out1, a) =>
  bif ((n == 5) && (decide (a < 32))) then ((F_spec_l15Affine n a 0).bind fun r_3 =>
  (F_spec_l1Put out1 r_3).bind fun r_4 =>
  (F_spec_l15Affine n a 1).bind fun r_5 =>
  (F_spec_l1Put r_4 r_5).bind fun r_6 =>
  some (.nx (r_6, (IntKind.i64.wrap (a + 1))))) else (some (.br (out1, a)))
def F_spec_l15Codes (n : Int) : Option (List Int) :=
  ((bif (decide (4 ≤ n)) then ((F_spec_l15Affine n 0 1).bind fun r_1 =>
  (F_spec_l1Put [0] r_1).bind fun r_2 =>
  some r_2) else (some [0])) : Option (List Int)).bind fun out =>
  (whX (F_spec_l15Codes_l1 n) fuel (out, 1)).bind <| orR fun (out1, a) =>
  some (out1)

def F_spec_l13By_l1 (p : TPhasePoly) : Nat → (List Int) → Option (List Int) := fun i by_ =>
  (getI p.Terms (i : Int)).bind fun x =>
  (getI by_ x.Mask).bind fun x1 =>
  some (by_.set x.Mask.toNat x.Coef)
def F_spec_l13By (p : TPhasePoly) : Option (List Int) :=
  chk ((0 : Int) ≤ (IntKind.u64.wrap p.Qubits)) <|
  chk ((0 : Int) ≤ (shlK .i64 1 (IntKind.u64.wrap p.Qubits)) ∧ (shlK .i64 1 (IntKind.u64.wrap p.Qubits)) ≤ 1099511627776) <|
  chk (p.Terms.length ≤ 9223372036854775807) <|
  (forN (F_spec_l13By_l1 p) p.Terms.length 0 (List.replicate ((shlK .i64 1 (IntKind.u64.wrap p.Qubits)).toNat) 0)).bind fun by_ =>
  some (by_)

def F_spec_l13List_l1 (by_ : List Int) : Nat → (List TTerm) → Option (List TTerm) := fun i out =>
  (((getI by_ (i : Int)).bind fun x =>
  bif ((decide (0 < (i : Int))) && (decide (0 < (Int.tmod (IntKind.i64.wrap ((Int.tmod x 8) + 8)) 8)))) then (chk (out.length + 1 ≤ 1099511627776) <|
  some (out ++ [(TTerm.mk (i : Int) (Int.tmod (IntKind.i64.wrap ((Int.tmod x 8) + 8)) 8))])) else (some out)) : Option (List TTerm)).bind fun out1 =>
  some out1
def F_spec_l13List (by_ : List Int) : Option (List TTerm) :=
  chk (by_.length ≤ 9223372036854775807) <|
  (forN (F_spec_l13List_l1 by_) by_.length 0 []).bind fun out =>
  some (out)

def F_spec_l15Shift_l1 (r_2 : List Int) : Nat → (List Int) → Option (List Int) := fun i by_ =>
  (getI r_2 (i : Int)).bind fun x =>
  (getI by_ (IntKind.i64.wrap (x + 1))).bind fun x1 =>
  some (by_.set (IntKind.i64.wrap (x + 1)).toNat (IntKind.i64.wrap (x1 - 1)))
def F_spec_l15Shift (p : TPhasePoly) (word : Int) : Option (TPhasePoly) :=
  (F_spec_l13By p).bind fun r_1 =>
  (F_spec_l1Set word).bind fun r_2 =>
  chk (r_2.length ≤ 9223372036854775807) <|
  (forN (F_spec_l15Shift_l1 r_2) r_2.length 0 r_1).bind fun by_ =>
  (F_spec_l13List by_).bind fun r_3 =>
  (F_spec_l1Own p.Out.Rows).bind fun r_4 =>
  some ((TPhasePoly.mk p.Qubits p.Phase r_3 (TLinear.mk r_4)))

def F_spec_l1Same_l1 (a : List Int) (b : List Int) : Nat → Unit → Option (Ex (Unit) (Bool)) := fun i _ =>
  (getI a (i : Int)).bind fun x =>
  (getI b (i : Int)).bind fun x1 =>
  bif (x != x1) then (some (.rt false)) else (some (.nx ()))
def F_spec_l1Same (a : List Int) (b : List Int) : Option (Bool) :=
  bif ((a.length : Int) != (b.length : Int)) then (some (false)) else (chk (a.length ≤ 9223372036854775807) <|
  (forX (F_spec_l1Same_l1 a b) a.length 0 ()).bind <| orR fun _ =>
  some (true))

def F_spec_l15SameTerms_l1 (a : List TTerm) (b : List TTerm) : Nat → Unit → Option (Ex (Unit) (Bool)) := fun i _ =>
  (getI a (i : Int)).bind fun x =>
  (getI b (i : Int)).bind fun x1 =>
  bif (!((x.Mask == x1.Mask) && ((x.Coef == x1.Coef) && true))) then (some (.rt false)) else (some (.nx ()))
def F_spec_l15SameTerms (a : List TTerm) (b : List TTerm) : Option (Bool) :=
  bif ((a.length : Int) != (b.length : Int)) then (some (false)) else (chk (a.length ≤ 9223372036854775807) <|
  (forX (F_spec_l15SameTerms_l1 a b) a.length 0 ()).bind <| orR fun _ =>
  some (true))

def F_spec_l15Same (p : TPhasePoly) (q : TPhasePoly) : Option (Bool) :=
  (gb ((p.Qubits == q.Qubits) && (p.Phase == q.Phase)) false (F_spec_l1Same p.Out.Rows q.Out.Rows)).bind fun r_1 =>
  (gb (((p.Qubits == q.Qubits) && (p.Phase == q.Phase)) && r_1) false (F_spec_l15SameTerms p.Terms q.Terms)).bind fun r_2 =>
  some (((((p.Qubits == q.Qubits) && (p.Phase == q.Phase)) && r_1) && r_2))

def F_spec_l13Odd_l1 (p : TPhasePoly) : Nat → Int → Option (Int) := fun i n2 =>
  (getI p.Terms (i : Int)).bind fun x =>
  some (IntKind.i64.wrap (n2 + (Int.tmod x.Coef 2)))
def F_spec_l13Odd (p : TPhasePoly) : Option (Int) :=
  chk (p.Terms.length ≤ 9223372036854775807) <|
  (forN (F_spec_l13Odd_l1 p) p.Terms.length 0 0).bind fun n2 =>
  some (n2)

def F_spec_l15Nearest_l1 (r_3 : List Int) (word : Int) : Nat → (Int × Int) → Option (Int × Int) := fun i (best, least) =>
  (((getI r_3 (i : Int)).bind fun x =>
  (F_spec_l1Set (bits .xor .i64 word x)).bind fun r_4 =>
  bif (decide ((r_4.length : Int) < least)) then (some (x, (r_4.length : Int))) else (some (best, least))) : Option (Int × Int)).bind fun (best1, least1) =>
  some (best1, least1)
def F_spec_l15Nearest (n : Int) (word : Int) : Option (Int × Int) :=
  (F_spec_l1Set word).bind fun r_2 =>
  (F_spec_l15Codes n).bind fun r_3 =>
  chk (r_3.length ≤ 9223372036854775807) <|
  (forN (F_spec_l15Nearest_l1 r_3 word) r_3.length 0 (0, (r_2.length : Int))).bind fun (best, least) =>
  some ((best, least))

def F_spec_l15Odd_l1 (p : TPhasePoly) : Nat → Int → Option (Int) := fun i word =>
  (getI p.Terms (i : Int)).bind fun x =>
  chk ((0 : Int) ≤ (IntKind.u64.wrap (IntKind.i64.wrap (x.Mask - 1)))) <|
  some (bits .or .i64 word (shlK .i64 (Int.tmod x.Coef 2) (IntKind.u64.wrap (IntKind.i64.wrap (x.Mask - 1)))))
def F_spec_l15Odd (p : TPhasePoly) : Option (Int) :=
  chk (p.Terms.length ≤ 9223372036854775807) <|
  (forN (F_spec_l15Odd_l1 p) p.Terms.length 0 0).bind fun word =>
  some (word)

def F_spec_l15Least (p : TPhasePoly) : Option (Int) :=
  (F_spec_l15Odd p).bind fun r_1 =>
  (F_spec_l15Nearest p.Qubits r_1).bind fun (r_2, r_3) =>
  some (r_3)

def F_spec_CheckReduction (p : TPhasePoly) (word : Int) (q : TPhasePoly) : Option (Int × Bool) :=
  (F_spec_l13Valid p).bind fun r_2 =>
  (gb (!(!r_2)) false (F_spec_l13Valid q)).bind fun r_3 =>
  bif ((!r_2) || (!r_3)) then (some ((0, false))) else ((F_spec_l15Codes p.Qubits).bind fun r_4 =>
  (F_spec_l1Has r_4 word).bind fun r_5 =>
  bif (!r_5) then (some ((1, true))) else ((F_spec_l15Shift p word).bind fun r_6 =>
  (F_spec_l15Same r_6 q).bind fun r_7 =>
  bif (!r_7) then (some ((2, true))) else ((F_spec_l13Odd q).bind fun r_8 =>
  (F_spec_l15Least p).bind fun r_9 =>
  bif (r_8 != r_9) then (some ((3, true))) else (some ((0, true))))))

def F_impl_within (n : Int) (low : Int) (high : Int) : Option (Bool) :=
  some (((decide (low ≤ n)) && (decide (n ≤ high))))

def F_impl_isWord (n : Int) (word : Int) : Option (Bool) :=
  (F_impl_within n 1 5).bind fun r_1 =>
  chk (r_1 = true → (0 : Int) ≤ n) <|
  chk (r_1 = true → (0 : Int) ≤ (IntKind.u64.wrap ((shlK .u64 1 n) - 1))) <|
  (gb r_1 false (F_impl_within word 0 (IntKind.i64.wrap ((shlK .i64 1 (IntKind.u64.wrap ((shlK .u64 1 n) - 1))) - 1)))).bind fun r_2 =>
  some ((r_1 && r_2))

def F_slices_Index_int_int_l1 (s : List Int) (v_ : Int) : Nat → Unit → Option (Ex (Unit) (Int)) := fun i _ =>
  (getI s (i : Int)).bind fun x =>
  bif (v_ == x) then (some (.rt (i : Int))) else (some (.nx ()))
def F_slices_Index_int_int (s : List Int) (v_ : Int) : Option (Int) :=
  chk (s.length ≤ 9223372036854775807) <|
  (forX (F_slices_Index_int_int_l1 s v_) s.length 0 ()).bind <| orR fun _ =>
  some ((-1))

def F_slices_Contains_int_int (s : List Int) (v_ : Int) : Option (Bool) :=
  (F_slices_Index_int_int s v_).bind fun r_1 =>
  some ((decide (0 ≤ r_1)))

def F_slices_Clone_int_int (s : List Int) : Option (List Int) :=
  chk (0 + s.length ≤ 1099511627776) <|
  some (s)

def F_math_bits_OnesCount64 (x : Int) : Option (Int) :=
  some ((bits .and .i64 (IntKind.i64.wrap (IntKind.u64.wrap ((IntKind.u64.wrap ((IntKind.u64.wrap ((bits .and .u64 (IntKind.u64.wrap ((shrK .u64 (IntKind.u64.wrap ((bits .and .u64 (shrK .u64 (IntKind.u64.wrap ((bits .and .u64 (shrK .u64 x 1) 6148914691236517205) + (bits .and .u64 x 6148914691236517205))) 2) 3689348814741910323) + (bits .and .u64 (IntKind.u64.wrap ((bits .and .u64 (shrK .u64 x 1) 6148914691236517205) + (bits .and .u64 x 6148914691236517205))) 3689348814741910323))) 4) + (IntKind.u64.wrap ((bits .and .u64 (shrK .u64 (IntKind.u64.wrap ((bits .and .u64 (shrK .u64 x 1) 6148914691236517205) + (bits .and .u64 x 6148914691236517205))) 2) 3689348814741910323) + (bits .and .u64 (IntKind.u64.wrap ((bits .and .u64 (shrK .u64 x 1) 6148914691236517205) + (bits .and .u64 x 6148914691236517205))) 3689348814741910323))))) 1085102592571150095) + (shrK .u64 (bits .and .u64 (IntKind.u64.wrap ((shrK .u64 (IntKind.u64.wrap ((bits .and .u64 (shrK .u64 (IntKind.u64.wrap ((bits .and .u64 (shrK .u64 x 1) 6148914691236517205) + (bits .and .u64 x 6148914691236517205))) 2) 3689348814741910323) + (bits .and .u64 (IntKind.u64.wrap ((bits .and .u64 (shrK .u64 x 1) 6148914691236517205) + (bits .and .u64 x 6148914691236517205))) 3689348814741910323))) 4) + (IntKind.u64.wrap ((bits .and .u64 (shrK .u64 (IntKind.u64.wrap ((bits .and .u64 (shrK .u64 x 1) 6148914691236517205) + (bits .and .u64 x 6148914691236517205))) 2) 3689348814741910323) + (bits .and .u64 (IntKind.u64.wrap ((bits .and .u64 (shrK .u64 x 1) 6148914691236517205) + (bits .and .u64 x 6148914691236517205))) 3689348814741910323))))) 1085102592571150095) 8))) + (shrK .u64 (IntKind.u64.wrap ((bits .and .u64 (IntKind.u64.wrap ((shrK .u64 (IntKind.u64.wrap ((bits .and .u64 (shrK .u64 (IntKind.u64.wrap ((bits .and .u64 (shrK .u64 x 1) 6148914691236517205) + (bits .and .u64 x 6148914691236517205))) 2) 3689348814741910323) + (bits .and .u64 (IntKind.u64.wrap ((bits .and .u64 (shrK .u64 x 1) 6148914691236517205) + (bits .and .u64 x 6148914691236517205))) 3689348814741910323))) 4) + (IntKind.u64.wrap ((bits .and .u64 (shrK .u64 (IntKind.u64.wrap ((bits .and .u64 (shrK .u64 x 1) 6148914691236517205) + (bits .and .u64 x 6148914691236517205))) 2) 3689348814741910323) + (bits .and .u64 (IntKind.u64.wrap ((bits .and .u64 (shrK .u64 x 1) 6148914691236517205) + (bits .and .u64 x 6148914691236517205))) 3689348814741910323))))) 1085102592571150095) + (shrK .u64 (bits .and .u64 (IntKind.u64.wrap ((shrK .u64 (IntKind.u64.wrap ((bits .and .u64 (shrK .u64 (IntKind.u64.wrap ((bits .and .u64 (shrK .u64 x 1) 6148914691236517205) + (bits .and .u64 x 6148914691236517205))) 2) 3689348814741910323) + (bits .and .u64 (IntKind.u64.wrap ((bits .and .u64 (shrK .u64 x 1) 6148914691236517205) + (bits .and .u64 x 6148914691236517205))) 3689348814741910323))) 4) + (IntKind.u64.wrap ((bits .and .u64 (shrK .u64 (IntKind.u64.wrap ((bits .and .u64 (shrK .u64 x 1) 6148914691236517205) + (bits .and .u64 x 6148914691236517205))) 2) 3689348814741910323) + (bits .and .u64 (IntKind.u64.wrap ((bits .and .u64 (shrK .u64 x 1) 6148914691236517205) + (bits .and .u64 x 6148914691236517205))) 3689348814741910323))))) 1085102592571150095) 8))) 16))) + (shrK .u64 (IntKind.u64.wrap ((IntKind.u64.wrap ((bits .and .u64 (IntKind.u64.wrap ((shrK .u64 (IntKind.u64.wrap ((bits .and .u64 (shrK .u64 (IntKind.u64.wrap ((bits .and .u64 (shrK .u64 x 1) 6148914691236517205) + (bits .and .u64 x 6148914691236517205))) 2) 3689348814741910323) + (bits .and .u64 (IntKind.u64.wrap ((bits .and .u64 (shrK .u64 x 1) 6148914691236517205) + (bits .and .u64 x 6148914691236517205))) 3689348814741910323))) 4) + (IntKind.u64.wrap ((bits .and .u64 (shrK .u64 (IntKind.u64.wrap ((bits .and .u64 (shrK .u64 x 1) 6148914691236517205) + (bits .and .u64 x 6148914691236517205))) 2) 3689348814741910323) + (bits .and .u64 (IntKind.u64.wrap ((bits .and .u64 (shrK .u64 x 1) 6148914691236517205) + (bits .and .u64 x 6148914691236517205))) 3689348814741910323))))) 1085102592571150095) + (shrK .u64 (bits .and .u64 (IntKind.u64.wrap ((shrK .u64 (IntKind.u64.wrap ((bits .and .u64 (shrK .u64 (IntKind.u64.wrap ((bits .and .u64 (shrK .u64 x 1) 6148914691236517205) + (bits .and .u64 x 6148914691236517205))) 2) 3689348814741910323) + (bits .and .u64 (IntKind.u64.wrap ((bits .and .u64 (shrK .u64 x 1) 6148914691236517205) + (bits .and .u64 x 6148914691236517205))) 3689348814741910323))) 4) + (IntKind.u64.wrap ((bits .and .u64 (shrK .u64 (IntKind.u64.wrap ((bits .and .u64 (shrK .u64 x 1) 6148914691236517205) + (bits .and .u64 x 6148914691236517205))) 2) 3689348814741910323) + (bits .and .u64 (IntKind.u64.wrap ((bits .and .u64 (shrK .u64 x 1) 6148914691236517205) + (bits .and .u64 x 6148914691236517205))) 3689348814741910323))))) 1085102592571150095) 8))) + (shrK .u64 (IntKind.u64.wrap ((bits .and .u64 (IntKind.u64.wrap ((shrK .u64 (IntKind.u64.wrap ((bits .and .u64 (shrK .u64 (IntKind.u64.wrap ((bits .and .u64 (shrK .u64 x 1) 6148914691236517205) + (bits .and .u64 x 6148914691236517205))) 2) 3689348814741910323) + (bits .and .u64 (IntKind.u64.wrap ((bits .and .u64 (shrK .u64 x 1) 6148914691236517205) + (bits .and .u64 x 6148914691236517205))) 3689348814741910323))) 4) + (IntKind.u64.wrap ((bits .and .u64 (shrK .u64 (IntKind.u64.wrap ((bits .and .u64 (shrK .u64 x 1) 6148914691236517205) + (bits .and .u64 x 6148914691236517205))) 2) 3689348814741910323) + (bits .and .u64 (IntKind.u64.wrap ((bits .and .u64 (shrK .u64 x 1) 6148914691236517205) + (bits .and .u64 x 6148914691236517205))) 3689348814741910323))))) 1085102592571150095) + (shrK .u64 (bits .and .u64 (IntKind.u64.wrap ((shrK .u64 (IntKind.u64.wrap ((bits .and .u64 (shrK .u64 (IntKind.u64.wrap ((bits .and .u64 (shrK .u64 x 1) 6148914691236517205) + (bits .and .u64 x 6148914691236517205))) 2) 3689348814741910323) + (bits .and .u64 (IntKind.u64.wrap ((bits .and .u64 (shrK .u64 x 1) 6148914691236517205) + (bits .and .u64 x 6148914691236517205))) 3689348814741910323))) 4) + (IntKind.u64.wrap ((bits .and .u64 (shrK .u64 (IntKind.u64.wrap ((bits .and .u64 (shrK .u64 x 1) 6148914691236517205) + (bits .and .u64 x 6148914691236517205))) 2) 3689348814741910323) + (bits .and .u64 (IntKind.u64.wrap ((bits .and .u64 (shrK .u64 x 1) 6148914691236517205) + (bits .and .u64 x 6148914691236517205))) 3689348814741910323))))) 1085102592571150095) 8))) 16))) 32)))) 127))

def F_math_bits_OnesCount (x : Int) : Option (Int) :=
  (F_math_bits_OnesCount64 x).bind fun r_1 =>
  some (r_1)

def F_impl_bitsIn (mask : Int) : Option (Int) :=
  (F_math_bits_OnesCount (IntKind.u64.wrap mask)).bind fun r_1 =>
  some (r_1)


def F_impl_codeWords_l3 (r_2 : List Int) (word : Int) : Nat → (List Int) → Option (List Int) := fun i1 out2 =>
  (getI r_2 (i1 : Int)).bind fun x =>
  chk (out2.length + 1 ≤ 1099511627776) <|
  some (out2 ++ [(bits .xor .i64 x word)])
def F_impl_codeWords_l2 (n : Int) (i : Nat) : (Int × Int) → Option (Ex (Int × Int) (List Int)) := fun (word, mask) =>
  chk ((0 : Int) ≤ n) <|
  bif (decide (mask < (shlK .i64 1 n))) then (((bif ((bits .and .i64 mask (i : Int)) == (i : Int)) then (chk ((0 : Int) ≤ (IntKind.i64.wrap (mask - 1))) <|
  some (bits .or .i64 word (shlK .i64 1 (IntKind.i64.wrap (mask - 1))))) else (some word)) : Option (Int)).bind fun word1 =>
  some (.nx (word1, (IntKind.i64.wrap (mask + 1))))) else (some (.br (word, mask)))
def F_impl_codeWords_l1 (n : Int) : Nat → (List Int) → Option (List Int) := fun i out =>
  (((gb (!(decide (n < 4))) 0 (F_impl_bitsIn (i : Int))).bind fun r_1 =>
  bif ((decide (n < 4)) || (decide ((IntKind.i64.wrap (n - 4)) < r_1))) then (some out) else ((whX (F_impl_codeWords_l2 n i) fuel (0, 1)).bind <| orR fun (word, mask) =>
  (F_slices_Clone_int_int out).bind fun r_2 =>
  chk (r_2.length ≤ 9223372036854775807) <|
  (forN (F_impl_codeWords_l3 r_2 word) r_2.length 0 out).bind fun out2 =>
  some out2)) : Option (List Int)).bind fun out1 =>
  some out1
def F_impl_codeWords (n : Int) : Option (List Int) :=
  chk ((0 : Int) ≤ n) <|
  chk (((shlK .i64 1 n).toNat) ≤ 9223372036854775807) <|
  (forN (F_impl_codeWords_l1 n) ((shlK .i64 1 n).toNat) 0 [0]).bind fun out =>
  (F_slices_Sort_int_int out).bind fun m =>
  some (m)

def F_impl_IsCodeWord (n : Int) (word : Int) : Option (Bool × Bool) :=
  (F_impl_isWord n word).bind fun r_2 =>
  bif (!r_2) then (some ((false, false))) else ((F_impl_codeWords n).bind fun r_3 =>
  (F_slices_Contains_int_int r_3 word).bind fun r_4 =>
  some ((r_4, true)))

def F_impl_areTerms_l1 (terms : List TTerm) (n : Int) : Nat → Unit → Option (Ex (Unit) (Bool)) := fun i _ =>
  (getI terms (i : Int)).bind fun x =>
  chk ((0 : Int) ≤ n) <|
  (F_impl_within x.Mask 1 (IntKind.i64.wrap ((shlK .i64 1 n) - 1))).bind fun r_1 =>
  (gb (!(!r_1)) false (F_impl_within x.Coef 1 7)).bind fun r_2 =>
  (gb ((!((!r_1) || (!r_2))) && (decide (0 < (i : Int)))) (TTerm.mk 0 0) (getI terms (IntKind.i64.wrap ((i : Int) - 1)))).bind fun x1 =>
  bif (((!r_1) || (!r_2)) || ((decide (0 < (i : Int))) && (decide (x.Mask ≤ x1.Mask)))) then (some (.rt false)) else (some (.nx ()))
def F_impl_areTerms (n : Int) (terms : List TTerm) : Option (Bool) :=
  chk (terms.length ≤ 9223372036854775807) <|
  (forX (F_impl_areTerms_l1 terms n) terms.length 0 ()).bind <| orR fun _ =>
  some (true)

def F_slices_IndexFunc_int_int_l1 (s : List Int) (f_ : Int → Option (Bool)) : Nat → Unit → Option (Ex (Unit) (Int)) := fun i _ =>
  (getI s (i : Int)).bind fun x1 =>
  (f_ x1).bind fun r_1 =>
  bif r_1 then (some (.rt (i : Int))) else (some (.nx ()))
def F_slices_IndexFunc_int_int (s : List Int) (f_ : Int → Option (Bool)) : Option (Int) :=
  chk (s.length ≤ 9223372036854775807) <|
  (forX (F_slices_IndexFunc_int_int_l1 s f_) s.length 0 ()).bind <| orR fun _ =>
  some ((-1))

def F_slices_ContainsFunc_int_int (s : List Int) (f_ : Int → Option (Bool)) : Option (Bool) :=
  (F_slices_IndexFunc_int_int s f_).bind fun r_1 =>
  some ((decide (0 ≤ r_1)))

def F_impl_IsValidLinear_1 (row : Int) (p : Int) : Option (Bool) :=
  chk ((0 : Int) ≤ p) <|
  (F_impl_within row 0 (IntKind.i64.wrap ((shlK .i64 1 p) - 1))).bind fun r_1 =>
  some ((!r_1))

def F_impl_rankOf_1 (row : Int) (p : Int) : Option (Bool) :=
  chk ((0 : Int) ≤ p) <|
  some (((bits .and .i64 (shrK .i64 row p) 1) == 1))

def F_slices_Delete_int_int (s : List Int) (i : Int) (j : Int) : Option (List Int) :=
  chk ((0 : Int) ≤ i ∧ i ≤ j ∧ j ≤ (s.length : Int)) <|
  bif (i == j) then (some (s)) else (chk (i.toNat ≤ j.toNat) <|
  some ((List.take i.toNat s ++ List.drop j.toNat s)))

def F_impl_rankOf_l2 (i : Nat) (x : Int) : Nat → (List Int) → Option (List Int) := fun i1 left2 =>
  (((getI left2 (i1 : Int)).bind fun x1 =>
  chk ((0 : Int) ≤ (i : Int)) <|
  bif ((bits .and .i64 (shrK .i64 x1 (i : Int)) 1) == 1) then (some (left2.set (i1 : Int).toNat (bits .xor .i64 x1 x))) else (some left2)) : Option (List Int)).bind fun left3 =>
  some left3
def F_impl_rankOf_l1 : Nat → (List Int × Int) → Option (List Int × Int) := fun i (left, rank) =>
  (((F_slices_IndexFunc_int_int left (fun x_0 => F_impl_rankOf_1 x_0 (i : Int))).bind fun r_2 =>
  bif (decide (r_2 < 0)) then (some (left, rank)) else ((getI left r_2).bind fun x =>
  (F_slices_Delete_int_int left r_2 (IntKind.i64.wrap (r_2 + 1))).bind fun r_3 =>
  chk (r_3.length ≤ 9223372036854775807) <|
  (forN (F_impl_rankOf_l2 i x) r_3.length 0 r_3).bind fun left2 =>
  some (left2, (IntKind.i64.wrap (rank + 1))))) : Option (List Int × Int)).bind fun (left1, rank1) =>
  some (left1, rank1)
def F_impl_rankOf (rows : List Int) : Option (Int) :=
  (F_slices_Clone_int_int rows).bind fun r_1 =>
  (forN F_impl_rankOf_l1 10 0 (r_1, 0)).bind fun (left, rank) =>
  some (rank)

def F_impl_IsValidLinear (m : TLinear) : Option (Bool) :=
  (F_impl_within (m.Rows.length : Int) 1 5).bind fun r_1 =>
  (gb r_1 false (F_slices_ContainsFunc_int_int m.Rows (fun x_0 => F_impl_IsValidLinear_1 x_0 (m.Rows.length : Int)))).bind fun r_2 =>
  (gb (r_1 && (!r_2)) 0 (F_impl_rankOf m.Rows)).bind fun r_3 =>
  some (((r_1 && (!r_2)) && (r_3 == (m.Rows.length : Int))))

def F_impl_IsValidPhasePoly (p : TPhasePoly) : Option (Bool) :=
  (F_impl_within p.Qubits 1 5).bind fun r_1 =>
  (gb r_1 false (F_impl_within p.Phase 0 7)).bind fun r_2 =>
  (gb (r_1 && r_2) false (F_impl_areTerms p.Qubits p.Terms)).bind fun r_3 =>
  (gb (((r_1 && r_2) && r_3) && ((p.Out.Rows.length : Int) == p.Qubits)) false (F_impl_IsValidLinear p.Out)).bind fun r_4 =>
  some (((((r_1 && r_2) && r_3) && ((p.Out.Rows.length : Int) == p.Qubits)) && r_4))

def F_impl_coefficients_add (c : List Int) (mask : Int) (coef : Int) : Option (List Int) :=
  (getI c mask).bind fun x =>
  some ((c.set mask.toNat (Int.tmod (IntKind.i64.wrap ((Int.tmod (IntKind.i64.wrap (x + coef)) 8) + 8)) 8)))

def F_impl_coefficients_terms_l1 (c : List Int) : Nat → (List TTerm) → Option (List TTerm) := fun i out =>
  (((getI c (i : Int)).bind fun x =>
  bif ((decide (0 < (i : Int))) && (decide (0 < x))) then (chk (out.length + 1 ≤ 1099511627776) <|
  some (out ++ [(TTerm.mk (i : Int) x)])) else (some out)) : Option (List TTerm)).bind fun out1 =>
  some out1
def F_impl_coefficients_terms (c : List Int) : Option (List TTerm) :=
  (forN (F_impl_coefficients_terms_l1 c) 32 0 []).bind fun out =>
  some (out)

def F_impl_ShiftBy_l2 (p : TPhasePoly) (word : Int) : (List Int × Int) → Option (Ex (List Int × Int) (TPhasePoly × Bool)) := fun (sums1, mask) =>
  chk ((0 : Int) ≤ p.Qubits) <|
  bif (decide (mask < (shlK .i64 1 p.Qubits))) then (((chk ((0 : Int) ≤ (IntKind.i64.wrap (mask - 1))) <|
  bif ((bits .and .i64 (shrK .i64 word (IntKind.i64.wrap (mask - 1))) 1) == 1) then ((F_impl_coefficients_add sums1 mask (-1)).bind fun m1 =>
  some m1) else (some sums1)) : Option (List Int)).bind fun sums2 =>
  some (.nx (sums2, (IntKind.i64.wrap (mask + 1))))) else (some (.br (sums1, mask)))
def F_impl_ShiftBy_l1 (p : TPhasePoly) : Nat → (List Int) → Option (List Int) := fun i sums =>
  (getI p.Terms (i : Int)).bind fun x =>
  (F_impl_coefficients_add sums x.Mask x.Coef).bind fun m =>
  some m
def F_impl_ShiftBy (p : TPhasePoly) (word : Int) : Option (TPhasePoly × Bool) :=
  (F_impl_IsCodeWord p.Qubits word).bind fun (r_2, r_3) =>
  (F_impl_IsValidPhasePoly p).bind fun r_4 =>
  bif (((!r_4) || (!r_3)) || (!r_2)) then (some (((TPhasePoly.mk 0 0 [] (TLinear.mk [])), false))) else (chk (p.Terms.length ≤ 9223372036854775807) <|
  (forN (F_impl_ShiftBy_l1 p) p.Terms.length 0 (List.replicate 32 0)).bind fun sums =>
  (whX (F_impl_ShiftBy_l2 p word) fuel (sums, 1)).bind <| orR fun (sums1, mask) =>
  (F_impl_coefficients_terms sums1).bind fun r_5 =>
  (F_slices_Clone_int_int p.Out.Rows).bind fun r_6 =>
  some (((TPhasePoly.mk p.Qubits p.Phase r_5 (TLinear.mk r_6)), true)))

def F_impl_nearest_l1 (r_2 : List Int) (word : Int) : Nat → (Int × Int) → Option (Int × Int) := fun i (best, least) =>
  (((getI r_2 (i : Int)).bind fun x =>
  (F_impl_bitsIn (bits .xor .i64 x word)).bind fun r_3 =>
  bif (decide (r_3 < least)) then (some (x, r_3)) else (some (best, least))) : Option (Int × Int)).bind fun (best1, least1) =>
  some (best1, least1)
def F_impl_nearest (n : Int) (word : Int) : Option (Int × Int) :=
  chk ((0 : Int) ≤ n) <|
  (F_impl_codeWords n).bind fun r_2 =>
  chk (r_2.length ≤ 9223372036854775807) <|
  (forN (F_impl_nearest_l1 r_2 word) r_2.length 0 (0, (shlK .i64 1 n))).bind fun (best, least) =>
  some ((best, least))

def F_impl_oddWord_l1 (p : TPhasePoly) : Nat → Int → Option (Int) := fun i word =>
  (((getI p.Terms (i : Int)).bind fun x =>
  bif ((Int.tmod x.Coef 2) == 1) then (chk ((0 : Int) ≤ (IntKind.i64.wrap (x.Mask - 1))) <|
  some (bits .or .i64 word (shlK .i64 1 (IntKind.i64.wrap (x.Mask - 1))))) else (some word)) : Option (Int)).bind fun word1 =>
  some word1
def F_impl_oddWord (p : TPhasePoly) : Option (Int) :=
  chk (p.Terms.length ≤ 9223372036854775807) <|
  (forN (F_impl_oddWord_l1 p) p.Terms.length 0 0).bind fun word =>
  some (word)

def F_impl_LeastT (p : TPhasePoly) : Option (Int × Bool) :=
  (F_impl_IsValidPhasePoly p).bind fun r_2 =>
  bif (!r_2) then (some ((0, false))) else ((F_impl_oddWord p).bind fun r_3 =>
  (F_impl_nearest p.Qubits r_3).bind fun (r_4, r_5) =>
  some ((r_5, true)))

def F_slices_Equal_impl_Term_impl_Term_l1 (s1 : List TTerm) (s2 : List TTerm) : Nat → Unit → Option (Ex (Unit) (Bool)) := fun i _ =>
  (getI s1 (i : Int)).bind fun x =>
  (getI s2 (i : Int)).bind fun x1 =>
  bif (!((x.Mask == x1.Mask) && ((x.Coef == x1.Coef) && true))) then (some (.rt false)) else (some (.nx ()))
def F_slices_Equal_impl_Term_impl_Term (s1 : List TTerm) (s2 : List TTerm) : Option (Bool) :=
  bif ((s1.length : Int) != (s2.length : Int)) then (some (false)) else (chk (s1.length ≤ 9223372036854775807) <|
  (forX (F_slices_Equal_impl_Term_impl_Term_l1 s1 s2) s1.length 0 ()).bind <| orR fun _ =>
  some (true))

def F_slices_Equal_int_int_l1 (s1 : List Int) (s2 : List Int) : Nat → Unit → Option (Ex (Unit) (Bool)) := fun i _ =>
  (getI s1 (i : Int)).bind fun x =>
  (getI s2 (i : Int)).bind fun x1 =>
  bif (x != x1) then (some (.rt false)) else (some (.nx ()))
def F_slices_Equal_int_int (s1 : List Int) (s2 : List Int) : Option (Bool) :=
  bif ((s1.length : Int) != (s2.length : Int)) then (some (false)) else (chk (s1.length ≤ 9223372036854775807) <|
  (forX (F_slices_Equal_int_int_l1 s1 s2) s1.length 0 ()).bind <| orR fun _ =>
  some (true))

def F_impl_equalPolys (p : TPhasePoly) (q : TPhasePoly) : Option (Bool) :=
  (gb ((p.Qubits == q.Qubits) && (p.Phase == q.Phase)) false (F_slices_Equal_impl_Term_impl_Term p.Terms q.Terms)).bind fun r_1 =>
  (gb (((p.Qubits == q.Qubits) && (p.Phase == q.Phase)) && r_1) false (F_slices_Equal_int_int p.Out.Rows q.Out.Rows)).bind fun r_2 =>
  some (((((p.Qubits == q.Qubits) && (p.Phase == q.Phase)) && r_1) && r_2))

def F_impl_oddTerms_l1 (terms : List TTerm) : Nat → Int → Option (Int) := fun i count =>
  (getI terms (i : Int)).bind fun x =>
  some (IntKind.i64.wrap (count + (Int.tmod x.Coef 2)))
def F_impl_oddTerms (terms : List TTerm) : Option (Int) :=
  chk (terms.length ≤ 9223372036854775807) <|
  (forN (F_impl_oddTerms_l1 terms) terms.length 0 0).bind fun count =>
  some (count)

def F_impl_CheckReduction (p : TPhasePoly) (word : Int) (q : TPhasePoly) : Option (Int × Bool) :=
  (F_impl_IsValidPhasePoly p).bind fun r_2 =>
  (gb (!(!r_2)) false (F_impl_IsValidPhasePoly q)).bind fun r_3 =>
  bif ((!r_2) || (!r_3)) then (some ((0, false))) else ((F_impl_ShiftBy p word).bind fun (r_4, r_5) =>
  (F_impl_LeastT p).bind fun (r_6, r_7) =>
  bif (!r_5) then (some ((1, true))) else ((F_impl_equalPolys r_4 q).bind fun r_8 =>
  bif (!r_8) then (some ((2, true))) else ((F_impl_oddTerms q.Terms).bind fun r_9 =>
  bif (r_9 != r_6) then (some ((3, true))) else (some ((0, true))))))

def F_laws_FnExactCheckReduction (aP : TPhasePoly) (aWord : Int) (aQ : TPhasePoly) : Option (Bool) :=
  (F_laws_szPhasePoly aP 1048576).bind fun r_1 =>
  bif (decide (r_1 < 0)) then (some (true)) else ((F_laws_szPhasePoly aQ r_1).bind fun r_2 =>
  bif (decide (r_2 < 0)) then (some (true)) else ((F_laws_toPhasePoly aP).bind fun r_3 =>
  (F_laws_toPhasePoly aQ).bind fun r_4 =>
  (F_spec_CheckReduction r_3 aWord r_4).bind fun (r_5, r_6) =>
  (F_laws_toPhasePoly aP).bind fun r_7 =>
  (F_laws_toPhasePoly aQ).bind fun r_8 =>
  (F_impl_CheckReduction r_7 aWord r_8).bind fun (r_9, r_10) =>
  bif ((r_9 != r_5) || (!(r_10 == r_6))) then (some (false)) else ((F_laws_toPhasePoly aP).bind fun r_11 =>
  (F_laws_eqPhasePoly r_7 r_11).bind fun r_12 =>
  bif (!r_12) then (some (false)) else ((F_laws_toPhasePoly aQ).bind fun r_13 =>
  (F_laws_eqPhasePoly r_8 r_13).bind fun r_14 =>
  bif (!r_14) then (some (false)) else (some (true))))))
end Go.VK
