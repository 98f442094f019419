/- What each Go function computes, by program. -/
import Derived.Test.YtklicjfbpikobaaDoorReducePathSumTy
set_option linter.unusedVariables false
namespace Go.VK
open Go.RowKit
def F_laws_szTermS (a : List TTerm) (left : Int) : Option (Int) :=
  bif (decide ((IntKind.i64.wrap (left - (a.length : Int))) < 0)) then (some ((-1))) else (some ((IntKind.i64.wrap (left - (a.length : Int)))))

def F_laws_szAffineS (a : List TAffine) (left : Int) : Option (Int) :=
  bif (decide ((IntKind.i64.wrap (left - (a.length : Int))) < 0)) then (some ((-1))) else (some ((IntKind.i64.wrap (left - (a.length : Int)))))

def F_laws_szPathSum (a : TPathSum) (left : Int) : Option (Int) :=
  (F_laws_szTermS a.Terms left).bind fun r_1 =>
  bif (decide (r_1 < 0)) then (some ((-1))) else ((F_laws_szAffineS a.Out r_1).bind fun r_2 =>
  bif (decide (r_2 < 0)) then (some ((-1))) else (some (r_2)))

def F_laws_toTerm (a : TTerm) : Option (TTerm) :=
  some (a)

def F_laws_toTermS_l1 (a : List TTerm) : Nat → (List TTerm) → Option (List TTerm) := fun i1 out =>
  (getI a (i1 : Int)).bind fun x =>
  (F_laws_toTerm x).bind fun r_1 =>
  (getI out (i1 : Int)).bind fun x1 =>
  some (out.set (i1 : Int).toNat r_1)
def F_laws_toTermS (a : List TTerm) : Option (List TTerm) :=
  chk ((0 : Int) ≤ (a.length : Int) ∧ (a.length : Int) ≤ 1099511627776) <|
  chk (a.length ≤ 9223372036854775807) <|
  (forN (F_laws_toTermS_l1 a) a.length 0 (List.replicate a.length (TTerm.mk 0 0))).bind fun out =>
  some (out)

def F_laws_toAffine (a : TAffine) : Option (TAffine) :=
  some (a)

def F_laws_toAffineS_l1 (a : List TAffine) : Nat → (List TAffine) → Option (List TAffine) := fun i1 out =>
  (getI a (i1 : Int)).bind fun x =>
  (F_laws_toAffine x).bind fun r_1 =>
  (getI out (i1 : Int)).bind fun x1 =>
  some (out.set (i1 : Int).toNat r_1)
def F_laws_toAffineS (a : List TAffine) : Option (List TAffine) :=
  chk ((0 : Int) ≤ (a.length : Int) ∧ (a.length : Int) ≤ 1099511627776) <|
  chk (a.length ≤ 9223372036854775807) <|
  (forN (F_laws_toAffineS_l1 a) a.length 0 (List.replicate a.length (TAffine.mk 0 0))).bind fun out =>
  some (out)

def F_laws_toPathSum (a : TPathSum) : Option (TPathSum) :=
  (F_laws_toTermS a.Terms).bind fun r_1 =>
  (F_laws_toAffineS a.Out).bind fun r_2 =>
  some ((TPathSum.mk a.Ins a.Vars a.Root a.Phase r_1 r_2))

def F_laws_eqTerm (a : TTerm) (b : TTerm) : Option (Bool) :=
  bif (a.Mask != b.Mask) then (some (false)) else (bif (a.Coef != b.Coef) then (some (false)) else (some (true)))

def F_laws_eqTermS_l1 (a : List TTerm) (b : List TTerm) : Nat → Unit → Option (Ex (Unit) (Bool)) := fun i1 _ =>
  (getI a (i1 : Int)).bind fun x =>
  (getI b (i1 : Int)).bind fun x1 =>
  (F_laws_eqTerm x x1).bind fun r_1 =>
  bif (!r_1) then (some (.rt false)) else (some (.nx ()))
def F_laws_eqTermS (a : List TTerm) (b : List TTerm) : Option (Bool) :=
  bif ((a.length : Int) != (b.length : Int)) then (some (false)) else (chk (a.length ≤ 9223372036854775807) <|
  (forX (F_laws_eqTermS_l1 a b) a.length 0 ()).bind <| orR fun _ =>
  some (true))

def F_laws_eqAffine (a : TAffine) (b : TAffine) : Option (Bool) :=
  bif (a.Mask != b.Mask) then (some (false)) else (bif (a.Turn != b.Turn) then (some (false)) else (some (true)))

def F_laws_eqAffineS_l1 (a : List TAffine) (b : List TAffine) : Nat → Unit → Option (Ex (Unit) (Bool)) := fun i1 _ =>
  (getI a (i1 : Int)).bind fun x =>
  (getI b (i1 : Int)).bind fun x1 =>
  (F_laws_eqAffine x x1).bind fun r_1 =>
  bif (!r_1) then (some (.rt false)) else (some (.nx ()))
def F_laws_eqAffineS (a : List TAffine) (b : List TAffine) : Option (Bool) :=
  bif ((a.length : Int) != (b.length : Int)) then (some (false)) else (chk (a.length ≤ 9223372036854775807) <|
  (forX (F_laws_eqAffineS_l1 a b) a.length 0 ()).bind <| orR fun _ =>
  some (true))

def F_laws_eqPathSum (a : TPathSum) (b : TPathSum) : Option (Bool) :=
  bif (a.Ins != b.Ins) then (some (false)) else (bif (a.Vars != b.Vars) then (some (false)) else (bif (a.Root != b.Root) then (some (false)) else (bif (a.Phase != b.Phase) then (some (false)) else ((F_laws_eqTermS a.Terms b.Terms).bind fun r_1 =>
  bif (!r_1) then (some (false)) else ((F_laws_eqAffineS a.Out b.Out).bind fun r_2 =>
  bif (!r_2) then (some (false)) else (some (true)))))))

def F_laws_markTermS_l1 : Nat → (List TTerm × Int) → Option (List TTerm × Int) := fun i1 (m1, k_1) =>
  (getI m1 (i1 : Int)).bind fun x =>
  some (((m1.set (i1 : Int).toNat (TTerm.mk k_1 x.Coef)).set (i1 : Int).toNat (TTerm.mk k_1 (IntKind.i64.wrap (k_1 + 1)))), (IntKind.i64.wrap ((IntKind.i64.wrap (k_1 + 1)) + 1)))
def F_laws_markTermS (a : List TTerm) (k_ : Int) : Option (Int × List TTerm) :=
  chk (a.length ≤ 9223372036854775807) <|
  (forN F_laws_markTermS_l1 a.length 0 (a, k_)).bind fun (m1, k_1) =>
  some ((k_1, m1))

def F_laws_markAffineS_l1 : Nat → (List TAffine × Int) → Option (List TAffine × Int) := fun i1 (m1, k_1) =>
  (getI m1 (i1 : Int)).bind fun x =>
  some (((m1.set (i1 : Int).toNat (TAffine.mk k_1 x.Turn)).set (i1 : Int).toNat (TAffine.mk k_1 (IntKind.i64.wrap (k_1 + 1)))), (IntKind.i64.wrap ((IntKind.i64.wrap (k_1 + 1)) + 1)))
def F_laws_markAffineS (a : List TAffine) (k_ : Int) : Option (Int × List TAffine) :=
  chk (a.length ≤ 9223372036854775807) <|
  (forN F_laws_markAffineS_l1 a.length 0 (a, k_)).bind fun (m1, k_1) =>
  some ((k_1, m1))

def F_laws_markPathSum (a : TPathSum) (k_ : Int) : Option (Int × List TTerm × List TAffine) :=
  (F_laws_markTermS a.Terms k_).bind fun (r_1, m2) =>
  (F_laws_markAffineS a.Out r_1).bind fun (r_2, m3) =>
  some ((r_2, m2, m3))

def F_laws_heldTermS_l1 (a : List TTerm) : Nat → Int → Option (Ex (Int) (Int)) := fun i1 k_1 =>
  (getI a (i1 : Int)).bind fun x =>
  bif (x.Mask != k_1) then (some (.rt (-1))) else (bif (x.Coef != (IntKind.i64.wrap (k_1 + 1))) then (some (.rt (-1))) else (some (.nx (IntKind.i64.wrap ((IntKind.i64.wrap (k_1 + 1)) + 1)))))
def F_laws_heldTermS (a : List TTerm) (k_ : Int) : Option (Int) :=
  chk (a.length ≤ 9223372036854775807) <|
  (forX (F_laws_heldTermS_l1 a) a.length 0 k_).bind <| orR fun k_1 =>
  some (k_1)

def F_laws_heldAffineS_l1 (a : List TAffine) : Nat → Int → Option (Ex (Int) (Int)) := fun i1 k_1 =>
  (getI a (i1 : Int)).bind fun x =>
  bif (x.Mask != k_1) then (some (.rt (-1))) else (bif (x.Turn != (IntKind.i64.wrap (k_1 + 1))) then (some (.rt (-1))) else (some (.nx (IntKind.i64.wrap ((IntKind.i64.wrap (k_1 + 1)) + 1)))))
def F_laws_heldAffineS (a : List TAffine) (k_ : Int) : Option (Int) :=
  chk (a.length ≤ 9223372036854775807) <|
  (forX (F_laws_heldAffineS_l1 a) a.length 0 k_).bind <| orR fun k_1 =>
  some (k_1)

def F_laws_heldPathSum (a : TPathSum) (k_ : Int) : Option (Int) :=
  (F_laws_heldTermS a.Terms k_).bind fun r_1 =>
  bif (decide (r_1 < 0)) then (some ((-1))) else ((F_laws_heldAffineS a.Out r_1).bind fun r_2 =>
  bif (decide (r_2 < 0)) then (some ((-1))) else (some (r_2)))

def F_spec_l1In (n : Int) (lo : Int) (hi : Int) : Option (Bool) :=
  some (((decide (lo ≤ n)) && (decide (n ≤ hi))))

def F_spec_l1Set_l1 (row : Int) : (List Int × Int) → Option (Ex (List Int × Int) (List Int)) := fun (out, k_) =>
  chk ((0 : Int) ≤ (IntKind.u64.wrap k_)) <|
  bif (decide (0 < (shrK .i64 row (IntKind.u64.wrap k_)))) then (((chk ((0 : Int) ≤ (IntKind.u64.wrap k_)) <|
  bif ((bits .and .i64 (shrK .i64 row (IntKind.u64.wrap k_)) 1) == 1) then (chk (out.length + 1 ≤ 1099511627776) <|
  some (out ++ [k_])) else (some out)) : Option (List Int)).bind fun out1 =>
  some (.nx (out1, (IntKind.i64.wrap (k_ + 1))))) else (some (.br (out, k_)))
def F_spec_l1Set (row : Int) : Option (List Int) :=
  (whX (F_spec_l1Set_l1 row) fuel ([], 0)).bind <| orR fun (out, k_) =>
  some (out)

def F_spec_l21Valid_l2 (p : TPathSum) : Nat → Unit → Option (Ex (Unit) (Bool)) := fun i1 _ =>
  (getI p.Out (i1 : Int)).bind fun x3 =>
  chk ((0 : Int) ≤ (IntKind.u64.wrap (IntKind.i64.wrap (p.Ins + p.Vars)))) <|
  (F_spec_l1In x3.Mask 0 (IntKind.i64.wrap ((shlK .i64 1 (IntKind.u64.wrap (IntKind.i64.wrap (p.Ins + p.Vars)))) - 1))).bind fun r_8 =>
  (gb (!(!r_8)) false (F_spec_l1In x3.Turn 0 1)).bind fun r_9 =>
  bif ((!r_8) || (!r_9)) then (some (.rt false)) else (some (.nx ()))
def F_spec_l21Valid_l1 (p : TPathSum) : Nat → Unit → Option (Ex (Unit) (Bool)) := fun i _ =>
  (getI p.Terms (i : Int)).bind fun x =>
  chk ((0 : Int) ≤ (IntKind.u64.wrap (IntKind.i64.wrap (p.Ins + p.Vars)))) <|
  (F_spec_l1In x.Mask 1 (IntKind.i64.wrap ((shlK .i64 1 (IntKind.u64.wrap (IntKind.i64.wrap (p.Ins + p.Vars)))) - 1))).bind fun r_5 =>
  (gb (!(!r_5)) false (F_spec_l1In x.Coef 1 7)).bind fun r_6 =>
  (gb ((!((!r_5) || (!r_6))) && (decide (0 < (i : Int)))) (TTerm.mk 0 0) (getI p.Terms (IntKind.i64.wrap ((i : Int) - 1)))).bind fun x1 =>
  bif (((!r_5) || (!r_6)) || ((decide (0 < (i : Int))) && (decide (x.Mask ≤ x1.Mask)))) then (some (.rt false)) else ((F_spec_l1Set x.Mask).bind fun r_7 =>
  bif (!(decide (3 < (r_7.length : Int)))) then ((getI [1, 1, 2, 4] (r_7.length : Int)).bind fun x2 =>
  chk (x2 ≠ (0 : Int)) <|
  bif ((Int.tmod x.Coef x2) != 0) then (some (.rt false)) else (some (.nx ()))) else (some (.rt false)))
def F_spec_l21Valid (p : TPathSum) : Option (Bool) :=
  (F_spec_l1In p.Ins 1 5).bind fun r_1 =>
  (gb (!(!r_1)) false (F_spec_l1In p.Vars 0 (IntKind.i64.wrap (24 - p.Ins)))).bind fun r_2 =>
  (gb (!((!r_1) || (!r_2))) false (F_spec_l1In p.Root (-60) 60)).bind fun r_3 =>
  (gb (!(((!r_1) || (!r_2)) || (!r_3))) false (F_spec_l1In p.Phase 0 7)).bind fun r_4 =>
  bif (((((!r_1) || (!r_2)) || (!r_3)) || (!r_4)) || ((p.Out.length : Int) != p.Ins)) then (some (false)) else (chk (p.Terms.length ≤ 9223372036854775807) <|
  (forX (F_spec_l21Valid_l1 p) p.Terms.length 0 ()).bind <| orR fun _ =>
  chk (p.Out.length ≤ 9223372036854775807) <|
  (forX (F_spec_l21Valid_l2 p) p.Out.length 0 ()).bind <| orR fun _ =>
  some (true))

def F_spec_l21Rule_l2 (p : TPathSum) (y : Int) : Nat → (Int × Int) → Option (Ex (Int × Int) (Int × Int × Int)) := fun i1 (c2, z2) =>
  (((getI p.Terms (i1 : Int)).bind fun x1 =>
  chk ((0 : Int) ≤ (IntKind.u64.wrap y)) <|
  bif ((bits .and .i64 (shrK .i64 x1.Mask (IntKind.u64.wrap y)) 1) == 0) then (some (.inl (c2, z2))) else (chk ((0 : Int) ≤ (IntKind.u64.wrap y)) <|
  bif ((bits .xor .i64 x1.Mask (shlK .i64 1 (IntKind.u64.wrap y))) == 0) then (some (.inl (x1.Coef, z2))) else ((F_spec_l1Set (bits .xor .i64 x1.Mask (shlK .i64 1 (IntKind.u64.wrap y)))).bind fun r_3 =>
  bif (((r_3.length : Int) == 1) && (x1.Coef == 4)) then (some (.inl (c2, (bits .or .i64 z2 (bits .xor .i64 x1.Mask (shlK .i64 1 (IntKind.u64.wrap y))))))) else (some (.inr (.rt (0, 0, 0))))))) : Option ((Int × Int) ⊕ (Ex (Int × Int) (Int × Int × Int)))).bind <| orR fun (c3, z4) =>
  some (.nx (c3, z4))
def F_spec_l21Rule_l1 (p : TPathSum) (y : Int) : Nat → Unit → Option (Ex (Unit) (Int × Int × Int)) := fun i _ =>
  (getI p.Out (i : Int)).bind fun x =>
  chk ((0 : Int) ≤ (IntKind.u64.wrap y)) <|
  bif ((bits .and .i64 (shrK .i64 x.Mask (IntKind.u64.wrap y)) 1) == 1) then (some (.rt (0, 0, 0))) else (some (.nx ()))
def F_spec_l21Rule (p : TPathSum) (y : Int) : Option (Int × Int × Int) :=
  chk (p.Out.length ≤ 9223372036854775807) <|
  (forX (F_spec_l21Rule_l1 p y) p.Out.length 0 ()).bind <| orR fun _ =>
  chk (p.Terms.length ≤ 9223372036854775807) <|
  (forX (F_spec_l21Rule_l2 p y) p.Terms.length 0 (0, 0)).bind <| orR fun (c2, z2) =>
  bif ((c2 == 0) && (z2 == 0)) then (some ((1, c2, z2))) else (bif ((c2 == 2) || (c2 == 6)) then (some ((2, c2, z2))) else (chk (((c2 == 0) || (c2 == 4)) = true → (0 : Int) ≤ (IntKind.u64.wrap p.Ins)) <|
  bif (((c2 == 0) || (c2 == 4)) && (decide (0 < (shrK .i64 z2 (IntKind.u64.wrap p.Ins))))) then (some ((3, c2, z2))) else (some ((0, 0, 0)))))

def F_spec_l21Drop (mask : Int) (v_ : Int) : Option (Int) :=
  chk ((0 : Int) ≤ (IntKind.u64.wrap v_)) <|
  chk ((0 : Int) ≤ (IntKind.u64.wrap (IntKind.i64.wrap (v_ + 1)))) <|
  chk ((0 : Int) ≤ (IntKind.u64.wrap v_)) <|
  some ((bits .or .i64 (bits .and .i64 mask (IntKind.i64.wrap ((shlK .i64 1 (IntKind.u64.wrap v_)) - 1))) (shlK .i64 (shrK .i64 mask (IntKind.u64.wrap (IntKind.i64.wrap (v_ + 1)))) (IntKind.u64.wrap v_))))

def F_spec_l21Sum_add_l1 (s : Tl21Sum) (mask : Int) : Int → Option (Ex (Int) (Tl21Sum)) := fun at_ =>
  (gb (decide (at_ < (s.terms.length : Int))) (TTerm.mk 0 0) (getI s.terms at_)).bind fun x =>
  bif ((decide (at_ < (s.terms.length : Int))) && (decide (x.Mask < mask))) then (some (.nx (IntKind.i64.wrap (at_ + 1)))) else (some (.br at_))
def F_spec_l21Sum_add (s : Tl21Sum) (mask : Int) (k_ : Int) : Option (Tl21Sum) :=
  bif (mask == 0) then (some ((Tl21Sum.mk (Int.tmod (IntKind.i64.wrap (s.phase + (Int.tmod (IntKind.i64.wrap ((Int.tmod k_ 8) + 8)) 8))) 8) s.terms))) else (bif ((Int.tmod (IntKind.i64.wrap ((Int.tmod k_ 8) + 8)) 8) == 0) then (some (s)) else ((whX (F_spec_l21Sum_add_l1 s mask) fuel 0).bind <| orR fun at_ =>
  (gb (decide (at_ < (s.terms.length : Int))) (TTerm.mk 0 0) (getI s.terms at_)).bind fun x1 =>
  bif ((decide (at_ < (s.terms.length : Int))) && (x1.Mask == mask)) then ((getI s.terms at_).bind fun x2 =>
  chk ((0 : Int) ≤ (IntKind.i64.wrap (at_ + 1)) ∧ (IntKind.i64.wrap (at_ + 1)) ≤ (s.terms.length : Int)) <|
  chk (0 + (s.terms.length - (IntKind.i64.wrap (at_ + 1)).toNat) ≤ 1099511627776) <|
  chk ((0 : Int) ≤ at_ ∧ at_ ≤ (s.terms.length : Int)) <|
  chk (0 + at_.toNat ≤ 1099511627776) <|
  ((bif (decide (0 < (Int.tmod (IntKind.i64.wrap ((Int.tmod (IntKind.i64.wrap ((Int.tmod k_ 8) + 8)) 8) + x2.Coef)) 8))) then (chk (((List.take at_.toNat s.terms).length) + 1 ≤ 1099511627776) <|
  some ((List.take at_.toNat s.terms) ++ [(TTerm.mk mask (Int.tmod (IntKind.i64.wrap ((Int.tmod (IntKind.i64.wrap ((Int.tmod k_ 8) + 8)) 8) + x2.Coef)) 8))])) else (some (List.take at_.toNat s.terms))) : Option (List TTerm)).bind fun terms =>
  chk (terms.length + ((List.drop ((IntKind.i64.wrap (at_ + 1)).toNat) s.terms).length) ≤ 1099511627776) <|
  some ((Tl21Sum.mk s.phase (terms ++ (List.drop ((IntKind.i64.wrap (at_ + 1)).toNat) s.terms))))) else (chk ((0 : Int) ≤ at_ ∧ at_ ≤ (s.terms.length : Int)) <|
  chk (0 + (s.terms.length - at_.toNat) ≤ 1099511627776) <|
  chk ((0 : Int) ≤ at_ ∧ at_ ≤ (s.terms.length : Int)) <|
  chk (0 + at_.toNat ≤ 1099511627776) <|
  chk (((List.take at_.toNat s.terms).length) + 1 ≤ 1099511627776) <|
  chk ((((List.take at_.toNat s.terms) ++ [(TTerm.mk mask (Int.tmod (IntKind.i64.wrap ((Int.tmod k_ 8) + 8)) 8))]).length) + ((List.drop at_.toNat s.terms).length) ≤ 1099511627776) <|
  some ((Tl21Sum.mk s.phase (((List.take at_.toNat s.terms) ++ [(TTerm.mk mask (Int.tmod (IntKind.i64.wrap ((Int.tmod k_ 8) + 8)) 8))]) ++ (List.drop at_.toNat s.terms)))))))

def F_spec_l21Sum_times_l3 (i1 : Nat) (r_ : List Int) (x : Int) (x1 : Int) (mask : Int) (k_1 : Int) : Nat → (Int × List TTerm) → Option (Int × List TTerm) := fun i2 (phase3, terms3) =>
  (getI (List.take i1 r_) (i2 : Int)).bind fun x2 =>
  chk ((0 : Int) ≤ (IntKind.u64.wrap x)) <|
  chk ((0 : Int) ≤ (IntKind.u64.wrap x1)) <|
  chk ((0 : Int) ≤ (IntKind.u64.wrap x2)) <|
  (F_spec_l21Sum_add (Tl21Sum.mk phase3 terms3) (bits .or .i64 (bits .or .i64 (bits .or .i64 mask (shlK .i64 1 (IntKind.u64.wrap x))) (shlK .i64 1 (IntKind.u64.wrap x1))) (shlK .i64 1 (IntKind.u64.wrap x2))) (IntKind.i64.wrap (4 * k_1))).bind fun m4 =>
  some (m4.phase, m4.terms)
def F_spec_l21Sum_times_l2 (i : Nat) (r_ : List Int) (x : Int) (mask : Int) (k_1 : Int) : Nat → (Int × List TTerm) → Option (Int × List TTerm) := fun i1 (phase2, terms2) =>
  (getI (List.take i r_) (i1 : Int)).bind fun x1 =>
  chk ((0 : Int) ≤ (IntKind.u64.wrap x)) <|
  chk ((0 : Int) ≤ (IntKind.u64.wrap x1)) <|
  (F_spec_l21Sum_add (Tl21Sum.mk phase2 terms2) (bits .or .i64 (bits .or .i64 mask (shlK .i64 1 (IntKind.u64.wrap x))) (shlK .i64 1 (IntKind.u64.wrap x1))) (IntKind.i64.wrap ((-2) * k_1))).bind fun m3 =>
  chk ((0 : Int) ≤ (i1 : Int) ∧ (i1 : Int) ≤ (r_.length : Int)) <|
  chk (i1 ≤ 9223372036854775807) <|
  (forN (F_spec_l21Sum_times_l3 i1 r_ x x1 mask k_1) i1 0 (m3.phase, m3.terms)).bind fun (phase3, terms3) =>
  some (phase3, terms3)
def F_spec_l21Sum_times_l1 (r_ : List Int) (mask : Int) (k_1 : Int) : Nat → (Int × List TTerm) → Option (Int × List TTerm) := fun i (phase1, terms1) =>
  (getI r_ (i : Int)).bind fun x =>
  chk ((0 : Int) ≤ (IntKind.u64.wrap x)) <|
  (F_spec_l21Sum_add (Tl21Sum.mk phase1 terms1) (bits .or .i64 mask (shlK .i64 1 (IntKind.u64.wrap x))) k_1).bind fun m2 =>
  chk ((0 : Int) ≤ (i : Int) ∧ (i : Int) ≤ (r_.length : Int)) <|
  chk (i ≤ 9223372036854775807) <|
  (forN (F_spec_l21Sum_times_l2 i r_ x mask k_1) i 0 (m2.phase, m2.terms)).bind fun (phase2, terms2) =>
  some (phase2, terms2)
def F_spec_l21Sum_times (s : Tl21Sum) (mask : Int) (k_ : Int) (by_ : TAffine) : Option (Tl21Sum) :=
  ((bif (by_.Turn == 1) then ((F_spec_l21Sum_add s mask k_).bind fun m1 =>
  some (m1.phase, m1.terms, (IntKind.i64.wrap (-k_)))) else (some (s.phase, s.terms, k_))) : Option (Int × List TTerm × Int)).bind fun (phase, terms, k_1) =>
  (F_spec_l1Set by_.Mask).bind fun r_ =>
  chk (r_.length ≤ 9223372036854775807) <|
  (forN (F_spec_l21Sum_times_l1 r_ mask k_1) r_.length 0 (phase, terms)).bind fun (phase1, terms1) =>
  some ((Tl21Sum.mk phase1 terms1))

def F_spec_l21Replace_l2 (p : TPathSum) (v_ : Int) (by_ : TAffine) : (List TAffine × Int) → Option (Ex (List TAffine × Int) (TPathSum)) := fun (Out, t) =>
  bif (decide (t < (p.Out.length : Int))) then ((getI p.Out t).bind fun x1 =>
  ((chk ((0 : Int) ≤ (IntKind.u64.wrap v_)) <|
  bif ((bits .and .i64 (shrK .i64 x1.Mask (IntKind.u64.wrap v_)) 1) == 1) then (chk ((0 : Int) ≤ (IntKind.u64.wrap v_)) <|
  some ((bits .xor .i64 (bits .xor .i64 x1.Mask (shlK .i64 1 (IntKind.u64.wrap v_))) by_.Mask), (bits .xor .i64 x1.Turn by_.Turn))) else (some (x1.Mask, x1.Turn))) : Option (Int × Int)).bind fun (Mask, Turn) =>
  (F_spec_l21Drop Mask v_).bind fun r_4 =>
  chk (Out.length + 1 ≤ 1099511627776) <|
  some (.nx ((Out ++ [(TAffine.mk r_4 Turn)]), (IntKind.i64.wrap (t + 1))))) else (some (.br (Out, t)))
def F_spec_l21Replace_l1 (p : TPathSum) (v_ : Int) (by_ : TAffine) : Nat → (Int × List TTerm) → Option (Int × List TTerm) := fun i (phase, terms) =>
  (((getI p.Terms (i : Int)).bind fun x =>
  chk ((0 : Int) ≤ (IntKind.u64.wrap v_)) <|
  bif ((bits .and .i64 (shrK .i64 x.Mask (IntKind.u64.wrap v_)) 1) == 0) then ((F_spec_l21Drop x.Mask v_).bind fun r_1 =>
  (F_spec_l21Sum_add (Tl21Sum.mk phase terms) r_1 x.Coef).bind fun m =>
  some (m.phase, m.terms)) else ((F_spec_l21Drop x.Mask v_).bind fun r_2 =>
  (F_spec_l21Drop by_.Mask v_).bind fun r_3 =>
  (F_spec_l21Sum_times (Tl21Sum.mk phase terms) r_2 x.Coef (TAffine.mk r_3 by_.Turn)).bind fun m1 =>
  some (m1.phase, m1.terms))) : Option (Int × List TTerm)).bind fun (phase1, terms1) =>
  some (phase1, terms1)
def F_spec_l21Replace (p : TPathSum) (v_ : Int) (by_ : TAffine) : Option (TPathSum) :=
  chk (p.Terms.length ≤ 9223372036854775807) <|
  (forN (F_spec_l21Replace_l1 p v_ by_) p.Terms.length 0 (p.Phase, [])).bind fun (phase, terms) =>
  (whX (F_spec_l21Replace_l2 p v_ by_) fuel ([], 0)).bind <| orR fun (Out, t) =>
  some ((TPathSum.mk p.Ins (IntKind.i64.wrap (p.Vars - 1)) p.Root phase terms Out))

def F_spec_l21Without (p : TPathSum) (y : Int) : Option (TPathSum) :=
  (F_spec_l21Replace p y (TAffine.mk 0 0)).bind fun r_1 =>
  some (r_1)

def F_spec_l21Step_l1 (p : TPathSum) : Int → Option (Ex (Int) (TPathSum × Int × Bool)) := fun y =>
  bif (decide (y < (IntKind.i64.wrap (p.Ins + p.Vars)))) then ((F_spec_l21Rule p y).bind fun (r_3, r_4, r_5) =>
  bif (r_3 == 0) then (some (.nx (IntKind.i64.wrap (y + 1)))) else ((F_spec_l21Without p y).bind fun r_6 =>
  (F_spec_l21Drop r_5 y).bind fun r_7 =>
  ((bif (r_3 == 1) then (some (r_6.Ins, r_6.Vars, (IntKind.i64.wrap (r_6.Root - 2)), r_6.Phase, r_6.Terms, r_6.Out)) else (bif (r_3 == 2) then (((bif (r_4 == 2) then ((F_spec_l21Sum_add (Tl21Sum.mk r_6.Phase r_6.Terms) 0 1).bind fun m =>
  (F_spec_l21Sum_times m 0 6 (TAffine.mk r_7 0)).bind fun m1 =>
  some (m1.phase, m1.terms)) else ((F_spec_l21Sum_add (Tl21Sum.mk r_6.Phase r_6.Terms) 0 7).bind fun m2 =>
  (F_spec_l21Sum_times m2 0 2 (TAffine.mk r_7 0)).bind fun m3 =>
  some (m3.phase, m3.terms))) : Option (Int × List TTerm)).bind fun (phase, terms) =>
  some (r_6.Ins, r_6.Vars, (IntKind.i64.wrap (r_6.Root - 1)), phase, terms, r_6.Out)) else (chk ((0 : Int) ≤ (IntKind.u64.wrap p.Ins)) <|
  (F_spec_l1Set (shrK .i64 r_7 (IntKind.u64.wrap p.Ins))).bind fun r_8 =>
  (getI r_8 0).bind fun x =>
  chk ((0 : Int) ≤ (IntKind.u64.wrap (IntKind.i64.wrap (x + p.Ins)))) <|
  (F_spec_l21Replace (TPathSum.mk r_6.Ins r_6.Vars (IntKind.i64.wrap (r_6.Root - 2)) r_6.Phase r_6.Terms r_6.Out) (IntKind.i64.wrap (x + p.Ins)) (TAffine.mk (bits .xor .i64 r_7 (shlK .i64 1 (IntKind.u64.wrap (IntKind.i64.wrap (x + p.Ins))))) (IntKind.i64.wrap (Int.tdiv r_4 4)))).bind fun r_9 =>
  some (r_9.Ins, r_9.Vars, r_9.Root, r_9.Phase, r_9.Terms, r_9.Out)))) : Option (Int × Int × Int × Int × List TTerm × List TAffine)).bind fun (Ins, Vars, Root, Phase, Terms, Out) =>
  some (.rt ((TPathSum.mk Ins Vars Root Phase Terms Out), r_3, true)))) else (some (.br y))
def F_spec_l21Step (p : TPathSum) : Option (TPathSum × Int × Bool) :=
  (whX (F_spec_l21Step_l1 p) fuel p.Ins).bind <| orR fun y =>
  some (((TPathSum.mk 0 0 0 0 [] []), 0, false))

def F_spec_l21Reduce_l1 : (Int × Int × Int × Int × List TTerm × List TAffine × Int) → Option (Ex (Int × Int × Int × Int × List TTerm × List TAffine × Int) (TPathSum × Int)) := fun (Ins, Vars, Root, Phase, Terms, Out, n2) =>
  (F_spec_l21Step (TPathSum.mk Ins Vars Root Phase Terms Out)).bind fun (r_2, r_3, r_4) =>
  (gb (!(!r_4)) false (F_spec_l21Valid r_2)).bind fun r_5 =>
  bif ((!r_4) || (!r_5)) then (some (.rt ((TPathSum.mk Ins Vars Root Phase Terms Out), n2))) else (some (.nx (r_2.Ins, r_2.Vars, r_2.Root, r_2.Phase, r_2.Terms, r_2.Out, (IntKind.i64.wrap (n2 + 1)))))
def F_spec_l21Reduce (p : TPathSum) : Option (TPathSum × Int) :=
  (whX F_spec_l21Reduce_l1 fuel (p.Ins, p.Vars, p.Root, p.Phase, p.Terms, p.Out, 0)).bind <| orR fun _ => none

def F_spec_l21Own (p : TPathSum) : Option (TPathSum) :=
  chk (0 + p.Terms.length ≤ 1099511627776) <|
  chk (0 + p.Out.length ≤ 1099511627776) <|
  some (p)

def F_spec_ReducePathSum (p : TPathSum) : Option (TPathSum × Int × Bool) :=
  (F_spec_l21Valid p).bind fun r_3 =>
  bif (!r_3) then (some (((TPathSum.mk 0 0 0 0 [] []), 0, false))) else ((F_spec_l21Reduce p).bind fun (r_4, r_5) =>
  (F_spec_l21Own r_4).bind fun r_6 =>
  some ((r_6, r_5, true)))

def F_slices_IndexFunc_impl_Affine_impl_Affine_l1 (s : List TAffine) (f_ : TAffine → Option (Bool)) : Nat → Unit → Option (Ex (Unit) (Int)) := fun i _ =>
  (getI s (i : Int)).bind fun x1 =>
  (f_ x1).bind fun r_1 =>
  bif r_1 then (some (.rt (i : Int))) else (some (.nx ()))
def F_slices_IndexFunc_impl_Affine_impl_Affine (s : List TAffine) (f_ : TAffine → Option (Bool)) : Option (Int) :=
  chk (s.length ≤ 9223372036854775807) <|
  (forX (F_slices_IndexFunc_impl_Affine_impl_Affine_l1 s f_) s.length 0 ()).bind <| orR fun _ =>
  some ((-1))

def F_slices_ContainsFunc_impl_Affine_impl_Affine (s : List TAffine) (f_ : TAffine → Option (Bool)) : Option (Bool) :=
  (F_slices_IndexFunc_impl_Affine_impl_Affine s f_).bind fun r_1 =>
  some ((decide (0 ≤ r_1)))

def F_impl_within (n : Int) (low : Int) (high : Int) : Option (Bool) :=
  some (((decide (low ≤ n)) && (decide (n ≤ high))))

def F_math_bits_OnesCount64 (x : Int) : Option (Int) :=
  some ((bits .and .i64 (IntKind.i64.wrap (IntKind.u64.wrap ((IntKind.u64.wrap ((IntKind.u64.wrap ((bits .and .u64 (IntKind.u64.wrap ((shrK .u64 (IntKind.u64.wrap ((bits .and .u64 (shrK .u64 (IntKind.u64.wrap ((bits .and .u64 (shrK .u64 x 1) 6148914691236517205) + (bits .and .u64 x 6148914691236517205))) 2) 3689348814741910323) + (bits .and .u64 (IntKind.u64.wrap ((bits .and .u64 (shrK .u64 x 1) 6148914691236517205) + (bits .and .u64 x 6148914691236517205))) 3689348814741910323))) 4) + (IntKind.u64.wrap ((bits .and .u64 (shrK .u64 (IntKind.u64.wrap ((bits .and .u64 (shrK .u64 x 1) 6148914691236517205) + (bits .and .u64 x 6148914691236517205))) 2) 3689348814741910323) + (bits .and .u64 (IntKind.u64.wrap ((bits .and .u64 (shrK .u64 x 1) 6148914691236517205) + (bits .and .u64 x 6148914691236517205))) 3689348814741910323))))) 1085102592571150095) + (shrK .u64 (bits .and .u64 (IntKind.u64.wrap ((shrK .u64 (IntKind.u64.wrap ((bits .and .u64 (shrK .u64 (IntKind.u64.wrap ((bits .and .u64 (shrK .u64 x 1) 6148914691236517205) + (bits .and .u64 x 6148914691236517205))) 2) 3689348814741910323) + (bits .and .u64 (IntKind.u64.wrap ((bits .and .u64 (shrK .u64 x 1) 6148914691236517205) + (bits .and .u64 x 6148914691236517205))) 3689348814741910323))) 4) + (IntKind.u64.wrap ((bits .and .u64 (shrK .u64 (IntKind.u64.wrap ((bits .and .u64 (shrK .u64 x 1) 6148914691236517205) + (bits .and .u64 x 6148914691236517205))) 2) 3689348814741910323) + (bits .and .u64 (IntKind.u64.wrap ((bits .and .u64 (shrK .u64 x 1) 6148914691236517205) + (bits .and .u64 x 6148914691236517205))) 3689348814741910323))))) 1085102592571150095) 8))) + (shrK .u64 (IntKind.u64.wrap ((bits .and .u64 (IntKind.u64.wrap ((shrK .u64 (IntKind.u64.wrap ((bits .and .u64 (shrK .u64 (IntKind.u64.wrap ((bits .and .u64 (shrK .u64 x 1) 6148914691236517205) + (bits .and .u64 x 6148914691236517205))) 2) 3689348814741910323) + (bits .and .u64 (IntKind.u64.wrap ((bits .and .u64 (shrK .u64 x 1) 6148914691236517205) + (bits .and .u64 x 6148914691236517205))) 3689348814741910323))) 4) + (IntKind.u64.wrap ((bits .and .u64 (shrK .u64 (IntKind.u64.wrap ((bits .and .u64 (shrK .u64 x 1) 6148914691236517205) + (bits .and .u64 x 6148914691236517205))) 2) 3689348814741910323) + (bits .and .u64 (IntKind.u64.wrap ((bits .and .u64 (shrK .u64 x 1) 6148914691236517205) + (bits .and .u64 x 6148914691236517205))) 3689348814741910323))))) 1085102592571150095) + (shrK .u64 (bits .and .u64 (IntKind.u64.wrap ((shrK .u64 (IntKind.u64.wrap ((bits .and .u64 (shrK .u64 (IntKind.u64.wrap ((bits .and .u64 (shrK .u64 x 1) 6148914691236517205) + (bits .and .u64 x 6148914691236517205))) 2) 3689348814741910323) + (bits .and .u64 (IntKind.u64.wrap ((bits .and .u64 (shrK .u64 x 1) 6148914691236517205) + (bits .and .u64 x 6148914691236517205))) 3689348814741910323))) 4) + (IntKind.u64.wrap ((bits .and .u64 (shrK .u64 (IntKind.u64.wrap ((bits .and .u64 (shrK .u64 x 1) 6148914691236517205) + (bits .and .u64 x 6148914691236517205))) 2) 3689348814741910323) + (bits .and .u64 (IntKind.u64.wrap ((bits .and .u64 (shrK .u64 x 1) 6148914691236517205) + (bits .and .u64 x 6148914691236517205))) 3689348814741910323))))) 1085102592571150095) 8))) 16))) + (shrK .u64 (IntKind.u64.wrap ((IntKind.u64.wrap ((bits .and .u64 (IntKind.u64.wrap ((shrK .u64 (IntKind.u64.wrap ((bits .and .u64 (shrK .u64 (IntKind.u64.wrap ((bits .and .u64 (shrK .u64 x 1) 6148914691236517205) + (bits .and .u64 x 6148914691236517205))) 2) 3689348814741910323) + (bits .and .u64 (IntKind.u64.wrap ((bits .and .u64 (shrK .u64 x 1) 6148914691236517205) + (bits .and .u64 x 6148914691236517205))) 3689348814741910323))) 4) + (IntKind.u64.wrap ((bits .and .u64 (shrK .u64 (IntKind.u64.wrap ((bits .and .u64 (shrK .u64 x 1) 6148914691236517205) + (bits .and .u64 x 6148914691236517205))) 2) 3689348814741910323) + (bits .and .u64 (IntKind.u64.wrap ((bits .and .u64 (shrK .u64 x 1) 6148914691236517205) + (bits .and .u64 x 6148914691236517205))) 3689348814741910323))))) 1085102592571150095) + (shrK .u64 (bits .and .u64 (IntKind.u64.wrap ((shrK .u64 (IntKind.u64.wrap ((bits .and .u64 (shrK .u64 (IntKind.u64.wrap ((bits .and .u64 (shrK .u64 x 1) 6148914691236517205) + (bits .and .u64 x 6148914691236517205))) 2) 3689348814741910323) + (bits .and .u64 (IntKind.u64.wrap ((bits .and .u64 (shrK .u64 x 1) 6148914691236517205) + (bits .and .u64 x 6148914691236517205))) 3689348814741910323))) 4) + (IntKind.u64.wrap ((bits .and .u64 (shrK .u64 (IntKind.u64.wrap ((bits .and .u64 (shrK .u64 x 1) 6148914691236517205) + (bits .and .u64 x 6148914691236517205))) 2) 3689348814741910323) + (bits .and .u64 (IntKind.u64.wrap ((bits .and .u64 (shrK .u64 x 1) 6148914691236517205) + (bits .and .u64 x 6148914691236517205))) 3689348814741910323))))) 1085102592571150095) 8))) + (shrK .u64 (IntKind.u64.wrap ((bits .and .u64 (IntKind.u64.wrap ((shrK .u64 (IntKind.u64.wrap ((bits .and .u64 (shrK .u64 (IntKind.u64.wrap ((bits .and .u64 (shrK .u64 x 1) 6148914691236517205) + (bits .and .u64 x 6148914691236517205))) 2) 3689348814741910323) + (bits .and .u64 (IntKind.u64.wrap ((bits .and .u64 (shrK .u64 x 1) 6148914691236517205) + (bits .and .u64 x 6148914691236517205))) 3689348814741910323))) 4) + (IntKind.u64.wrap ((bits .and .u64 (shrK .u64 (IntKind.u64.wrap ((bits .and .u64 (shrK .u64 x 1) 6148914691236517205) + (bits .and .u64 x 6148914691236517205))) 2) 3689348814741910323) + (bits .and .u64 (IntKind.u64.wrap ((bits .and .u64 (shrK .u64 x 1) 6148914691236517205) + (bits .and .u64 x 6148914691236517205))) 3689348814741910323))))) 1085102592571150095) + (shrK .u64 (bits .and .u64 (IntKind.u64.wrap ((shrK .u64 (IntKind.u64.wrap ((bits .and .u64 (shrK .u64 (IntKind.u64.wrap ((bits .and .u64 (shrK .u64 x 1) 6148914691236517205) + (bits .and .u64 x 6148914691236517205))) 2) 3689348814741910323) + (bits .and .u64 (IntKind.u64.wrap ((bits .and .u64 (shrK .u64 x 1) 6148914691236517205) + (bits .and .u64 x 6148914691236517205))) 3689348814741910323))) 4) + (IntKind.u64.wrap ((bits .and .u64 (shrK .u64 (IntKind.u64.wrap ((bits .and .u64 (shrK .u64 x 1) 6148914691236517205) + (bits .and .u64 x 6148914691236517205))) 2) 3689348814741910323) + (bits .and .u64 (IntKind.u64.wrap ((bits .and .u64 (shrK .u64 x 1) 6148914691236517205) + (bits .and .u64 x 6148914691236517205))) 3689348814741910323))))) 1085102592571150095) 8))) 16))) 32)))) 127))

def F_math_bits_OnesCount (x : Int) : Option (Int) :=
  (F_math_bits_OnesCount64 x).bind fun r_1 =>
  some (r_1)

def F_impl_bitsIn (mask : Int) : Option (Int) :=
  (F_math_bits_OnesCount (IntKind.u64.wrap mask)).bind fun r_1 =>
  some (r_1)

def F_impl_isAffine (a : TAffine) (n : Int) : Option (Bool) :=
  chk ((0 : Int) ≤ n) <|
  (F_impl_within a.Mask 0 (IntKind.i64.wrap ((shlK .i64 1 n) - 1))).bind fun r_1 =>
  (gb r_1 false (F_impl_within a.Turn 0 1)).bind fun r_2 =>
  some ((r_1 && r_2))

def F_impl_IsValidPathSum_1 (a : TAffine) (p : Int) : Option (Bool) :=
  (F_impl_isAffine a p).bind fun r_1 =>
  some ((!r_1))

def F_impl_IsValidPathSum_l1 (p : TPathSum) : Nat → Unit → Option (Ex (Unit) (Bool)) := fun i _ =>
  (getI p.Terms (i : Int)).bind fun x =>
  (F_impl_bitsIn x.Mask).bind fun r_5 =>
  chk ((0 : Int) ≤ (IntKind.i64.wrap (p.Ins + p.Vars))) <|
  (F_impl_within x.Mask 1 (IntKind.i64.wrap ((shlK .i64 1 (IntKind.i64.wrap (p.Ins + p.Vars))) - 1))).bind fun r_6 =>
  (gb (!((!r_6) || (decide (3 < r_5)))) false (F_impl_within x.Coef 1 7)).bind fun r_7 =>
  chk ((!(((!r_6) || (decide (3 < r_5))) || (!r_7))) = true → (0 : Int) ≤ (IntKind.i64.wrap (r_5 - 1))) <|
  chk ((!(((!r_6) || (decide (3 < r_5))) || (!r_7))) = true → (shlK .i64 1 (IntKind.i64.wrap (r_5 - 1))) ≠ (0 : Int)) <|
  (gb ((!((((!r_6) || (decide (3 < r_5))) || (!r_7)) || ((Int.tmod x.Coef (shlK .i64 1 (IntKind.i64.wrap (r_5 - 1)))) != 0))) && (decide (0 < (i : Int)))) (TTerm.mk 0 0) (getI p.Terms (IntKind.i64.wrap ((i : Int) - 1)))).bind fun x1 =>
  bif (((((!r_6) || (decide (3 < r_5))) || (!r_7)) || ((Int.tmod x.Coef (shlK .i64 1 (IntKind.i64.wrap (r_5 - 1)))) != 0)) || ((decide (0 < (i : Int))) && (decide (x.Mask ≤ x1.Mask)))) then (some (.rt false)) else (some (.nx ()))
def F_impl_IsValidPathSum (p : TPathSum) : Option (Bool) :=
  (F_impl_within p.Ins 1 5).bind fun r_1 =>
  (gb (!(!r_1)) false (F_impl_within p.Vars 0 (IntKind.i64.wrap (24 - p.Ins)))).bind fun r_2 =>
  (gb (!((!r_1) || (!r_2))) false (F_impl_within p.Root (-60) 60)).bind fun r_3 =>
  (gb (!(((!r_1) || (!r_2)) || (!r_3))) false (F_impl_within p.Phase 0 7)).bind fun r_4 =>
  bif (((((!r_1) || (!r_2)) || (!r_3)) || (!r_4)) || ((p.Out.length : Int) != p.Ins)) then (some (false)) else (chk (p.Terms.length ≤ 9223372036854775807) <|
  (forX (F_impl_IsValidPathSum_l1 p) p.Terms.length 0 ()).bind <| orR fun _ =>
  (F_slices_ContainsFunc_impl_Affine_impl_Affine p.Out (fun x_0 => F_impl_IsValidPathSum_1 x_0 (IntKind.i64.wrap (p.Ins + p.Vars)))).bind fun r_8 =>
  some ((!r_8)))

def F_impl_ReduceStep_1 (a : TAffine) (p : Int) : Option (Bool) :=
  chk ((0 : Int) ≤ p) <|
  some (((bits .and .i64 (shrK .i64 a.Mask p) 1) == 1))

def F_impl_PathSum_around_l1 (p : TPathSum) (y : Int) : Nat → (Int × Int × Bool × Bool) → Option (Int × Int × Bool × Bool) := fun i (coef, set_, any, plain) =>
  (((getI p.Terms (i : Int)).bind fun x =>
  chk ((0 : Int) ≤ y) <|
  bif ((bits .and .i64 (shrK .i64 x.Mask y) 1) == 0) then (some (coef, set_, any, plain)) else (chk ((0 : Int) ≤ y) <|
  (F_impl_bitsIn (bits .xor .i64 x.Mask (shlK .i64 1 y))).bind fun r_4 =>
  bif (r_4 == 0) then (some (x.Coef, set_, true, plain)) else (bif (r_4 == 1) then (some (coef, (bits .or .i64 set_ (bits .xor .i64 x.Mask (shlK .i64 1 y))), true, (plain && (x.Coef == 4)))) else (some (coef, set_, true, false))))) : Option (Int × Int × Bool × Bool)).bind fun (coef1, set_1, any1, plain1) =>
  some (coef1, set_1, any1, plain1)
def F_impl_PathSum_around (p : TPathSum) (y : Int) : Option (Int × Int × Bool × Bool) :=
  chk (p.Terms.length ≤ 9223372036854775807) <|
  (forN (F_impl_PathSum_around_l1 p y) p.Terms.length 0 (0, 0, false, true)).bind fun (coef, set_, any, plain) =>
  some ((coef, set_, any, plain))

def F_math_bits_TrailingZeros64 (x : Int) : Option (Int) :=
  bif (x == 0) then (some (64)) else ((getI gl1 (shrK .u64 (IntKind.u64.wrap ((bits .and .u64 x (IntKind.u64.wrap (-x))) * 285870213051353865)) 58)).bind fun x1 =>
  some ((IntKind.i64.wrap x1)))

def F_math_bits_TrailingZeros (x : Int) : Option (Int) :=
  (F_math_bits_TrailingZeros64 x).bind fun r_1 =>
  some (r_1)

def F_impl_dropped (mask : Int) (v_ : Int) : Option (Int) :=
  chk ((0 : Int) ≤ v_) <|
  chk ((0 : Int) ≤ (IntKind.i64.wrap (v_ + 1))) <|
  chk ((0 : Int) ≤ v_) <|
  some ((bits .or .i64 (bits .and .i64 mask (IntKind.i64.wrap ((shlK .i64 1 v_) - 1))) (shlK .i64 (shrK .i64 mask (IntKind.i64.wrap (v_ + 1))) v_)))

def F_impl_PathSum_without_l2 (p : TPathSum) (v_ : Int) : (List TAffine × Int) → Option (Ex (List TAffine × Int) (TPathSum)) := fun (Out, t1) =>
  bif (decide (t1 < (p.Out.length : Int))) then ((getI p.Out t1).bind fun x1 =>
  (F_impl_dropped x1.Mask v_).bind fun r_2 =>
  chk (Out.length + 1 ≤ 1099511627776) <|
  some (.nx ((Out ++ [(TAffine.mk r_2 x1.Turn)]), (IntKind.i64.wrap (t1 + 1))))) else (some (.br (Out, t1)))
def F_impl_PathSum_without_l1 (p : TPathSum) (v_ : Int) : (List TTerm × Int) → Option (Ex (List TTerm × Int) (TPathSum)) := fun (Terms, t) =>
  bif (decide (t < (p.Terms.length : Int))) then ((getI p.Terms t).bind fun x =>
  (F_impl_dropped x.Mask v_).bind fun r_1 =>
  chk (Terms.length + 1 ≤ 1099511627776) <|
  some (.nx ((Terms ++ [(TTerm.mk r_1 x.Coef)]), (IntKind.i64.wrap (t + 1))))) else (some (.br (Terms, t)))
def F_impl_PathSum_without (p : TPathSum) (v_ : Int) : Option (TPathSum) :=
  (whX (F_impl_PathSum_without_l1 p v_) fuel ([], 0)).bind <| orR fun (Terms, t) =>
  (whX (F_impl_PathSum_without_l2 p v_) fuel ([], 0)).bind <| orR fun (Out, t1) =>
  some ((TPathSum.mk p.Ins (IntKind.i64.wrap (p.Vars - 1)) p.Root p.Phase Terms Out))

def F_impl_polyOf_l1 (p : TPathSum) : Nat → ((List (Int × Int))) → Option ((List (Int × Int))) := fun i out =>
  (getI p.Terms (i : Int)).bind fun x =>
  some (mput out x.Mask x.Coef)
def F_impl_polyOf (p : TPathSum) : Option ((List (Int × Int))) :=
  chk (p.Terms.length ≤ 9223372036854775807) <|
  (forN (F_impl_polyOf_l1 p) p.Terms.length 0 (mput ([] : List (Int × Int)) 0 p.Phase)).bind fun out =>
  some (out)

def F_impl_polynomial_add (p : List (Int × Int)) (mask : Int) (coef : Int) : Option ((List (Int × Int))) :=
  some ((mput p mask (Int.tmod (IntKind.i64.wrap ((Int.tmod (IntKind.i64.wrap ((mgt p mask 0) + coef)) 8) + 8)) 8)))

def F_impl_bitsOf_l1 : (Int × List Int) → Option (Ex (Int × List Int) (List Int)) := fun (mask1, out) =>
  bif (mask1 != 0) then (chk (out.length + 1 ≤ 1099511627776) <|
  some (.nx ((bits .xor .i64 mask1 (bits .and .i64 mask1 (IntKind.i64.wrap (-mask1)))), (out ++ [(bits .and .i64 mask1 (IntKind.i64.wrap (-mask1)))])))) else (some (.br (mask1, out)))
def F_impl_bitsOf (mask : Int) : Option (List Int) :=
  (whX F_impl_bitsOf_l1 fuel (mask, [])).bind <| orR fun (mask1, out) =>
  some (out)

def F_impl_polynomial_expand_l3 (i1 : Nat) (r_ : List Int) (rest_ : Int) (x : Int) (x1 : Int) (coef1 : Int) : Nat → ((List (Int × Int))) → Option ((List (Int × Int))) := fun i2 m7 =>
  (getI (List.take i1 r_) (i2 : Int)).bind fun x2 =>
  (F_impl_polynomial_add m7 (bits .or .i64 (bits .or .i64 (bits .or .i64 rest_ x) x1) x2) (IntKind.i64.wrap (4 * coef1))).bind fun m8 =>
  some m8
def F_impl_polynomial_expand_l2 (i : Nat) (r_ : List Int) (rest_ : Int) (x : Int) (coef1 : Int) : Nat → ((List (Int × Int))) → Option ((List (Int × Int))) := fun i1 m5 =>
  (getI (List.take i r_) (i1 : Int)).bind fun x1 =>
  (F_impl_polynomial_add m5 (bits .or .i64 (bits .or .i64 rest_ x) x1) (IntKind.i64.wrap ((-2) * coef1))).bind fun m6 =>
  chk ((0 : Int) ≤ (i1 : Int) ∧ (i1 : Int) ≤ (r_.length : Int)) <|
  chk (i1 ≤ 9223372036854775807) <|
  (forN (F_impl_polynomial_expand_l3 i1 r_ rest_ x x1 coef1) i1 0 m6).bind fun m7 =>
  some m7
def F_impl_polynomial_expand_l1 (r_ : List Int) (rest_ : Int) (coef1 : Int) : Nat → ((List (Int × Int))) → Option ((List (Int × Int))) := fun i m3 =>
  (getI r_ (i : Int)).bind fun x =>
  (F_impl_polynomial_add m3 (bits .or .i64 rest_ x) coef1).bind fun m4 =>
  chk ((0 : Int) ≤ (i : Int) ∧ (i : Int) ≤ (r_.length : Int)) <|
  chk (i ≤ 9223372036854775807) <|
  (forN (F_impl_polynomial_expand_l2 i r_ rest_ x coef1) i 0 m4).bind fun m5 =>
  some m5
def F_impl_polynomial_expand (p : List (Int × Int)) (coef : Int) (a : TAffine) (rest_ : Int) : Option ((List (Int × Int))) :=
  ((bif (a.Turn == 1) then ((F_impl_polynomial_add p rest_ coef).bind fun m2 =>
  some (m2, (IntKind.i64.wrap (-coef)))) else (some (p, coef))) : Option ((List (Int × Int)) × Int)).bind fun (m1, coef1) =>
  (F_impl_bitsOf a.Mask).bind fun r_ =>
  chk (r_.length ≤ 9223372036854775807) <|
  (forN (F_impl_polynomial_expand_l1 r_ rest_ coef1) r_.length 0 m1).bind fun m3 =>
  some (m3)

def tmF (q : Int × Int) : Option TTerm := if 0 < q.1 ∧ 0 < q.2 then some ⟨q.1, q.2⟩ else none
def termsOf (p : List (Int × Int)) : List TTerm := (p.filterMap tmF).mergeSort fun a b => decide (a.Mask ≤ b.Mask)
def F_impl_polynomial_terms (p : List (Int × Int)) : Option (List TTerm) :=
  chk (p.length < 1099511627776 ∧ ∀ q ∈ p, q.1 < 4611686018427387904) <|
  some (termsOf p)

def F_impl_PathSum_stripped_l1 (p : TPathSum) (y : Int) : Nat → ((List (Int × Int))) → Option ((List (Int × Int))) := fun i poly =>
  (((getI p.Terms (i : Int)).bind fun x =>
  chk ((0 : Int) ≤ y) <|
  bif ((bits .and .i64 (shrK .i64 x.Mask y) 1) == 1) then (some (mdel poly x.Mask)) else (some poly)) : Option ((List (Int × Int)))).bind fun poly1 =>
  some poly1
def F_impl_PathSum_stripped (p : TPathSum) (y : Int) (coef : Int) (set_ : Int) : Option (TPathSum) :=
  (F_impl_polyOf p).bind fun r_1 =>
  chk (p.Terms.length ≤ 9223372036854775807) <|
  (forN (F_impl_PathSum_stripped_l1 p y) p.Terms.length 0 r_1).bind fun poly =>
  (F_impl_polynomial_expand poly coef (TAffine.mk set_ 0) 0).bind fun m =>
  (F_impl_polynomial_terms m).bind fun r_2 =>
  (F_impl_PathSum_without (TPathSum.mk p.Ins p.Vars p.Root (mgt m 0 0) r_2 p.Out) y).bind fun r_3 =>
  some (r_3)

def F_impl_PathSum_substituted_l2 (p : TPathSum) (v_ : Int) (by_ : TAffine) : (List TAffine × Int) → Option (Ex (List TAffine × Int) (TPathSum)) := fun (Out, t) =>
  bif (decide (t < (p.Out.length : Int))) then ((getI p.Out t).bind fun x1 =>
  ((chk ((0 : Int) ≤ v_) <|
  bif ((bits .and .i64 (shrK .i64 x1.Mask v_) 1) == 1) then (chk ((0 : Int) ≤ v_) <|
  some ((bits .xor .i64 (bits .xor .i64 x1.Mask (shlK .i64 1 v_)) by_.Mask), (bits .xor .i64 x1.Turn by_.Turn))) else (some (x1.Mask, x1.Turn))) : Option (Int × Int)).bind fun (Mask, Turn) =>
  chk (Out.length + 1 ≤ 1099511627776) <|
  some (.nx ((Out ++ [(TAffine.mk Mask Turn)]), (IntKind.i64.wrap (t + 1))))) else (some (.br (Out, t)))
def F_impl_PathSum_substituted_l1 (p : TPathSum) (v_ : Int) (by_ : TAffine) : Nat → ((List (Int × Int))) → Option ((List (Int × Int))) := fun i poly =>
  (((getI p.Terms (i : Int)).bind fun x =>
  chk ((0 : Int) ≤ v_) <|
  bif ((bits .and .i64 (shrK .i64 x.Mask v_) 1) == 1) then (chk ((0 : Int) ≤ v_) <|
  (F_impl_polynomial_expand poly x.Coef by_ (bits .xor .i64 x.Mask (shlK .i64 1 v_))).bind fun m =>
  some m) else ((F_impl_polynomial_add poly x.Mask x.Coef).bind fun m1 =>
  some m1)) : Option ((List (Int × Int)))).bind fun poly1 =>
  some poly1
def F_impl_PathSum_substituted (p : TPathSum) (v_ : Int) (by_ : TAffine) : Option (TPathSum) :=
  chk (p.Terms.length ≤ 9223372036854775807) <|
  (forN (F_impl_PathSum_substituted_l1 p v_ by_) p.Terms.length 0 (mput ([] : List (Int × Int)) 0 p.Phase)).bind fun poly =>
  (F_impl_polynomial_terms poly).bind fun r_1 =>
  (whX (F_impl_PathSum_substituted_l2 p v_ by_) fuel ([], 0)).bind <| orR fun (Out, t) =>
  (F_impl_PathSum_without (TPathSum.mk p.Ins p.Vars p.Root (mgt poly 0 0) r_1 Out) v_).bind fun r_2 =>
  some (r_2)

def F_impl_PathSum_ruled (p : TPathSum) (y : Int) : Option (TPathSum × Int) :=
  (F_impl_PathSum_around p y).bind fun (r_2, r_3, r_4, r_5) =>
  chk ((0 : Int) ≤ p.Ins) <|
  (F_math_bits_TrailingZeros (IntKind.u64.wrap (bits .andNot .i64 r_3 (IntKind.i64.wrap ((shlK .i64 1 p.Ins) - 1))))).bind fun r_6 =>
  bif (!r_4) then ((F_impl_PathSum_without p y).bind fun r_7 =>
  some (((TPathSum.mk r_7.Ins r_7.Vars (IntKind.i64.wrap (r_7.Root - 2)) r_7.Phase r_7.Terms r_7.Out), 1))) else (bif (r_5 && ((Int.tmod r_2 4) == 2)) then ((F_impl_PathSum_stripped p y (IntKind.i64.wrap (8 - r_2)) r_3).bind fun r_8 =>
  (getI ([0, 0, 1, 0, 0, 0, 7] : List Int) r_2).bind fun x =>
  some (((TPathSum.mk r_8.Ins r_8.Vars (IntKind.i64.wrap (r_8.Root - 1)) (Int.tmod (IntKind.i64.wrap (r_8.Phase + x)) 8) r_8.Terms r_8.Out), 2))) else (chk ((r_5 && ((Int.tmod r_2 4) == 0)) = true → (0 : Int) ≤ p.Ins) <|
  bif ((r_5 && ((Int.tmod r_2 4) == 0)) && ((shrK .i64 r_3 p.Ins) != 0)) then ((F_impl_PathSum_stripped p y 0 0).bind fun r_9 =>
  chk ((0 : Int) ≤ r_6) <|
  (F_impl_dropped (bits .xor .i64 r_3 (shlK .i64 1 r_6)) y).bind fun r_10 =>
  ((bif (decide (y < r_6)) then (some (IntKind.i64.wrap (r_6 - 1))) else (some r_6)) : Option (Int)).bind fun inner =>
  (F_impl_PathSum_substituted (TPathSum.mk r_9.Ins r_9.Vars (IntKind.i64.wrap (r_9.Root - 2)) r_9.Phase r_9.Terms r_9.Out) inner (TAffine.mk r_10 (IntKind.i64.wrap (Int.tdiv r_2 4)))).bind fun r_11 =>
  some ((r_11, 3))) else (some (((TPathSum.mk 0 0 0 0 [] []), 0)))))

def F_impl_ReduceStep_l1 (p : TPathSum) : Int → Option (Ex (Int) (TPathSum × Int × Bool)) := fun y =>
  bif (decide (y < (IntKind.i64.wrap (p.Ins + p.Vars)))) then ((((F_slices_ContainsFunc_impl_Affine_impl_Affine p.Out (fun x_0 => F_impl_ReduceStep_1 x_0 y)).bind fun r_4 =>
  bif r_4 then (some (.inl ())) else ((F_impl_PathSum_ruled p y).bind fun (r_5, r_6) =>
  bif (r_6 == 0) then (some (.inl ())) else ((F_impl_IsValidPathSum r_5).bind fun r_7 =>
  bif (!r_7) then (some (.inr (.rt ((TPathSum.mk 0 0 0 0 [] []), 0, false)))) else (some (.inr (.rt (r_5, r_6, true))))))) : Option ((Unit) ⊕ (Ex (Int) (TPathSum × Int × Bool)))).bind <| orR fun _ =>
  some (.nx (IntKind.i64.wrap (y + 1)))) else (some (.br y))
def F_impl_ReduceStep (p : TPathSum) : Option (TPathSum × Int × Bool) :=
  (F_impl_IsValidPathSum p).bind fun r_3 =>
  bif (!r_3) then (some (((TPathSum.mk 0 0 0 0 [] []), 0, false))) else ((whX (F_impl_ReduceStep_l1 p) fuel p.Ins).bind <| orR fun y =>
  some (((TPathSum.mk 0 0 0 0 [] []), 0, false)))

def F_slices_Clone_impl_Term_impl_Term (s : List TTerm) : Option (List TTerm) :=
  chk (0 + s.length ≤ 1099511627776) <|
  some (s)

def F_slices_Clone_impl_Affine_impl_Affine (s : List TAffine) : Option (List TAffine) :=
  chk (0 + s.length ≤ 1099511627776) <|
  some (s)

def F_impl_ReducePathSum_l1 : (Int × Int × Int × Int × List TTerm × List TAffine × Int) → Option (Ex (Int × Int × Int × Int × List TTerm × List TAffine × Int) (TPathSum × Int × Bool)) := fun (Ins, Vars, Root, Phase, Terms, Out, count) =>
  (F_impl_ReduceStep (TPathSum.mk Ins Vars Root Phase Terms Out)).bind fun (r_6, r_7, r_8) =>
  bif (!r_8) then (some (.rt ((TPathSum.mk Ins Vars Root Phase Terms Out), count, true))) else (some (.nx (r_6.Ins, r_6.Vars, r_6.Root, r_6.Phase, r_6.Terms, r_6.Out, (IntKind.i64.wrap (count + 1)))))
def F_impl_ReducePathSum (p : TPathSum) : Option (TPathSum × Int × Bool) :=
  (F_impl_IsValidPathSum p).bind fun r_3 =>
  bif (!r_3) then (some (((TPathSum.mk 0 0 0 0 [] []), 0, false))) else ((F_slices_Clone_impl_Term_impl_Term p.Terms).bind fun r_4 =>
  (F_slices_Clone_impl_Affine_impl_Affine p.Out).bind fun r_5 =>
  (whX F_impl_ReducePathSum_l1 fuel (p.Ins, p.Vars, p.Root, p.Phase, r_4, r_5, 0)).bind <| orR fun _ => none)

def F_laws_FnExactReducePathSum (aP : TPathSum) : Option (Bool) :=
  (F_laws_szPathSum aP 1048576).bind fun r_1 =>
  bif (decide (r_1 < 0)) then (some (true)) else ((F_laws_toPathSum aP).bind fun r_2 =>
  (F_spec_ReducePathSum r_2).bind fun (r_3, r_4, r_5) =>
  (F_laws_toPathSum aP).bind fun r_6 =>
  (F_impl_ReducePathSum r_6).bind fun (r_7, r_8, r_9) =>
  (F_laws_eqPathSum r_7 r_3).bind fun r_10 =>
  bif (((!r_10) || (r_8 != r_4)) || (!(r_9 == r_5))) then (some (false)) else ((F_laws_toPathSum aP).bind fun r_11 =>
  (F_laws_eqPathSum r_6 r_11).bind fun r_12 =>
  bif (!r_12) then (some (false)) else ((F_laws_markPathSum r_6 1).bind fun (r_13, m, m1) =>
  (gb (!(decide (r_13 < 0))) false (F_laws_eqPathSum r_7 r_3)).bind fun r_14 =>
  bif ((((decide (r_13 < 0)) || (!r_14)) || (r_8 != r_4)) || (!(r_9 == r_5))) then (some (false)) else ((F_laws_markPathSum r_7 1).bind fun (r_15, m2, m3) =>
  (F_laws_heldPathSum (TPathSum.mk r_7.Ins r_7.Vars r_7.Root r_7.Phase m2 m3) 1).bind fun r_16 =>
  bif (decide (r_16 < 0)) then (some (false)) else (bif (r_16 != r_15) then (some (false)) else ((F_laws_toPathSum aP).bind fun r_17 =>
  (F_impl_ReducePathSum r_17).bind fun (r_18, r_19, r_20) =>
  (F_laws_eqPathSum r_18 r_3).bind fun r_21 =>
  bif (((!r_21) || (r_19 != r_4)) || (!(r_20 == r_5))) then (some (false)) else ((F_laws_heldPathSum (TPathSum.mk r_7.Ins r_7.Vars r_7.Root r_7.Phase m2 m3) 1).bind fun r_22 =>
  bif (decide (r_22 < 0)) then (some (false)) else (bif (r_22 != r_15) then (some (false)) else (some (true))))))))))
end Go.VK
