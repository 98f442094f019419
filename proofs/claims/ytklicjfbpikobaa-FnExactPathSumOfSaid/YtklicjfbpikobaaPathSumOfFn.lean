/- What each Go function computes, by program. -/
import Derived.Test.YtklicjfbpikobaaPathSumOfTy
set_option linter.unusedVariables false
namespace Go.VK
open Go.RowKit
def F_laws_eqGate (a : TGate) (b : TGate) : Option (Bool) :=
  bif (a.Kind != b.Kind) then (some (false)) else (bif (a.A != b.A) then (some (false)) else (bif (a.B != b.B) then (some (false)) else (some (true))))

def F_laws_eqGateS_l1 (a : List TGate) (b : List TGate) : Nat → Unit → Option (Ex (Unit) (Bool)) := fun i1 _ =>
  (getI a (i1 : Int)).bind fun x =>
  (getI b (i1 : Int)).bind fun x1 =>
  (F_laws_eqGate x x1).bind fun r_1 =>
  bif (!r_1) then (some (.rt false)) else (some (.nx ()))
def F_laws_eqGateS (a : List TGate) (b : List TGate) : Option (Bool) :=
  bif ((a.length : Int) != (b.length : Int)) then (some (false)) else (chk (a.length ≤ 9223372036854775807) <|
  (forX (F_laws_eqGateS_l1 a b) a.length 0 ()).bind <| orR fun _ =>
  some (true))

def F_laws_eqCircuit (a : TCircuit) (b : TCircuit) : Option (Bool) :=
  bif (a.Qubits != b.Qubits) then (some (false)) else ((F_laws_eqGateS a.Gates b.Gates).bind fun r_1 =>
  bif (!r_1) then (some (false)) else (some (true)))

def F_laws_markGateS_l1 : Nat → (List TGate × Int) → Option (List TGate × Int) := fun i1 (m1, k_1) =>
  (getI m1 (i1 : Int)).bind fun x =>
  some ((((m1.set (i1 : Int).toNat (TGate.mk k_1 x.A x.B)).set (i1 : Int).toNat (TGate.mk k_1 (IntKind.i64.wrap (k_1 + 1)) x.B)).set (i1 : Int).toNat (TGate.mk k_1 (IntKind.i64.wrap (k_1 + 1)) (IntKind.i64.wrap ((IntKind.i64.wrap (k_1 + 1)) + 1)))), (IntKind.i64.wrap ((IntKind.i64.wrap ((IntKind.i64.wrap (k_1 + 1)) + 1)) + 1)))
def F_laws_markGateS (a : List TGate) (k_ : Int) : Option (Int × List TGate) :=
  chk (a.length ≤ 9223372036854775807) <|
  (forN F_laws_markGateS_l1 a.length 0 (a, k_)).bind fun (m1, k_1) =>
  some ((k_1, m1))

def F_laws_markCircuit (a : TCircuit) (k_ : Int) : Option (Int × List TGate) :=
  (F_laws_markGateS a.Gates k_).bind fun (r_1, m1) =>
  some ((r_1, m1))

def F_laws_szGateS (a : List TGate) (left : Int) : Option (Int) :=
  bif (decide ((IntKind.i64.wrap (left - (a.length : Int))) < 0)) then (some ((-1))) else (some ((IntKind.i64.wrap (left - (a.length : Int)))))

def F_laws_szCircuit (a : TCircuit) (left : Int) : Option (Int) :=
  (F_laws_szGateS a.Gates left).bind fun r_1 =>
  bif (decide (r_1 < 0)) then (some ((-1))) else (some (r_1))

def F_laws_toGate (a : TGate) : Option (TGate) :=
  some (a)

def F_laws_toGateS_l1 (a : List TGate) : Nat → (List TGate) → Option (List TGate) := fun i1 out =>
  (getI a (i1 : Int)).bind fun x =>
  (F_laws_toGate x).bind fun r_1 =>
  (getI out (i1 : Int)).bind fun x1 =>
  some (out.set (i1 : Int).toNat r_1)
def F_laws_toGateS (a : List TGate) : Option (List TGate) :=
  chk ((0 : Int) ≤ (a.length : Int) ∧ (a.length : Int) ≤ 1099511627776) <|
  chk (a.length ≤ 9223372036854775807) <|
  (forN (F_laws_toGateS_l1 a) a.length 0 (List.replicate a.length (TGate.mk 0 0 0))).bind fun out =>
  some (out)

def F_laws_toCircuit (a : TCircuit) : Option (TCircuit) :=
  (F_laws_toGateS a.Gates).bind fun r_1 =>
  some ((TCircuit.mk a.Qubits r_1))

def F_laws_eqTerm (a : TTerm) (b : TTerm) : Option (Bool) :=
  bif (a.Mask != b.Mask) then (some (false)) else (bif (a.Coef != b.Coef) then (some (false)) else (some (true)))

def F_laws_eqTermS_l1 (a : List TTerm) (b : List TTerm) : Nat → Unit → Option (Ex (Unit) (Bool)) := fun i1 _ =>
  (getI a (i1 : Int)).bind fun x =>
  (getI b (i1 : Int)).bind fun x1 =>
  (F_laws_eqTerm x x1).bind fun r_1 =>
  bif (!r_1) then (some (.rt false)) else (some (.nx ()))
def F_laws_eqTermS (a : List TTerm) (b : List TTerm) : Option (Bool) :=
  bif ((a.length : Int) != (b.length : Int)) then (some (false)) else (chk (a.length ≤ 9223372036854775807) <|
  (forX (F_laws_eqTermS_l1 a b) a.length 0 ()).bind <| orR fun _ =>
  some (true))

def F_laws_eqAffine (a : TAffine) (b : TAffine) : Option (Bool) :=
  bif (a.Mask != b.Mask) then (some (false)) else (bif (a.Turn != b.Turn) then (some (false)) else (some (true)))

def F_laws_eqAffineS_l1 (a : List TAffine) (b : List TAffine) : Nat → Unit → Option (Ex (Unit) (Bool)) := fun i1 _ =>
  (getI a (i1 : Int)).bind fun x =>
  (getI b (i1 : Int)).bind fun x1 =>
  (F_laws_eqAffine x x1).bind fun r_1 =>
  bif (!r_1) then (some (.rt false)) else (some (.nx ()))
def F_laws_eqAffineS (a : List TAffine) (b : List TAffine) : Option (Bool) :=
  bif ((a.length : Int) != (b.length : Int)) then (some (false)) else (chk (a.length ≤ 9223372036854775807) <|
  (forX (F_laws_eqAffineS_l1 a b) a.length 0 ()).bind <| orR fun _ =>
  some (true))

def F_laws_eqPathSum (a : TPathSum) (b : TPathSum) : Option (Bool) :=
  bif (a.Ins != b.Ins) then (some (false)) else (bif (a.Vars != b.Vars) then (some (false)) else (bif (a.Root != b.Root) then (some (false)) else (bif (a.Phase != b.Phase) then (some (false)) else ((F_laws_eqTermS a.Terms b.Terms).bind fun r_1 =>
  bif (!r_1) then (some (false)) else ((F_laws_eqAffineS a.Out b.Out).bind fun r_2 =>
  bif (!r_2) then (some (false)) else (some (true)))))))

def F_laws_markTermS_l1 : Nat → (List TTerm × Int) → Option (List TTerm × Int) := fun i1 (m1, k_1) =>
  (getI m1 (i1 : Int)).bind fun x =>
  some (((m1.set (i1 : Int).toNat (TTerm.mk k_1 x.Coef)).set (i1 : Int).toNat (TTerm.mk k_1 (IntKind.i64.wrap (k_1 + 1)))), (IntKind.i64.wrap ((IntKind.i64.wrap (k_1 + 1)) + 1)))
def F_laws_markTermS (a : List TTerm) (k_ : Int) : Option (Int × List TTerm) :=
  chk (a.length ≤ 9223372036854775807) <|
  (forN F_laws_markTermS_l1 a.length 0 (a, k_)).bind fun (m1, k_1) =>
  some ((k_1, m1))

def F_laws_markAffineS_l1 : Nat → (List TAffine × Int) → Option (List TAffine × Int) := fun i1 (m1, k_1) =>
  (getI m1 (i1 : Int)).bind fun x =>
  some (((m1.set (i1 : Int).toNat (TAffine.mk k_1 x.Turn)).set (i1 : Int).toNat (TAffine.mk k_1 (IntKind.i64.wrap (k_1 + 1)))), (IntKind.i64.wrap ((IntKind.i64.wrap (k_1 + 1)) + 1)))
def F_laws_markAffineS (a : List TAffine) (k_ : Int) : Option (Int × List TAffine) :=
  chk (a.length ≤ 9223372036854775807) <|
  (forN F_laws_markAffineS_l1 a.length 0 (a, k_)).bind fun (m1, k_1) =>
  some ((k_1, m1))

def F_laws_markPathSum (a : TPathSum) (k_ : Int) : Option (Int × List TTerm × List TAffine) :=
  (F_laws_markTermS a.Terms k_).bind fun (r_1, m2) =>
  (F_laws_markAffineS a.Out r_1).bind fun (r_2, m3) =>
  some ((r_2, m2, m3))

def F_laws_heldTermS_l1 (a : List TTerm) : Nat → Int → Option (Ex (Int) (Int)) := fun i1 k_1 =>
  (getI a (i1 : Int)).bind fun x =>
  bif (x.Mask != k_1) then (some (.rt (-1))) else (bif (x.Coef != (IntKind.i64.wrap (k_1 + 1))) then (some (.rt (-1))) else (some (.nx (IntKind.i64.wrap ((IntKind.i64.wrap (k_1 + 1)) + 1)))))
def F_laws_heldTermS (a : List TTerm) (k_ : Int) : Option (Int) :=
  chk (a.length ≤ 9223372036854775807) <|
  (forX (F_laws_heldTermS_l1 a) a.length 0 k_).bind <| orR fun k_1 =>
  some (k_1)

def F_laws_heldAffineS_l1 (a : List TAffine) : Nat → Int → Option (Ex (Int) (Int)) := fun i1 k_1 =>
  (getI a (i1 : Int)).bind fun x =>
  bif (x.Mask != k_1) then (some (.rt (-1))) else (bif (x.Turn != (IntKind.i64.wrap (k_1 + 1))) then (some (.rt (-1))) else (some (.nx (IntKind.i64.wrap ((IntKind.i64.wrap (k_1 + 1)) + 1)))))
def F_laws_heldAffineS (a : List TAffine) (k_ : Int) : Option (Int) :=
  chk (a.length ≤ 9223372036854775807) <|
  (forX (F_laws_heldAffineS_l1 a) a.length 0 k_).bind <| orR fun k_1 =>
  some (k_1)

def F_laws_heldPathSum (a : TPathSum) (k_ : Int) : Option (Int) :=
  (F_laws_heldTermS a.Terms k_).bind fun r_1 =>
  bif (decide (r_1 < 0)) then (some ((-1))) else ((F_laws_heldAffineS a.Out r_1).bind fun r_2 =>
  bif (decide (r_2 < 0)) then (some ((-1))) else (some (r_2)))

def F_spec_l1In (n : Int) (lo : Int) (hi : Int) : Option (Bool) :=
  some (((decide (lo ≤ n)) && (decide (n ≤ hi))))

def F_spec_l4Gate (n : Int) (g : TGate) : Option (Bool) :=
  (F_spec_l1In g.Kind 1 8).bind fun r_1 =>
  bif r_1 then ((F_spec_l1In g.A 0 (IntKind.i64.wrap (n - 1))).bind fun r_2 =>
  some ((r_2 && (g.B == 0)))) else ((F_spec_l1In g.Kind 9 11).bind fun r_3 =>
  bif r_3 then ((F_spec_l1In g.A 0 (IntKind.i64.wrap (n - 1))).bind fun r_4 =>
  (gb r_4 false (F_spec_l1In g.B 0 (IntKind.i64.wrap (n - 1)))).bind fun r_5 =>
  some (((r_4 && r_5) && (g.A != g.B)))) else (some ((((g.Kind == 12) && (g.A == 0)) && (g.B == 0)))))

def F_spec_l4Good_l1 (c : TCircuit) : Nat → Unit → Option (Ex (Unit) (Bool)) := fun i _ =>
  (getI c.Gates (i : Int)).bind fun x =>
  (F_spec_l4Gate c.Qubits x).bind fun r_2 =>
  bif (!r_2) then (some (.rt false)) else (some (.nx ()))
def F_spec_l4Good (c : TCircuit) : Option (Bool) :=
  (F_spec_l1In c.Qubits 1 5).bind fun r_1 =>
  bif ((!r_1) || (decide (400 < (c.Gates.length : Int)))) then (some (false)) else (chk (c.Gates.length ≤ 9223372036854775807) <|
  (forX (F_spec_l4Good_l1 c) c.Gates.length 0 ()).bind <| orR fun _ =>
  some (true))

def F_spec_l21Sum_add_l1 (s : Tl21Sum) (mask : Int) : Int → Option (Ex (Int) (Tl21Sum)) := fun at_ =>
  (gb (decide (at_ < (s.terms.length : Int))) (TTerm.mk 0 0) (getI s.terms at_)).bind fun x =>
  bif ((decide (at_ < (s.terms.length : Int))) && (decide (x.Mask < mask))) then (some (.nx (IntKind.i64.wrap (at_ + 1)))) else (some (.br at_))
def F_spec_l21Sum_add (s : Tl21Sum) (mask : Int) (k_ : Int) : Option (Tl21Sum) :=
  bif (mask == 0) then (some ((Tl21Sum.mk (Int.tmod (IntKind.i64.wrap (s.phase + (Int.tmod (IntKind.i64.wrap ((Int.tmod k_ 8) + 8)) 8))) 8) s.terms))) else (bif ((Int.tmod (IntKind.i64.wrap ((Int.tmod k_ 8) + 8)) 8) == 0) then (some (s)) else ((whX (F_spec_l21Sum_add_l1 s mask) fuel 0).bind <| orR fun at_ =>
  (gb (decide (at_ < (s.terms.length : Int))) (TTerm.mk 0 0) (getI s.terms at_)).bind fun x1 =>
  bif ((decide (at_ < (s.terms.length : Int))) && (x1.Mask == mask)) then ((getI s.terms at_).bind fun x2 =>
  chk ((0 : Int) ≤ (IntKind.i64.wrap (at_ + 1)) ∧ (IntKind.i64.wrap (at_ + 1)) ≤ (s.terms.length : Int)) <|
  chk (0 + (s.terms.length - (IntKind.i64.wrap (at_ + 1)).toNat) ≤ 1099511627776) <|
  chk ((0 : Int) ≤ at_ ∧ at_ ≤ (s.terms.length : Int)) <|
  chk (0 + at_.toNat ≤ 1099511627776) <|
  ((bif (decide (0 < (Int.tmod (IntKind.i64.wrap ((Int.tmod (IntKind.i64.wrap ((Int.tmod k_ 8) + 8)) 8) + x2.Coef)) 8))) then (chk (((List.take at_.toNat s.terms).length) + 1 ≤ 1099511627776) <|
  some ((List.take at_.toNat s.terms) ++ [(TTerm.mk mask (Int.tmod (IntKind.i64.wrap ((Int.tmod (IntKind.i64.wrap ((Int.tmod k_ 8) + 8)) 8) + x2.Coef)) 8))])) else (some (List.take at_.toNat s.terms))) : Option (List TTerm)).bind fun terms =>
  chk (terms.length + ((List.drop ((IntKind.i64.wrap (at_ + 1)).toNat) s.terms).length) ≤ 1099511627776) <|
  some ((Tl21Sum.mk s.phase (terms ++ (List.drop ((IntKind.i64.wrap (at_ + 1)).toNat) s.terms))))) else (chk ((0 : Int) ≤ at_ ∧ at_ ≤ (s.terms.length : Int)) <|
  chk (0 + (s.terms.length - at_.toNat) ≤ 1099511627776) <|
  chk ((0 : Int) ≤ at_ ∧ at_ ≤ (s.terms.length : Int)) <|
  chk (0 + at_.toNat ≤ 1099511627776) <|
  chk (((List.take at_.toNat s.terms).length) + 1 ≤ 1099511627776) <|
  chk ((((List.take at_.toNat s.terms) ++ [(TTerm.mk mask (Int.tmod (IntKind.i64.wrap ((Int.tmod k_ 8) + 8)) 8))]).length) + ((List.drop at_.toNat s.terms).length) ≤ 1099511627776) <|
  some ((Tl21Sum.mk s.phase (((List.take at_.toNat s.terms) ++ [(TTerm.mk mask (Int.tmod (IntKind.i64.wrap ((Int.tmod k_ 8) + 8)) 8))]) ++ (List.drop at_.toNat s.terms)))))))

def F_spec_l1Set_l1 (row : Int) : (List Int × Int) → Option (Ex (List Int × Int) (List Int)) := fun (out, k_) =>
  chk ((0 : Int) ≤ (IntKind.u64.wrap k_)) <|
  bif (decide (0 < (shrK .i64 row (IntKind.u64.wrap k_)))) then (((chk ((0 : Int) ≤ (IntKind.u64.wrap k_)) <|
  bif ((bits .and .i64 (shrK .i64 row (IntKind.u64.wrap k_)) 1) == 1) then (chk (out.length + 1 ≤ 1099511627776) <|
  some (out ++ [k_])) else (some out)) : Option (List Int)).bind fun out1 =>
  some (.nx (out1, (IntKind.i64.wrap (k_ + 1))))) else (some (.br (out, k_)))
def F_spec_l1Set (row : Int) : Option (List Int) :=
  (whX (F_spec_l1Set_l1 row) fuel ([], 0)).bind <| orR fun (out, k_) =>
  some (out)

def F_spec_l21Sum_times_l3 (i1 : Nat) (r_ : List Int) (x : Int) (x1 : Int) (mask : Int) (k_1 : Int) : Nat → (Int × List TTerm) → Option (Int × List TTerm) := fun i2 (phase3, terms3) =>
  (getI (List.take i1 r_) (i2 : Int)).bind fun x2 =>
  chk ((0 : Int) ≤ (IntKind.u64.wrap x)) <|
  chk ((0 : Int) ≤ (IntKind.u64.wrap x1)) <|
  chk ((0 : Int) ≤ (IntKind.u64.wrap x2)) <|
  (F_spec_l21Sum_add (Tl21Sum.mk phase3 terms3) (bits .or .i64 (bits .or .i64 (bits .or .i64 mask (shlK .i64 1 (IntKind.u64.wrap x))) (shlK .i64 1 (IntKind.u64.wrap x1))) (shlK .i64 1 (IntKind.u64.wrap x2))) (IntKind.i64.wrap (4 * k_1))).bind fun m4 =>
  some (m4.phase, m4.terms)
def F_spec_l21Sum_times_l2 (i : Nat) (r_ : List Int) (x : Int) (mask : Int) (k_1 : Int) : Nat → (Int × List TTerm) → Option (Int × List TTerm) := fun i1 (phase2, terms2) =>
  (getI (List.take i r_) (i1 : Int)).bind fun x1 =>
  chk ((0 : Int) ≤ (IntKind.u64.wrap x)) <|
  chk ((0 : Int) ≤ (IntKind.u64.wrap x1)) <|
  (F_spec_l21Sum_add (Tl21Sum.mk phase2 terms2) (bits .or .i64 (bits .or .i64 mask (shlK .i64 1 (IntKind.u64.wrap x))) (shlK .i64 1 (IntKind.u64.wrap x1))) (IntKind.i64.wrap ((-2) * k_1))).bind fun m3 =>
  chk ((0 : Int) ≤ (i1 : Int) ∧ (i1 : Int) ≤ (r_.length : Int)) <|
  chk (i1 ≤ 9223372036854775807) <|
  (forN (F_spec_l21Sum_times_l3 i1 r_ x x1 mask k_1) i1 0 (m3.phase, m3.terms)).bind fun (phase3, terms3) =>
  some (phase3, terms3)
def F_spec_l21Sum_times_l1 (r_ : List Int) (mask : Int) (k_1 : Int) : Nat → (Int × List TTerm) → Option (Int × List TTerm) := fun i (phase1, terms1) =>
  (getI r_ (i : Int)).bind fun x =>
  chk ((0 : Int) ≤ (IntKind.u64.wrap x)) <|
  (F_spec_l21Sum_add (Tl21Sum.mk phase1 terms1) (bits .or .i64 mask (shlK .i64 1 (IntKind.u64.wrap x))) k_1).bind fun m2 =>
  chk ((0 : Int) ≤ (i : Int) ∧ (i : Int) ≤ (r_.length : Int)) <|
  chk (i ≤ 9223372036854775807) <|
  (forN (F_spec_l21Sum_times_l2 i r_ x mask k_1) i 0 (m2.phase, m2.terms)).bind fun (phase2, terms2) =>
  some (phase2, terms2)
def F_spec_l21Sum_times (s : Tl21Sum) (mask : Int) (k_ : Int) (by_ : TAffine) : Option (Tl21Sum) :=
  ((bif (by_.Turn == 1) then ((F_spec_l21Sum_add s mask k_).bind fun m1 =>
  some (m1.phase, m1.terms, (IntKind.i64.wrap (-k_)))) else (some (s.phase, s.terms, k_))) : Option (Int × List TTerm × Int)).bind fun (phase, terms, k_1) =>
  (F_spec_l1Set by_.Mask).bind fun r_ =>
  chk (r_.length ≤ 9223372036854775807) <|
  (forN (F_spec_l21Sum_times_l1 r_ mask k_1) r_.length 0 (phase, terms)).bind fun (phase1, terms1) =>
  some ((Tl21Sum.mk phase1 terms1))

def F_spec_l21Sum_product_l2 (r_1 : List Int) (x : Int) : Nat → (Int × List TTerm) → Option (Int × List TTerm) := fun i1 (phase1, terms1) =>
  (getI r_1 (i1 : Int)).bind fun x1 =>
  chk ((0 : Int) ≤ (IntKind.u64.wrap x)) <|
  chk ((0 : Int) ≤ (IntKind.u64.wrap x1)) <|
  (F_spec_l21Sum_add (Tl21Sum.mk phase1 terms1) (bits .or .i64 (shlK .i64 1 (IntKind.u64.wrap x)) (shlK .i64 1 (IntKind.u64.wrap x1))) 4).bind fun m1 =>
  some (m1.phase, m1.terms)
def F_spec_l21Sum_product_l3 (r_2 : List Int) (u : TAffine) : Nat → (Int × List TTerm) → Option (Int × List TTerm) := fun i2 (phase2, terms2) =>
  (getI r_2 (i2 : Int)).bind fun x2 =>
  chk ((0 : Int) ≤ (IntKind.u64.wrap x2)) <|
  (F_spec_l21Sum_add (Tl21Sum.mk phase2 terms2) (shlK .i64 1 (IntKind.u64.wrap x2)) (IntKind.i64.wrap (4 * u.Turn))).bind fun m3 =>
  some (m3.phase, m3.terms)
def F_spec_l21Sum_product_l1 (r_ : List Int) (v_ : TAffine) : Nat → (Int × List TTerm) → Option (Int × List TTerm) := fun i (phase, terms) =>
  (getI r_ (i : Int)).bind fun x =>
  (F_spec_l1Set v_.Mask).bind fun r_1 =>
  chk (r_1.length ≤ 9223372036854775807) <|
  (forN (F_spec_l21Sum_product_l2 r_1 x) r_1.length 0 (phase, terms)).bind fun (phase1, terms1) =>
  chk ((0 : Int) ≤ (IntKind.u64.wrap x)) <|
  (F_spec_l21Sum_add (Tl21Sum.mk phase1 terms1) (shlK .i64 1 (IntKind.u64.wrap x)) (IntKind.i64.wrap (4 * v_.Turn))).bind fun m2 =>
  some (m2.phase, m2.terms)
def F_spec_l21Sum_product (s : Tl21Sum) (u : TAffine) (v_ : TAffine) : Option (Tl21Sum) :=
  (F_spec_l1Set u.Mask).bind fun r_ =>
  chk (r_.length ≤ 9223372036854775807) <|
  (forN (F_spec_l21Sum_product_l1 r_ v_) r_.length 0 (s.phase, s.terms)).bind fun (phase, terms) =>
  (F_spec_l1Set v_.Mask).bind fun r_2 =>
  chk (r_2.length ≤ 9223372036854775807) <|
  (forN (F_spec_l21Sum_product_l3 r_2 u) r_2.length 0 (phase, terms)).bind fun (phase2, terms2) =>
  (F_spec_l21Sum_add (Tl21Sum.mk phase2 terms2) 0 (IntKind.i64.wrap ((IntKind.i64.wrap (4 * u.Turn)) * v_.Turn))).bind fun m4 =>
  some (m4)

def F_spec_l21Xor (a : TAffine) (b : TAffine) : Option (TAffine) :=
  some ((TAffine.mk (bits .xor .i64 a.Mask b.Mask) (bits .xor .i64 a.Turn b.Turn)))

def F_spec_l13Coef (kind : Int) : Option (Int) :=
  bif (kind == 4) then (some (4)) else (bif (kind == 5) then (some (2)) else (bif (kind == 6) then (some (6)) else (bif (kind == 7) then (some (1)) else (bif (kind == 8) then (some (7)) else (some (0))))))

def F_spec_l21Of_l2 (c : TCircuit) : Nat → (Int × Int × List TAffine × Int × List TTerm) → Option (Ex (Int × Int × List TAffine × Int × List TTerm) (TPathSum × Bool)) := fun i1 (Vars, Root, Out1, phase, terms) =>
  (((getI c.Gates (i1 : Int)).bind fun x =>
  (getI Out1 x.A).bind fun x1 =>
  (getI Out1 x.B).bind fun x2 =>
  bif (x.Kind == 1) then (bif ((IntKind.i64.wrap (c.Qubits + Vars)) == 24) then (some (.inr (.rt ((TPathSum.mk 0 0 0 0 [] []), false)))) else (chk ((0 : Int) ≤ (IntKind.u64.wrap (IntKind.i64.wrap (c.Qubits + Vars)))) <|
  (F_spec_l21Sum_product (Tl21Sum.mk phase terms) x1 (TAffine.mk (shlK .i64 1 (IntKind.u64.wrap (IntKind.i64.wrap (c.Qubits + Vars)))) 0)).bind fun m =>
  (getI Out1 x.A).bind fun x3 =>
  some (.inl ((IntKind.i64.wrap (Vars + 1)), (IntKind.i64.wrap (Root + 1)), (Out1.set x.A.toNat (TAffine.mk (shlK .i64 1 (IntKind.u64.wrap (IntKind.i64.wrap (c.Qubits + Vars)))) 0)), m.phase, m.terms)))) else (bif (x.Kind == 2) then ((F_spec_l21Xor x1 (TAffine.mk 0 1)).bind fun r_2 =>
  (getI Out1 x.A).bind fun x4 =>
  some (.inl (Vars, Root, (Out1.set x.A.toNat r_2), phase, terms))) else (bif (x.Kind == 3) then ((F_spec_l21Sum_add (Tl21Sum.mk phase terms) 0 2).bind fun m1 =>
  (F_spec_l21Sum_times m1 0 4 x1).bind fun m2 =>
  (F_spec_l21Xor x1 (TAffine.mk 0 1)).bind fun r_3 =>
  (getI Out1 x.A).bind fun x5 =>
  some (.inl (Vars, Root, (Out1.set x.A.toNat r_3), m2.phase, m2.terms))) else (bif (x.Kind == 9) then ((F_spec_l21Xor x1 x2).bind fun r_4 =>
  (getI Out1 x.B).bind fun x6 =>
  some (.inl (Vars, Root, (Out1.set x.B.toNat r_4), phase, terms))) else (bif (x.Kind == 10) then ((F_spec_l21Sum_product (Tl21Sum.mk phase terms) x1 x2).bind fun m3 =>
  some (.inl (Vars, Root, Out1, m3.phase, m3.terms))) else (bif (x.Kind == 11) then ((getI Out1 x.A).bind fun x7 =>
  (getI (Out1.set x.A.toNat x2) x.B).bind fun x8 =>
  some (.inl (Vars, Root, ((Out1.set x.A.toNat x2).set x.B.toNat x1), phase, terms))) else (bif (x.Kind == 12) then ((F_spec_l21Sum_add (Tl21Sum.mk phase terms) 0 1).bind fun m4 =>
  some (.inl (Vars, Root, Out1, m4.phase, m4.terms))) else ((F_spec_l13Coef x.Kind).bind fun r_5 =>
  (F_spec_l21Sum_times (Tl21Sum.mk phase terms) 0 r_5 x1).bind fun m5 =>
  some (.inl (Vars, Root, Out1, m5.phase, m5.terms)))))))))) : Option ((Int × Int × List TAffine × Int × List TTerm) ⊕ (Ex (Int × Int × List TAffine × Int × List TTerm) (TPathSum × Bool)))).bind <| orR fun (Vars1, Root1, Out2, phase1, terms1) =>
  some (.nx (Vars1, Root1, Out2, phase1, terms1))
def F_spec_l21Of_l1 : Nat → (List TAffine) → Option (List TAffine) := fun q Out =>
  chk ((0 : Int) ≤ (IntKind.u64.wrap (q : Int))) <|
  chk (Out.length + 1 ≤ 1099511627776) <|
  some (Out ++ [(TAffine.mk (shlK .i64 1 (IntKind.u64.wrap (q : Int))) 0)])
def F_spec_l21Of (c : TCircuit) : Option (TPathSum × Bool) :=
  chk (c.Qubits.toNat ≤ 9223372036854775807) <|
  (forN F_spec_l21Of_l1 c.Qubits.toNat 0 []).bind fun Out =>
  chk (c.Gates.length ≤ 9223372036854775807) <|
  (forX (F_spec_l21Of_l2 c) c.Gates.length 0 (0, 0, Out, 0, [])).bind <| orR fun (Vars, Root, Out1, phase, terms) =>
  some (((TPathSum.mk c.Qubits Vars Root phase terms Out1), true))

def F_spec_PathSumOf (c : TCircuit) : Option (TPathSum × Bool) :=
  (F_spec_l4Good c).bind fun r_2 =>
  bif (!r_2) then (some (((TPathSum.mk 0 0 0 0 [] []), false))) else ((F_spec_l21Of c).bind fun (r_3, r_4) =>
  some ((r_3, r_4)))

def F_impl_within (n : Int) (low : Int) (high : Int) : Option (Bool) :=
  some (((decide (low ≤ n)) && (decide (n ≤ high))))

def F_slices_IndexFunc_impl_Gate_impl_Gate_l1 (s : List TGate) (f_ : TGate → Option (Bool)) : Nat → Unit → Option (Ex (Unit) (Int)) := fun i _ =>
  (getI s (i : Int)).bind fun x1 =>
  (f_ x1).bind fun r_1 =>
  bif r_1 then (some (.rt (i : Int))) else (some (.nx ()))
def F_slices_IndexFunc_impl_Gate_impl_Gate (s : List TGate) (f_ : TGate → Option (Bool)) : Option (Int) :=
  chk (s.length ≤ 9223372036854775807) <|
  (forX (F_slices_IndexFunc_impl_Gate_impl_Gate_l1 s f_) s.length 0 ()).bind <| orR fun _ =>
  some ((-1))

def F_slices_ContainsFunc_impl_Gate_impl_Gate (s : List TGate) (f_ : TGate → Option (Bool)) : Option (Bool) :=
  (F_slices_IndexFunc_impl_Gate_impl_Gate s f_).bind fun r_1 =>
  some ((decide (0 ≤ r_1)))

def F_impl_isTwo (kind : Int) : Option (Bool) :=
  (F_impl_within kind 9 11).bind fun r_1 =>
  some (r_1)

def F_impl_IsValidGate (n : Int) (g : TGate) : Option (Bool) :=
  (F_impl_within n 1 5).bind fun r_1 =>
  (gb (!(!r_1)) false (F_impl_within g.Kind 1 12)).bind fun r_2 =>
  bif ((!r_1) || (!r_2)) then (some (false)) else (bif (g.Kind == 12) then (some (((g.A == 0) && (g.B == 0)))) else ((F_impl_isTwo g.Kind).bind fun r_3 =>
  bif r_3 then ((F_impl_within g.A 0 (IntKind.i64.wrap (n - 1))).bind fun r_4 =>
  (gb r_4 false (F_impl_within g.B 0 (IntKind.i64.wrap (n - 1)))).bind fun r_5 =>
  some (((r_4 && r_5) && (g.A != g.B)))) else ((F_impl_within g.A 0 (IntKind.i64.wrap (n - 1))).bind fun r_6 =>
  some ((r_6 && (g.B == 0))))))

def F_impl_IsValidCircuit_1 (g : TGate) (p : TCircuit) : Option (Bool) :=
  (F_impl_IsValidGate p.Qubits g).bind fun r_1 =>
  some ((!r_1))

def F_impl_IsValidCircuit (c : TCircuit) : Option (Bool) :=
  (F_impl_within c.Qubits 1 5).bind fun r_1 =>
  (gb (r_1 && (decide ((c.Gates.length : Int) ≤ 400))) false (F_slices_ContainsFunc_impl_Gate_impl_Gate c.Gates (fun x_0 => F_impl_IsValidCircuit_1 x_0 c))).bind fun r_2 =>
  some (((r_1 && (decide ((c.Gates.length : Int) ≤ 400))) && (!r_2)))

def F_impl_polynomial_add (p : List (Int × Int)) (mask : Int) (coef : Int) : Option ((List (Int × Int))) :=
  some ((mput p mask (Int.tmod (IntKind.i64.wrap ((Int.tmod (IntKind.i64.wrap ((mgt p mask 0) + coef)) 8) + 8)) 8)))

def F_impl_bitsOf_l1 : (Int × List Int) → Option (Ex (Int × List Int) (List Int)) := fun (mask1, out) =>
  bif (mask1 != 0) then (chk (out.length + 1 ≤ 1099511627776) <|
  some (.nx ((bits .xor .i64 mask1 (bits .and .i64 mask1 (IntKind.i64.wrap (-mask1)))), (out ++ [(bits .and .i64 mask1 (IntKind.i64.wrap (-mask1)))])))) else (some (.br (mask1, out)))
def F_impl_bitsOf (mask : Int) : Option (List Int) :=
  (whX F_impl_bitsOf_l1 fuel (mask, [])).bind <| orR fun (mask1, out) =>
  some (out)

def F_impl_polynomial_expand_l3 (i1 : Nat) (r_ : List Int) (rest_ : Int) (x : Int) (x1 : Int) (coef1 : Int) : Nat → ((List (Int × Int))) → Option ((List (Int × Int))) := fun i2 m7 =>
  (getI (List.take i1 r_) (i2 : Int)).bind fun x2 =>
  (F_impl_polynomial_add m7 (bits .or .i64 (bits .or .i64 (bits .or .i64 rest_ x) x1) x2) (IntKind.i64.wrap (4 * coef1))).bind fun m8 =>
  some m8
def F_impl_polynomial_expand_l2 (i : Nat) (r_ : List Int) (rest_ : Int) (x : Int) (coef1 : Int) : Nat → ((List (Int × Int))) → Option ((List (Int × Int))) := fun i1 m5 =>
  (getI (List.take i r_) (i1 : Int)).bind fun x1 =>
  (F_impl_polynomial_add m5 (bits .or .i64 (bits .or .i64 rest_ x) x1) (IntKind.i64.wrap ((-2) * coef1))).bind fun m6 =>
  chk ((0 : Int) ≤ (i1 : Int) ∧ (i1 : Int) ≤ (r_.length : Int)) <|
  chk (i1 ≤ 9223372036854775807) <|
  (forN (F_impl_polynomial_expand_l3 i1 r_ rest_ x x1 coef1) i1 0 m6).bind fun m7 =>
  some m7
def F_impl_polynomial_expand_l1 (r_ : List Int) (rest_ : Int) (coef1 : Int) : Nat → ((List (Int × Int))) → Option ((List (Int × Int))) := fun i m3 =>
  (getI r_ (i : Int)).bind fun x =>
  (F_impl_polynomial_add m3 (bits .or .i64 rest_ x) coef1).bind fun m4 =>
  chk ((0 : Int) ≤ (i : Int) ∧ (i : Int) ≤ (r_.length : Int)) <|
  chk (i ≤ 9223372036854775807) <|
  (forN (F_impl_polynomial_expand_l2 i r_ rest_ x coef1) i 0 m4).bind fun m5 =>
  some m5
def F_impl_polynomial_expand (p : List (Int × Int)) (coef : Int) (a : TAffine) (rest_ : Int) : Option ((List (Int × Int))) :=
  ((bif (a.Turn == 1) then ((F_impl_polynomial_add p rest_ coef).bind fun m2 =>
  some (m2, (IntKind.i64.wrap (-coef)))) else (some (p, coef))) : Option ((List (Int × Int)) × Int)).bind fun (m1, coef1) =>
  (F_impl_bitsOf a.Mask).bind fun r_ =>
  chk (r_.length ≤ 9223372036854775807) <|
  (forN (F_impl_polynomial_expand_l1 r_ rest_ coef1) r_.length 0 m1).bind fun m3 =>
  some (m3)

def F_impl_polynomial_product_l2 (two : List Int) (x : Int) : Nat → ((List (Int × Int))) → Option ((List (Int × Int))) := fun i1 m2 =>
  (getI two (i1 : Int)).bind fun x1 =>
  (F_impl_polynomial_add m2 (bits .or .i64 x x1) 4).bind fun m3 =>
  some m3
def F_impl_polynomial_product_l1 (one_ : List Int) (two : List Int) : Nat → ((List (Int × Int))) → Option ((List (Int × Int))) := fun i m1 =>
  (getI one_ (i : Int)).bind fun x =>
  chk (two.length ≤ 9223372036854775807) <|
  (forN (F_impl_polynomial_product_l2 two x) two.length 0 m1).bind fun m2 =>
  some m2
def F_impl_polynomial_product (p : List (Int × Int)) (a : TAffine) (b : TAffine) : Option ((List (Int × Int))) :=
  (F_impl_bitsOf a.Mask).bind fun r_ =>
  (F_impl_bitsOf b.Mask).bind fun r_1 =>
  ((bif (a.Turn == 1) then (chk (r_.length + 1 ≤ 1099511627776) <|
  some (r_ ++ [0])) else (some r_)) : Option (List Int)).bind fun one_ =>
  ((bif (b.Turn == 1) then (chk (r_1.length + 1 ≤ 1099511627776) <|
  some (r_1 ++ [0])) else (some r_1)) : Option (List Int)).bind fun two =>
  chk (one_.length ≤ 9223372036854775807) <|
  (forN (F_impl_polynomial_product_l1 one_ two) one_.length 0 p).bind fun m1 =>
  some (m1)

def F_impl_rotationCoef (kind : Int) : Option (Int) :=
  bif (kind == 4) then (some (4)) else (bif (kind == 5) then (some (2)) else (bif (kind == 6) then (some (6)) else (bif (kind == 7) then (some (1)) else (bif (kind == 8) then (some (7)) else (some (0))))))

def F_impl_summer_process (s : Tsummer) (g1 : TGate) : Option (Bool × Tsummer × (List (Int × Int)) × List TAffine) :=
  (getI s.values g1.A).bind fun x =>
  ((bif (g1.Kind == 1) then (((bif (decide (24 ≤ (IntKind.i64.wrap (s.sum.Ins + s.sum.Vars)))) then (some ((s.sum.Vars, s.sum.Root, s.poly, s.values, false))) else (chk ((0 : Int) ≤ (IntKind.i64.wrap (s.sum.Ins + s.sum.Vars))) <|
  (F_impl_polynomial_product s.poly x (TAffine.mk (shlK .i64 1 (IntKind.i64.wrap (s.sum.Ins + s.sum.Vars))) 0)).bind fun m3 =>
  some (((IntKind.i64.wrap (s.sum.Vars + 1)), (IntKind.i64.wrap (s.sum.Root + 1)), m3, (s.values.set g1.A.toNat (TAffine.mk (shlK .i64 1 (IntKind.i64.wrap (s.sum.Ins + s.sum.Vars))) 0)), true)))) : Option (Int × Int × (List (Int × Int)) × List TAffine × Bool)).bind fun (Vars, Root, poly1, values1, t) =>
  some (.inr (t, (Tsummer.mk (TPathSum.mk s.sum.Ins Vars Root s.sum.Phase s.sum.Terms s.sum.Out) poly1 values1), poly1, values1))) else (bif (g1.Kind == 2) then (some (.inl (s.poly, (s.values.set g1.A.toNat (TAffine.mk x.Mask (bits .xor .i64 x.Turn 1)))))) else (bif (g1.Kind == 3) then ((F_impl_polynomial_add s.poly 0 2).bind fun m5 =>
  (F_impl_polynomial_expand m5 4 x 0).bind fun m6 =>
  some (.inl (m6, (s.values.set g1.A.toNat (TAffine.mk x.Mask (bits .xor .i64 x.Turn 1)))))) else (bif (g1.Kind == 9) then ((getI s.values g1.B).bind fun x1 =>
  (getI (s.values.set g1.B.toNat (TAffine.mk (bits .xor .i64 x1.Mask x.Mask) x1.Turn)) g1.B).bind fun x2 =>
  (getI (s.values.set g1.B.toNat (TAffine.mk (bits .xor .i64 x1.Mask x.Mask) x1.Turn)) g1.A).bind fun x3 =>
  some (.inl (s.poly, ((s.values.set g1.B.toNat (TAffine.mk (bits .xor .i64 x1.Mask x.Mask) x1.Turn)).set g1.B.toNat (TAffine.mk x2.Mask (bits .xor .i64 x2.Turn x3.Turn)))))) else (bif (g1.Kind == 10) then ((getI s.values g1.B).bind fun x4 =>
  (F_impl_polynomial_product s.poly x x4).bind fun m7 =>
  some (.inl (m7, s.values))) else (bif (g1.Kind == 11) then ((getI s.values g1.B).bind fun x5 =>
  (getI (s.values.set g1.A.toNat x5) g1.B).bind fun x6 =>
  some (.inl (s.poly, ((s.values.set g1.A.toNat x5).set g1.B.toNat x)))) else (bif (g1.Kind == 12) then ((F_impl_polynomial_add s.poly 0 1).bind fun m8 =>
  some (.inl (m8, s.values))) else ((F_impl_rotationCoef g1.Kind).bind fun r_1 =>
  (F_impl_polynomial_expand s.poly r_1 x 0).bind fun m9 =>
  some (.inl (m9, s.values)))))))))) : Option (((List (Int × Int)) × List TAffine) ⊕ (Bool × Tsummer × (List (Int × Int)) × List TAffine))).bind <| orR fun (poly, values) =>
  some ((true, (Tsummer.mk s.sum poly values), poly, values))

def tmF (q : Int × Int) : Option TTerm := if 0 < q.1 ∧ 0 < q.2 then some ⟨q.1, q.2⟩ else none
def termsOf (p : List (Int × Int)) : List TTerm := (p.filterMap tmF).mergeSort fun a b => decide (a.Mask ≤ b.Mask)
def F_impl_polynomial_terms (p : List (Int × Int)) : Option (List TTerm) :=
  chk (p.length < 1099511627776 ∧ ∀ q ∈ p, q.1 < 4611686018427387904) <|
  some (termsOf p)

def F_impl_PathSumOf_l2 (c : TCircuit) : Nat → (Int × Int × Int × Int × (List (Int × Int)) × List TAffine) → Option (Ex (Int × Int × Int × Int × (List (Int × Int)) × List TAffine) (TPathSum × Bool)) := fun i1 (Ins, Vars, Root, Phase, poly, values1) =>
  (getI c.Gates (i1 : Int)).bind fun x =>
  (F_impl_summer_process (Tsummer.mk (TPathSum.mk Ins Vars Root Phase [] []) poly values1) x).bind fun (r_3, m, m1, m2) =>
  bif (!r_3) then (some (.rt ((TPathSum.mk 0 0 0 0 [] []), false))) else (some (.nx (m.sum.Ins, m.sum.Vars, m.sum.Root, m.sum.Phase, m1, m2)))
def F_impl_PathSumOf_l1 : Nat → (List TAffine) → Option (List TAffine) := fun i values =>
  chk ((0 : Int) ≤ (i : Int)) <|
  chk (values.length + 1 ≤ 1099511627776) <|
  some (values ++ [(TAffine.mk (shlK .i64 1 (i : Int)) 0)])
def F_impl_PathSumOf (c : TCircuit) : Option (TPathSum × Bool) :=
  (F_impl_IsValidCircuit c).bind fun r_2 =>
  bif (!r_2) then (some (((TPathSum.mk 0 0 0 0 [] []), false))) else (chk (c.Qubits.toNat ≤ 9223372036854775807) <|
  (forN F_impl_PathSumOf_l1 c.Qubits.toNat 0 []).bind fun values =>
  chk (c.Gates.length ≤ 9223372036854775807) <|
  (forX (F_impl_PathSumOf_l2 c) c.Gates.length 0 (c.Qubits, 0, 0, 0, ([] : List (Int × Int)), values)).bind <| orR fun (Ins, Vars, Root, Phase, poly, values1) =>
  (F_impl_polynomial_terms poly).bind fun r_4 =>
  some (((TPathSum.mk Ins Vars Root (mgt poly 0 0) r_4 values1), true)))

def F_laws_FnExactPathSumOf (aC : TCircuit) : Option (Bool) :=
  (F_laws_szCircuit aC 1048576).bind fun r_1 =>
  bif (decide (r_1 < 0)) then (some (true)) else ((F_laws_toCircuit aC).bind fun r_2 =>
  (F_spec_PathSumOf r_2).bind fun (r_3, r_4) =>
  (F_laws_toCircuit aC).bind fun r_5 =>
  (F_impl_PathSumOf r_5).bind fun (r_6, r_7) =>
  (F_laws_eqPathSum r_6 r_3).bind fun r_8 =>
  bif ((!r_8) || (!(r_7 == r_4))) then (some (false)) else ((F_laws_toCircuit aC).bind fun r_9 =>
  (F_laws_eqCircuit r_5 r_9).bind fun r_10 =>
  bif (!r_10) then (some (false)) else ((F_laws_markCircuit r_5 1).bind fun (r_11, m) =>
  (gb (!(decide (r_11 < 0))) false (F_laws_eqPathSum r_6 r_3)).bind fun r_12 =>
  bif (((decide (r_11 < 0)) || (!r_12)) || (!(r_7 == r_4))) then (some (false)) else ((F_laws_markPathSum r_6 1).bind fun (r_13, m1, m2) =>
  (F_laws_heldPathSum (TPathSum.mk r_6.Ins r_6.Vars r_6.Root r_6.Phase m1 m2) 1).bind fun r_14 =>
  bif (decide (r_14 < 0)) then (some (false)) else (bif (r_14 != r_13) then (some (false)) else ((F_laws_toCircuit aC).bind fun r_15 =>
  (F_impl_PathSumOf r_15).bind fun (r_16, r_17) =>
  (F_laws_eqPathSum r_16 r_3).bind fun r_18 =>
  bif ((!r_18) || (!(r_17 == r_4))) then (some (false)) else ((F_laws_heldPathSum (TPathSum.mk r_6.Ins r_6.Vars r_6.Root r_6.Phase m1 m2) 1).bind fun r_19 =>
  bif (decide (r_19 < 0)) then (some (false)) else (bif (r_19 != r_13) then (some (false)) else (some (true))))))))))
end Go.VK
