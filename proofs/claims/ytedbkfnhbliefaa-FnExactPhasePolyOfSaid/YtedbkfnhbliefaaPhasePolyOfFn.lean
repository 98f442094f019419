/- What each Go function computes, by program. -/
import Derived.Test.YtedbkfnhbliefaaPhasePolyOfTy
set_option linter.unusedVariables false
namespace Go.VK
open Go.RowKit
def F_laws_szGateS (a : List TGate) (left : Int) : Option (Int) :=
  bif (decide ((IntKind.i64.wrap (left - (a.length : Int))) < 0)) then (some ((-1))) else (some ((IntKind.i64.wrap (left - (a.length : Int)))))

def F_laws_szCircuit (a : TCircuit) (left : Int) : Option (Int) :=
  (F_laws_szGateS a.Gates left).bind fun r_1 =>
  bif (decide (r_1 < 0)) then (some ((-1))) else (some (r_1))

def F_spec_l1In (n : Int) (lo : Int) (hi : Int) : Option (Bool) :=
  some (((decide (lo ≤ n)) && (decide (n ≤ hi))))

def F_spec_l4Gate (n : Int) (g : TGate) : Option (Bool) :=
  (F_spec_l1In g.Kind 1 8).bind fun r_1 =>
  bif r_1 then ((F_spec_l1In g.A 0 (IntKind.i64.wrap (n - 1))).bind fun r_2 =>
  some ((r_2 && (g.B == 0)))) else ((F_spec_l1In g.Kind 9 11).bind fun r_3 =>
  bif r_3 then ((F_spec_l1In g.A 0 (IntKind.i64.wrap (n - 1))).bind fun r_4 =>
  (gb r_4 false (F_spec_l1In g.B 0 (IntKind.i64.wrap (n - 1)))).bind fun r_5 =>
  some (((r_4 && r_5) && (g.A != g.B)))) else (some ((((g.Kind == 12) && (g.A == 0)) && (g.B == 0)))))

def F_spec_l4Good_l1 (c : TCircuit) : Nat → Unit → Option (Ex (Unit) (Bool)) := fun i _ =>
  (getI c.Gates (i : Int)).bind fun x =>
  (F_spec_l4Gate c.Qubits x).bind fun r_2 =>
  bif (!r_2) then (some (.rt false)) else (some (.nx ()))
def F_spec_l4Good (c : TCircuit) : Option (Bool) :=
  (F_spec_l1In c.Qubits 1 5).bind fun r_1 =>
  bif ((!r_1) || (decide (400 < (c.Gates.length : Int)))) then (some (false)) else (chk (c.Gates.length ≤ 9223372036854775807) <|
  (forX (F_spec_l4Good_l1 c) c.Gates.length 0 ()).bind <| orR fun _ =>
  some (true))

def F_spec_l12Identity_l1 : Nat → (List Int) → Option (List Int) := fun i1 Rows =>
  chk ((0 : Int) ≤ (IntKind.u64.wrap (i1 : Int))) <|
  chk (Rows.length + 1 ≤ 1099511627776) <|
  some (Rows ++ [(shlK .i64 1 (IntKind.u64.wrap (i1 : Int)))])
def F_spec_l12Identity (n : Int) : Option (TLinear) :=
  chk (n.toNat ≤ 9223372036854775807) <|
  (forN F_spec_l12Identity_l1 n.toNat 0 []).bind fun Rows =>
  some ((TLinear.mk Rows))

def F_spec_l1Own (l : List Int) : Option (List Int) :=
  chk (0 + l.length ≤ 1099511627776) <|
  some (l)

def F_spec_l12CX (m : TLinear) (a : Int) (b : Int) : Option (TLinear) :=
  (F_spec_l1Own m.Rows).bind fun r_1 =>
  (getI r_1 b).bind fun x =>
  (getI r_1 a).bind fun x1 =>
  some ((TLinear.mk (r_1.set b.toNat (bits .xor .i64 x x1))))

def F_spec_l13Coef (kind : Int) : Option (Int) :=
  bif (kind == 4) then (some (4)) else (bif (kind == 5) then (some (2)) else (bif (kind == 6) then (some (6)) else (bif (kind == 7) then (some (1)) else (bif (kind == 8) then (some (7)) else (some (0))))))

def F_spec_l13List_l1 (by_ : List Int) : Nat → (List TTerm) → Option (List TTerm) := fun i out =>
  (((getI by_ (i : Int)).bind fun x =>
  bif ((decide (0 < (i : Int))) && (decide (0 < (Int.tmod (IntKind.i64.wrap ((Int.tmod x 8) + 8)) 8)))) then (chk (out.length + 1 ≤ 1099511627776) <|
  some (out ++ [(TTerm.mk (i : Int) (Int.tmod (IntKind.i64.wrap ((Int.tmod x 8) + 8)) 8))])) else (some out)) : Option (List TTerm)).bind fun out1 =>
  some out1
def F_spec_l13List (by_ : List Int) : Option (List TTerm) :=
  chk (by_.length ≤ 9223372036854775807) <|
  (forN (F_spec_l13List_l1 by_) by_.length 0 []).bind fun out =>
  some (out)

def F_spec_PhasePolyOf_l1 (c : TCircuit) : Nat → (List Int × Int × List Int) → Option (Ex (List Int × Int × List Int) (TPhasePoly × Bool)) := fun i (by_, Phase, Rows) =>
  (((getI c.Gates (i : Int)).bind fun x =>
  bif (x.Kind == 9) then ((F_spec_l12CX (TLinear.mk Rows) x.A x.B).bind fun r_4 =>
  some (.inl (by_, Phase, r_4.Rows))) else (bif (x.Kind == 11) then ((F_spec_l12CX (TLinear.mk Rows) x.A x.B).bind fun r_5 =>
  (F_spec_l12CX r_5 x.B x.A).bind fun r_6 =>
  (F_spec_l12CX r_6 x.A x.B).bind fun r_7 =>
  some (.inl (by_, Phase, r_7.Rows))) else (bif (x.Kind == 10) then ((getI Rows x.A).bind fun x1 =>
  (getI by_ x1).bind fun x2 =>
  (getI Rows x.B).bind fun x3 =>
  (getI (by_.set x1.toNat (IntKind.i64.wrap (x2 + 2))) x3).bind fun x4 =>
  (getI ((by_.set x1.toNat (IntKind.i64.wrap (x2 + 2))).set x3.toNat (IntKind.i64.wrap (x4 + 2))) (bits .xor .i64 x1 x3)).bind fun x5 =>
  some (.inl ((((by_.set x1.toNat (IntKind.i64.wrap (x2 + 2))).set x3.toNat (IntKind.i64.wrap (x4 + 2))).set (bits .xor .i64 x1 x3).toNat (IntKind.i64.wrap (x5 + 6))), Phase, Rows))) else (bif (x.Kind == 12) then (some (.inl (by_, (Int.tmod (IntKind.i64.wrap (Phase + 1)) 8), Rows))) else ((F_spec_l13Coef x.Kind).bind fun r_8 =>
  bif (r_8 == 0) then (some (.inr (.rt ((TPhasePoly.mk 0 0 [] (TLinear.mk [])), false)))) else ((getI Rows x.A).bind fun x6 =>
  (getI by_ x6).bind fun x7 =>
  (F_spec_l13Coef x.Kind).bind fun r_9 =>
  some (.inl ((by_.set x6.toNat (IntKind.i64.wrap (x7 + r_9))), Phase, Rows)))))))) : Option ((List Int × Int × List Int) ⊕ (Ex (List Int × Int × List Int) (TPhasePoly × Bool)))).bind <| orR fun (by_1, Phase1, Rows1) =>
  some (.nx (by_1, Phase1, Rows1))
def F_spec_PhasePolyOf (c : TCircuit) : Option (TPhasePoly × Bool) :=
  (F_spec_l4Good c).bind fun r_2 =>
  bif (!r_2) then (some (((TPhasePoly.mk 0 0 [] (TLinear.mk [])), false))) else (chk ((0 : Int) ≤ (IntKind.u64.wrap c.Qubits)) <|
  chk ((0 : Int) ≤ (shlK .i64 1 (IntKind.u64.wrap c.Qubits)) ∧ (shlK .i64 1 (IntKind.u64.wrap c.Qubits)) ≤ 1099511627776) <|
  (F_spec_l12Identity c.Qubits).bind fun r_3 =>
  chk (c.Gates.length ≤ 9223372036854775807) <|
  (forX (F_spec_PhasePolyOf_l1 c) c.Gates.length 0 ((List.replicate ((shlK .i64 1 (IntKind.u64.wrap c.Qubits)).toNat) 0), 0, r_3.Rows)).bind <| orR fun (by_, Phase, Rows) =>
  (F_spec_l13List by_).bind fun r_10 =>
  some (((TPhasePoly.mk c.Qubits Phase r_10 (TLinear.mk Rows)), true)))

def F_laws_toGate (a : TGate) : Option (TGate) :=
  some (a)

def F_laws_toGateS_l1 (a : List TGate) : Nat → (List TGate) → Option (List TGate) := fun i1 out =>
  (getI a (i1 : Int)).bind fun x =>
  (F_laws_toGate x).bind fun r_1 =>
  (getI out (i1 : Int)).bind fun x1 =>
  some (out.set (i1 : Int).toNat r_1)
def F_laws_toGateS (a : List TGate) : Option (List TGate) :=
  chk ((0 : Int) ≤ (a.length : Int) ∧ (a.length : Int) ≤ 1099511627776) <|
  chk (a.length ≤ 9223372036854775807) <|
  (forN (F_laws_toGateS_l1 a) a.length 0 (List.replicate a.length (TGate.mk 0 0 0))).bind fun out =>
  some (out)

def F_laws_toCircuit (a : TCircuit) : Option (TCircuit) :=
  (F_laws_toGateS a.Gates).bind fun r_1 =>
  some ((TCircuit.mk a.Qubits r_1))

def F_impl_within (n : Int) (low : Int) (high : Int) : Option (Bool) :=
  some (((decide (low ≤ n)) && (decide (n ≤ high))))

def F_slices_IndexFunc_impl_Gate_impl_Gate_l1 (s : List TGate) (f_ : TGate → Option (Bool)) : Nat → Unit → Option (Ex (Unit) (Int)) := fun i _ =>
  (getI s (i : Int)).bind fun x1 =>
  (f_ x1).bind fun r_1 =>
  bif r_1 then (some (.rt (i : Int))) else (some (.nx ()))
def F_slices_IndexFunc_impl_Gate_impl_Gate (s : List TGate) (f_ : TGate → Option (Bool)) : Option (Int) :=
  chk (s.length ≤ 9223372036854775807) <|
  (forX (F_slices_IndexFunc_impl_Gate_impl_Gate_l1 s f_) s.length 0 ()).bind <| orR fun _ =>
  some ((-1))

def F_slices_ContainsFunc_impl_Gate_impl_Gate (s : List TGate) (f_ : TGate → Option (Bool)) : Option (Bool) :=
  (F_slices_IndexFunc_impl_Gate_impl_Gate s f_).bind fun r_1 =>
  some ((decide (0 ≤ r_1)))

def F_impl_isTwo (kind : Int) : Option (Bool) :=
  (F_impl_within kind 9 11).bind fun r_1 =>
  some (r_1)

def F_impl_IsValidGate (n : Int) (g : TGate) : Option (Bool) :=
  (F_impl_within n 1 5).bind fun r_1 =>
  (gb (!(!r_1)) false (F_impl_within g.Kind 1 12)).bind fun r_2 =>
  bif ((!r_1) || (!r_2)) then (some (false)) else (bif (g.Kind == 12) then (some (((g.A == 0) && (g.B == 0)))) else ((F_impl_isTwo g.Kind).bind fun r_3 =>
  bif r_3 then ((F_impl_within g.A 0 (IntKind.i64.wrap (n - 1))).bind fun r_4 =>
  (gb r_4 false (F_impl_within g.B 0 (IntKind.i64.wrap (n - 1)))).bind fun r_5 =>
  some (((r_4 && r_5) && (g.A != g.B)))) else ((F_impl_within g.A 0 (IntKind.i64.wrap (n - 1))).bind fun r_6 =>
  some ((r_6 && (g.B == 0))))))

def F_impl_IsValidCircuit_1 (g : TGate) (p : TCircuit) : Option (Bool) :=
  (F_impl_IsValidGate p.Qubits g).bind fun r_1 =>
  some ((!r_1))

def F_impl_IsValidCircuit (c : TCircuit) : Option (Bool) :=
  (F_impl_within c.Qubits 1 5).bind fun r_1 =>
  (gb (r_1 && (decide ((c.Gates.length : Int) ≤ 400))) false (F_slices_ContainsFunc_impl_Gate_impl_Gate c.Gates (fun x_0 => F_impl_IsValidCircuit_1 x_0 c))).bind fun r_2 =>
  some (((r_1 && (decide ((c.Gates.length : Int) ≤ 400))) && (!r_2)))

def F_impl_identityLinear_l1 : Nat → (List Int) → Option (List Int) := fun i Rows =>
  chk ((0 : Int) ≤ (i : Int)) <|
  chk (Rows.length + 1 ≤ 1099511627776) <|
  some (Rows ++ [(shlK .i64 1 (i : Int))])
def F_impl_identityLinear (n : Int) : Option (TLinear) :=
  chk (n.toNat ≤ 9223372036854775807) <|
  (forN F_impl_identityLinear_l1 n.toNat 0 []).bind fun Rows =>
  some ((TLinear.mk Rows))

def F_impl_coefficients_add (c : List Int) (mask : Int) (coef : Int) : Option (List Int) :=
  (getI c mask).bind fun x =>
  some ((c.set mask.toNat (Int.tmod (IntKind.i64.wrap ((Int.tmod (IntKind.i64.wrap (x + coef)) 8) + 8)) 8)))

def F_impl_rotationCoef (kind : Int) : Option (Int) :=
  bif (kind == 4) then (some (4)) else (bif (kind == 5) then (some (2)) else (bif (kind == 6) then (some (6)) else (bif (kind == 7) then (some (1)) else (bif (kind == 8) then (some (7)) else (some (0))))))

def F_impl_coefficients_terms_l1 (c : List Int) : Nat → (List TTerm) → Option (List TTerm) := fun i out =>
  (((getI c (i : Int)).bind fun x =>
  bif ((decide (0 < (i : Int))) && (decide (0 < x))) then (chk (out.length + 1 ≤ 1099511627776) <|
  some (out ++ [(TTerm.mk (i : Int) x)])) else (some out)) : Option (List TTerm)).bind fun out1 =>
  some out1
def F_impl_coefficients_terms (c : List Int) : Option (List TTerm) :=
  (forN (F_impl_coefficients_terms_l1 c) 32 0 []).bind fun out =>
  some (out)

def F_impl_PhasePolyOf_l1 (c : TCircuit) : Nat → (Int × List Int × List Int) → Option (Ex (Int × List Int × List Int) (TPhasePoly × Bool)) := fun i (Phase, Out, sums) =>
  (((getI c.Gates (i : Int)).bind fun x =>
  bif (x.Kind == 9) then ((getI Out x.B).bind fun x1 =>
  (getI Out x.A).bind fun x2 =>
  some (.inl (Phase, (Out.set x.B.toNat (bits .xor .i64 x1 x2)), sums))) else (bif (x.Kind == 11) then ((getI Out x.B).bind fun x3 =>
  (getI Out x.A).bind fun x4 =>
  (getI (Out.set x.A.toNat x3) x.B).bind fun x5 =>
  some (.inl (Phase, ((Out.set x.A.toNat x3).set x.B.toNat x4), sums))) else (bif (x.Kind == 10) then ((getI Out x.A).bind fun x6 =>
  (F_impl_coefficients_add sums x6 2).bind fun m =>
  (getI Out x.B).bind fun x7 =>
  (F_impl_coefficients_add m x7 2).bind fun m1 =>
  (F_impl_coefficients_add m1 (bits .xor .i64 x6 x7) 6).bind fun m2 =>
  some (.inl (Phase, Out, m2))) else (bif (x.Kind == 12) then (some (.inl ((Int.tmod (IntKind.i64.wrap (Phase + 1)) 8), Out, sums))) else ((F_impl_rotationCoef x.Kind).bind fun r_4 =>
  bif (r_4 == 0) then (some (.inr (.rt ((TPhasePoly.mk 0 0 [] (TLinear.mk [])), false)))) else ((getI Out x.A).bind fun x8 =>
  (F_impl_coefficients_add sums x8 r_4).bind fun m3 =>
  some (.inl (Phase, Out, m3)))))))) : Option ((Int × List Int × List Int) ⊕ (Ex (Int × List Int × List Int) (TPhasePoly × Bool)))).bind <| orR fun (Phase1, Out1, sums1) =>
  some (.nx (Phase1, Out1, sums1))
def F_impl_PhasePolyOf (c : TCircuit) : Option (TPhasePoly × Bool) :=
  (F_impl_IsValidCircuit c).bind fun r_2 =>
  bif (!r_2) then (some (((TPhasePoly.mk 0 0 [] (TLinear.mk [])), false))) else ((F_impl_identityLinear c.Qubits).bind fun r_3 =>
  chk (c.Gates.length ≤ 9223372036854775807) <|
  (forX (F_impl_PhasePolyOf_l1 c) c.Gates.length 0 (0, r_3.Rows, (List.replicate 32 0))).bind <| orR fun (Phase, Out, sums) =>
  (F_impl_coefficients_terms sums).bind fun r_5 =>
  some (((TPhasePoly.mk c.Qubits Phase r_5 (TLinear.mk Out)), true)))

def F_laws_eqTerm (a : TTerm) (b : TTerm) : Option (Bool) :=
  bif (a.Mask != b.Mask) then (some (false)) else (bif (a.Coef != b.Coef) then (some (false)) else (some (true)))

def F_laws_eqTermS_l1 (a : List TTerm) (b : List TTerm) : Nat → Unit → Option (Ex (Unit) (Bool)) := fun i1 _ =>
  (getI a (i1 : Int)).bind fun x =>
  (getI b (i1 : Int)).bind fun x1 =>
  (F_laws_eqTerm x x1).bind fun r_1 =>
  bif (!r_1) then (some (.rt false)) else (some (.nx ()))
def F_laws_eqTermS (a : List TTerm) (b : List TTerm) : Option (Bool) :=
  bif ((a.length : Int) != (b.length : Int)) then (some (false)) else (chk (a.length ≤ 9223372036854775807) <|
  (forX (F_laws_eqTermS_l1 a b) a.length 0 ()).bind <| orR fun _ =>
  some (true))

def F_laws_eqIntS_l1 (a : List Int) (b : List Int) : Nat → Unit → Option (Ex (Unit) (Bool)) := fun i1 _ =>
  (getI a (i1 : Int)).bind fun x =>
  (getI b (i1 : Int)).bind fun x1 =>
  bif (x != x1) then (some (.rt false)) else (some (.nx ()))
def F_laws_eqIntS (a : List Int) (b : List Int) : Option (Bool) :=
  bif ((a.length : Int) != (b.length : Int)) then (some (false)) else (chk (a.length ≤ 9223372036854775807) <|
  (forX (F_laws_eqIntS_l1 a b) a.length 0 ()).bind <| orR fun _ =>
  some (true))

def F_laws_eqLinear (a : TLinear) (b : TLinear) : Option (Bool) :=
  (F_laws_eqIntS a.Rows b.Rows).bind fun r_1 =>
  bif (!r_1) then (some (false)) else (some (true))

def F_laws_eqPhasePoly (a : TPhasePoly) (b : TPhasePoly) : Option (Bool) :=
  bif (a.Qubits != b.Qubits) then (some (false)) else (bif (a.Phase != b.Phase) then (some (false)) else ((F_laws_eqTermS a.Terms b.Terms).bind fun r_1 =>
  bif (!r_1) then (some (false)) else ((F_laws_eqLinear a.Out b.Out).bind fun r_2 =>
  bif (!r_2) then (some (false)) else (some (true)))))

def F_laws_eqGate (a : TGate) (b : TGate) : Option (Bool) :=
  bif (a.Kind != b.Kind) then (some (false)) else (bif (a.A != b.A) then (some (false)) else (bif (a.B != b.B) then (some (false)) else (some (true))))

def F_laws_eqGateS_l1 (a : List TGate) (b : List TGate) : Nat → Unit → Option (Ex (Unit) (Bool)) := fun i1 _ =>
  (getI a (i1 : Int)).bind fun x =>
  (getI b (i1 : Int)).bind fun x1 =>
  (F_laws_eqGate x x1).bind fun r_1 =>
  bif (!r_1) then (some (.rt false)) else (some (.nx ()))
def F_laws_eqGateS (a : List TGate) (b : List TGate) : Option (Bool) :=
  bif ((a.length : Int) != (b.length : Int)) then (some (false)) else (chk (a.length ≤ 9223372036854775807) <|
  (forX (F_laws_eqGateS_l1 a b) a.length 0 ()).bind <| orR fun _ =>
  some (true))

def F_laws_eqCircuit (a : TCircuit) (b : TCircuit) : Option (Bool) :=
  bif (a.Qubits != b.Qubits) then (some (false)) else ((F_laws_eqGateS a.Gates b.Gates).bind fun r_1 =>
  bif (!r_1) then (some (false)) else (some (true)))

def F_laws_markGateS_l1 : Nat → (List TGate × Int) → Option (List TGate × Int) := fun i1 (m1, k_1) =>
  (getI m1 (i1 : Int)).bind fun x =>
  some ((((m1.set (i1 : Int).toNat (TGate.mk k_1 x.A x.B)).set (i1 : Int).toNat (TGate.mk k_1 (IntKind.i64.wrap (k_1 + 1)) x.B)).set (i1 : Int).toNat (TGate.mk k_1 (IntKind.i64.wrap (k_1 + 1)) (IntKind.i64.wrap ((IntKind.i64.wrap (k_1 + 1)) + 1)))), (IntKind.i64.wrap ((IntKind.i64.wrap ((IntKind.i64.wrap (k_1 + 1)) + 1)) + 1)))
def F_laws_markGateS (a : List TGate) (k_ : Int) : Option (Int × List TGate) :=
  chk (a.length ≤ 9223372036854775807) <|
  (forN F_laws_markGateS_l1 a.length 0 (a, k_)).bind fun (m1, k_1) =>
  some ((k_1, m1))

def F_laws_markCircuit (a : TCircuit) (k_ : Int) : Option (Int × List TGate) :=
  (F_laws_markGateS a.Gates k_).bind fun (r_1, m1) =>
  some ((r_1, m1))

def F_laws_markTermS_l1 : Nat → (List TTerm × Int) → Option (List TTerm × Int) := fun i1 (m1, k_1) =>
  (getI m1 (i1 : Int)).bind fun x =>
  some (((m1.set (i1 : Int).toNat (TTerm.mk k_1 x.Coef)).set (i1 : Int).toNat (TTerm.mk k_1 (IntKind.i64.wrap (k_1 + 1)))), (IntKind.i64.wrap ((IntKind.i64.wrap (k_1 + 1)) + 1)))
def F_laws_markTermS (a : List TTerm) (k_ : Int) : Option (Int × List TTerm) :=
  chk (a.length ≤ 9223372036854775807) <|
  (forN F_laws_markTermS_l1 a.length 0 (a, k_)).bind fun (m1, k_1) =>
  some ((k_1, m1))

def F_laws_markIntS_l1 : Nat → (List Int × Int) → Option (List Int × Int) := fun i1 (m1, k_1) =>
  (getI m1 (i1 : Int)).bind fun x =>
  some ((m1.set (i1 : Int).toNat k_1), (IntKind.i64.wrap (k_1 + 1)))
def F_laws_markIntS (a : List Int) (k_ : Int) : Option (Int × List Int) :=
  chk (a.length ≤ 9223372036854775807) <|
  (forN F_laws_markIntS_l1 a.length 0 (a, k_)).bind fun (m1, k_1) =>
  some ((k_1, m1))

def F_laws_markLinear (a : TLinear) (k_ : Int) : Option (Int × List Int) :=
  (F_laws_markIntS a.Rows k_).bind fun (r_1, m1) =>
  some ((r_1, m1))

def F_laws_markPhasePoly (a : TPhasePoly) (k_ : Int) : Option (Int × List TTerm × List Int) :=
  (F_laws_markTermS a.Terms k_).bind fun (r_1, m2) =>
  (F_laws_markLinear a.Out r_1).bind fun (r_2, m3) =>
  some ((r_2, m2, m3))

def F_laws_heldTermS_l1 (a : List TTerm) : Nat → Int → Option (Ex (Int) (Int)) := fun i1 k_1 =>
  (getI a (i1 : Int)).bind fun x =>
  bif (x.Mask != k_1) then (some (.rt (-1))) else (bif (x.Coef != (IntKind.i64.wrap (k_1 + 1))) then (some (.rt (-1))) else (some (.nx (IntKind.i64.wrap ((IntKind.i64.wrap (k_1 + 1)) + 1)))))
def F_laws_heldTermS (a : List TTerm) (k_ : Int) : Option (Int) :=
  chk (a.length ≤ 9223372036854775807) <|
  (forX (F_laws_heldTermS_l1 a) a.length 0 k_).bind <| orR fun k_1 =>
  some (k_1)

def F_laws_heldIntS_l1 (a : List Int) : Nat → Int → Option (Ex (Int) (Int)) := fun i1 k_1 =>
  (getI a (i1 : Int)).bind fun x =>
  bif (x != k_1) then (some (.rt (-1))) else (some (.nx (IntKind.i64.wrap (k_1 + 1))))
def F_laws_heldIntS (a : List Int) (k_ : Int) : Option (Int) :=
  chk (a.length ≤ 9223372036854775807) <|
  (forX (F_laws_heldIntS_l1 a) a.length 0 k_).bind <| orR fun k_1 =>
  some (k_1)

def F_laws_heldLinear (a : TLinear) (k_ : Int) : Option (Int) :=
  (F_laws_heldIntS a.Rows k_).bind fun r_1 =>
  bif (decide (r_1 < 0)) then (some ((-1))) else (some (r_1))

def F_laws_heldPhasePoly (a : TPhasePoly) (k_ : Int) : Option (Int) :=
  (F_laws_heldTermS a.Terms k_).bind fun r_1 =>
  bif (decide (r_1 < 0)) then (some ((-1))) else ((F_laws_heldLinear a.Out r_1).bind fun r_2 =>
  bif (decide (r_2 < 0)) then (some ((-1))) else (some (r_2)))

def F_laws_FnExactPhasePolyOf (aC : TCircuit) : Option (Bool) :=
  (F_laws_szCircuit aC 1048576).bind fun r_1 =>
  bif (decide (r_1 < 0)) then (some (true)) else ((F_laws_toCircuit aC).bind fun r_2 =>
  (F_spec_PhasePolyOf r_2).bind fun (r_3, r_4) =>
  (F_laws_toCircuit aC).bind fun r_5 =>
  (F_impl_PhasePolyOf r_5).bind fun (r_6, r_7) =>
  (F_laws_eqPhasePoly r_6 r_3).bind fun r_8 =>
  bif ((!r_8) || (!(r_7 == r_4))) then (some (false)) else ((F_laws_toCircuit aC).bind fun r_9 =>
  (F_laws_eqCircuit r_5 r_9).bind fun r_10 =>
  bif (!r_10) then (some (false)) else ((F_laws_markCircuit r_5 1).bind fun (r_11, m) =>
  (gb (!(decide (r_11 < 0))) false (F_laws_eqPhasePoly r_6 r_3)).bind fun r_12 =>
  bif (((decide (r_11 < 0)) || (!r_12)) || (!(r_7 == r_4))) then (some (false)) else ((F_laws_markPhasePoly r_6 1).bind fun (r_13, m1, m2) =>
  (F_laws_heldPhasePoly (TPhasePoly.mk r_6.Qubits r_6.Phase m1 (TLinear.mk m2)) 1).bind fun r_14 =>
  bif (decide (r_14 < 0)) then (some (false)) else (bif (r_14 != r_13) then (some (false)) else ((F_laws_toCircuit aC).bind fun r_15 =>
  (F_impl_PhasePolyOf r_15).bind fun (r_16, r_17) =>
  (F_laws_eqPhasePoly r_16 r_3).bind fun r_18 =>
  bif ((!r_18) || (!(r_17 == r_4))) then (some (false)) else ((F_laws_heldPhasePoly (TPhasePoly.mk r_6.Qubits r_6.Phase m1 (TLinear.mk m2)) 1).bind fun r_19 =>
  bif (decide (r_19 < 0)) then (some (false)) else (bif (r_19 != r_13) then (some (false)) else (some (true))))))))))
end Go.VK
