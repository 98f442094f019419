/- What each Go function computes, by program. -/
import Derived.Test.YtkmncijipedjaaaGreatLPhasePolynomialsTy
set_option linter.unusedVariables false
namespace Go.VK
open Go.RowKit
def F_impl_within (n : Int) (low : Int) (high : Int) : Option (Bool) :=
  some (((decide (low ≤ n)) && (decide (n ≤ high))))

def F_slices_IndexFunc_impl_Gate_impl_Gate_l1 (s : List TGate) (f_ : TGate → Option (Bool)) : Nat → Unit → Option (Ex (Unit) (Int)) := fun i _ =>
  (getI s (i : Int)).bind fun x1 =>
  (f_ x1).bind fun r_1 =>
  bif r_1 then (some (.rt (i : Int))) else (some (.nx ()))
def F_slices_IndexFunc_impl_Gate_impl_Gate (s : List TGate) (f_ : TGate → Option (Bool)) : Option (Int) :=
  chk (s.length ≤ 9223372036854775807) <|
  (forX (F_slices_IndexFunc_impl_Gate_impl_Gate_l1 s f_) s.length 0 ()).bind <| orR fun _ =>
  some ((-1))

def F_slices_ContainsFunc_impl_Gate_impl_Gate (s : List TGate) (f_ : TGate → Option (Bool)) : Option (Bool) :=
  (F_slices_IndexFunc_impl_Gate_impl_Gate s f_).bind fun r_1 =>
  some ((decide (0 ≤ r_1)))

def F_impl_isTwo (kind : Int) : Option (Bool) :=
  (F_impl_within kind 9 11).bind fun r_1 =>
  some (r_1)

def F_impl_IsValidGate (n : Int) (g : TGate) : Option (Bool) :=
  (F_impl_within n 1 5).bind fun r_1 =>
  (gb (!(!r_1)) false (F_impl_within g.Kind 1 12)).bind fun r_2 =>
  bif ((!r_1) || (!r_2)) then (some (false)) else (bif (g.Kind == 12) then (some (((g.A == 0) && (g.B == 0)))) else ((F_impl_isTwo g.Kind).bind fun r_3 =>
  bif r_3 then ((F_impl_within g.A 0 (IntKind.i64.wrap (n - 1))).bind fun r_4 =>
  (gb r_4 false (F_impl_within g.B 0 (IntKind.i64.wrap (n - 1)))).bind fun r_5 =>
  some (((r_4 && r_5) && (g.A != g.B)))) else ((F_impl_within g.A 0 (IntKind.i64.wrap (n - 1))).bind fun r_6 =>
  some ((r_6 && (g.B == 0))))))

def F_impl_IsValidCircuit_1 (g : TGate) (p : TCircuit) : Option (Bool) :=
  (F_impl_IsValidGate p.Qubits g).bind fun r_1 =>
  some ((!r_1))

def F_impl_IsValidCircuit (c : TCircuit) : Option (Bool) :=
  (F_impl_within c.Qubits 1 5).bind fun r_1 =>
  (gb (r_1 && (decide ((c.Gates.length : Int) ≤ 400))) false (F_slices_ContainsFunc_impl_Gate_impl_Gate c.Gates (fun x_0 => F_impl_IsValidCircuit_1 x_0 c))).bind fun r_2 =>
  some (((r_1 && (decide ((c.Gates.length : Int) ≤ 400))) && (!r_2)))

def F_impl_identityLinear_l1 : Nat → (List Int) → Option (List Int) := fun i Rows =>
  chk ((0 : Int) ≤ (i : Int)) <|
  chk (Rows.length + 1 ≤ 1099511627776) <|
  some (Rows ++ [(shlK .i64 1 (i : Int))])
def F_impl_identityLinear (n : Int) : Option (TLinear) :=
  chk (n.toNat ≤ 9223372036854775807) <|
  (forN F_impl_identityLinear_l1 n.toNat 0 []).bind fun Rows =>
  some ((TLinear.mk Rows))

def F_impl_coefficients_add (c : List Int) (mask : Int) (coef : Int) : Option (List Int) :=
  (getI c mask).bind fun x =>
  some ((c.set mask.toNat (Int.tmod (IntKind.i64.wrap ((Int.tmod (IntKind.i64.wrap (x + coef)) 8) + 8)) 8)))

def F_impl_rotationCoef (kind : Int) : Option (Int) :=
  bif (kind == 4) then (some (4)) else (bif (kind == 5) then (some (2)) else (bif (kind == 6) then (some (6)) else (bif (kind == 7) then (some (1)) else (bif (kind == 8) then (some (7)) else (some (0))))))

def F_impl_coefficients_terms_l1 (c : List Int) : Nat → (List TTerm) → Option (List TTerm) := fun i out =>
  (((getI c (i : Int)).bind fun x =>
  bif ((decide (0 < (i : Int))) && (decide (0 < x))) then (chk (out.length + 1 ≤ 1099511627776) <|
  some (out ++ [(TTerm.mk (i : Int) x)])) else (some out)) : Option (List TTerm)).bind fun out1 =>
  some out1
def F_impl_coefficients_terms (c : List Int) : Option (List TTerm) :=
  (forN (F_impl_coefficients_terms_l1 c) 32 0 []).bind fun out =>
  some (out)

def F_impl_PhasePolyOf_l1 (c : TCircuit) : Nat → (Int × List Int × List Int) → Option (Ex (Int × List Int × List Int) (TPhasePoly × Bool)) := fun i (Phase, Out, sums) =>
  (((getI c.Gates (i : Int)).bind fun x =>
  bif (x.Kind == 9) then ((getI Out x.B).bind fun x1 =>
  (getI Out x.A).bind fun x2 =>
  some (.inl (Phase, (Out.set x.B.toNat (bits .xor .i64 x1 x2)), sums))) else (bif (x.Kind == 11) then ((getI Out x.B).bind fun x3 =>
  (getI Out x.A).bind fun x4 =>
  (getI (Out.set x.A.toNat x3) x.B).bind fun x5 =>
  some (.inl (Phase, ((Out.set x.A.toNat x3).set x.B.toNat x4), sums))) else (bif (x.Kind == 10) then ((getI Out x.A).bind fun x6 =>
  (F_impl_coefficients_add sums x6 2).bind fun m =>
  (getI Out x.B).bind fun x7 =>
  (F_impl_coefficients_add m x7 2).bind fun m1 =>
  (F_impl_coefficients_add m1 (bits .xor .i64 x6 x7) 6).bind fun m2 =>
  some (.inl (Phase, Out, m2))) else (bif (x.Kind == 12) then (some (.inl ((Int.tmod (IntKind.i64.wrap (Phase + 1)) 8), Out, sums))) else ((F_impl_rotationCoef x.Kind).bind fun r_4 =>
  bif (r_4 == 0) then (some (.inr (.rt ((TPhasePoly.mk 0 0 [] (TLinear.mk [])), false)))) else ((getI Out x.A).bind fun x8 =>
  (F_impl_coefficients_add sums x8 r_4).bind fun m3 =>
  some (.inl (Phase, Out, m3)))))))) : Option ((Int × List Int × List Int) ⊕ (Ex (Int × List Int × List Int) (TPhasePoly × Bool)))).bind <| orR fun (Phase1, Out1, sums1) =>
  some (.nx (Phase1, Out1, sums1))
def F_impl_PhasePolyOf (c : TCircuit) : Option (TPhasePoly × Bool) :=
  (F_impl_IsValidCircuit c).bind fun r_2 =>
  bif (!r_2) then (some (((TPhasePoly.mk 0 0 [] (TLinear.mk [])), false))) else ((F_impl_identityLinear c.Qubits).bind fun r_3 =>
  chk (c.Gates.length ≤ 9223372036854775807) <|
  (forX (F_impl_PhasePolyOf_l1 c) c.Gates.length 0 (0, r_3.Rows, (List.replicate 32 0))).bind <| orR fun (Phase, Out, sums) =>
  (F_impl_coefficients_terms sums).bind fun r_5 =>
  some (((TPhasePoly.mk c.Qubits Phase r_5 (TLinear.mk Out)), true)))

def F_spec_l1Cur_next (c : Tl1Cur) : Option (Int × Tl1Cur) :=
  ((bif (decide (c.at_ < (c.code.length : Int))) then ((getI c.code c.at_).bind fun x =>
  some (IntKind.i64.wrap x)) else (some 0)) : Option (Int)).bind fun b =>
  bif (decide ((IntKind.i64.wrap (c.at_ + 1)) ≤ (c.code.length : Int))) then (some ((b, (Tl1Cur.mk c.code (IntKind.i64.wrap (c.at_ + 1)) (IntKind.u64.wrap ((IntKind.u64.wrap ((IntKind.u64.wrap (c.seed * 6364136223846793005)) + (IntKind.u64.wrap b))) + 1442695040888963407)))))) else (some (((IntKind.i64.wrap (bits .and .u64 (shrK .u64 (IntKind.u64.wrap ((IntKind.u64.wrap ((IntKind.u64.wrap (c.seed * 6364136223846793005)) + (IntKind.u64.wrap b))) + 1442695040888963407)) 40) 255)), (Tl1Cur.mk c.code (IntKind.i64.wrap (c.at_ + 1)) (IntKind.u64.wrap ((IntKind.u64.wrap ((IntKind.u64.wrap (c.seed * 6364136223846793005)) + (IntKind.u64.wrap b))) + 1442695040888963407))))))

def F_spec_l1Cur_pick (c : Tl1Cur) (n1 : Int) : Option (Int × Tl1Cur) :=
  bif (decide (n1 ≤ 1)) then (some ((0, c))) else ((F_spec_l1Cur_next c).bind fun (r_1, m1) =>
  ((bif (decide (200 < n1)) then ((F_spec_l1Cur_next (Tl1Cur.mk c.code m1.at_ m1.seed)).bind fun (r_2, m2) =>
  some (m2.at_, m2.seed, (IntKind.i64.wrap ((IntKind.i64.wrap (r_1 * 256)) + r_2)))) else (some (m1.at_, m1.seed, r_1))) : Option (Int × Int × Int)).bind fun (at_, seed, x) =>
  chk (n1 ≠ (0 : Int)) <|
  some (((Int.tmod x n1), (Tl1Cur.mk c.code at_ seed))))

def F_spec_l1Cur_one (c : Tl1Cur) (n1 : Int) : Option (Bool × Tl1Cur) :=
  (F_spec_l1Cur_pick c n1).bind fun (r_1, m1) =>
  some (((r_1 == 0), (Tl1Cur.mk c.code m1.at_ m1.seed)))

def F_spec_l1In (n : Int) (lo : Int) (hi : Int) : Option (Bool) :=
  some (((decide (lo ≤ n)) && (decide (n ≤ hi))))

def F_spec_l1Cur_gate (c : Tl1Cur) (n1 : Int) (kinds : List Int) : Option (TGate × Tl1Cur) :=
  (F_spec_l1Cur_pick c (kinds.length : Int)).bind fun (r_1, m1) =>
  (getI kinds r_1).bind fun x =>
  bif (x == 12) then (some (((TGate.mk x 0 0), (Tl1Cur.mk c.code m1.at_ m1.seed)))) else ((F_spec_l1Cur_pick (Tl1Cur.mk c.code m1.at_ m1.seed) n1).bind fun (r_2, m2) =>
  (((F_spec_l1In x 9 11).bind fun r_3 =>
  bif r_3 then (bif (n1 == 1) then (some (.inr ((TGate.mk 1 0 0), (Tl1Cur.mk c.code m2.at_ m2.seed)))) else ((F_spec_l1Cur_pick (Tl1Cur.mk c.code m2.at_ m2.seed) (IntKind.i64.wrap (n1 - 1))).bind fun (r_4, m3) =>
  chk (n1 ≠ (0 : Int)) <|
  some (.inl (m3.at_, m3.seed, (Int.tmod (IntKind.i64.wrap ((IntKind.i64.wrap (r_2 + 1)) + r_4)) n1))))) else (some (.inl (m2.at_, m2.seed, 0)))) : Option ((Int × Int × Int) ⊕ (TGate × Tl1Cur))).bind <| orR fun (at_, seed, B3) =>
  some (((TGate.mk x r_2 B3), (Tl1Cur.mk c.code at_ seed))))

def F_spec_l1Cur_built_l1 (c : Tl1Cur) (n1 : Int) (kinds : List Int) : (Int × Int × List TGate × Int) → Option (Ex (Int × Int × List TGate × Int) (TCircuit × Tl1Cur)) := fun (at_, seed, Gates, k_) =>
  bif (decide (0 < k_)) then ((F_spec_l1Cur_gate (Tl1Cur.mk c.code at_ seed) n1 kinds).bind fun (r_2, m2) =>
  chk (Gates.length + 1 ≤ 1099511627776) <|
  some (.nx (m2.at_, m2.seed, (Gates ++ [r_2]), (IntKind.i64.wrap (k_ - 1))))) else (some (.br (at_, seed, Gates, k_)))
def F_spec_l1Cur_built (c : Tl1Cur) (n1 : Int) (most : Int) (kinds : List Int) : Option (TCircuit × Tl1Cur) :=
  (F_spec_l1Cur_pick c (IntKind.i64.wrap (most + 1))).bind fun (r_1, m1) =>
  (whX (F_spec_l1Cur_built_l1 c n1 kinds) fuel (m1.at_, m1.seed, [], r_1)).bind <| orR fun (at_, seed, Gates, k_) =>
  some (((TCircuit.mk n1 Gates), (Tl1Cur.mk c.code at_ seed)))

def F_spec_l1Cur_among (c : Tl1Cur) (list : List Int) : Option (Int × Tl1Cur) :=
  (F_spec_l1Cur_pick c (list.length : Int)).bind fun (r_1, m1) =>
  (getI list r_1).bind fun x =>
  some ((x, (Tl1Cur.mk c.code m1.at_ m1.seed)))

def F_spec_l1Cur_circuit (c : Tl1Cur) : Option (TCircuit × Tl1Cur) :=
  (F_spec_l1Cur_among c [1, 2, 2, 3]).bind fun (r_1, m1) =>
  (F_spec_l1Cur_built (Tl1Cur.mk c.code m1.at_ m1.seed) r_1 8 [1, 2, 3, 4, 5, 6, 7, 8, 9, 9, 10, 11, 12, 7, 1]).bind fun (r_2, m2) =>
  some ((r_2, (Tl1Cur.mk c.code m2.at_ m2.seed)))

def F_spec_l1Cur_anyCircuit (c : Tl1Cur) : Option (TCircuit × Tl1Cur) :=
  (F_spec_l1Cur_circuit c).bind fun (r_1, m1) =>
  (((F_spec_l1Cur_pick (Tl1Cur.mk c.code m1.at_ m1.seed) 14).bind fun (r_2, m2) =>
  bif (r_2 == 0) then ((F_spec_l1Cur_among (Tl1Cur.mk c.code m2.at_ m2.seed) [0, 1, 5, 6]).bind fun (r_3, m3) =>
  some (m3.at_, m3.seed, r_3, r_1.Gates)) else (bif (r_2 == 1) then ((F_spec_l1Cur_pick (Tl1Cur.mk c.code m2.at_ m2.seed) 14).bind fun (r_4, m4) =>
  (F_spec_l1Cur_pick (Tl1Cur.mk c.code m4.at_ m4.seed) 4).bind fun (r_5, m5) =>
  (F_spec_l1Cur_pick (Tl1Cur.mk c.code m5.at_ m5.seed) 4).bind fun (r_6, m6) =>
  chk (r_1.Gates.length + 1 ≤ 1099511627776) <|
  some (m6.at_, m6.seed, r_1.Qubits, (r_1.Gates ++ [(TGate.mk r_4 (IntKind.i64.wrap (r_5 - 1)) (IntKind.i64.wrap (r_6 - 1)))]))) else (some (m2.at_, m2.seed, r_1.Qubits, r_1.Gates)))) : Option (Int × Int × Int × List TGate)).bind fun (at_, seed, Qubits, Gates) =>
  some (((TCircuit.mk Qubits Gates), (Tl1Cur.mk c.code at_ seed)))

def F_spec_l1Cur_cxtz (c : Tl1Cur) (n1 : Int) : Option (TCircuit × Tl1Cur) :=
  (F_spec_l1Cur_built c n1 10 [4, 5, 6, 7, 7, 8, 9, 9, 9, 10, 11, 12]).bind fun (r_1, m1) =>
  some ((r_1, (Tl1Cur.mk c.code m1.at_ m1.seed)))

def F_spec_DrawPhasePolyOf (code : List Int) : Option (TCircuit) :=
  (F_spec_l1Cur_one (Tl1Cur.mk code 0 0) 8).bind fun (r_1, m) =>
  bif r_1 then ((F_spec_l1Cur_anyCircuit (Tl1Cur.mk code m.at_ m.seed)).bind fun (r_2, m1) =>
  some (r_2)) else ((F_spec_l1Cur_pick (Tl1Cur.mk code m.at_ m.seed) 5).bind fun (r_3, m2) =>
  (F_spec_l1Cur_cxtz (Tl1Cur.mk code m2.at_ m2.seed) (IntKind.i64.wrap (1 + r_3))).bind fun (r_4, m3) =>
  some (r_4))

def F_spec_l13List_l1 (by_ : List Int) : Nat → (List TTerm) → Option (List TTerm) := fun i out =>
  (((getI by_ (i : Int)).bind fun x =>
  bif ((decide (0 < (i : Int))) && (decide (0 < (Int.tmod (IntKind.i64.wrap ((Int.tmod x 8) + 8)) 8)))) then (chk (out.length + 1 ≤ 1099511627776) <|
  some (out ++ [(TTerm.mk (i : Int) (Int.tmod (IntKind.i64.wrap ((Int.tmod x 8) + 8)) 8))])) else (some out)) : Option (List TTerm)).bind fun out1 =>
  some out1
def F_spec_l13List (by_ : List Int) : Option (List TTerm) :=
  chk (by_.length ≤ 9223372036854775807) <|
  (forN (F_spec_l13List_l1 by_) by_.length 0 []).bind fun out =>
  some (out)

def F_spec_l12Identity_l1 : Nat → (List Int) → Option (List Int) := fun i1 Rows =>
  chk ((0 : Int) ≤ (IntKind.u64.wrap (i1 : Int))) <|
  chk (Rows.length + 1 ≤ 1099511627776) <|
  some (Rows ++ [(shlK .i64 1 (IntKind.u64.wrap (i1 : Int)))])
def F_spec_l12Identity (n : Int) : Option (TLinear) :=
  chk (n.toNat ≤ 9223372036854775807) <|
  (forN F_spec_l12Identity_l1 n.toNat 0 []).bind fun Rows =>
  some ((TLinear.mk Rows))

def F_spec_l4Gate (n : Int) (g : TGate) : Option (Bool) :=
  (F_spec_l1In g.Kind 1 8).bind fun r_1 =>
  bif r_1 then ((F_spec_l1In g.A 0 (IntKind.i64.wrap (n - 1))).bind fun r_2 =>
  some ((r_2 && (g.B == 0)))) else ((F_spec_l1In g.Kind 9 11).bind fun r_3 =>
  bif r_3 then ((F_spec_l1In g.A 0 (IntKind.i64.wrap (n - 1))).bind fun r_4 =>
  (gb r_4 false (F_spec_l1In g.B 0 (IntKind.i64.wrap (n - 1)))).bind fun r_5 =>
  some (((r_4 && r_5) && (g.A != g.B)))) else (some ((((g.Kind == 12) && (g.A == 0)) && (g.B == 0)))))

def F_spec_l4Good_l1 (c : TCircuit) : Nat → Unit → Option (Ex (Unit) (Bool)) := fun i _ =>
  (getI c.Gates (i : Int)).bind fun x =>
  (F_spec_l4Gate c.Qubits x).bind fun r_2 =>
  bif (!r_2) then (some (.rt false)) else (some (.nx ()))
def F_spec_l4Good (c : TCircuit) : Option (Bool) :=
  (F_spec_l1In c.Qubits 1 5).bind fun r_1 =>
  bif ((!r_1) || (decide (400 < (c.Gates.length : Int)))) then (some (false)) else (chk (c.Gates.length ≤ 9223372036854775807) <|
  (forX (F_spec_l4Good_l1 c) c.Gates.length 0 ()).bind <| orR fun _ =>
  some (true))

def F_spec_l1Own (l : List Int) : Option (List Int) :=
  chk (0 + l.length ≤ 1099511627776) <|
  some (l)

def F_spec_l12CX (m : TLinear) (a : Int) (b : Int) : Option (TLinear) :=
  (F_spec_l1Own m.Rows).bind fun r_1 =>
  (getI r_1 b).bind fun x =>
  (getI r_1 a).bind fun x1 =>
  some ((TLinear.mk (r_1.set b.toNat (bits .xor .i64 x x1))))

def F_spec_l13Coef (kind : Int) : Option (Int) :=
  bif (kind == 4) then (some (4)) else (bif (kind == 5) then (some (2)) else (bif (kind == 6) then (some (6)) else (bif (kind == 7) then (some (1)) else (bif (kind == 8) then (some (7)) else (some (0))))))

def F_spec_PhasePolyOf_l1 (c : TCircuit) : Nat → (List Int × Int × List Int) → Option (Ex (List Int × Int × List Int) (TPhasePoly × Bool)) := fun i (by_, Phase, Rows) =>
  (((getI c.Gates (i : Int)).bind fun x =>
  bif (x.Kind == 9) then ((F_spec_l12CX (TLinear.mk Rows) x.A x.B).bind fun r_4 =>
  some (.inl (by_, Phase, r_4.Rows))) else (bif (x.Kind == 11) then ((F_spec_l12CX (TLinear.mk Rows) x.A x.B).bind fun r_5 =>
  (F_spec_l12CX r_5 x.B x.A).bind fun r_6 =>
  (F_spec_l12CX r_6 x.A x.B).bind fun r_7 =>
  some (.inl (by_, Phase, r_7.Rows))) else (bif (x.Kind == 10) then ((getI Rows x.A).bind fun x1 =>
  (getI by_ x1).bind fun x2 =>
  (getI Rows x.B).bind fun x3 =>
  (getI (by_.set x1.toNat (IntKind.i64.wrap (x2 + 2))) x3).bind fun x4 =>
  (getI ((by_.set x1.toNat (IntKind.i64.wrap (x2 + 2))).set x3.toNat (IntKind.i64.wrap (x4 + 2))) (bits .xor .i64 x1 x3)).bind fun x5 =>
  some (.inl ((((by_.set x1.toNat (IntKind.i64.wrap (x2 + 2))).set x3.toNat (IntKind.i64.wrap (x4 + 2))).set (bits .xor .i64 x1 x3).toNat (IntKind.i64.wrap (x5 + 6))), Phase, Rows))) else (bif (x.Kind == 12) then (some (.inl (by_, (Int.tmod (IntKind.i64.wrap (Phase + 1)) 8), Rows))) else ((F_spec_l13Coef x.Kind).bind fun r_8 =>
  bif (r_8 == 0) then (some (.inr (.rt ((TPhasePoly.mk 0 0 [] (TLinear.mk [])), false)))) else ((getI Rows x.A).bind fun x6 =>
  (getI by_ x6).bind fun x7 =>
  (F_spec_l13Coef x.Kind).bind fun r_9 =>
  some (.inl ((by_.set x6.toNat (IntKind.i64.wrap (x7 + r_9))), Phase, Rows)))))))) : Option ((List Int × Int × List Int) ⊕ (Ex (List Int × Int × List Int) (TPhasePoly × Bool)))).bind <| orR fun (by_1, Phase1, Rows1) =>
  some (.nx (by_1, Phase1, Rows1))
def F_spec_PhasePolyOf (c : TCircuit) : Option (TPhasePoly × Bool) :=
  (F_spec_l4Good c).bind fun r_2 =>
  bif (!r_2) then (some (((TPhasePoly.mk 0 0 [] (TLinear.mk [])), false))) else (chk ((0 : Int) ≤ (IntKind.u64.wrap c.Qubits)) <|
  chk ((0 : Int) ≤ (shlK .i64 1 (IntKind.u64.wrap c.Qubits)) ∧ (shlK .i64 1 (IntKind.u64.wrap c.Qubits)) ≤ 1099511627776) <|
  (F_spec_l12Identity c.Qubits).bind fun r_3 =>
  chk (c.Gates.length ≤ 9223372036854775807) <|
  (forX (F_spec_PhasePolyOf_l1 c) c.Gates.length 0 ((List.replicate ((shlK .i64 1 (IntKind.u64.wrap c.Qubits)).toNat) 0), 0, r_3.Rows)).bind <| orR fun (by_, Phase, Rows) =>
  (F_spec_l13List by_).bind fun r_10 =>
  some (((TPhasePoly.mk c.Qubits Phase r_10 (TLinear.mk Rows)), true)))

def F_laws_qInts_l1 (a : List Int) (b : List Int) : Nat → Unit → Option (Ex (Unit) (Bool)) := fun i _ =>
  (getI a (i : Int)).bind fun x =>
  (getI b (i : Int)).bind fun x1 =>
  bif (x != x1) then (some (.rt false)) else (some (.nx ()))
def F_laws_qInts (a : List Int) (b : List Int) : Option (Bool) :=
  bif ((a.length : Int) != (b.length : Int)) then (some (false)) else (chk (a.length ≤ 9223372036854775807) <|
  (forX (F_laws_qInts_l1 a b) a.length 0 ()).bind <| orR fun _ =>
  some (true))

def F_laws_qTerms_l1 (a : List TTerm) (b : List TTerm) : Nat → Unit → Option (Ex (Unit) (Bool)) := fun i _ =>
  (getI a (i : Int)).bind fun x =>
  (getI b (i : Int)).bind fun x1 =>
  bif (!((x.Mask == x1.Mask) && ((x.Coef == x1.Coef) && true))) then (some (.rt false)) else (some (.nx ()))
def F_laws_qTerms (a : List TTerm) (b : List TTerm) : Option (Bool) :=
  bif ((a.length : Int) != (b.length : Int)) then (some (false)) else (chk (a.length ≤ 9223372036854775807) <|
  (forX (F_laws_qTerms_l1 a b) a.length 0 ()).bind <| orR fun _ =>
  some (true))

def F_laws_qPoly (p : TPhasePoly) (q : TPhasePoly) : Option (Bool) :=
  (gb ((p.Qubits == q.Qubits) && (p.Phase == q.Phase)) false (F_laws_qTerms p.Terms q.Terms)).bind fun r_1 =>
  (gb (((p.Qubits == q.Qubits) && (p.Phase == q.Phase)) && r_1) false (F_laws_qInts p.Out.Rows q.Out.Rows)).bind fun r_2 =>
  some (((((p.Qubits == q.Qubits) && (p.Phase == q.Phase)) && r_1) && r_2))

def F_impl_circuitIf (n : Int) (gates : List TGate) : Option (TCircuit × Bool) :=
  chk (0 + gates.length ≤ 1099511627776) <|
  (F_impl_IsValidCircuit (TCircuit.mk n gates)).bind fun r_2 =>
  bif (!r_2) then (some (((TCircuit.mk 0 []), false))) else (some (((TCircuit.mk n gates), true)))

def F_impl_areTerms_l1 (terms : List TTerm) (n : Int) : Nat → Unit → Option (Ex (Unit) (Bool)) := fun i _ =>
  (getI terms (i : Int)).bind fun x =>
  chk ((0 : Int) ≤ n) <|
  (F_impl_within x.Mask 1 (IntKind.i64.wrap ((shlK .i64 1 n) - 1))).bind fun r_1 =>
  (gb (!(!r_1)) false (F_impl_within x.Coef 1 7)).bind fun r_2 =>
  (gb ((!((!r_1) || (!r_2))) && (decide (0 < (i : Int)))) (TTerm.mk 0 0) (getI terms (IntKind.i64.wrap ((i : Int) - 1)))).bind fun x1 =>
  bif (((!r_1) || (!r_2)) || ((decide (0 < (i : Int))) && (decide (x.Mask ≤ x1.Mask)))) then (some (.rt false)) else (some (.nx ()))
def F_impl_areTerms (n : Int) (terms : List TTerm) : Option (Bool) :=
  chk (terms.length ≤ 9223372036854775807) <|
  (forX (F_impl_areTerms_l1 terms n) terms.length 0 ()).bind <| orR fun _ =>
  some (true)

def F_slices_IndexFunc_int_int_l1 (s : List Int) (f_ : Int → Option (Bool)) : Nat → Unit → Option (Ex (Unit) (Int)) := fun i _ =>
  (getI s (i : Int)).bind fun x1 =>
  (f_ x1).bind fun r_1 =>
  bif r_1 then (some (.rt (i : Int))) else (some (.nx ()))
def F_slices_IndexFunc_int_int (s : List Int) (f_ : Int → Option (Bool)) : Option (Int) :=
  chk (s.length ≤ 9223372036854775807) <|
  (forX (F_slices_IndexFunc_int_int_l1 s f_) s.length 0 ()).bind <| orR fun _ =>
  some ((-1))

def F_slices_ContainsFunc_int_int (s : List Int) (f_ : Int → Option (Bool)) : Option (Bool) :=
  (F_slices_IndexFunc_int_int s f_).bind fun r_1 =>
  some ((decide (0 ≤ r_1)))

def F_impl_IsValidLinear_1 (row : Int) (p : Int) : Option (Bool) :=
  chk ((0 : Int) ≤ p) <|
  (F_impl_within row 0 (IntKind.i64.wrap ((shlK .i64 1 p) - 1))).bind fun r_1 =>
  some ((!r_1))

def F_slices_Clone_int_int (s : List Int) : Option (List Int) :=
  chk (0 + s.length ≤ 1099511627776) <|
  some (s)

def F_impl_rankOf_1 (row : Int) (p : Int) : Option (Bool) :=
  chk ((0 : Int) ≤ p) <|
  some (((bits .and .i64 (shrK .i64 row p) 1) == 1))

def F_slices_Delete_int_int (s : List Int) (i : Int) (j : Int) : Option (List Int) :=
  chk ((0 : Int) ≤ i ∧ i ≤ j ∧ j ≤ (s.length : Int)) <|
  bif (i == j) then (some (s)) else (chk (i.toNat ≤ j.toNat) <|
  some ((List.take i.toNat s ++ List.drop j.toNat s)))

def F_impl_rankOf_l2 (i : Nat) (x : Int) : Nat → (List Int) → Option (List Int) := fun i1 left2 =>
  (((getI left2 (i1 : Int)).bind fun x1 =>
  chk ((0 : Int) ≤ (i : Int)) <|
  bif ((bits .and .i64 (shrK .i64 x1 (i : Int)) 1) == 1) then (some (left2.set (i1 : Int).toNat (bits .xor .i64 x1 x))) else (some left2)) : Option (List Int)).bind fun left3 =>
  some left3
def F_impl_rankOf_l1 : Nat → (List Int × Int) → Option (List Int × Int) := fun i (left, rank) =>
  (((F_slices_IndexFunc_int_int left (fun x_0 => F_impl_rankOf_1 x_0 (i : Int))).bind fun r_2 =>
  bif (decide (r_2 < 0)) then (some (left, rank)) else ((getI left r_2).bind fun x =>
  (F_slices_Delete_int_int left r_2 (IntKind.i64.wrap (r_2 + 1))).bind fun r_3 =>
  chk (r_3.length ≤ 9223372036854775807) <|
  (forN (F_impl_rankOf_l2 i x) r_3.length 0 r_3).bind fun left2 =>
  some (left2, (IntKind.i64.wrap (rank + 1))))) : Option (List Int × Int)).bind fun (left1, rank1) =>
  some (left1, rank1)
def F_impl_rankOf (rows : List Int) : Option (Int) :=
  (F_slices_Clone_int_int rows).bind fun r_1 =>
  (forN F_impl_rankOf_l1 10 0 (r_1, 0)).bind fun (left, rank) =>
  some (rank)

def F_impl_IsValidLinear (m : TLinear) : Option (Bool) :=
  (F_impl_within (m.Rows.length : Int) 1 5).bind fun r_1 =>
  (gb r_1 false (F_slices_ContainsFunc_int_int m.Rows (fun x_0 => F_impl_IsValidLinear_1 x_0 (m.Rows.length : Int)))).bind fun r_2 =>
  (gb (r_1 && (!r_2)) 0 (F_impl_rankOf m.Rows)).bind fun r_3 =>
  some (((r_1 && (!r_2)) && (r_3 == (m.Rows.length : Int))))

def F_impl_IsValidPhasePoly (p : TPhasePoly) : Option (Bool) :=
  (F_impl_within p.Qubits 1 5).bind fun r_1 =>
  (gb r_1 false (F_impl_within p.Phase 0 7)).bind fun r_2 =>
  (gb (r_1 && r_2) false (F_impl_areTerms p.Qubits p.Terms)).bind fun r_3 =>
  (gb (((r_1 && r_2) && r_3) && ((p.Out.Rows.length : Int) == p.Qubits)) false (F_impl_IsValidLinear p.Out)).bind fun r_4 =>
  some (((((r_1 && r_2) && r_3) && ((p.Out.Rows.length : Int) == p.Qubits)) && r_4))

def F_slices_Reverse_impl_Gate_impl_Gate_l1 : (List TGate × Int × Int) → Option (Ex (List TGate × Int × Int) (List TGate)) := fun (m1, i, j) =>
  bif (decide (i < j)) then ((getI m1 j).bind fun x =>
  (getI m1 i).bind fun x1 =>
  (getI (m1.set i.toNat x) j).bind fun x2 =>
  some (.nx (((m1.set i.toNat x).set j.toNat x1), (IntKind.i64.wrap (i + 1)), (IntKind.i64.wrap (j - 1))))) else (some (.br (m1, i, j)))
def F_slices_Reverse_impl_Gate_impl_Gate (s : List TGate) : Option (List TGate) :=
  (whX F_slices_Reverse_impl_Gate_impl_Gate_l1 fuel (s, 0, (IntKind.i64.wrap ((s.length : Int) - 1)))).bind <| orR fun (m1, i, j) =>
  some (m1)

def F_impl_eliminated_1 (from_ : Int) (to_ : Int) (p : List Int) (p1 : List TGate) : Option (List Int × List TGate) :=
  (getI p to_).bind fun x =>
  (getI p from_).bind fun x1 =>
  chk (p1.length + 1 ≤ 1099511627776) <|
  some (((p.set to_.toNat (bits .xor .i64 x x1)), (p1 ++ [(TGate.mk 9 from_ to_)])))

def F_impl_eliminated_l3 (i : Nat) : Nat → (List Int × List TGate) → Option (List Int × List TGate) := fun i2 (rows3, out3) =>
  (((gb ((i2 : Int) != (i : Int)) 0 (getI rows3 (i2 : Int))).bind fun x2 =>
  chk (((i2 : Int) != (i : Int)) = true → (0 : Int) ≤ (i : Int)) <|
  bif (((i2 : Int) != (i : Int)) && ((bits .and .i64 (shrK .i64 x2 (i : Int)) 1) == 1)) then ((F_impl_eliminated_1 (i : Int) (i2 : Int) rows3 out3).bind fun (m3, m4) =>
  some (m3, m4)) else (some (rows3, out3))) : Option (List Int × List TGate)).bind fun (rows4, out4) =>
  some (rows4, out4)
def F_impl_eliminated_l2 (r_1 : List Int) (i : Nat) : (List Int × List TGate × Int) → Option (Ex (List Int × List TGate × Int) (List Int × List TGate)) := fun (rows1, out1, i1) =>
  (gb (decide (i1 < (r_1.length : Int))) 0 (getI rows1 (i : Int))).bind fun x =>
  chk ((decide (i1 < (r_1.length : Int))) = true → (0 : Int) ≤ (i : Int)) <|
  bif ((decide (i1 < (r_1.length : Int))) && ((bits .and .i64 (shrK .i64 x (i : Int)) 1) == 0)) then ((((getI rows1 i1).bind fun x1 =>
  chk ((0 : Int) ≤ (i : Int)) <|
  bif ((bits .and .i64 (shrK .i64 x1 (i : Int)) 1) == 1) then ((F_impl_eliminated_1 i1 (i : Int) rows1 out1).bind fun (m1, m2) =>
  some (m1, m2)) else (some (rows1, out1))) : Option (List Int × List TGate)).bind fun (rows2, out2) =>
  some (.nx (rows2, out2, (IntKind.i64.wrap (i1 + 1))))) else (some (.br (rows1, out1, i1)))
def F_impl_eliminated_l1 (r_1 : List Int) : Nat → (List Int × List TGate) → Option (List Int × List TGate) := fun i (rows, out) =>
  (whX (F_impl_eliminated_l2 r_1 i) fuel (rows, out, (IntKind.i64.wrap ((i : Int) + 1)))).bind <| orR fun (rows1, out1, i1) =>
  chk (r_1.length ≤ 9223372036854775807) <|
  (forN (F_impl_eliminated_l3 i) r_1.length 0 (rows1, out1)).bind fun (rows3, out3) =>
  some (rows3, out3)
def F_impl_eliminated (m : TLinear) : Option (List TGate) :=
  (F_slices_Clone_int_int m.Rows).bind fun r_1 =>
  chk (r_1.length ≤ 9223372036854775807) <|
  (forN (F_impl_eliminated_l1 r_1) r_1.length 0 (r_1, [])).bind fun (rows, out) =>
  some (out)

def F_impl_synthesized (m : TLinear) : Option (List TGate) :=
  (F_impl_eliminated m).bind fun r_1 =>
  (F_slices_Reverse_impl_Gate_impl_Gate r_1).bind fun m1 =>
  some (m1)

def F_math_bits_Mul64 (x : Int) (y : Int) : Option (Int × Int) :=
  some (((IntKind.u64.wrap ((IntKind.u64.wrap ((IntKind.u64.wrap ((shrK .u64 x 32) * (shrK .u64 y 32))) + (shrK .u64 (IntKind.u64.wrap ((IntKind.u64.wrap ((shrK .u64 x 32) * (bits .and .u64 y 4294967295))) + (shrK .u64 (IntKind.u64.wrap ((bits .and .u64 x 4294967295) * (bits .and .u64 y 4294967295))) 32))) 32))) + (shrK .u64 (IntKind.u64.wrap ((bits .and .u64 (IntKind.u64.wrap ((IntKind.u64.wrap ((shrK .u64 x 32) * (bits .and .u64 y 4294967295))) + (shrK .u64 (IntKind.u64.wrap ((bits .and .u64 x 4294967295) * (bits .and .u64 y 4294967295))) 32))) 4294967295) + (IntKind.u64.wrap ((bits .and .u64 x 4294967295) * (shrK .u64 y 32))))) 32))), (IntKind.u64.wrap (x * y))))

def F_math_bits_Mul (x : Int) (y : Int) : Option (Int × Int) :=
  (F_math_bits_Mul64 x y).bind fun (r_2, r_3) =>
  some ((r_2, r_3))

def F_slices_Repeat_impl_Gate_impl_Gate_l1 (r_2 : Int) : (List TGate × Int) → Option (Ex (List TGate × Int) (List TGate)) := fun (newslice, n1) =>
  bif (decide (n1 < ((IntKind.i64.wrap r_2).toNat : Int))) then (chk ((0 : Int) ≤ n1 ∧ n1 ≤ ((IntKind.i64.wrap r_2).toNat : Int)) <|
  chk ((0 : Int) ≤ n1 ∧ n1 ≤ ((IntKind.i64.wrap r_2).toNat : Int)) <|
  some (.nx ((List.take n1.toNat newslice ++ List.take (min (n1.toNat - 0) ((IntKind.i64.wrap r_2).toNat - n1.toNat)) (List.take n1.toNat newslice) ++ List.drop (n1.toNat + (min (n1.toNat - 0) ((IntKind.i64.wrap r_2).toNat - n1.toNat))) newslice), (IntKind.i64.wrap (n1 + ((min (n1.toNat - 0) ((IntKind.i64.wrap r_2).toNat - n1.toNat) : Nat) : Int)))))) else (some (.br (newslice, n1)))
def F_slices_Repeat_impl_Gate_impl_Gate (x : List TGate) (count : Int) : Option (List TGate) :=
  bif (decide (count < 0)) then (none) else ((F_math_bits_Mul (IntKind.u64.wrap (x.length : Int)) (IntKind.u64.wrap count)).bind fun (r_1, r_2) =>
  bif ((decide (0 < r_1)) || (decide (9223372036854775807 < r_2))) then (none) else (chk ((0 : Int) ≤ (IntKind.i64.wrap r_2) ∧ (IntKind.i64.wrap r_2) ≤ 1099511627776) <|
  (whX (F_slices_Repeat_impl_Gate_impl_Gate_l1 r_2) fuel ((List.take (min x.length ((IntKind.i64.wrap r_2).toNat)) x ++ List.drop (min x.length ((IntKind.i64.wrap r_2).toNat)) (List.replicate ((IntKind.i64.wrap r_2).toNat) (TGate.mk 0 0 0))), ((min x.length ((IntKind.i64.wrap r_2).toNat) : Nat) : Int))).bind <| orR fun (newslice, n1) =>
  some (newslice)))

def F_impl_phases (count : Int) : Option (List TGate) :=
  (F_slices_Repeat_impl_Gate_impl_Gate [(TGate.mk 12 0 0)] count).bind fun r_1 =>
  some (r_1)

def F_math_bits_Len64 (x : Int) : Option (Int) :=
  ((bif (decide (4294967296 ≤ x)) then (some ((shrK .u64 x 32), 32)) else (some (x, 0))) : Option (Int × Int)).bind fun (x1, n) =>
  ((bif (decide (65536 ≤ x1)) then (some ((shrK .u64 x1 16), (IntKind.i64.wrap (n + 16)))) else (some (x1, n))) : Option (Int × Int)).bind fun (x2, n1) =>
  ((bif (decide (256 ≤ x2)) then (some ((shrK .u64 x2 8), (IntKind.i64.wrap (n1 + 8)))) else (some (x2, n1))) : Option (Int × Int)).bind fun (x3, n2) =>
  (getI ([0, 1, 2, 2, 3, 3, 3, 3, 4, 4, 4, 4, 4, 4, 4, 4, 5, 5, 5, 5, 5, 5, 5, 5, 5, 5, 5, 5, 5, 5, 5, 5, 6, 6, 6, 6, 6, 6, 6, 6, 6, 6, 6, 6, 6, 6, 6, 6, 6, 6, 6, 6, 6, 6, 6, 6, 6, 6, 6, 6, 6, 6, 6, 6, 7, 7, 7, 7, 7, 7, 7, 7, 7, 7, 7, 7, 7, 7, 7, 7, 7, 7, 7, 7, 7, 7, 7, 7, 7, 7, 7, 7, 7, 7, 7, 7, 7, 7, 7, 7, 7, 7, 7, 7, 7, 7, 7, 7, 7, 7, 7, 7, 7, 7, 7, 7, 7, 7, 7, 7, 7, 7, 7, 7, 7, 7, 7, 7, 8, 8, 8, 8, 8, 8, 8, 8, 8, 8, 8, 8, 8, 8, 8, 8, 8, 8, 8, 8, 8, 8, 8, 8, 8, 8, 8, 8, 8, 8, 8, 8, 8, 8, 8, 8, 8, 8, 8, 8, 8, 8, 8, 8, 8, 8, 8, 8, 8, 8, 8, 8, 8, 8, 8, 8, 8, 8, 8, 8, 8, 8, 8, 8, 8, 8, 8, 8, 8, 8, 8, 8, 8, 8, 8, 8, 8, 8, 8, 8, 8, 8, 8, 8, 8, 8, 8, 8, 8, 8, 8, 8, 8, 8, 8, 8, 8, 8, 8, 8, 8, 8, 8, 8, 8, 8, 8, 8, 8, 8, 8, 8, 8, 8, 8, 8, 8, 8, 8, 8, 8, 8, 8, 8, 8, 8, 8, 8] : List UInt8) (IntKind.u8.wrap x3)).bind fun x4 =>
  some ((IntKind.i64.wrap (n2 + (IntKind.i64.wrap (x4.toNat : Int)))))

def F_math_bits_Len (x : Int) : Option (Int) :=
  (F_math_bits_Len64 x).bind fun r_1 =>
  some (r_1)

def F_impl_rotation_l1 (q : Int) : Nat → (List TGate) → Option (List TGate) := fun i out =>
  (getI [] (i : Int)).bind fun x =>
  chk (out.length + 1 ≤ 1099511627776) <|
  some (out ++ [(TGate.mk x q 0)])
def F_impl_rotation_l2 (q : Int) : Nat → (List TGate) → Option (List TGate) := fun i1 out1 =>
  (getI [7] (i1 : Int)).bind fun x1 =>
  chk (out1.length + 1 ≤ 1099511627776) <|
  some (out1 ++ [(TGate.mk x1 q 0)])
def F_impl_rotation_l3 (q : Int) : Nat → (List TGate) → Option (List TGate) := fun i2 out2 =>
  (getI [5] (i2 : Int)).bind fun x2 =>
  chk (out2.length + 1 ≤ 1099511627776) <|
  some (out2 ++ [(TGate.mk x2 q 0)])
def F_impl_rotation_l4 (q : Int) : Nat → (List TGate) → Option (List TGate) := fun i3 out3 =>
  (getI [5, 7] (i3 : Int)).bind fun x3 =>
  chk (out3.length + 1 ≤ 1099511627776) <|
  some (out3 ++ [(TGate.mk x3 q 0)])
def F_impl_rotation_l5 (q : Int) : Nat → (List TGate) → Option (List TGate) := fun i4 out4 =>
  (getI [4] (i4 : Int)).bind fun x4 =>
  chk (out4.length + 1 ≤ 1099511627776) <|
  some (out4 ++ [(TGate.mk x4 q 0)])
def F_impl_rotation_l6 (q : Int) : Nat → (List TGate) → Option (List TGate) := fun i5 out5 =>
  (getI [4, 7] (i5 : Int)).bind fun x5 =>
  chk (out5.length + 1 ≤ 1099511627776) <|
  some (out5 ++ [(TGate.mk x5 q 0)])
def F_impl_rotation_l7 (q : Int) : Nat → (List TGate) → Option (List TGate) := fun i6 out6 =>
  (getI [6] (i6 : Int)).bind fun x6 =>
  chk (out6.length + 1 ≤ 1099511627776) <|
  some (out6 ++ [(TGate.mk x6 q 0)])
def F_impl_rotation_l8 (q : Int) : Nat → (List TGate) → Option (List TGate) := fun i7 out7 =>
  (getI [8] (i7 : Int)).bind fun x7 =>
  chk (out7.length + 1 ≤ 1099511627776) <|
  some (out7 ++ [(TGate.mk x7 q 0)])
def F_impl_rotation (q : Int) (coef : Int) : Option (List TGate) :=
  bif (coef == 0) then ((forN (F_impl_rotation_l1 q) 0 0 []).bind fun out =>
  some (out)) else (bif (coef == 1) then ((forN (F_impl_rotation_l2 q) 1 0 []).bind fun out1 =>
  some (out1)) else (bif (coef == 2) then ((forN (F_impl_rotation_l3 q) 1 0 []).bind fun out2 =>
  some (out2)) else (bif (coef == 3) then ((forN (F_impl_rotation_l4 q) 2 0 []).bind fun out3 =>
  some (out3)) else (bif (coef == 4) then ((forN (F_impl_rotation_l5 q) 1 0 []).bind fun out4 =>
  some (out4)) else (bif (coef == 5) then ((forN (F_impl_rotation_l6 q) 2 0 []).bind fun out5 =>
  some (out5)) else (bif (coef == 6) then ((forN (F_impl_rotation_l7 q) 1 0 []).bind fun out6 =>
  some (out6)) else (bif (coef == 7) then ((forN (F_impl_rotation_l8 q) 1 0 []).bind fun out7 =>
  some (out7)) else (none))))))))

def F_impl_PhaseCircuit_l2 (x : TTerm) (r_3 : Int) : Nat → (List TGate) → Option (List TGate) := fun i1 nots =>
  ((chk ((0 : Int) ≤ (i1 : Int)) <|
  bif ((bits .and .i64 (shrK .i64 x.Mask (i1 : Int)) 1) == 1) then (chk (nots.length + 1 ≤ 1099511627776) <|
  some (nots ++ [(TGate.mk 9 (i1 : Int) (IntKind.i64.wrap (r_3 - 1)))])) else (some nots)) : Option (List TGate)).bind fun nots1 =>
  some nots1
def F_impl_PhaseCircuit_l1 (p : TPhasePoly) : Nat → (List TGate) → Option (List TGate) := fun i out =>
  (getI p.Terms (i : Int)).bind fun x =>
  (F_math_bits_Len (IntKind.u64.wrap x.Mask)).bind fun r_3 =>
  chk (((IntKind.i64.wrap (r_3 - 1)).toNat) ≤ 9223372036854775807) <|
  (forN (F_impl_PhaseCircuit_l2 x r_3) ((IntKind.i64.wrap (r_3 - 1)).toNat) 0 []).bind fun nots =>
  chk (out.length + nots.length ≤ 1099511627776) <|
  (F_impl_rotation (IntKind.i64.wrap (r_3 - 1)) x.Coef).bind fun r_4 =>
  chk (((out ++ nots).length) + r_4.length ≤ 1099511627776) <|
  (F_slices_Reverse_impl_Gate_impl_Gate nots).bind fun m =>
  chk ((((out ++ nots) ++ r_4).length) + nots.length ≤ 1099511627776) <|
  some (((out ++ nots) ++ r_4) ++ m)
def F_impl_PhaseCircuit (p : TPhasePoly) : Option (TCircuit × Bool) :=
  (F_impl_IsValidPhasePoly p).bind fun r_2 =>
  bif (!r_2) then (some (((TCircuit.mk 0 []), false))) else (chk (p.Terms.length ≤ 9223372036854775807) <|
  (forN (F_impl_PhaseCircuit_l1 p) p.Terms.length 0 []).bind fun out =>
  (F_impl_synthesized p.Out).bind fun r_5 =>
  chk (out.length + r_5.length ≤ 1099511627776) <|
  (F_impl_phases p.Phase).bind fun r_6 =>
  chk (((out ++ r_5).length) + r_6.length ≤ 1099511627776) <|
  (F_impl_circuitIf p.Qubits ((out ++ r_5) ++ r_6)).bind fun (r_7, r_8) =>
  some ((r_7, r_8)))

def F_impl_isDim (n : Int) : Option (Bool) :=
  (F_impl_within n 1 32).bind fun r_1 =>
  some ((r_1 && ((bits .and .i64 n (IntKind.i64.wrap (n - 1))) == 0)))

def F_impl_matrixOf_l2 (cell : Int → Int → Option (TDyadic × Bool)) (i : Nat) : Nat → (List TDyadic) → Option (Ex (List TDyadic) (Ex (List TDyadic) (TMatrix × Bool))) := fun i1 Cells1 =>
  (cell (i : Int) (i1 : Int)).bind fun (r_4, r_5) =>
  bif (!r_5) then (some (.rt (.rt ((TMatrix.mk 0 0 []), false)))) else (chk (Cells1.length + 1 ≤ 1099511627776) <|
  some (.nx (Cells1 ++ [r_4])))
def F_impl_matrixOf_l1 (cols : Int) (cell : Int → Int → Option (TDyadic × Bool)) : Nat → (List TDyadic) → Option (Ex (List TDyadic) (TMatrix × Bool)) := fun i Cells =>
  chk (cols.toNat ≤ 9223372036854775807) <|
  (forX (F_impl_matrixOf_l2 cell i) cols.toNat 0 Cells).bind <| orR fun Cells1 =>
  some (.nx Cells1)
def F_impl_matrixOf (rows : Int) (cols : Int) (cell : Int → Int → Option (TDyadic × Bool)) : Option (TMatrix × Bool) :=
  (F_impl_isDim rows).bind fun r_2 =>
  (gb (!(!r_2)) false (F_impl_isDim cols)).bind fun r_3 =>
  bif ((!r_2) || (!r_3)) then (some (((TMatrix.mk 0 0 []), false))) else (chk (rows.toNat ≤ 9223372036854775807) <|
  (forX (F_impl_matrixOf_l1 cols cell) rows.toNat 0 []).bind <| orR fun Cells =>
  some (((TMatrix.mk rows cols Cells), true)))

def F_impl_whole (n : Int) : Option (TDyadic) :=
  some ((TDyadic.mk (TRing.mk n 0 0 0) 0))

def F_impl_IdentityMatrix_1 (i : Int) (j : Int) : Option (TDyadic × Bool) :=
  bif (i == j) then ((F_impl_whole 1).bind fun r_2 =>
  some ((r_2, true))) else (some (((TDyadic.mk (TRing.mk 0 0 0 0) 0), true)))

def F_impl_IdentityMatrix (n : Int) : Option (TMatrix × Bool) :=
  (F_impl_matrixOf n n F_impl_IdentityMatrix_1).bind fun (r_2, r_3) =>
  some ((r_2, r_3))

def F_impl_isCoef (n : Int) : Option (Bool) :=
  (F_impl_within n (-1000000000) 1000000000).bind fun r_1 =>
  some (r_1)

def F_impl_IsValidRing (x : TRing) : Option (Bool) :=
  (F_impl_isCoef x.A).bind fun r_1 =>
  (gb r_1 false (F_impl_isCoef x.B)).bind fun r_2 =>
  (gb (r_1 && r_2) false (F_impl_isCoef x.C)).bind fun r_3 =>
  (gb ((r_1 && r_2) && r_3) false (F_impl_isCoef x.D)).bind fun r_4 =>
  some ((((r_1 && r_2) && r_3) && r_4))

def F_impl_MulOmega_l1 : Nat → (Int × Int × Int × Int) → Option (Int × Int × Int × Int) := fun i (A, B, C, D) =>
  some ((IntKind.i64.wrap (-D)), A, B, C)
def F_impl_MulOmega (x : TRing) (k_ : Int) : Option (TRing × Bool) :=
  (F_impl_within k_ (-1000) 1000).bind fun r_2 =>
  (gb (!(!r_2)) false (F_impl_IsValidRing x)).bind fun r_3 =>
  bif ((!r_2) || (!r_3)) then (some (((TRing.mk 0 0 0 0), false))) else (chk (((Int.tmod (IntKind.i64.wrap ((Int.tmod k_ 8) + 8)) 8).toNat) ≤ 9223372036854775807) <|
  (forN F_impl_MulOmega_l1 ((Int.tmod (IntKind.i64.wrap ((Int.tmod k_ 8) + 8)) 8).toNat) 0 (x.A, x.B, x.C, x.D)).bind fun (A, B, C, D) =>
  some (((TRing.mk A B C D), true)))

def F_impl_phase (k_ : Int) : Option (TDyadic) :=
  (F_impl_MulOmega (TRing.mk 1 0 0 0) k_).bind fun (r_1, r_2) =>
  some ((TDyadic.mk r_1 0))

def F_impl_small (holds : Bool) : Option (Int) :=
  bif holds then (some (1)) else (some (0))

def F_impl_bitOf (n : Int) (state : Int) (q : Int) : Option (Int) :=
  chk ((0 : Int) ≤ (IntKind.i64.wrap ((IntKind.i64.wrap (n - 1)) - q))) <|
  some ((bits .and .i64 (shrK .i64 state (IntKind.i64.wrap ((IntKind.i64.wrap (n - 1)) - q))) 1))

def F_impl_flipped (n : Int) (state : Int) (q : Int) : Option (Int) :=
  chk ((0 : Int) ≤ (IntKind.i64.wrap ((IntKind.i64.wrap (n - 1)) - q))) <|
  some ((bits .xor .i64 state (shlK .i64 1 (IntKind.i64.wrap ((IntKind.i64.wrap (n - 1)) - q)))))

def F_impl_comesFrom (n : Int) (g : TGate) (state : Int) : Option (Int) :=
  (F_impl_bitOf n state g.A).bind fun r_1 =>
  (F_impl_bitOf n state g.B).bind fun r_2 =>
  bif ((g.Kind == 9) && (r_1 == 1)) then ((F_impl_flipped n state g.B).bind fun r_3 =>
  some (r_3)) else (bif ((g.Kind == 11) && (r_1 != r_2)) then ((F_impl_flipped n state g.A).bind fun r_4 =>
  (F_impl_flipped n r_4 g.B).bind fun r_5 =>
  some (r_5)) else (some (state)))

def F_impl_entry (kind : Int) (i : Int) (j : Int) : Option (TDyadic) :=
  bif (kind == 1) then (((bif ((i == 1) && (j == 1)) then (some (-1)) else (some 1)) : Option (Int)).bind fun A =>
  some ((TDyadic.mk (TRing.mk A 0 0 0) 1))) else (bif ((kind == 2) && (i != j)) then ((F_impl_whole 1).bind fun r_1 =>
  some (r_1)) else (bif ((kind == 3) && (i != j)) then ((F_impl_phase (IntKind.i64.wrap (2 + (IntKind.i64.wrap (4 * j))))).bind fun r_2 =>
  some (r_2)) else (bif (((kind == 2) || (kind == 3)) || (i != j)) then (some ((TDyadic.mk (TRing.mk 0 0 0 0) 0))) else (bif (i == 0) then ((F_impl_whole 1).bind fun r_3 =>
  some (r_3)) else ((F_impl_phase (mgt (mput (mput (mput (mput (mput ([] : List (Int × Int)) 4 4) 5 2) 6 6) 7 1) 8 7) kind 0)).bind fun r_4 =>
  some (r_4))))))

def F_impl_GateMatrix_1 (i : Int) (j : Int) (p : TGate) (p1 : Int) : Option (TDyadic × Bool) :=
  ((bif (p.Kind == 12) then (bif (i == j) then ((F_impl_phase 1).bind fun r_2 =>
  some (.inr (r_2, true))) else (some (.inl ()))) else ((F_impl_isTwo p.Kind).bind fun r_3 =>
  bif r_3 then ((F_impl_comesFrom p1 p i).bind fun r_4 =>
  bif (r_4 == j) then ((gb (p.Kind == 10) 0 (F_impl_bitOf p1 i p.A)).bind fun r_5 =>
  (gb ((p.Kind == 10) && (r_5 == 1)) 0 (F_impl_bitOf p1 i p.B)).bind fun r_6 =>
  (F_impl_small (((p.Kind == 10) && (r_5 == 1)) && (r_6 == 1))).bind fun r_7 =>
  (F_impl_phase (IntKind.i64.wrap (4 * r_7))).bind fun r_8 =>
  some (.inr (r_8, true))) else (some (.inl ()))) else ((gb (!(i == j)) 0 (F_impl_flipped p1 i p.A)).bind fun r_9 =>
  bif ((i == j) || (r_9 == j)) then ((F_impl_bitOf p1 i p.A).bind fun r_10 =>
  (F_impl_bitOf p1 j p.A).bind fun r_11 =>
  (F_impl_entry p.Kind r_10 r_11).bind fun r_12 =>
  some (.inr (r_12, true))) else (some (.inl ()))))) : Option ((Unit) ⊕ (TDyadic × Bool))).bind <| orR fun _ =>
  some (((TDyadic.mk (TRing.mk 0 0 0 0) 0), true))

def F_impl_GateMatrix (n : Int) (g : TGate) : Option (TMatrix × Bool) :=
  (F_impl_IsValidGate n g).bind fun r_2 =>
  bif (!r_2) then (some (((TMatrix.mk 0 0 []), false))) else (chk ((0 : Int) ≤ n) <|
  chk ((0 : Int) ≤ n) <|
  (F_impl_matrixOf (shlK .i64 1 n) (shlK .i64 1 n) (fun x_0 x_1 => F_impl_GateMatrix_1 x_0 x_1 g n)).bind fun (r_3, r_4) =>
  some ((r_3, r_4)))

def F_slices_IndexFunc_impl_Dyadic_impl_Dyadic_l1 (s : List TDyadic) (f_ : TDyadic → Option (Bool)) : Nat → Unit → Option (Ex (Unit) (Int)) := fun i _ =>
  (getI s (i : Int)).bind fun x1 =>
  (f_ x1).bind fun r_1 =>
  bif r_1 then (some (.rt (i : Int))) else (some (.nx ()))
def F_slices_IndexFunc_impl_Dyadic_impl_Dyadic (s : List TDyadic) (f_ : TDyadic → Option (Bool)) : Option (Int) :=
  chk (s.length ≤ 9223372036854775807) <|
  (forX (F_slices_IndexFunc_impl_Dyadic_impl_Dyadic_l1 s f_) s.length 0 ()).bind <| orR fun _ =>
  some ((-1))

def F_slices_ContainsFunc_impl_Dyadic_impl_Dyadic (s : List TDyadic) (f_ : TDyadic → Option (Bool)) : Option (Bool) :=
  (F_slices_IndexFunc_impl_Dyadic_impl_Dyadic s f_).bind fun r_1 =>
  some ((decide (0 ≤ r_1)))

def F_impl_isEven (x : TRing) : Option (Bool) :=
  some ((((Int.tmod (IntKind.i64.wrap (x.A + x.C)) 2) == 0) && ((Int.tmod (IntKind.i64.wrap (x.B + x.D)) 2) == 0)))

def F_impl_IsValidDyadic (x : TDyadic) : Option (Bool) :=
  (F_impl_IsValidRing x.Num).bind fun r_1 =>
  (gb r_1 false (F_impl_within x.Exp 0 60)).bind fun r_2 =>
  (gb ((r_1 && r_2) && (!(x.Exp == 0))) false (F_impl_isEven x.Num)).bind fun r_3 =>
  some (((r_1 && r_2) && ((x.Exp == 0) || (!r_3))))

def F_impl_IsValidMatrix_1 (x : TDyadic) : Option (Bool) :=
  (F_impl_IsValidDyadic x).bind fun r_1 =>
  some ((!r_1))

def F_impl_IsValidMatrix (m : TMatrix) : Option (Bool) :=
  (F_impl_isDim m.Rows).bind fun r_1 =>
  (gb r_1 false (F_impl_isDim m.Cols)).bind fun r_2 =>
  (gb ((r_1 && r_2) && ((m.Cells.length : Int) == (IntKind.i64.wrap (m.Rows * m.Cols)))) false (F_slices_ContainsFunc_impl_Dyadic_impl_Dyadic m.Cells F_impl_IsValidMatrix_1)).bind fun r_3 =>
  some ((((r_1 && r_2) && ((m.Cells.length : Int) == (IntKind.i64.wrap (m.Rows * m.Cols)))) && (!r_3)))

def F_impl_Matrix_at (m : TMatrix) (i : Int) (j : Int) : Option (TDyadic) :=
  (getI m.Cells (IntKind.i64.wrap ((IntKind.i64.wrap (i * m.Cols)) + j))).bind fun x =>
  some (x)

def F_impl_ringIf_l1 (args : List TRing) (out : TRing) : Nat → Unit → Option (Ex (Unit) (TRing × Bool)) := fun i _ =>
  (getI (args ++ [out]) (i : Int)).bind fun x =>
  (F_impl_IsValidRing x).bind fun r_2 =>
  bif (!r_2) then (some (.rt ((TRing.mk 0 0 0 0), false))) else (some (.nx ()))
def F_impl_ringIf (out : TRing) (args : List TRing) : Option (TRing × Bool) :=
  chk (args.length + 1 ≤ 1099511627776) <|
  chk (((args ++ [out]).length) ≤ 9223372036854775807) <|
  (forX (F_impl_ringIf_l1 args out) ((args ++ [out]).length) 0 ()).bind <| orR fun _ =>
  some ((out, true))

def F_impl_MulRing (x : TRing) (y : TRing) : Option (TRing × Bool) :=
  (F_impl_ringIf (TRing.mk (IntKind.i64.wrap ((IntKind.i64.wrap ((IntKind.i64.wrap ((IntKind.i64.wrap (x.A * y.A)) - (IntKind.i64.wrap (x.B * y.D)))) - (IntKind.i64.wrap (x.C * y.C)))) - (IntKind.i64.wrap (x.D * y.B)))) (IntKind.i64.wrap ((IntKind.i64.wrap ((IntKind.i64.wrap ((IntKind.i64.wrap (x.A * y.B)) + (IntKind.i64.wrap (x.B * y.A)))) - (IntKind.i64.wrap (x.C * y.D)))) - (IntKind.i64.wrap (x.D * y.C)))) (IntKind.i64.wrap ((IntKind.i64.wrap ((IntKind.i64.wrap ((IntKind.i64.wrap (x.A * y.C)) + (IntKind.i64.wrap (x.B * y.B)))) + (IntKind.i64.wrap (x.C * y.A)))) - (IntKind.i64.wrap (x.D * y.D)))) (IntKind.i64.wrap ((IntKind.i64.wrap ((IntKind.i64.wrap ((IntKind.i64.wrap (x.A * y.D)) + (IntKind.i64.wrap (x.B * y.C)))) + (IntKind.i64.wrap (x.C * y.B)))) + (IntKind.i64.wrap (x.D * y.A))))) [x, y]).bind fun (r_2, r_3) =>
  some ((r_2, r_3))

def F_impl_DivRootTwo (x : TRing) : Option (TRing × Bool) :=
  (F_impl_IsValidRing x).bind fun r_2 =>
  (gb (!(!r_2)) false (F_impl_isEven x)).bind fun r_3 =>
  bif ((!r_2) || (!r_3)) then (some (((TRing.mk 0 0 0 0), false))) else ((F_impl_ringIf (TRing.mk (IntKind.i64.wrap (Int.tdiv (IntKind.i64.wrap (x.B - x.D)) 2)) (IntKind.i64.wrap (Int.tdiv (IntKind.i64.wrap (x.A + x.C)) 2)) (IntKind.i64.wrap (Int.tdiv (IntKind.i64.wrap (x.B + x.D)) 2)) (IntKind.i64.wrap (Int.tdiv (IntKind.i64.wrap (x.C - x.A)) 2))) [x]).bind fun (r_4, r_5) =>
  some ((r_4, r_5)))

def F_impl_DyadicOf_l1 : (Int × Int × Int × Int × Int) → Option (Ex (Int × Int × Int × Int × Int) (TDyadic × Bool)) := fun (exp1, A, B, C, D) =>
  (gb (decide (0 < exp1)) false (F_impl_isEven (TRing.mk A B C D))).bind fun r_4 =>
  bif ((decide (0 < exp1)) && r_4) then ((F_impl_DivRootTwo (TRing.mk A B C D)).bind fun (r_5, r_6) =>
  some (.nx ((IntKind.i64.wrap (exp1 - 1)), r_5.A, r_5.B, r_5.C, r_5.D))) else (some (.br (exp1, A, B, C, D)))
def F_impl_DyadicOf (num : TRing) (exp : Int) : Option (TDyadic × Bool) :=
  (F_impl_IsValidRing num).bind fun r_2 =>
  (gb (!(!r_2)) false (F_impl_within exp 0 60)).bind fun r_3 =>
  bif ((!r_2) || (!r_3)) then (some (((TDyadic.mk (TRing.mk 0 0 0 0) 0), false))) else ((whX F_impl_DyadicOf_l1 fuel (exp, num.A, num.B, num.C, num.D)).bind <| orR fun (exp1, A, B, C, D) =>
  some (((TDyadic.mk (TRing.mk A B C D) exp1), true)))

def F_impl_MulDyadic (x : TDyadic) (y : TDyadic) : Option (TDyadic × Bool) :=
  (F_impl_MulRing x.Num y.Num).bind fun (r_2, r_3) =>
  (F_impl_IsValidDyadic x).bind fun r_4 =>
  (gb (!(!r_4)) false (F_impl_IsValidDyadic y)).bind fun r_5 =>
  bif (((!r_4) || (!r_5)) || (!r_3)) then (some (((TDyadic.mk (TRing.mk 0 0 0 0) 0), false))) else ((F_impl_DyadicOf r_2 (IntKind.i64.wrap (x.Exp + y.Exp))).bind fun (r_6, r_7) =>
  some ((r_6, r_7)))

def F_impl_MulRootTwo (x : TRing) : Option (TRing × Bool) :=
  (F_impl_ringIf (TRing.mk (IntKind.i64.wrap (x.B - x.D)) (IntKind.i64.wrap (x.A + x.C)) (IntKind.i64.wrap (x.B + x.D)) (IntKind.i64.wrap (x.C - x.A))) [x]).bind fun (r_2, r_3) =>
  some ((r_2, r_3))

def F_impl_raised_l1 (exp : Int) : (Int × Int × Int × Int × Bool × Int) → Option (Ex (Int × Int × Int × Int × Bool × Int) (TRing × Bool)) := fun (A, B, C, D, ok, k_) =>
  bif ((decide (k_ < exp)) && ok) then ((F_impl_MulRootTwo (TRing.mk A B C D)).bind fun (r_2, r_3) =>
  some (.nx (r_2.A, r_2.B, r_2.C, r_2.D, r_3, (IntKind.i64.wrap (k_ + 1))))) else (some (.br (A, B, C, D, ok, k_)))
def F_impl_raised (x : TDyadic) (exp : Int) : Option (TRing × Bool) :=
  (whX (F_impl_raised_l1 exp) fuel (x.Num.A, x.Num.B, x.Num.C, x.Num.D, true, x.Exp)).bind <| orR fun (A, B, C, D, ok, k_) =>
  some (((TRing.mk A B C D), ok))

def F_impl_combined (x : TDyadic) (y : TDyadic) (operation : TRing → TRing → Option (TRing × Bool)) : Option (TDyadic × Bool) :=
  (F_impl_IsValidDyadic x).bind fun r_2 =>
  (gb (!(!r_2)) false (F_impl_IsValidDyadic y)).bind fun r_3 =>
  bif ((!r_2) || (!r_3)) then (some (((TDyadic.mk (TRing.mk 0 0 0 0) 0), false))) else ((F_impl_raised x (if x.Exp < y.Exp then y.Exp else x.Exp)).bind fun (r_4, r_5) =>
  (F_impl_raised y (if x.Exp < y.Exp then y.Exp else x.Exp)).bind fun (r_6, r_7) =>
  (operation r_4 r_6).bind fun (r_8, r_9) =>
  bif (((!r_5) || (!r_7)) || (!r_9)) then (some (((TDyadic.mk (TRing.mk 0 0 0 0) 0), false))) else ((F_impl_DyadicOf r_8 (if x.Exp < y.Exp then y.Exp else x.Exp)).bind fun (r_10, r_11) =>
  some ((r_10, r_11))))

def F_impl_AddRing (x : TRing) (y : TRing) : Option (TRing × Bool) :=
  (F_impl_ringIf (TRing.mk (IntKind.i64.wrap (x.A + y.A)) (IntKind.i64.wrap (x.B + y.B)) (IntKind.i64.wrap (x.C + y.C)) (IntKind.i64.wrap (x.D + y.D))) [x, y]).bind fun (r_2, r_3) =>
  some ((r_2, r_3))

def F_impl_AddDyadic (x : TDyadic) (y : TDyadic) : Option (TDyadic × Bool) :=
  (F_impl_combined x y F_impl_AddRing).bind fun (r_2, r_3) =>
  some ((r_2, r_3))

def F_impl_MulMatrix_1_l1 (p : TMatrix) (i : Int) (p1 : TMatrix) (j : Int) : Nat → (Int × Int × Int × Int × Int) → Option (Ex (Int × Int × Int × Int × Int) (TDyadic × Bool)) := fun i1 (A, B4, C, D, Exp) =>
  (F_impl_Matrix_at p i (i1 : Int)).bind fun r_2 =>
  (F_impl_Matrix_at p1 (i1 : Int) j).bind fun r_3 =>
  (F_impl_MulDyadic r_2 r_3).bind fun (r_4, r_5) =>
  (F_impl_AddDyadic (TDyadic.mk (TRing.mk A B4 C D) Exp) r_4).bind fun (r_6, r_7) =>
  bif ((!r_5) || (!r_7)) then (some (.rt ((TDyadic.mk (TRing.mk 0 0 0 0) 0), false))) else (some (.nx (r_6.Num.A, r_6.Num.B, r_6.Num.C, r_6.Num.D, r_6.Exp)))
def F_impl_MulMatrix_1 (i : Int) (j : Int) (p : TMatrix) (p1 : TMatrix) : Option (TDyadic × Bool) :=
  chk (p.Cols.toNat ≤ 9223372036854775807) <|
  (forX (F_impl_MulMatrix_1_l1 p i p1 j) p.Cols.toNat 0 (0, 0, 0, 0, 0)).bind <| orR fun (A, B4, C, D, Exp) =>
  some (((TDyadic.mk (TRing.mk A B4 C D) Exp), true))

def F_impl_MulMatrix (a : TMatrix) (b : TMatrix) : Option (TMatrix × Bool) :=
  (F_impl_IsValidMatrix a).bind fun r_2 =>
  (gb (!(!r_2)) false (F_impl_IsValidMatrix b)).bind fun r_3 =>
  bif (((!r_2) || (!r_3)) || (a.Cols != b.Rows)) then (some (((TMatrix.mk 0 0 []), false))) else ((F_impl_matrixOf a.Rows b.Cols (fun x_0 x_1 => F_impl_MulMatrix_1 x_0 x_1 a b)).bind fun (r_4, r_5) =>
  some ((r_4, r_5)))

def F_impl_applied_l1 (c : TCircuit) : (Bool × Int × Int × List TDyadic × Int) → Option (Ex (Bool × Int × Int × List TDyadic × Int) (TMatrix × Bool)) := fun (ok1, Rows, Cols, Cells, i) =>
  bif ((decide (i < (c.Gates.length : Int))) && ok1) then ((getI c.Gates i).bind fun x =>
  (F_impl_GateMatrix c.Qubits x).bind fun (r_2, r_3) =>
  (F_impl_MulMatrix r_2 (TMatrix.mk Rows Cols Cells)).bind fun (r_4, r_5) =>
  some (.nx (r_5, r_4.Rows, r_4.Cols, r_4.Cells, (IntKind.i64.wrap (i + 1))))) else (some (.br (ok1, Rows, Cols, Cells, i)))
def F_impl_applied (c : TCircuit) (m : TMatrix) (ok : Bool) : Option (TMatrix × Bool) :=
  (whX (F_impl_applied_l1 c) fuel (ok, m.Rows, m.Cols, m.Cells, 0)).bind <| orR fun (ok1, Rows, Cols, Cells, i) =>
  some (((TMatrix.mk Rows Cols Cells), ok1))

def F_impl_OperatorOf (c : TCircuit) : Option (TMatrix × Bool) :=
  (F_impl_IsValidCircuit c).bind fun r_2 =>
  bif (!r_2) then (some (((TMatrix.mk 0 0 []), false))) else (chk ((0 : Int) ≤ c.Qubits) <|
  (F_impl_IdentityMatrix (shlK .i64 1 c.Qubits)).bind fun (r_3, r_4) =>
  (F_impl_applied c r_3 r_4).bind fun (r_5, r_6) =>
  some ((r_5, r_6)))

def F_spec_EqualMatrices_l1 (a : TMatrix) (b : TMatrix) : Nat → Unit → Option (Ex (Unit) (Bool)) := fun i _ =>
  (getI a.Cells (i : Int)).bind fun x =>
  (getI b.Cells (i : Int)).bind fun x1 =>
  bif (!(((x.Num.A == x1.Num.A) && ((x.Num.B == x1.Num.B) && ((x.Num.C == x1.Num.C) && ((x.Num.D == x1.Num.D) && true)))) && ((x.Exp == x1.Exp) && true))) then (some (.rt false)) else (some (.nx ()))
def F_spec_EqualMatrices (a : TMatrix) (b : TMatrix) : Option (Bool) :=
  bif (((a.Rows != b.Rows) || (a.Cols != b.Cols)) || ((a.Cells.length : Int) != (b.Cells.length : Int))) then (some (false)) else (chk (a.Cells.length ≤ 9223372036854775807) <|
  (forX (F_spec_EqualMatrices_l1 a b) a.Cells.length 0 ()).bind <| orR fun _ =>
  some (true))

def F_laws_qExact (a : TCircuit) (b : TCircuit) : Option (Bool) :=
  bif (decide (3 < a.Qubits)) then (some (true)) else ((F_impl_OperatorOf a).bind fun (r_1, r_2) =>
  (F_impl_OperatorOf b).bind fun (r_3, r_4) =>
  (gb (r_2 && r_4) false (F_spec_EqualMatrices r_1 r_3)).bind fun r_5 =>
  some (((r_2 && r_4) && r_5)))

def F_math_bits_OnesCount64 (x : Int) : Option (Int) :=
  some ((bits .and .i64 (IntKind.i64.wrap (IntKind.u64.wrap ((IntKind.u64.wrap ((IntKind.u64.wrap ((bits .and .u64 (IntKind.u64.wrap ((shrK .u64 (IntKind.u64.wrap ((bits .and .u64 (shrK .u64 (IntKind.u64.wrap ((bits .and .u64 (shrK .u64 x 1) 6148914691236517205) + (bits .and .u64 x 6148914691236517205))) 2) 3689348814741910323) + (bits .and .u64 (IntKind.u64.wrap ((bits .and .u64 (shrK .u64 x 1) 6148914691236517205) + (bits .and .u64 x 6148914691236517205))) 3689348814741910323))) 4) + (IntKind.u64.wrap ((bits .and .u64 (shrK .u64 (IntKind.u64.wrap ((bits .and .u64 (shrK .u64 x 1) 6148914691236517205) + (bits .and .u64 x 6148914691236517205))) 2) 3689348814741910323) + (bits .and .u64 (IntKind.u64.wrap ((bits .and .u64 (shrK .u64 x 1) 6148914691236517205) + (bits .and .u64 x 6148914691236517205))) 3689348814741910323))))) 1085102592571150095) + (shrK .u64 (bits .and .u64 (IntKind.u64.wrap ((shrK .u64 (IntKind.u64.wrap ((bits .and .u64 (shrK .u64 (IntKind.u64.wrap ((bits .and .u64 (shrK .u64 x 1) 6148914691236517205) + (bits .and .u64 x 6148914691236517205))) 2) 3689348814741910323) + (bits .and .u64 (IntKind.u64.wrap ((bits .and .u64 (shrK .u64 x 1) 6148914691236517205) + (bits .and .u64 x 6148914691236517205))) 3689348814741910323))) 4) + (IntKind.u64.wrap ((bits .and .u64 (shrK .u64 (IntKind.u64.wrap ((bits .and .u64 (shrK .u64 x 1) 6148914691236517205) + (bits .and .u64 x 6148914691236517205))) 2) 3689348814741910323) + (bits .and .u64 (IntKind.u64.wrap ((bits .and .u64 (shrK .u64 x 1) 6148914691236517205) + (bits .and .u64 x 6148914691236517205))) 3689348814741910323))))) 1085102592571150095) 8))) + (shrK .u64 (IntKind.u64.wrap ((bits .and .u64 (IntKind.u64.wrap ((shrK .u64 (IntKind.u64.wrap ((bits .and .u64 (shrK .u64 (IntKind.u64.wrap ((bits .and .u64 (shrK .u64 x 1) 6148914691236517205) + (bits .and .u64 x 6148914691236517205))) 2) 3689348814741910323) + (bits .and .u64 (IntKind.u64.wrap ((bits .and .u64 (shrK .u64 x 1) 6148914691236517205) + (bits .and .u64 x 6148914691236517205))) 3689348814741910323))) 4) + (IntKind.u64.wrap ((bits .and .u64 (shrK .u64 (IntKind.u64.wrap ((bits .and .u64 (shrK .u64 x 1) 6148914691236517205) + (bits .and .u64 x 6148914691236517205))) 2) 3689348814741910323) + (bits .and .u64 (IntKind.u64.wrap ((bits .and .u64 (shrK .u64 x 1) 6148914691236517205) + (bits .and .u64 x 6148914691236517205))) 3689348814741910323))))) 1085102592571150095) + (shrK .u64 (bits .and .u64 (IntKind.u64.wrap ((shrK .u64 (IntKind.u64.wrap ((bits .and .u64 (shrK .u64 (IntKind.u64.wrap ((bits .and .u64 (shrK .u64 x 1) 6148914691236517205) + (bits .and .u64 x 6148914691236517205))) 2) 3689348814741910323) + (bits .and .u64 (IntKind.u64.wrap ((bits .and .u64 (shrK .u64 x 1) 6148914691236517205) + (bits .and .u64 x 6148914691236517205))) 3689348814741910323))) 4) + (IntKind.u64.wrap ((bits .and .u64 (shrK .u64 (IntKind.u64.wrap ((bits .and .u64 (shrK .u64 x 1) 6148914691236517205) + (bits .and .u64 x 6148914691236517205))) 2) 3689348814741910323) + (bits .and .u64 (IntKind.u64.wrap ((bits .and .u64 (shrK .u64 x 1) 6148914691236517205) + (bits .and .u64 x 6148914691236517205))) 3689348814741910323))))) 1085102592571150095) 8))) 16))) + (shrK .u64 (IntKind.u64.wrap ((IntKind.u64.wrap ((bits .and .u64 (IntKind.u64.wrap ((shrK .u64 (IntKind.u64.wrap ((bits .and .u64 (shrK .u64 (IntKind.u64.wrap ((bits .and .u64 (shrK .u64 x 1) 6148914691236517205) + (bits .and .u64 x 6148914691236517205))) 2) 3689348814741910323) + (bits .and .u64 (IntKind.u64.wrap ((bits .and .u64 (shrK .u64 x 1) 6148914691236517205) + (bits .and .u64 x 6148914691236517205))) 3689348814741910323))) 4) + (IntKind.u64.wrap ((bits .and .u64 (shrK .u64 (IntKind.u64.wrap ((bits .and .u64 (shrK .u64 x 1) 6148914691236517205) + (bits .and .u64 x 6148914691236517205))) 2) 3689348814741910323) + (bits .and .u64 (IntKind.u64.wrap ((bits .and .u64 (shrK .u64 x 1) 6148914691236517205) + (bits .and .u64 x 6148914691236517205))) 3689348814741910323))))) 1085102592571150095) + (shrK .u64 (bits .and .u64 (IntKind.u64.wrap ((shrK .u64 (IntKind.u64.wrap ((bits .and .u64 (shrK .u64 (IntKind.u64.wrap ((bits .and .u64 (shrK .u64 x 1) 6148914691236517205) + (bits .and .u64 x 6148914691236517205))) 2) 3689348814741910323) + (bits .and .u64 (IntKind.u64.wrap ((bits .and .u64 (shrK .u64 x 1) 6148914691236517205) + (bits .and .u64 x 6148914691236517205))) 3689348814741910323))) 4) + (IntKind.u64.wrap ((bits .and .u64 (shrK .u64 (IntKind.u64.wrap ((bits .and .u64 (shrK .u64 x 1) 6148914691236517205) + (bits .and .u64 x 6148914691236517205))) 2) 3689348814741910323) + (bits .and .u64 (IntKind.u64.wrap ((bits .and .u64 (shrK .u64 x 1) 6148914691236517205) + (bits .and .u64 x 6148914691236517205))) 3689348814741910323))))) 1085102592571150095) 8))) + (shrK .u64 (IntKind.u64.wrap ((bits .and .u64 (IntKind.u64.wrap ((shrK .u64 (IntKind.u64.wrap ((bits .and .u64 (shrK .u64 (IntKind.u64.wrap ((bits .and .u64 (shrK .u64 x 1) 6148914691236517205) + (bits .and .u64 x 6148914691236517205))) 2) 3689348814741910323) + (bits .and .u64 (IntKind.u64.wrap ((bits .and .u64 (shrK .u64 x 1) 6148914691236517205) + (bits .and .u64 x 6148914691236517205))) 3689348814741910323))) 4) + (IntKind.u64.wrap ((bits .and .u64 (shrK .u64 (IntKind.u64.wrap ((bits .and .u64 (shrK .u64 x 1) 6148914691236517205) + (bits .and .u64 x 6148914691236517205))) 2) 3689348814741910323) + (bits .and .u64 (IntKind.u64.wrap ((bits .and .u64 (shrK .u64 x 1) 6148914691236517205) + (bits .and .u64 x 6148914691236517205))) 3689348814741910323))))) 1085102592571150095) + (shrK .u64 (bits .and .u64 (IntKind.u64.wrap ((shrK .u64 (IntKind.u64.wrap ((bits .and .u64 (shrK .u64 (IntKind.u64.wrap ((bits .and .u64 (shrK .u64 x 1) 6148914691236517205) + (bits .and .u64 x 6148914691236517205))) 2) 3689348814741910323) + (bits .and .u64 (IntKind.u64.wrap ((bits .and .u64 (shrK .u64 x 1) 6148914691236517205) + (bits .and .u64 x 6148914691236517205))) 3689348814741910323))) 4) + (IntKind.u64.wrap ((bits .and .u64 (shrK .u64 (IntKind.u64.wrap ((bits .and .u64 (shrK .u64 x 1) 6148914691236517205) + (bits .and .u64 x 6148914691236517205))) 2) 3689348814741910323) + (bits .and .u64 (IntKind.u64.wrap ((bits .and .u64 (shrK .u64 x 1) 6148914691236517205) + (bits .and .u64 x 6148914691236517205))) 3689348814741910323))))) 1085102592571150095) 8))) 16))) 32)))) 127))

def F_math_bits_OnesCount (x : Int) : Option (Int) :=
  (F_math_bits_OnesCount64 x).bind fun r_1 =>
  some (r_1)

def F_impl_parityOf (mask : Int) : Option (Int) :=
  (F_math_bits_OnesCount (IntKind.u64.wrap mask)).bind fun r_1 =>
  some ((Int.tmod r_1 2))

def F_impl_PhaseAt_l1 (p : TPhasePoly) (bits_ : Int) : Nat → Int → Option (Int) := fun i e =>
  (getI p.Terms (i : Int)).bind fun x =>
  (F_impl_parityOf (bits .and .i64 x.Mask bits_)).bind fun r_4 =>
  some (IntKind.i64.wrap (e + (IntKind.i64.wrap (x.Coef * r_4))))
def F_impl_PhaseAt (p : TPhasePoly) (bits_ : Int) : Option (Int × Bool) :=
  (F_impl_IsValidPhasePoly p).bind fun r_2 =>
  chk ((!(!r_2)) = true → (0 : Int) ≤ p.Qubits) <|
  (gb (!(!r_2)) false (F_impl_within bits_ 0 (IntKind.i64.wrap ((shlK .i64 1 p.Qubits) - 1)))).bind fun r_3 =>
  bif ((!r_2) || (!r_3)) then (some ((0, false))) else (chk (p.Terms.length ≤ 9223372036854775807) <|
  (forN (F_impl_PhaseAt_l1 p bits_) p.Terms.length 0 p.Phase).bind fun e =>
  some (((Int.tmod e 8), true)))

def F_impl_ColumnOf_1 (i : Int) (j : Int) (p : TMatrix) (p1 : Int) : Option (TDyadic × Bool) :=
  (F_impl_Matrix_at p i p1).bind fun r_2 =>
  some ((r_2, true))

def F_impl_ColumnOf (m : TMatrix) (k_ : Int) : Option (TMatrix × Bool) :=
  (F_impl_IsValidMatrix m).bind fun r_2 =>
  (gb (!(!r_2)) false (F_impl_within k_ 0 (IntKind.i64.wrap (m.Cols - 1)))).bind fun r_3 =>
  bif ((!r_2) || (!r_3)) then (some (((TMatrix.mk 0 0 []), false))) else ((F_impl_matrixOf m.Rows 1 (fun x_0 x_1 => F_impl_ColumnOf_1 x_0 x_1 m k_)).bind fun (r_4, r_5) =>
  some ((r_4, r_5)))

def F_impl_StateAfter (c : TCircuit) (start : Int) : Option (TMatrix × Bool) :=
  (F_impl_IsValidCircuit c).bind fun r_2 =>
  chk ((!(!r_2)) = true → (0 : Int) ≤ c.Qubits) <|
  (gb (!(!r_2)) false (F_impl_within start 0 (IntKind.i64.wrap ((shlK .i64 1 c.Qubits) - 1)))).bind fun r_3 =>
  bif ((!r_2) || (!r_3)) then (some (((TMatrix.mk 0 0 []), false))) else (chk ((0 : Int) ≤ c.Qubits) <|
  (F_impl_IdentityMatrix (shlK .i64 1 c.Qubits)).bind fun (r_4, r_5) =>
  (F_impl_ColumnOf r_4 start).bind fun (r_6, r_7) =>
  (F_impl_applied c r_6 r_7).bind fun (r_8, r_9) =>
  some ((r_8, r_9)))

def F_laws_qReverse_l1 (x : Int) : Nat → Int → Option (Int) := fun k_ y =>
  chk ((0 : Int) ≤ (IntKind.u64.wrap (k_ : Int))) <|
  some (IntKind.i64.wrap ((IntKind.i64.wrap (2 * y)) + (bits .and .i64 (shrK .i64 x (IntKind.u64.wrap (k_ : Int))) 1)))
def F_laws_qReverse (x : Int) (bits_ : Int) : Option (Int) :=
  chk (bits_.toNat ≤ 9223372036854775807) <|
  (forN (F_laws_qReverse_l1 x) bits_.toNat 0 0).bind fun y =>
  some (y)

def F_laws_qWeight_l1 : (Int × Int) → Option (Ex (Int × Int) (Int)) := fun (n1, k_) =>
  bif (decide (0 < n1)) then (some (.nx ((shrK .i64 n1 1), (IntKind.i64.wrap (k_ + (bits .and .i64 n1 1)))))) else (some (.br (n1, k_)))
def F_laws_qWeight (n : Int) : Option (Int) :=
  (whX F_laws_qWeight_l1 fuel (n, 0)).bind <| orR fun (n1, k_) =>
  some (k_)

def F_impl_PhaseOf_l1 (x : TDyadic) : Nat → Unit → Option (Ex (Unit) (Int × Bool)) := fun i _ =>
  (F_impl_phase (i : Int)).bind fun r_2 =>
  bif (((x.Num.A == r_2.Num.A) && ((x.Num.B == r_2.Num.B) && ((x.Num.C == r_2.Num.C) && ((x.Num.D == r_2.Num.D) && true)))) && ((x.Exp == r_2.Exp) && true)) then (some (.rt ((i : Int), true))) else (some (.nx ()))
def F_impl_PhaseOf (x : TDyadic) : Option (Int × Bool) :=
  (forX (F_impl_PhaseOf_l1 x) 8 0 ()).bind <| orR fun _ =>
  some ((0, false))

def F_laws_FnPhasePolynomials_l2 (r_2 : TPhasePoly) (bits_ : Nat) : Nat → Int → Option (Int) := fun i1 end_ =>
  (getI r_2.Out.Rows (i1 : Int)).bind fun x =>
  (F_laws_qWeight (bits .and .i64 x (bits_ : Int))).bind fun r_15 =>
  chk ((0 : Int) ≤ (IntKind.u64.wrap (i1 : Int))) <|
  some (bits .or .i64 end_ (shlK .i64 (Int.tmod r_15 2) (IntKind.u64.wrap (i1 : Int))))
def F_laws_FnPhasePolynomials_l1 (r_2 : TPhasePoly) (r_1 : TCircuit) : Nat → Unit → Option (Ex (Unit) (Bool)) := fun bits_ _ =>
  (F_impl_PhaseAt r_2 (bits_ : Int)).bind fun (r_10, r_11) =>
  (F_laws_qReverse (bits_ : Int) r_1.Qubits).bind fun r_12 =>
  (F_impl_StateAfter r_1 r_12).bind fun (r_13, r_14) =>
  chk (r_2.Out.Rows.length ≤ 9223372036854775807) <|
  (forN (F_laws_FnPhasePolynomials_l2 r_2 bits_) r_2.Out.Rows.length 0 0).bind fun end_ =>
  chk ((!((!r_11) || (!r_14))) = true → (0 : Int) ≤ (IntKind.u64.wrap r_1.Qubits)) <|
  bif (((!r_11) || (!r_14)) || ((r_13.Cells.length : Int) != (shlK .i64 1 (IntKind.u64.wrap r_1.Qubits)))) then (some (.rt false)) else ((F_laws_qReverse end_ r_1.Qubits).bind fun r_16 =>
  (getI r_13.Cells r_16).bind fun x1 =>
  (F_impl_PhaseOf x1).bind fun (r_17, r_18) =>
  bif ((!r_18) || (r_17 != r_10)) then (some (.rt false)) else (some (.nx ())))
def F_laws_FnPhasePolynomials (code : List Int) (more : List Int) : Option (Bool) :=
  bif (decide (1048576 < (IntKind.i64.wrap ((code.length : Int) + (more.length : Int))))) then (some (true)) else ((F_spec_DrawPhasePolyOf code).bind fun r_1 =>
  (F_impl_PhasePolyOf r_1).bind fun (r_2, r_3) =>
  (F_spec_PhasePolyOf r_1).bind fun (r_4, r_5) =>
  (gb (!(!(r_3 == r_5))) false (F_laws_qPoly r_2 r_4)).bind fun r_6 =>
  bif ((!(r_3 == r_5)) || (!r_6)) then (some (false)) else (bif ((!r_3) || (decide (4 < r_1.Qubits))) then (some (true)) else ((F_impl_PhaseCircuit r_2).bind fun (r_7, r_8) =>
  (gb (!(!r_8)) false (F_laws_qExact r_1 r_7)).bind fun r_9 =>
  bif ((!r_8) || (!r_9)) then (some (false)) else (chk (((shlK .i64 1 (IntKind.u64.wrap r_1.Qubits)).toNat) ≤ 9223372036854775807) <|
  (forX (F_laws_FnPhasePolynomials_l1 r_2 r_1) ((shlK .i64 1 (IntKind.u64.wrap r_1.Qubits)).toNat) 0 ()).bind <| orR fun _ =>
  some (true)))))

def F_spec_l2C_matrix (c : Tl2C) (m : TMatrix) : Option (TMatrix × Bool) :=
  bif c.bad then (some (((TMatrix.mk 0 0 []), false))) else (some ((m, true)))

def F_spec_l1Turn_l1 : (Int × Int × Int × Int × Int) → Option (Ex (Int × Int × Int × Int × Int) (TRing)) := fun (K7, A, B, C, D) =>
  bif (decide (0 < K7)) then (some (.nx ((IntKind.i64.wrap (K7 - 1)), (IntKind.i64.wrap (-D)), A, B, C))) else (some (.br (K7, A, B, C, D)))
def F_spec_l1Turn (x : TRing) (k_ : Int) : Option (TRing) :=
  (whX F_spec_l1Turn_l1 fuel ((Int.tmod (IntKind.i64.wrap ((Int.tmod k_ 8) + 8)) 8), x.A, x.B, x.C, x.D)).bind <| orR fun (K7, A, B, C, D) =>
  some ((TRing.mk A B C D))

def F_spec_l2Power (k_ : Int) : Option (TDyadic) :=
  (F_spec_l1Turn (TRing.mk 1 0 0 0) k_).bind fun r_1 =>
  some ((TDyadic.mk r_1 0))

def F_spec_l3Unit_l1 (n : Int) : Nat → (List TDyadic) → Option (List TDyadic) := fun i1 Cells =>
  (F_spec_l2Power 0).bind fun r_1 =>
  (getI Cells (IntKind.i64.wrap ((IntKind.i64.wrap ((i1 : Int) * n)) + (i1 : Int)))).bind fun x =>
  some (Cells.set (IntKind.i64.wrap ((IntKind.i64.wrap ((i1 : Int) * n)) + (i1 : Int))).toNat r_1)
def F_spec_l3Unit (n : Int) : Option (TMatrix) :=
  chk ((0 : Int) ≤ (IntKind.i64.wrap (n * n)) ∧ (IntKind.i64.wrap (n * n)) ≤ 1099511627776) <|
  chk (n.toNat ≤ 9223372036854775807) <|
  (forN (F_spec_l3Unit_l1 n) n.toNat 0 (List.replicate ((IntKind.i64.wrap (n * n)).toNat) (TDyadic.mk (TRing.mk 0 0 0 0) 0))).bind fun Cells =>
  some ((TMatrix.mk n n Cells))

def F_spec_l6Bit (n : Int) (k_ : Int) (q : Int) : Option (Int) :=
  chk ((0 : Int) ≤ (IntKind.u64.wrap (IntKind.i64.wrap ((IntKind.i64.wrap (n - 1)) - q)))) <|
  some ((bits .and .i64 (shrK .i64 k_ (IntKind.u64.wrap (IntKind.i64.wrap ((IntKind.i64.wrap (n - 1)) - q)))) 1))

def F_spec_l1Neg (x : TRing) : Option (TRing) :=
  some ((TRing.mk (IntKind.i64.wrap (-x.A)) (IntKind.i64.wrap (-x.B)) (IntKind.i64.wrap (-x.C)) (IntKind.i64.wrap (-x.D))))

def F_spec_l2Neg (x : TDyadic) : Option (TDyadic) :=
  (F_spec_l1Neg x.Num).bind fun r_1 =>
  some ((TDyadic.mk r_1 x.Exp))

def F_spec_l6One (kind : Int) : Option (List TDyadic) :=
  (F_spec_l2Power 0).bind fun r_1 =>
  bif (kind == 1) then ((F_spec_l2Neg (TDyadic.mk (TRing.mk 1 0 0 0) 1)).bind fun r_2 =>
  some ([(TDyadic.mk (TRing.mk 1 0 0 0) 1), (TDyadic.mk (TRing.mk 1 0 0 0) 1), (TDyadic.mk (TRing.mk 1 0 0 0) 1), r_2])) else (bif (kind == 2) then (some ([(TDyadic.mk (TRing.mk 0 0 0 0) 0), r_1, r_1, (TDyadic.mk (TRing.mk 0 0 0 0) 0)])) else (bif (kind == 3) then ((F_spec_l2Power 6).bind fun r_3 =>
  (F_spec_l2Power 2).bind fun r_4 =>
  some ([(TDyadic.mk (TRing.mk 0 0 0 0) 0), r_3, r_4, (TDyadic.mk (TRing.mk 0 0 0 0) 0)])) else ((getI [4, 2, 6, 1, 7] (IntKind.i64.wrap (kind - 4))).bind fun x =>
  (F_spec_l2Power x).bind fun r_5 =>
  some ([r_1, (TDyadic.mk (TRing.mk 0 0 0 0) 0), (TDyadic.mk (TRing.mk 0 0 0 0) 0), r_5]))))

def F_spec_l6Cell (n : Int) (g : TGate) (row : Int) (col : Int) : Option (TDyadic) :=
  (F_spec_l2Power 0).bind fun r_1 =>
  ((bif (g.Kind == 12) then ((F_spec_l2Power 1).bind fun r_2 =>
  some (.inl (r_2.Num.A, r_2.Num.B, r_2.Num.C, r_2.Num.D, r_2.Exp, col))) else (bif (g.Kind == 9) then ((F_spec_l6Bit n col g.A).bind fun r_3 =>
  bif (r_3 == 1) then (chk ((0 : Int) ≤ (IntKind.u64.wrap (IntKind.i64.wrap ((IntKind.i64.wrap (n - 1)) - g.B)))) <|
  some (.inl (r_1.Num.A, r_1.Num.B, r_1.Num.C, r_1.Num.D, r_1.Exp, (bits .xor .i64 col (shlK .i64 1 (IntKind.u64.wrap (IntKind.i64.wrap ((IntKind.i64.wrap (n - 1)) - g.B)))))))) else (some (.inl (r_1.Num.A, r_1.Num.B, r_1.Num.C, r_1.Num.D, r_1.Exp, col)))) else (bif (g.Kind == 10) then ((F_spec_l6Bit n col g.A).bind fun r_4 =>
  (gb (r_4 == 1) 0 (F_spec_l6Bit n col g.B)).bind fun r_5 =>
  bif ((r_4 == 1) && (r_5 == 1)) then ((F_spec_l2Power 4).bind fun r_6 =>
  some (.inl (r_6.Num.A, r_6.Num.B, r_6.Num.C, r_6.Num.D, r_6.Exp, col))) else (some (.inl (r_1.Num.A, r_1.Num.B, r_1.Num.C, r_1.Num.D, r_1.Exp, col)))) else (bif (g.Kind == 11) then ((F_spec_l6Bit n col g.A).bind fun r_7 =>
  (F_spec_l6Bit n col g.B).bind fun r_8 =>
  bif (r_7 != r_8) then (chk ((0 : Int) ≤ (IntKind.u64.wrap (IntKind.i64.wrap ((IntKind.i64.wrap (n - 1)) - g.A)))) <|
  chk ((0 : Int) ≤ (IntKind.u64.wrap (IntKind.i64.wrap ((IntKind.i64.wrap (n - 1)) - g.B)))) <|
  some (.inl (r_1.Num.A, r_1.Num.B, r_1.Num.C, r_1.Num.D, r_1.Exp, (bits .xor .i64 (bits .xor .i64 col (shlK .i64 1 (IntKind.u64.wrap (IntKind.i64.wrap ((IntKind.i64.wrap (n - 1)) - g.A))))) (shlK .i64 1 (IntKind.u64.wrap (IntKind.i64.wrap ((IntKind.i64.wrap (n - 1)) - g.B)))))))) else (some (.inl (r_1.Num.A, r_1.Num.B, r_1.Num.C, r_1.Num.D, r_1.Exp, col)))) else (chk ((0 : Int) ≤ (IntKind.u64.wrap (IntKind.i64.wrap ((IntKind.i64.wrap (n - 1)) - g.A)))) <|
  bif ((bits .andNot .i64 (bits .xor .i64 row col) (shlK .i64 1 (IntKind.u64.wrap (IntKind.i64.wrap ((IntKind.i64.wrap (n - 1)) - g.A))))) != 0) then (some (.inr (TDyadic.mk (TRing.mk 0 0 0 0) 0))) else ((F_spec_l6One g.Kind).bind fun r_9 =>
  (F_spec_l6Bit n row g.A).bind fun r_10 =>
  (F_spec_l6Bit n col g.A).bind fun r_11 =>
  (getI r_9 (IntKind.i64.wrap ((IntKind.i64.wrap (2 * r_10)) + r_11))).bind fun x =>
  some (.inr x))))))) : Option ((Int × Int × Int × Int × Int × Int) ⊕ (TDyadic))).bind <| orR fun (A, B, C, D, Exp, to_) =>
  bif (row == to_) then (some ((TDyadic.mk (TRing.mk A B C D) Exp))) else (some ((TDyadic.mk (TRing.mk 0 0 0 0) 0)))

def F_spec_l6Gate_l2 (n : Int) (g : TGate) (i1 : Nat) : Nat → (List TDyadic) → Option (List TDyadic) := fun j Cells1 =>
  (F_spec_l6Cell n g (i1 : Int) (j : Int)).bind fun r_1 =>
  chk (Cells1.length + 1 ≤ 1099511627776) <|
  some (Cells1 ++ [r_1])
def F_spec_l6Gate_l1 (n : Int) (g : TGate) : Nat → (List TDyadic) → Option (List TDyadic) := fun i1 Cells =>
  chk (((shlK .i64 1 (IntKind.u64.wrap n)).toNat) ≤ 9223372036854775807) <|
  (forN (F_spec_l6Gate_l2 n g i1) ((shlK .i64 1 (IntKind.u64.wrap n)).toNat) 0 Cells).bind fun Cells1 =>
  some Cells1
def F_spec_l6Gate (n : Int) (g : TGate) : Option (TMatrix) :=
  chk ((0 : Int) ≤ (IntKind.u64.wrap n)) <|
  chk (((shlK .i64 1 (IntKind.u64.wrap n)).toNat) ≤ 9223372036854775807) <|
  (forN (F_spec_l6Gate_l1 n g) ((shlK .i64 1 (IntKind.u64.wrap n)).toNat) 0 []).bind fun Cells =>
  some ((TMatrix.mk (shlK .i64 1 (IntKind.u64.wrap n)) (shlK .i64 1 (IntKind.u64.wrap n)) Cells))

def F_spec_l1Root (x : TRing) : Option (TRing) :=
  some ((TRing.mk (IntKind.i64.wrap (x.B - x.D)) (IntKind.i64.wrap (x.A + x.C)) (IntKind.i64.wrap (x.B + x.D)) (IntKind.i64.wrap (x.C - x.A))))

def F_spec_l1Half (x : TRing) : Option (TRing) :=
  (F_spec_l1Root x).bind fun r_1 =>
  some ((TRing.mk (IntKind.i64.wrap (Int.tdiv r_1.A 2)) (IntKind.i64.wrap (Int.tdiv r_1.B 2)) (IntKind.i64.wrap (Int.tdiv r_1.C 2)) (IntKind.i64.wrap (Int.tdiv r_1.D 2))))

def F_spec_l1Even (x : TRing) : Option (Bool) :=
  some ((((Int.tmod (IntKind.i64.wrap (x.A + x.C)) 2) == 0) && ((Int.tmod (IntKind.i64.wrap (x.B + x.D)) 2) == 0)))

def F_spec_l2Low_l1 : (Int × Int × Int × Int × Int) → Option (Ex (Int × Int × Int × Int × Int) (TDyadic)) := fun (exp1, A, B, C, D) =>
  (gb (decide (0 < exp1)) false (F_spec_l1Even (TRing.mk A B C D))).bind fun r_1 =>
  bif ((decide (0 < exp1)) && r_1) then ((F_spec_l1Half (TRing.mk A B C D)).bind fun r_2 =>
  some (.nx ((IntKind.i64.wrap (exp1 - 1)), r_2.A, r_2.B, r_2.C, r_2.D))) else (some (.br (exp1, A, B, C, D)))
def F_spec_l2Low (num : TRing) (exp : Int) : Option (TDyadic) :=
  (whX F_spec_l2Low_l1 fuel (exp, num.A, num.B, num.C, num.D)).bind <| orR fun (exp1, A, B, C, D) =>
  some ((TDyadic.mk (TRing.mk A B C D) exp1))

def F_spec_l1Add (x : TRing) (y : TRing) : Option (TRing) :=
  some ((TRing.mk (IntKind.i64.wrap (x.A + y.A)) (IntKind.i64.wrap (x.B + y.B)) (IntKind.i64.wrap (x.C + y.C)) (IntKind.i64.wrap (x.D + y.D))))

def F_spec_l1All_l1 (l : List Int) (lo : Int) (hi : Int) : Nat → Unit → Option (Ex (Unit) (Bool)) := fun i _ =>
  (getI l (i : Int)).bind fun x =>
  (F_spec_l1In x lo hi).bind fun r_1 =>
  bif (!r_1) then (some (.rt false)) else (some (.nx ()))
def F_spec_l1All (l : List Int) (lo : Int) (hi : Int) : Option (Bool) :=
  chk (l.length ≤ 9223372036854775807) <|
  (forX (F_spec_l1All_l1 l lo hi) l.length 0 ()).bind <| orR fun _ =>
  some (true)

def F_spec_l1Good (x : TRing) : Option (Bool) :=
  (F_spec_l1All [x.A, x.B, x.C, x.D] (-1000000000) 1000000000).bind fun r_1 =>
  some (r_1)

def F_spec_l2C_ring (c : Tl2C) (x : TRing) : Option (TRing × Tl2C) :=
  (F_spec_l1Good x).bind fun r_1 =>
  bif (!r_1) then (some (((TRing.mk 0 0 0 0), (Tl2C.mk true)))) else (some ((x, c)))

def F_spec_l2C_add_l2 (Exp : Int) (bad : Bool) (A : Int) (C : Int) (D : Int) : (Bool × Int × Int × Int × Int × Int) → Option (Ex (Bool × Int × Int × Int × Int × Int) (TDyadic × Tl2C)) := fun (bad1, A1, B2, C1, D1, Exp1) =>
  bif (decide (Exp1 < Exp)) then ((F_spec_l1Root (TRing.mk A1 B2 C1 D1)).bind fun r_3 =>
  (F_spec_l2C_ring (Tl2C.mk bad1) r_3).bind fun (r_4, m2) =>
  some (.nx (m2.bad, r_4.A, r_4.B, r_4.C, r_4.D, (IntKind.i64.wrap (Exp1 + 1))))) else (some (.br (bad1, A1, B2, C1, D1, Exp1)))
def F_spec_l2C_add_l1 (y : TDyadic) : (Bool × Int × Int × Int × Int × Int) → Option (Ex (Bool × Int × Int × Int × Int × Int) (TDyadic × Tl2C)) := fun (bad, A, B1, C, D, Exp) =>
  bif (decide (Exp < y.Exp)) then ((F_spec_l1Root (TRing.mk A B1 C D)).bind fun r_1 =>
  (F_spec_l2C_ring (Tl2C.mk bad) r_1).bind fun (r_2, m1) =>
  some (.nx (m1.bad, r_2.A, r_2.B, r_2.C, r_2.D, (IntKind.i64.wrap (Exp + 1))))) else (some (.br (bad, A, B1, C, D, Exp)))
def F_spec_l2C_add (c : Tl2C) (x : TDyadic) (y : TDyadic) : Option (TDyadic × Tl2C) :=
  (whX (F_spec_l2C_add_l1 y) fuel (c.bad, x.Num.A, x.Num.B, x.Num.C, x.Num.D, x.Exp)).bind <| orR fun (bad, A, B1, C, D, Exp) =>
  (whX (F_spec_l2C_add_l2 Exp bad A C D) fuel (bad, y.Num.A, y.Num.B, y.Num.C, y.Num.D, y.Exp)).bind <| orR fun (bad1, A1, B2, C1, D1, Exp1) =>
  (F_spec_l1Add (TRing.mk A B1 C D) (TRing.mk A1 B2 C1 D1)).bind fun r_5 =>
  (F_spec_l2C_ring (Tl2C.mk bad1) r_5).bind fun (r_6, m3) =>
  (F_spec_l2Low r_6 Exp).bind fun r_7 =>
  some ((r_7, m3))

def F_spec_l1Mul (x : TRing) (y : TRing) : Option (TRing) :=
  some ((TRing.mk (IntKind.i64.wrap ((IntKind.i64.wrap ((IntKind.i64.wrap ((IntKind.i64.wrap (x.A * y.A)) - (IntKind.i64.wrap (x.B * y.D)))) - (IntKind.i64.wrap (x.C * y.C)))) - (IntKind.i64.wrap (x.D * y.B)))) (IntKind.i64.wrap ((IntKind.i64.wrap ((IntKind.i64.wrap ((IntKind.i64.wrap (x.A * y.B)) + (IntKind.i64.wrap (x.B * y.A)))) - (IntKind.i64.wrap (x.C * y.D)))) - (IntKind.i64.wrap (x.D * y.C)))) (IntKind.i64.wrap ((IntKind.i64.wrap ((IntKind.i64.wrap ((IntKind.i64.wrap (x.A * y.C)) + (IntKind.i64.wrap (x.B * y.B)))) + (IntKind.i64.wrap (x.C * y.A)))) - (IntKind.i64.wrap (x.D * y.D)))) (IntKind.i64.wrap ((IntKind.i64.wrap ((IntKind.i64.wrap ((IntKind.i64.wrap (x.A * y.D)) + (IntKind.i64.wrap (x.B * y.C)))) + (IntKind.i64.wrap (x.C * y.B)))) + (IntKind.i64.wrap (x.D * y.A))))))

def F_spec_l2C_mul (c : Tl2C) (x : TDyadic) (y : TDyadic) : Option (TDyadic × Tl2C) :=
  bif (decide (60 < (IntKind.i64.wrap (x.Exp + y.Exp)))) then (some (((TDyadic.mk (TRing.mk 0 0 0 0) 0), (Tl2C.mk true)))) else ((F_spec_l1Mul x.Num y.Num).bind fun r_1 =>
  (F_spec_l2C_ring c r_1).bind fun (r_2, m1) =>
  (F_spec_l2Low r_2 (IntKind.i64.wrap (x.Exp + y.Exp))).bind fun r_3 =>
  some ((r_3, m1)))

def F_spec_l2C_times_l3 (a : TMatrix) (Cells : List TDyadic) (i1 : Nat) (b : TMatrix) (j : Nat) (bad : Bool) : (Bool × Int × Int × Int × Int × Int × Int) → Option (Ex (Bool × Int × Int × Int × Int × Int × Int) (Bool × List TDyadic)) := fun (bad2, A, B6, C, D, Exp, K67) =>
  bif ((decide (K67 < a.Cols)) && (!bad2)) then ((getI a.Cells (IntKind.i64.wrap ((IntKind.i64.wrap ((i1 : Int) * a.Cols)) + K67))).bind fun x =>
  (getI b.Cells (IntKind.i64.wrap ((IntKind.i64.wrap (K67 * b.Cols)) + (j : Int)))).bind fun x1 =>
  (F_spec_l2C_mul (Tl2C.mk bad2) x x1).bind fun (r_1, m1) =>
  (F_spec_l2C_add m1 (TDyadic.mk (TRing.mk A B6 C D) Exp) r_1).bind fun (r_2, m2) =>
  some (.nx (m2.bad, r_2.Num.A, r_2.Num.B, r_2.Num.C, r_2.Num.D, r_2.Exp, (IntKind.i64.wrap (K67 + 1))))) else (some (.br (bad2, A, B6, C, D, Exp, K67)))
def F_spec_l2C_times_l2 (a : TMatrix) (Cells : List TDyadic) (i1 : Nat) (b : TMatrix) (bad : Bool) : Nat → (Bool × List TDyadic) → Option (Bool × List TDyadic) := fun j (bad1, Cells1) =>
  (whX (F_spec_l2C_times_l3 a Cells i1 b j bad) fuel (bad1, 0, 0, 0, 0, 0, 0)).bind <| orR fun (bad2, A, B6, C, D, Exp, K67) =>
  chk (Cells1.length + 1 ≤ 1099511627776) <|
  some (bad2, (Cells1 ++ [(TDyadic.mk (TRing.mk A B6 C D) Exp)]))
def F_spec_l2C_times_l1 (b : TMatrix) (a : TMatrix) : Nat → (Bool × List TDyadic) → Option (Bool × List TDyadic) := fun i1 (bad, Cells) =>
  chk (b.Cols.toNat ≤ 9223372036854775807) <|
  (forN (F_spec_l2C_times_l2 a Cells i1 b bad) b.Cols.toNat 0 (bad, Cells)).bind fun (bad1, Cells1) =>
  some (bad1, Cells1)
def F_spec_l2C_times (c : Tl2C) (a : TMatrix) (b : TMatrix) : Option (TMatrix × Tl2C) :=
  chk (a.Rows.toNat ≤ 9223372036854775807) <|
  (forN (F_spec_l2C_times_l1 b a) a.Rows.toNat 0 (c.bad, [])).bind fun (bad, Cells) =>
  some (((TMatrix.mk a.Rows b.Cols Cells), (Tl2C.mk bad)))

def F_spec_l2C_run_l1 (x : TCircuit) : Nat → (Bool × Int × Int × List TDyadic) → Option (Bool × Int × Int × List TDyadic) := fun i (bad, Rows, Cols, Cells) =>
  (((getI x.Gates (i : Int)).bind fun x1 =>
  bif (!bad) then ((F_spec_l6Gate x.Qubits x1).bind fun r_1 =>
  (F_spec_l2C_times (Tl2C.mk bad) r_1 (TMatrix.mk Rows Cols Cells)).bind fun (r_2, m2) =>
  some (m2.bad, r_2.Rows, r_2.Cols, r_2.Cells)) else (some (bad, Rows, Cols, Cells))) : Option (Bool × Int × Int × List TDyadic)).bind fun (bad1, Rows1, Cols1, Cells1) =>
  some (bad1, Rows1, Cols1, Cells1)
def F_spec_l2C_run (c : Tl2C) (x : TCircuit) (m : TMatrix) : Option (TMatrix × Tl2C) :=
  chk (x.Gates.length ≤ 9223372036854775807) <|
  (forN (F_spec_l2C_run_l1 x) x.Gates.length 0 (c.bad, m.Rows, m.Cols, m.Cells)).bind fun (bad, Rows, Cols, Cells) =>
  some (((TMatrix.mk Rows Cols Cells), (Tl2C.mk bad)))

def F_spec_OperatorOf (c : TCircuit) : Option (TMatrix × Bool) :=
  (F_spec_l4Good c).bind fun r_2 =>
  bif (!r_2) then (some (((TMatrix.mk 0 0 []), false))) else (chk ((0 : Int) ≤ (IntKind.u64.wrap c.Qubits)) <|
  (F_spec_l3Unit (shlK .i64 1 (IntKind.u64.wrap c.Qubits))).bind fun r_3 =>
  (F_spec_l2C_run (Tl2C.mk false) c r_3).bind fun (r_4, m) =>
  (F_spec_l2C_matrix m r_4).bind fun (r_5, r_6) =>
  some ((r_5, r_6)))

def F_spec_l3Column_l1 (m : TMatrix) (k_ : Int) : Nat → (List TDyadic) → Option (List TDyadic) := fun i1 Cells =>
  (getI m.Cells (IntKind.i64.wrap ((IntKind.i64.wrap ((i1 : Int) * m.Cols)) + k_))).bind fun x =>
  chk (Cells.length + 1 ≤ 1099511627776) <|
  some (Cells ++ [x])
def F_spec_l3Column (m : TMatrix) (k_ : Int) : Option (TMatrix) :=
  chk (m.Rows.toNat ≤ 9223372036854775807) <|
  (forN (F_spec_l3Column_l1 m k_) m.Rows.toNat 0 []).bind fun Cells =>
  some ((TMatrix.mk m.Rows 1 Cells))

def F_spec_StateAfter (c : TCircuit) (start : Int) : Option (TMatrix × Bool) :=
  (F_spec_l4Good c).bind fun r_2 =>
  chk ((!(!r_2)) = true → (0 : Int) ≤ (IntKind.u64.wrap c.Qubits)) <|
  (gb (!(!r_2)) false (F_spec_l1In start 0 (IntKind.i64.wrap ((shlK .i64 1 (IntKind.u64.wrap c.Qubits)) - 1)))).bind fun r_3 =>
  bif ((!r_2) || (!r_3)) then (some (((TMatrix.mk 0 0 []), false))) else (chk ((0 : Int) ≤ (IntKind.u64.wrap c.Qubits)) <|
  (F_spec_l3Unit (shlK .i64 1 (IntKind.u64.wrap c.Qubits))).bind fun r_4 =>
  (F_spec_l3Column r_4 start).bind fun r_5 =>
  (F_spec_l2C_run (Tl2C.mk false) c r_5).bind fun (r_6, m) =>
  (F_spec_l2C_matrix m r_6).bind fun (r_7, r_8) =>
  some ((r_7, r_8)))

def F_spec_l12Rank_l2 (r_1 : List Int) (l : List Int) (bit : Nat) : (Int × Int) → Option (Ex (Int × Int) (List Int × Int)) := fun (at_1, i2) =>
  bif (decide (i2 < (r_1.length : Int))) then ((getI l i2).bind fun x =>
  chk ((0 : Int) ≤ (IntKind.u64.wrap (bit : Int))) <|
  bif ((bits .and .i64 (shrK .i64 x (IntKind.u64.wrap (bit : Int))) 1) == 1) then (some (.br (i2, i2))) else (some (.nx (at_1, (IntKind.i64.wrap (i2 + 1)))))) else (some (.br (at_1, i2)))
def F_spec_l12Rank_l3 (rank : Int) (bit : Nat) (x1 : Int) : Nat → (List Int) → Option (List Int) := fun i3 l2 =>
  (((gb ((i3 : Int) != rank) 0 (getI l2 (i3 : Int))).bind fun x4 =>
  chk (((i3 : Int) != rank) = true → (0 : Int) ≤ (IntKind.u64.wrap (bit : Int))) <|
  bif (((i3 : Int) != rank) && ((bits .and .i64 (shrK .i64 x4 (IntKind.u64.wrap (bit : Int))) 1) == 1)) then ((getI l2 (i3 : Int)).bind fun x5 =>
  some (l2.set (i3 : Int).toNat (bits .xor .i64 x5 x1))) else (some l2)) : Option (List Int)).bind fun l3 =>
  some l3
def F_spec_l12Rank_l1 (r_1 : List Int) : Nat → (List Int × Int) → Option (List Int × Int) := fun bit (l, rank) =>
  (((whX (F_spec_l12Rank_l2 r_1 l bit) fuel ((-1), rank)).bind <| orR fun (at_, i1) =>
  bif (decide (at_ < 0)) then (some (l, rank)) else ((getI l at_).bind fun x1 =>
  (getI l rank).bind fun x2 =>
  (getI (l.set at_.toNat x2) rank).bind fun x3 =>
  chk (r_1.length ≤ 9223372036854775807) <|
  (forN (F_spec_l12Rank_l3 rank bit x1) r_1.length 0 ((l.set at_.toNat x2).set rank.toNat x1)).bind fun l2 =>
  some (l2, (IntKind.i64.wrap (rank + 1))))) : Option (List Int × Int)).bind fun (l1, rank1) =>
  some (l1, rank1)
def F_spec_l12Rank (rows : List Int) : Option (Int) :=
  (F_spec_l1Own rows).bind fun r_1 =>
  (forN (F_spec_l12Rank_l1 r_1) 10 0 (r_1, 0)).bind fun (l, rank) =>
  some (rank)

def F_spec_l12Valid (m : TLinear) : Option (Bool) :=
  (F_spec_l1In (m.Rows.length : Int) 1 5).bind fun r_1 =>
  chk (r_1 = true → (0 : Int) ≤ (IntKind.u64.wrap (m.Rows.length : Int))) <|
  (gb r_1 false (F_spec_l1All m.Rows 0 (IntKind.i64.wrap ((shlK .i64 1 (IntKind.u64.wrap (m.Rows.length : Int))) - 1)))).bind fun r_2 =>
  (gb (r_1 && r_2) 0 (F_spec_l12Rank m.Rows)).bind fun r_3 =>
  some (((r_1 && r_2) && (r_3 == (m.Rows.length : Int))))

def F_spec_l13Valid_l1 (p : TPhasePoly) : Nat → Unit → Option (Ex (Unit) (Bool)) := fun i _ =>
  (getI p.Terms (i : Int)).bind fun x =>
  chk ((0 : Int) ≤ (IntKind.u64.wrap p.Qubits)) <|
  (F_spec_l1In x.Mask 1 (IntKind.i64.wrap ((shlK .i64 1 (IntKind.u64.wrap p.Qubits)) - 1))).bind fun r_4 =>
  (gb (!(!r_4)) false (F_spec_l1In x.Coef 1 7)).bind fun r_5 =>
  (gb ((!((!r_4) || (!r_5))) && (decide (0 < (i : Int)))) (TTerm.mk 0 0) (getI p.Terms (IntKind.i64.wrap ((i : Int) - 1)))).bind fun x1 =>
  bif (((!r_4) || (!r_5)) || ((decide (0 < (i : Int))) && (decide (x.Mask ≤ x1.Mask)))) then (some (.rt false)) else (some (.nx ()))
def F_spec_l13Valid (p : TPhasePoly) : Option (Bool) :=
  (F_spec_l1In p.Qubits 1 5).bind fun r_1 =>
  (gb (!(!r_1)) false (F_spec_l1In p.Phase 0 7)).bind fun r_2 =>
  (gb (!(((!r_1) || (!r_2)) || ((p.Out.Rows.length : Int) != p.Qubits))) false (F_spec_l12Valid p.Out)).bind fun r_3 =>
  bif ((((!r_1) || (!r_2)) || ((p.Out.Rows.length : Int) != p.Qubits)) || (!r_3)) then (some (false)) else (chk (p.Terms.length ≤ 9223372036854775807) <|
  (forX (F_spec_l13Valid_l1 p) p.Terms.length 0 ()).bind <| orR fun _ =>
  some (true))
end Go.VK
