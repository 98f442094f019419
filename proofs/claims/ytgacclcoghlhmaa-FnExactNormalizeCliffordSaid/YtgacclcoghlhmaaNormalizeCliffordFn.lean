/- What each Go function computes, by program. -/
import Derived.Test.YtgacclcoghlhmaaNormalizeCliffordTy
set_option linter.unusedVariables false
namespace Go.VK
open Go.RowKit
def F_laws_szGateS (a : List TGate) (left : Int) : Option (Int) :=
  bif (decide ((IntKind.i64.wrap (left - (a.length : Int))) < 0)) then (some ((-1))) else (some ((IntKind.i64.wrap (left - (a.length : Int)))))

def F_laws_szCircuit (a : TCircuit) (left : Int) : Option (Int) :=
  (F_laws_szGateS a.Gates left).bind fun r_1 =>
  bif (decide (r_1 < 0)) then (some ((-1))) else (some (r_1))

def F_spec_l1In (n : Int) (lo : Int) (hi : Int) : Option (Bool) :=
  some (((decide (lo ≤ n)) && (decide (n ≤ hi))))

def F_spec_l4Gate (n : Int) (g : TGate) : Option (Bool) :=
  (F_spec_l1In g.Kind 1 8).bind fun r_1 =>
  bif r_1 then ((F_spec_l1In g.A 0 (IntKind.i64.wrap (n - 1))).bind fun r_2 =>
  some ((r_2 && (g.B == 0)))) else ((F_spec_l1In g.Kind 9 11).bind fun r_3 =>
  bif r_3 then ((F_spec_l1In g.A 0 (IntKind.i64.wrap (n - 1))).bind fun r_4 =>
  (gb r_4 false (F_spec_l1In g.B 0 (IntKind.i64.wrap (n - 1)))).bind fun r_5 =>
  some (((r_4 && r_5) && (g.A != g.B)))) else (some ((((g.Kind == 12) && (g.A == 0)) && (g.B == 0)))))

def F_spec_l4Good_l1 (c : TCircuit) : Nat → Unit → Option (Ex (Unit) (Bool)) := fun i _ =>
  (getI c.Gates (i : Int)).bind fun x =>
  (F_spec_l4Gate c.Qubits x).bind fun r_2 =>
  bif (!r_2) then (some (.rt false)) else (some (.nx ()))
def F_spec_l4Good (c : TCircuit) : Option (Bool) :=
  (F_spec_l1In c.Qubits 1 5).bind fun r_1 =>
  bif ((!r_1) || (decide (400 < (c.Gates.length : Int)))) then (some (false)) else (chk (c.Gates.length ≤ 9223372036854775807) <|
  (forX (F_spec_l4Good_l1 c) c.Gates.length 0 ()).bind <| orR fun _ =>
  some (true))

def F_spec_l4Count_l1 (c : TCircuit) (lo : Int) (hi : Int) : Nat → Int → Option (Int) := fun i n1 =>
  (((getI c.Gates (i : Int)).bind fun x =>
  (F_spec_l1In x.Kind lo hi).bind fun r_1 =>
  bif r_1 then (some (IntKind.i64.wrap (n1 + 1))) else (some n1)) : Option (Int)).bind fun n2 =>
  some n2
def F_spec_l4Count (c : TCircuit) (lo : Int) (hi : Int) : Option (Int) :=
  chk (c.Gates.length ≤ 9223372036854775807) <|
  (forN (F_spec_l4Count_l1 c lo hi) c.Gates.length 0 0).bind fun n1 =>
  some (n1)

def F_spec_CountT (c : TCircuit) : Option (Int × Bool) :=
  (F_spec_l4Good c).bind fun r_2 =>
  bif (!r_2) then (some ((0, false))) else ((F_spec_l4Count c 7 8).bind fun r_3 =>
  some ((r_3, true)))

def F_spec_l7Clifford (c : TCircuit) : Option (Bool) :=
  (F_spec_CountT c).bind fun (r_1, r_2) =>
  some ((r_2 && (r_1 == 0)))

def F_spec_l7Letter (p : TPauli) (q : Int) : Option (Int) :=
  chk ((0 : Int) ≤ (IntKind.u64.wrap q)) <|
  chk ((0 : Int) ≤ (IntKind.u64.wrap q)) <|
  some ((IntKind.i64.wrap ((bits .and .i64 (shrK .i64 p.X (IntKind.u64.wrap q)) 1) + (IntKind.i64.wrap (2 * (bits .and .i64 (shrK .i64 p.Z (IntKind.u64.wrap q)) 1))))))

def F_spec_l7Sign (a : Int) (b : Int) : Option (Int) :=
  (getI ([([0, 0, 0, 0] : List Int), ([0, 0, 3, 1] : List Int), ([0, 1, 0, 3] : List Int), ([0, 3, 1, 0] : List Int)] : List (List Int)) a).bind fun x =>
  chk (b < 4) <|
  (getI x b).bind fun x1 =>
  some (x1)

def F_spec_l7Mul_l1 (a : TPauli) (b : TPauli) : Nat → Int → Option (Int) := fun q Phase =>
  (F_spec_l7Letter a (q : Int)).bind fun r_1 =>
  (F_spec_l7Letter b (q : Int)).bind fun r_2 =>
  (F_spec_l7Sign r_1 r_2).bind fun r_3 =>
  some (IntKind.i64.wrap (Phase + r_3))
def F_spec_l7Mul (a : TPauli) (b : TPauli) : Option (TPauli) :=
  (forN (F_spec_l7Mul_l1 a b) 5 0 (IntKind.i64.wrap (a.Phase + b.Phase))).bind fun Phase =>
  some ((TPauli.mk (Int.tmod Phase 4) (bits .xor .i64 a.X b.X) (bits .xor .i64 a.Z b.Z)))

def F_spec_l7Image_l1 (p : TPauli) (t : TTableau) : Nat → (Int × Int × Int) → Option (Int × Int × Int) := fun q (Phase, X, Z) =>
  (((F_spec_l7Letter p (q : Int)).bind fun r_1 =>
  ((bif ((bits .and .i64 r_1 1) == 1) then ((getI t.XImages (q : Int)).bind fun x =>
  (F_spec_l7Mul (TPauli.mk Phase X Z) x).bind fun r_2 =>
  some (r_2.Phase, r_2.X, r_2.Z)) else (some (Phase, X, Z))) : Option (Int × Int × Int)).bind fun (Phase2, X2, Z2) =>
  ((bif ((bits .and .i64 r_1 2) == 2) then ((getI t.ZImages (q : Int)).bind fun x1 =>
  (F_spec_l7Mul (TPauli.mk Phase2 X2 Z2) x1).bind fun r_3 =>
  some (r_3.Phase, r_3.X, r_3.Z)) else (some (Phase2, X2, Z2))) : Option (Int × Int × Int)).bind fun (Phase3, X3, Z3) =>
  bif (r_1 == 3) then (some ((Int.tmod (IntKind.i64.wrap (Phase3 + 1)) 4), X3, Z3)) else (some (Phase3, X3, Z3))) : Option (Int × Int × Int)).bind fun (Phase1, X1, Z1) =>
  some (Phase1, X1, Z1)
def F_spec_l7Image (t : TTableau) (p : TPauli) : Option (TPauli) :=
  chk (t.Qubits.toNat ≤ 9223372036854775807) <|
  (forN (F_spec_l7Image_l1 p t) t.Qubits.toNat 0 (p.Phase, 0, 0)).bind fun (Phase, X, Z) =>
  some ((TPauli.mk Phase X Z))

def F_spec_l7Then_l1 (first : TTableau) (second : TTableau) : Nat → (List TPauli × List TPauli) → Option (List TPauli × List TPauli) := fun q (XImages, ZImages) =>
  (getI first.XImages (q : Int)).bind fun x =>
  (F_spec_l7Image second x).bind fun r_1 =>
  chk (XImages.length + 1 ≤ 1099511627776) <|
  (getI first.ZImages (q : Int)).bind fun x1 =>
  (F_spec_l7Image second x1).bind fun r_2 =>
  chk (ZImages.length + 1 ≤ 1099511627776) <|
  some ((XImages ++ [r_1]), (ZImages ++ [r_2]))
def F_spec_l7Then (first : TTableau) (second : TTableau) : Option (TTableau) :=
  chk (first.Qubits.toNat ≤ 9223372036854775807) <|
  (forN (F_spec_l7Then_l1 first second) first.Qubits.toNat 0 ([], [])).bind fun (XImages, ZImages) =>
  some ((TTableau.mk first.Qubits XImages ZImages))

def F_spec_l7Identity_l1 : Nat → (List TPauli × List TPauli) → Option (List TPauli × List TPauli) := fun q (XImages, ZImages) =>
  chk ((0 : Int) ≤ (IntKind.u64.wrap (q : Int))) <|
  chk (XImages.length + 1 ≤ 1099511627776) <|
  chk ((0 : Int) ≤ (IntKind.u64.wrap (q : Int))) <|
  chk (ZImages.length + 1 ≤ 1099511627776) <|
  some ((XImages ++ [(TPauli.mk 0 (shlK .i64 1 (IntKind.u64.wrap (q : Int))) 0)]), (ZImages ++ [(TPauli.mk 0 0 (shlK .i64 1 (IntKind.u64.wrap (q : Int))))]))
def F_spec_l7Identity (n : Int) : Option (TTableau) :=
  chk (n.toNat ≤ 9223372036854775807) <|
  (forN F_spec_l7Identity_l1 n.toNat 0 ([], [])).bind fun (XImages, ZImages) =>
  some ((TTableau.mk n XImages ZImages))

def F_spec_l7Gate (n : Int) (g : TGate) : Option (TTableau) :=
  (F_spec_l7Identity n).bind fun r_1 =>
  chk ((0 : Int) ≤ (IntKind.u64.wrap g.A)) <|
  chk ((0 : Int) ≤ (IntKind.u64.wrap g.A)) <|
  chk ((0 : Int) ≤ (IntKind.u64.wrap g.B)) <|
  chk ((0 : Int) ≤ (IntKind.u64.wrap g.B)) <|
  ((bif (g.Kind == 1) then ((getI r_1.XImages g.A).bind fun x =>
  (getI r_1.ZImages g.A).bind fun x1 =>
  some ((r_1.XImages.set g.A.toNat (TPauli.mk 0 0 (shlK .i64 1 (IntKind.u64.wrap g.A)))), (r_1.ZImages.set g.A.toNat (TPauli.mk 0 (shlK .i64 1 (IntKind.u64.wrap g.A)) 0)))) else (bif (g.Kind == 2) then ((getI r_1.ZImages g.A).bind fun x2 =>
  some (r_1.XImages, (r_1.ZImages.set g.A.toNat (TPauli.mk 2 x2.X x2.Z)))) else (bif (g.Kind == 4) then ((getI r_1.XImages g.A).bind fun x3 =>
  some ((r_1.XImages.set g.A.toNat (TPauli.mk 2 x3.X x3.Z)), r_1.ZImages)) else (bif (g.Kind == 3) then ((getI r_1.XImages g.A).bind fun x4 =>
  (getI r_1.ZImages g.A).bind fun x5 =>
  some ((r_1.XImages.set g.A.toNat (TPauli.mk 2 x4.X x4.Z)), (r_1.ZImages.set g.A.toNat (TPauli.mk 2 x5.X x5.Z)))) else (((bif (g.Kind == 5) then (some (g.Kind == 5)) else (some (g.Kind == 6))) : Option (Bool)).bind fun t =>
  bif t then ((getI r_1.XImages g.A).bind fun x6 =>
  bif (g.Kind == 6) then (some (((r_1.XImages.set g.A.toNat (TPauli.mk 0 (shlK .i64 1 (IntKind.u64.wrap g.A)) (shlK .i64 1 (IntKind.u64.wrap g.A)))).set g.A.toNat (TPauli.mk 2 (shlK .i64 1 (IntKind.u64.wrap g.A)) (shlK .i64 1 (IntKind.u64.wrap g.A)))), r_1.ZImages)) else (some ((r_1.XImages.set g.A.toNat (TPauli.mk 0 (shlK .i64 1 (IntKind.u64.wrap g.A)) (shlK .i64 1 (IntKind.u64.wrap g.A)))), r_1.ZImages))) else (bif (g.Kind == 9) then ((F_spec_l7Mul (TPauli.mk 0 (shlK .i64 1 (IntKind.u64.wrap g.A)) 0) (TPauli.mk 0 (shlK .i64 1 (IntKind.u64.wrap g.B)) 0)).bind fun r_2 =>
  (getI r_1.XImages g.A).bind fun x7 =>
  (F_spec_l7Mul (TPauli.mk 0 0 (shlK .i64 1 (IntKind.u64.wrap g.A))) (TPauli.mk 0 0 (shlK .i64 1 (IntKind.u64.wrap g.B)))).bind fun r_3 =>
  (getI r_1.ZImages g.B).bind fun x8 =>
  some ((r_1.XImages.set g.A.toNat r_2), (r_1.ZImages.set g.B.toNat r_3))) else (bif (g.Kind == 10) then ((F_spec_l7Mul (TPauli.mk 0 (shlK .i64 1 (IntKind.u64.wrap g.A)) 0) (TPauli.mk 0 0 (shlK .i64 1 (IntKind.u64.wrap g.B)))).bind fun r_4 =>
  (getI r_1.XImages g.A).bind fun x9 =>
  (F_spec_l7Mul (TPauli.mk 0 0 (shlK .i64 1 (IntKind.u64.wrap g.A))) (TPauli.mk 0 (shlK .i64 1 (IntKind.u64.wrap g.B)) 0)).bind fun r_5 =>
  (getI (r_1.XImages.set g.A.toNat r_4) g.B).bind fun x10 =>
  some (((r_1.XImages.set g.A.toNat r_4).set g.B.toNat r_5), r_1.ZImages)) else (bif (g.Kind == 11) then ((getI r_1.XImages g.A).bind fun x11 =>
  (getI (r_1.XImages.set g.A.toNat (TPauli.mk 0 (shlK .i64 1 (IntKind.u64.wrap g.B)) 0)) g.B).bind fun x12 =>
  (getI r_1.ZImages g.A).bind fun x13 =>
  (getI (r_1.ZImages.set g.A.toNat (TPauli.mk 0 0 (shlK .i64 1 (IntKind.u64.wrap g.B)))) g.B).bind fun x14 =>
  some (((r_1.XImages.set g.A.toNat (TPauli.mk 0 (shlK .i64 1 (IntKind.u64.wrap g.B)) 0)).set g.B.toNat (TPauli.mk 0 (shlK .i64 1 (IntKind.u64.wrap g.A)) 0)), ((r_1.ZImages.set g.A.toNat (TPauli.mk 0 0 (shlK .i64 1 (IntKind.u64.wrap g.B)))).set g.B.toNat (TPauli.mk 0 0 (shlK .i64 1 (IntKind.u64.wrap g.A)))))) else (some (r_1.XImages, r_1.ZImages)))))))))) : Option (List TPauli × List TPauli)).bind fun (XImages, ZImages) =>
  some ((TTableau.mk r_1.Qubits XImages ZImages))

def F_spec_l8R_add (r_ : Tl8R) (kind : Int) (a : Int) (b : Int) : Option (Tl8R) :=
  (F_spec_l7Gate r_.t.Qubits (TGate.mk kind a b)).bind fun r_1 =>
  (F_spec_l7Then r_.t r_1).bind fun r_2 =>
  chk (r_.out.length + 1 ≤ 1099511627776) <|
  some ((Tl8R.mk r_2 (r_.out ++ [(TGate.mk kind a b)])))

def F_spec_l8Synthesize_l2 (q1 : Int) : (Int × List TPauli × List TPauli × List TGate × Int) → Option (Ex (Int × List TPauli × List TPauli × List TGate × Int) (Int × List TPauli × List TPauli × List TGate)) := fun (Qubits3, XImages3, ZImages3, out3, s) =>
  bif (decide (s < Qubits3)) then ((((((((getI XImages3 q1).bind fun x =>
  some ((x.Phase, x.X, x.Z))) : Option (Int × Int × Int)).bind fun (t1, t2, t3) =>
  (F_spec_l7Letter (TPauli.mk t1 t2 t3) s).bind fun r_1 =>
  bif (r_1 == 2) then ((F_spec_l8R_add (Tl8R.mk (TTableau.mk Qubits3 XImages3 ZImages3) out3) 1 s 0).bind fun m =>
  some (m.t.Qubits, m.t.XImages, m.t.ZImages, m.out)) else (some (Qubits3, XImages3, ZImages3, out3))) : Option (Int × List TPauli × List TPauli × List TGate)).bind fun (Qubits5, XImages5, ZImages5, out5) =>
  (((getI XImages5 q1).bind fun x1 =>
  some ((x1.Phase, x1.X, x1.Z))) : Option (Int × Int × Int)).bind fun (t4, t5, t6) =>
  (F_spec_l7Letter (TPauli.mk t4 t5 t6) s).bind fun r_2 =>
  bif (r_2 == 3) then ((F_spec_l8R_add (Tl8R.mk (TTableau.mk Qubits5 XImages5 ZImages5) out5) 5 s 0).bind fun m1 =>
  some (m1.t.Qubits, m1.t.XImages, m1.t.ZImages, m1.out)) else (some (Qubits5, XImages5, ZImages5, out5))) : Option (Int × List TPauli × List TPauli × List TGate)).bind fun (Qubits4, XImages4, ZImages4, out4) =>
  some (.nx (Qubits4, XImages4, ZImages4, out4, (IntKind.i64.wrap (s + 1))))) else (some (.br (Qubits3, XImages3, ZImages3, out3, s)))
def F_spec_l8Synthesize_l4 (q1 : Int) : (Int × List TPauli × List TPauli × List TGate × Int) → Option (Ex (Int × List TPauli × List TPauli × List TGate × Int) (Int × List TPauli × List TPauli × List TGate)) := fun (Qubits8, XImages8, ZImages8, out8, s1) =>
  bif (decide (s1 < Qubits8)) then ((((((getI XImages8 q1).bind fun x3 =>
  some ((x3.Phase, x3.X, x3.Z))) : Option (Int × Int × Int)).bind fun (t7, t8, t9) =>
  (F_spec_l7Letter (TPauli.mk t7 t8 t9) s1).bind fun r_4 =>
  bif (r_4 == 1) then ((F_spec_l8R_add (Tl8R.mk (TTableau.mk Qubits8 XImages8 ZImages8) out8) 9 q1 s1).bind fun m5 =>
  some (m5.t.Qubits, m5.t.XImages, m5.t.ZImages, m5.out)) else (some (Qubits8, XImages8, ZImages8, out8))) : Option (Int × List TPauli × List TPauli × List TGate)).bind fun (Qubits9, XImages9, ZImages9, out9) =>
  some (.nx (Qubits9, XImages9, ZImages9, out9, (IntKind.i64.wrap (s1 + 1))))) else (some (.br (Qubits8, XImages8, ZImages8, out8, s1)))
def F_spec_l8Synthesize_l5 (q1 : Int) : (Int × List TPauli × List TPauli × List TGate × Int) → Option (Ex (Int × List TPauli × List TPauli × List TGate × Int) (Int × List TPauli × List TPauli × List TGate)) := fun (Qubits12, XImages12, ZImages12, out12, s2) =>
  bif (decide (s2 < Qubits12)) then ((((((((getI ZImages12 q1).bind fun x5 =>
  some ((x5.Phase, x5.X, x5.Z))) : Option (Int × Int × Int)).bind fun (t10, t11, t12) =>
  (F_spec_l7Letter (TPauli.mk t10 t11 t12) s2).bind fun r_5 =>
  bif (r_5 == 2) then ((F_spec_l8R_add (Tl8R.mk (TTableau.mk Qubits12 XImages12 ZImages12) out12) 1 s2 0).bind fun m7 =>
  some (m7.t.Qubits, m7.t.XImages, m7.t.ZImages, m7.out)) else (some (Qubits12, XImages12, ZImages12, out12))) : Option (Int × List TPauli × List TPauli × List TGate)).bind fun (Qubits14, XImages14, ZImages14, out14) =>
  (((getI ZImages14 q1).bind fun x6 =>
  some ((x6.Phase, x6.X, x6.Z))) : Option (Int × Int × Int)).bind fun (t13, t14, t15) =>
  (F_spec_l7Letter (TPauli.mk t13 t14 t15) s2).bind fun r_6 =>
  bif (r_6 == 3) then ((F_spec_l8R_add (Tl8R.mk (TTableau.mk Qubits14 XImages14 ZImages14) out14) 5 s2 0).bind fun m8 =>
  some (m8.t.Qubits, m8.t.XImages, m8.t.ZImages, m8.out)) else (some (Qubits14, XImages14, ZImages14, out14))) : Option (Int × List TPauli × List TPauli × List TGate)).bind fun (Qubits13, XImages13, ZImages13, out13) =>
  some (.nx (Qubits13, XImages13, ZImages13, out13, (IntKind.i64.wrap (s2 + 1))))) else (some (.br (Qubits12, XImages12, ZImages12, out12, s2)))
def F_spec_l8Synthesize_l6 (q1 : Int) : (Int × List TPauli × List TPauli × List TGate × Int) → Option (Ex (Int × List TPauli × List TPauli × List TGate × Int) (Int × List TPauli × List TPauli × List TGate)) := fun (Qubits17, XImages17, ZImages17, out17, s3) =>
  bif (decide (s3 < Qubits17)) then ((((((getI ZImages17 q1).bind fun x8 =>
  some ((x8.Phase, x8.X, x8.Z))) : Option (Int × Int × Int)).bind fun (t16, t17, t18) =>
  (F_spec_l7Letter (TPauli.mk t16 t17 t18) s3).bind fun r_8 =>
  bif (r_8 == 1) then ((F_spec_l8R_add (Tl8R.mk (TTableau.mk Qubits17 XImages17 ZImages17) out17) 9 q1 s3).bind fun m10 =>
  some (m10.t.Qubits, m10.t.XImages, m10.t.ZImages, m10.out)) else (some (Qubits17, XImages17, ZImages17, out17))) : Option (Int × List TPauli × List TPauli × List TGate)).bind fun (Qubits18, XImages18, ZImages18, out18) =>
  some (.nx (Qubits18, XImages18, ZImages18, out18, (IntKind.i64.wrap (s3 + 1))))) else (some (.br (Qubits17, XImages17, ZImages17, out17, s3)))
def F_spec_l8Synthesize_l3 (XImages2 : List TPauli) (q1 : Int) : Int → Option (Ex (Int) (Int × List TPauli × List TPauli × List TGate)) := fun at_ =>
  (getI XImages2 q1).bind fun x2 =>
  (F_spec_l7Letter x2 at_).bind fun r_3 =>
  bif (r_3 != 1) then (some (.nx (IntKind.i64.wrap (at_ + 1)))) else (some (.br at_))
def F_spec_l8Synthesize_l7 (out : List TGate) : (List TGate × Int) → Option (Ex (List TGate × Int) (TCircuit)) := fun (Gates, K21) =>
  bif (decide (0 ≤ K21)) then ((((getI out K21).bind fun x34 =>
  chk (Gates.length + 1 ≤ 1099511627776) <|
  (getI out K21).bind fun x35 =>
  bif (x35.Kind == 5) then (chk (((Gates ++ [x34]).length) + 2 ≤ 1099511627776) <|
  some ((Gates ++ [x34]) ++ [x35, x35])) else (some (Gates ++ [x34]))) : Option (List TGate)).bind fun Gates1 =>
  some (.nx (Gates1, (IntKind.i64.wrap (K21 - 1))))) else (some (.br (Gates, K21)))
def F_spec_l8Synthesize_l1 (t : TTableau) : (Int × List TPauli × List TPauli × List TGate × Int) → Option (Ex (Int × List TPauli × List TPauli × List TGate × Int) (TCircuit)) := fun (Qubits, XImages, ZImages, out, q1) =>
  bif (decide (q1 < t.Qubits)) then ((((((whX (F_spec_l8Synthesize_l2 q1) fuel (Qubits, XImages, ZImages, out, q1)).bind <| orR fun (Qubits3, XImages3, ZImages3, out3, s) =>
  some ((Qubits3, XImages3, ZImages3, out3))) : Option (Int × List TPauli × List TPauli × List TGate)).bind fun (Qubits2, XImages2, ZImages2, out2) =>
  (whX (F_spec_l8Synthesize_l3 XImages2 q1) fuel q1).bind <| orR fun at_ =>
  ((bif (at_ != q1) then ((F_spec_l8R_add (Tl8R.mk (TTableau.mk Qubits2 XImages2 ZImages2) out2) 9 at_ q1).bind fun m2 =>
  (F_spec_l8R_add m2 9 q1 at_).bind fun m3 =>
  (F_spec_l8R_add m3 9 at_ q1).bind fun m4 =>
  some (m4.t.Qubits, m4.t.XImages, m4.t.ZImages, m4.out)) else (some (Qubits2, XImages2, ZImages2, out2))) : Option (Int × List TPauli × List TPauli × List TGate)).bind fun (Qubits6, XImages6, ZImages6, out6) =>
  (((whX (F_spec_l8Synthesize_l4 q1) fuel (Qubits6, XImages6, ZImages6, out6, (IntKind.i64.wrap (q1 + 1)))).bind <| orR fun (Qubits8, XImages8, ZImages8, out8, s1) =>
  some ((Qubits8, XImages8, ZImages8, out8))) : Option (Int × List TPauli × List TPauli × List TGate)).bind fun (Qubits7, XImages7, ZImages7, out7) =>
  (((getI ZImages7 q1).bind fun x4 =>
  chk ((!(x4.X != 0)) = true → (0 : Int) ≤ (IntKind.u64.wrap q1)) <|
  bif ((x4.X != 0) || (x4.Z != (shlK .i64 1 (IntKind.u64.wrap q1)))) then ((F_spec_l8R_add (Tl8R.mk (TTableau.mk Qubits7 XImages7 ZImages7) out7) 1 q1 0).bind fun m6 =>
  (((whX (F_spec_l8Synthesize_l5 q1) fuel (m6.t.Qubits, m6.t.XImages, m6.t.ZImages, m6.out, (IntKind.i64.wrap (q1 + 1)))).bind <| orR fun (Qubits12, XImages12, ZImages12, out12, s2) =>
  some ((Qubits12, XImages12, ZImages12, out12))) : Option (Int × List TPauli × List TPauli × List TGate)).bind fun (Qubits11, XImages11, ZImages11, out11) =>
  (((getI ZImages11 q1).bind fun x7 =>
  (F_spec_l7Letter x7 q1).bind fun r_7 =>
  bif (r_7 == 3) then ((F_spec_l8R_add (Tl8R.mk (TTableau.mk Qubits11 XImages11 ZImages11) out11) 5 q1 0).bind fun m9 =>
  some (m9.t.Qubits, m9.t.XImages, m9.t.ZImages, m9.out)) else (some (Qubits11, XImages11, ZImages11, out11))) : Option (Int × List TPauli × List TPauli × List TGate)).bind fun (Qubits15, XImages15, ZImages15, out15) =>
  (((whX (F_spec_l8Synthesize_l6 q1) fuel (Qubits15, XImages15, ZImages15, out15, (IntKind.i64.wrap (q1 + 1)))).bind <| orR fun (Qubits17, XImages17, ZImages17, out17, s3) =>
  some ((Qubits17, XImages17, ZImages17, out17))) : Option (Int × List TPauli × List TPauli × List TGate)).bind fun (Qubits16, XImages16, ZImages16, out16) =>
  (F_spec_l8R_add (Tl8R.mk (TTableau.mk Qubits16 XImages16 ZImages16) out16) 1 q1 0).bind fun m11 =>
  some (m11.t.Qubits, m11.t.XImages, m11.t.ZImages, m11.out)) else (some (Qubits7, XImages7, ZImages7, out7))) : Option (Int × List TPauli × List TPauli × List TGate)).bind fun (Qubits10, XImages10, ZImages10, out10) =>
  (((getI XImages10 q1).bind fun x9 =>
  bif (x9.Phase == 2) then ((F_spec_l8R_add (Tl8R.mk (TTableau.mk Qubits10 XImages10 ZImages10) out10) 4 q1 0).bind fun m12 =>
  some (m12.t.Qubits, m12.t.XImages, m12.t.ZImages, m12.out)) else (some (Qubits10, XImages10, ZImages10, out10))) : Option (Int × List TPauli × List TPauli × List TGate)).bind fun (Qubits19, XImages19, ZImages19, out19) =>
  (getI ZImages19 q1).bind fun x10 =>
  bif (x10.Phase == 2) then ((F_spec_l8R_add (Tl8R.mk (TTableau.mk Qubits19 XImages19 ZImages19) out19) 2 q1 0).bind fun m13 =>
  some ((m13.t.Qubits, m13.t.XImages, m13.t.ZImages, m13.out))) else (some ((Qubits19, XImages19, ZImages19, out19)))) : Option (Int × List TPauli × List TPauli × List TGate)).bind fun (Qubits1, XImages1, ZImages1, out1) =>
  some (.nx (Qubits1, XImages1, ZImages1, out1, (IntKind.i64.wrap (q1 + 1))))) else (some (.br (Qubits, XImages, ZImages, out, q1)))
def F_spec_l8Synthesize (t : TTableau) : Option (TCircuit) :=
  (whX (F_spec_l8Synthesize_l1 t) fuel (t.Qubits, t.XImages, t.ZImages, [], 0)).bind <| orR fun (Qubits, XImages, ZImages, out, q1) =>
  (whX (F_spec_l8Synthesize_l7 out) fuel ([], (IntKind.i64.wrap ((out.length : Int) - 1)))).bind <| orR fun (Gates, K21) =>
  some ((TCircuit.mk t.Qubits Gates))

def F_spec_l7Of_l1 (c : TCircuit) : Nat → (Int × List TPauli × List TPauli) → Option (Int × List TPauli × List TPauli) := fun i (Qubits, XImages, ZImages) =>
  (getI c.Gates (i : Int)).bind fun x =>
  (F_spec_l7Gate c.Qubits x).bind fun r_2 =>
  (F_spec_l7Then (TTableau.mk Qubits XImages ZImages) r_2).bind fun r_3 =>
  some (r_3.Qubits, r_3.XImages, r_3.ZImages)
def F_spec_l7Of (c : TCircuit) : Option (TTableau) :=
  (F_spec_l7Identity c.Qubits).bind fun r_1 =>
  chk (c.Gates.length ≤ 9223372036854775807) <|
  (forN (F_spec_l7Of_l1 c) c.Gates.length 0 (r_1.Qubits, r_1.XImages, r_1.ZImages)).bind fun (Qubits, XImages, ZImages) =>
  some ((TTableau.mk Qubits XImages ZImages))

def F_spec_NormalizeClifford (c : TCircuit) : Option (TCircuit × Bool) :=
  (F_spec_l7Clifford c).bind fun r_2 =>
  bif (!r_2) then (some (((TCircuit.mk 0 []), false))) else ((F_spec_l7Of c).bind fun r_3 =>
  (F_spec_l8Synthesize r_3).bind fun r_4 =>
  some ((r_4, true)))

def F_laws_toGate (a : TGate) : Option (TGate) :=
  some (a)

def F_laws_toGateS_l1 (a : List TGate) : Nat → (List TGate) → Option (List TGate) := fun i1 out =>
  (getI a (i1 : Int)).bind fun x =>
  (F_laws_toGate x).bind fun r_1 =>
  (getI out (i1 : Int)).bind fun x1 =>
  some (out.set (i1 : Int).toNat r_1)
def F_laws_toGateS (a : List TGate) : Option (List TGate) :=
  chk ((0 : Int) ≤ (a.length : Int) ∧ (a.length : Int) ≤ 1099511627776) <|
  chk (a.length ≤ 9223372036854775807) <|
  (forN (F_laws_toGateS_l1 a) a.length 0 (List.replicate a.length (TGate.mk 0 0 0))).bind fun out =>
  some (out)

def F_laws_toCircuit (a : TCircuit) : Option (TCircuit) :=
  (F_laws_toGateS a.Gates).bind fun r_1 =>
  some ((TCircuit.mk a.Qubits r_1))

def F_impl_within (n : Int) (low : Int) (high : Int) : Option (Bool) :=
  some (((decide (low ≤ n)) && (decide (n ≤ high))))

def F_slices_IndexFunc_impl_Gate_impl_Gate_l1 (s : List TGate) (f_ : TGate → Option (Bool)) : Nat → Unit → Option (Ex (Unit) (Int)) := fun i _ =>
  (getI s (i : Int)).bind fun x1 =>
  (f_ x1).bind fun r_1 =>
  bif r_1 then (some (.rt (i : Int))) else (some (.nx ()))
def F_slices_IndexFunc_impl_Gate_impl_Gate (s : List TGate) (f_ : TGate → Option (Bool)) : Option (Int) :=
  chk (s.length ≤ 9223372036854775807) <|
  (forX (F_slices_IndexFunc_impl_Gate_impl_Gate_l1 s f_) s.length 0 ()).bind <| orR fun _ =>
  some ((-1))

def F_slices_ContainsFunc_impl_Gate_impl_Gate (s : List TGate) (f_ : TGate → Option (Bool)) : Option (Bool) :=
  (F_slices_IndexFunc_impl_Gate_impl_Gate s f_).bind fun r_1 =>
  some ((decide (0 ≤ r_1)))

def F_impl_isTwo (kind : Int) : Option (Bool) :=
  (F_impl_within kind 9 11).bind fun r_1 =>
  some (r_1)

def F_impl_IsValidGate (n : Int) (g : TGate) : Option (Bool) :=
  (F_impl_within n 1 5).bind fun r_1 =>
  (gb (!(!r_1)) false (F_impl_within g.Kind 1 12)).bind fun r_2 =>
  bif ((!r_1) || (!r_2)) then (some (false)) else (bif (g.Kind == 12) then (some (((g.A == 0) && (g.B == 0)))) else ((F_impl_isTwo g.Kind).bind fun r_3 =>
  bif r_3 then ((F_impl_within g.A 0 (IntKind.i64.wrap (n - 1))).bind fun r_4 =>
  (gb r_4 false (F_impl_within g.B 0 (IntKind.i64.wrap (n - 1)))).bind fun r_5 =>
  some (((r_4 && r_5) && (g.A != g.B)))) else ((F_impl_within g.A 0 (IntKind.i64.wrap (n - 1))).bind fun r_6 =>
  some ((r_6 && (g.B == 0))))))

def F_impl_IsValidCircuit_1 (g : TGate) (p : TCircuit) : Option (Bool) :=
  (F_impl_IsValidGate p.Qubits g).bind fun r_1 =>
  some ((!r_1))

def F_impl_IsValidCircuit (c : TCircuit) : Option (Bool) :=
  (F_impl_within c.Qubits 1 5).bind fun r_1 =>
  (gb (r_1 && (decide ((c.Gates.length : Int) ≤ 400))) false (F_slices_ContainsFunc_impl_Gate_impl_Gate c.Gates (fun x_0 => F_impl_IsValidCircuit_1 x_0 c))).bind fun r_2 =>
  some (((r_1 && (decide ((c.Gates.length : Int) ≤ 400))) && (!r_2)))

def F_impl_counted_l1 (c : TCircuit) (is_ : Int → Option (Bool)) : Nat → Int → Option (Int) := fun i count =>
  (((getI c.Gates (i : Int)).bind fun x1 =>
  (is_ x1.Kind).bind fun r_3 =>
  bif r_3 then (some (IntKind.i64.wrap (count + 1))) else (some count)) : Option (Int)).bind fun count1 =>
  some count1
def F_impl_counted (c : TCircuit) (is_ : Int → Option (Bool)) : Option (Int × Bool) :=
  (F_impl_IsValidCircuit c).bind fun r_2 =>
  bif (!r_2) then (some ((0, false))) else (chk (c.Gates.length ≤ 9223372036854775807) <|
  (forN (F_impl_counted_l1 c is_) c.Gates.length 0 0).bind fun count =>
  some ((count, true)))

def F_impl_isT (kind : Int) : Option (Bool) :=
  some (((kind == 7) || (kind == 8)))

def F_impl_CountT (c : TCircuit) : Option (Int × Bool) :=
  (F_impl_counted c F_impl_isT).bind fun (r_2, r_3) =>
  some ((r_2, r_3))

def F_impl_identity_l1 : Nat → (List TPauli × List TPauli) → Option (List TPauli × List TPauli) := fun i (XImages, ZImages) =>
  chk ((0 : Int) ≤ (i : Int)) <|
  chk (XImages.length + 1 ≤ 1099511627776) <|
  chk ((0 : Int) ≤ (i : Int)) <|
  chk (ZImages.length + 1 ≤ 1099511627776) <|
  some ((XImages ++ [(TPauli.mk 0 (shlK .i64 1 (i : Int)) 0)]), (ZImages ++ [(TPauli.mk 0 0 (shlK .i64 1 (i : Int)))]))
def F_impl_identity (n : Int) : Option (TTableau) :=
  chk (n.toNat ≤ 9223372036854775807) <|
  (forN F_impl_identity_l1 n.toNat 0 ([], [])).bind fun (XImages, ZImages) =>
  some ((TTableau.mk n XImages ZImages))

def F_math_bits_OnesCount64 (x : Int) : Option (Int) :=
  some ((bits .and .i64 (IntKind.i64.wrap (IntKind.u64.wrap ((IntKind.u64.wrap ((IntKind.u64.wrap ((bits .and .u64 (IntKind.u64.wrap ((shrK .u64 (IntKind.u64.wrap ((bits .and .u64 (shrK .u64 (IntKind.u64.wrap ((bits .and .u64 (shrK .u64 x 1) 6148914691236517205) + (bits .and .u64 x 6148914691236517205))) 2) 3689348814741910323) + (bits .and .u64 (IntKind.u64.wrap ((bits .and .u64 (shrK .u64 x 1) 6148914691236517205) + (bits .and .u64 x 6148914691236517205))) 3689348814741910323))) 4) + (IntKind.u64.wrap ((bits .and .u64 (shrK .u64 (IntKind.u64.wrap ((bits .and .u64 (shrK .u64 x 1) 6148914691236517205) + (bits .and .u64 x 6148914691236517205))) 2) 3689348814741910323) + (bits .and .u64 (IntKind.u64.wrap ((bits .and .u64 (shrK .u64 x 1) 6148914691236517205) + (bits .and .u64 x 6148914691236517205))) 3689348814741910323))))) 1085102592571150095) + (shrK .u64 (bits .and .u64 (IntKind.u64.wrap ((shrK .u64 (IntKind.u64.wrap ((bits .and .u64 (shrK .u64 (IntKind.u64.wrap ((bits .and .u64 (shrK .u64 x 1) 6148914691236517205) + (bits .and .u64 x 6148914691236517205))) 2) 3689348814741910323) + (bits .and .u64 (IntKind.u64.wrap ((bits .and .u64 (shrK .u64 x 1) 6148914691236517205) + (bits .and .u64 x 6148914691236517205))) 3689348814741910323))) 4) + (IntKind.u64.wrap ((bits .and .u64 (shrK .u64 (IntKind.u64.wrap ((bits .and .u64 (shrK .u64 x 1) 6148914691236517205) + (bits .and .u64 x 6148914691236517205))) 2) 3689348814741910323) + (bits .and .u64 (IntKind.u64.wrap ((bits .and .u64 (shrK .u64 x 1) 6148914691236517205) + (bits .and .u64 x 6148914691236517205))) 3689348814741910323))))) 1085102592571150095) 8))) + (shrK .u64 (IntKind.u64.wrap ((bits .and .u64 (IntKind.u64.wrap ((shrK .u64 (IntKind.u64.wrap ((bits .and .u64 (shrK .u64 (IntKind.u64.wrap ((bits .and .u64 (shrK .u64 x 1) 6148914691236517205) + (bits .and .u64 x 6148914691236517205))) 2) 3689348814741910323) + (bits .and .u64 (IntKind.u64.wrap ((bits .and .u64 (shrK .u64 x 1) 6148914691236517205) + (bits .and .u64 x 6148914691236517205))) 3689348814741910323))) 4) + (IntKind.u64.wrap ((bits .and .u64 (shrK .u64 (IntKind.u64.wrap ((bits .and .u64 (shrK .u64 x 1) 6148914691236517205) + (bits .and .u64 x 6148914691236517205))) 2) 3689348814741910323) + (bits .and .u64 (IntKind.u64.wrap ((bits .and .u64 (shrK .u64 x 1) 6148914691236517205) + (bits .and .u64 x 6148914691236517205))) 3689348814741910323))))) 1085102592571150095) + (shrK .u64 (bits .and .u64 (IntKind.u64.wrap ((shrK .u64 (IntKind.u64.wrap ((bits .and .u64 (shrK .u64 (IntKind.u64.wrap ((bits .and .u64 (shrK .u64 x 1) 6148914691236517205) + (bits .and .u64 x 6148914691236517205))) 2) 3689348814741910323) + (bits .and .u64 (IntKind.u64.wrap ((bits .and .u64 (shrK .u64 x 1) 6148914691236517205) + (bits .and .u64 x 6148914691236517205))) 3689348814741910323))) 4) + (IntKind.u64.wrap ((bits .and .u64 (shrK .u64 (IntKind.u64.wrap ((bits .and .u64 (shrK .u64 x 1) 6148914691236517205) + (bits .and .u64 x 6148914691236517205))) 2) 3689348814741910323) + (bits .and .u64 (IntKind.u64.wrap ((bits .and .u64 (shrK .u64 x 1) 6148914691236517205) + (bits .and .u64 x 6148914691236517205))) 3689348814741910323))))) 1085102592571150095) 8))) 16))) + (shrK .u64 (IntKind.u64.wrap ((IntKind.u64.wrap ((bits .and .u64 (IntKind.u64.wrap ((shrK .u64 (IntKind.u64.wrap ((bits .and .u64 (shrK .u64 (IntKind.u64.wrap ((bits .and .u64 (shrK .u64 x 1) 6148914691236517205) + (bits .and .u64 x 6148914691236517205))) 2) 3689348814741910323) + (bits .and .u64 (IntKind.u64.wrap ((bits .and .u64 (shrK .u64 x 1) 6148914691236517205) + (bits .and .u64 x 6148914691236517205))) 3689348814741910323))) 4) + (IntKind.u64.wrap ((bits .and .u64 (shrK .u64 (IntKind.u64.wrap ((bits .and .u64 (shrK .u64 x 1) 6148914691236517205) + (bits .and .u64 x 6148914691236517205))) 2) 3689348814741910323) + (bits .and .u64 (IntKind.u64.wrap ((bits .and .u64 (shrK .u64 x 1) 6148914691236517205) + (bits .and .u64 x 6148914691236517205))) 3689348814741910323))))) 1085102592571150095) + (shrK .u64 (bits .and .u64 (IntKind.u64.wrap ((shrK .u64 (IntKind.u64.wrap ((bits .and .u64 (shrK .u64 (IntKind.u64.wrap ((bits .and .u64 (shrK .u64 x 1) 6148914691236517205) + (bits .and .u64 x 6148914691236517205))) 2) 3689348814741910323) + (bits .and .u64 (IntKind.u64.wrap ((bits .and .u64 (shrK .u64 x 1) 6148914691236517205) + (bits .and .u64 x 6148914691236517205))) 3689348814741910323))) 4) + (IntKind.u64.wrap ((bits .and .u64 (shrK .u64 (IntKind.u64.wrap ((bits .and .u64 (shrK .u64 x 1) 6148914691236517205) + (bits .and .u64 x 6148914691236517205))) 2) 3689348814741910323) + (bits .and .u64 (IntKind.u64.wrap ((bits .and .u64 (shrK .u64 x 1) 6148914691236517205) + (bits .and .u64 x 6148914691236517205))) 3689348814741910323))))) 1085102592571150095) 8))) + (shrK .u64 (IntKind.u64.wrap ((bits .and .u64 (IntKind.u64.wrap ((shrK .u64 (IntKind.u64.wrap ((bits .and .u64 (shrK .u64 (IntKind.u64.wrap ((bits .and .u64 (shrK .u64 x 1) 6148914691236517205) + (bits .and .u64 x 6148914691236517205))) 2) 3689348814741910323) + (bits .and .u64 (IntKind.u64.wrap ((bits .and .u64 (shrK .u64 x 1) 6148914691236517205) + (bits .and .u64 x 6148914691236517205))) 3689348814741910323))) 4) + (IntKind.u64.wrap ((bits .and .u64 (shrK .u64 (IntKind.u64.wrap ((bits .and .u64 (shrK .u64 x 1) 6148914691236517205) + (bits .and .u64 x 6148914691236517205))) 2) 3689348814741910323) + (bits .and .u64 (IntKind.u64.wrap ((bits .and .u64 (shrK .u64 x 1) 6148914691236517205) + (bits .and .u64 x 6148914691236517205))) 3689348814741910323))))) 1085102592571150095) + (shrK .u64 (bits .and .u64 (IntKind.u64.wrap ((shrK .u64 (IntKind.u64.wrap ((bits .and .u64 (shrK .u64 (IntKind.u64.wrap ((bits .and .u64 (shrK .u64 x 1) 6148914691236517205) + (bits .and .u64 x 6148914691236517205))) 2) 3689348814741910323) + (bits .and .u64 (IntKind.u64.wrap ((bits .and .u64 (shrK .u64 x 1) 6148914691236517205) + (bits .and .u64 x 6148914691236517205))) 3689348814741910323))) 4) + (IntKind.u64.wrap ((bits .and .u64 (shrK .u64 (IntKind.u64.wrap ((bits .and .u64 (shrK .u64 x 1) 6148914691236517205) + (bits .and .u64 x 6148914691236517205))) 2) 3689348814741910323) + (bits .and .u64 (IntKind.u64.wrap ((bits .and .u64 (shrK .u64 x 1) 6148914691236517205) + (bits .and .u64 x 6148914691236517205))) 3689348814741910323))))) 1085102592571150095) 8))) 16))) 32)))) 127))

def F_math_bits_OnesCount (x : Int) : Option (Int) :=
  (F_math_bits_OnesCount64 x).bind fun r_1 =>
  some (r_1)

def F_impl_times (a : TPauli) (b : TPauli) : Option (TPauli) :=
  (F_math_bits_OnesCount (IntKind.u64.wrap (bits .and .i64 a.X a.Z))).bind fun r_1 =>
  (F_math_bits_OnesCount (IntKind.u64.wrap (bits .and .i64 b.X b.Z))).bind fun r_2 =>
  (F_math_bits_OnesCount (IntKind.u64.wrap (bits .and .i64 a.Z b.X))).bind fun r_3 =>
  (F_math_bits_OnesCount (IntKind.u64.wrap (bits .and .i64 (bits .xor .i64 a.X b.X) (bits .xor .i64 a.Z b.Z)))).bind fun r_4 =>
  some ((TPauli.mk (Int.tmod (IntKind.i64.wrap ((Int.tmod (IntKind.i64.wrap ((IntKind.i64.wrap ((IntKind.i64.wrap ((IntKind.i64.wrap ((IntKind.i64.wrap (a.Phase + b.Phase)) + r_1)) + r_2)) + (IntKind.i64.wrap (2 * r_3)))) - r_4)) 4) + 4)) 4) (bits .xor .i64 a.X b.X) (bits .xor .i64 a.Z b.Z)))

def F_impl_image_l1 (p : TPauli) (t : TTableau) : Nat → (Int × Int × Int) → Option (Int × Int × Int) := fun i (Phase, X, Z) =>
  ((((chk ((0 : Int) ≤ (i : Int)) <|
  bif ((bits .and .i64 (shrK .i64 p.X (i : Int)) 1) == 1) then ((getI t.XImages (i : Int)).bind fun x =>
  (F_impl_times (TPauli.mk Phase X Z) x).bind fun r_2 =>
  some (r_2.Phase, r_2.X, r_2.Z)) else (some (Phase, X, Z))) : Option (Int × Int × Int)).bind fun (Phase2, X2, Z2) =>
  chk ((0 : Int) ≤ (i : Int)) <|
  bif ((bits .and .i64 (shrK .i64 p.Z (i : Int)) 1) == 1) then ((getI t.ZImages (i : Int)).bind fun x1 =>
  (F_impl_times (TPauli.mk Phase2 X2 Z2) x1).bind fun r_3 =>
  some (r_3.Phase, r_3.X, r_3.Z)) else (some (Phase2, X2, Z2))) : Option (Int × Int × Int)).bind fun (Phase1, X1, Z1) =>
  some (Phase1, X1, Z1)
def F_impl_image (t : TTableau) (p : TPauli) : Option (TPauli) :=
  (F_math_bits_OnesCount (IntKind.u64.wrap (bits .and .i64 p.X p.Z))).bind fun r_1 =>
  chk (t.Qubits.toNat ≤ 9223372036854775807) <|
  (forN (F_impl_image_l1 p t) t.Qubits.toNat 0 ((Int.tmod (IntKind.i64.wrap (p.Phase + r_1)) 4), 0, 0)).bind fun (Phase, X, Z) =>
  some ((TPauli.mk Phase X Z))

def F_impl_compose_l1 (first : TTableau) (second : TTableau) : Nat → (List TPauli × List TPauli) → Option (List TPauli × List TPauli) := fun i (XImages, ZImages) =>
  (getI first.XImages (i : Int)).bind fun x =>
  (F_impl_image second x).bind fun r_1 =>
  chk (XImages.length + 1 ≤ 1099511627776) <|
  (getI first.ZImages (i : Int)).bind fun x1 =>
  (F_impl_image second x1).bind fun r_2 =>
  chk (ZImages.length + 1 ≤ 1099511627776) <|
  some ((XImages ++ [r_1]), (ZImages ++ [r_2]))
def F_impl_compose (first : TTableau) (second : TTableau) : Option (TTableau) :=
  chk (first.Qubits.toNat ≤ 9223372036854775807) <|
  (forN (F_impl_compose_l1 first second) first.Qubits.toNat 0 ([], [])).bind fun (XImages, ZImages) =>
  some ((TTableau.mk first.Qubits XImages ZImages))

def F_impl_gateTableau (n : Int) (g : TGate) : Option (TTableau) :=
  (F_impl_identity n).bind fun r_1 =>
  chk ((0 : Int) ≤ g.A) <|
  chk ((0 : Int) ≤ g.B) <|
  ((bif (g.Kind == 1) then ((getI r_1.XImages g.A).bind fun x =>
  (getI r_1.ZImages g.A).bind fun x1 =>
  some ((r_1.XImages.set g.A.toNat (TPauli.mk 0 0 (shlK .i64 1 g.A))), (r_1.ZImages.set g.A.toNat (TPauli.mk 0 (shlK .i64 1 g.A) 0)))) else (bif (g.Kind == 2) then ((getI r_1.ZImages g.A).bind fun x2 =>
  some (r_1.XImages, (r_1.ZImages.set g.A.toNat (TPauli.mk 2 x2.X x2.Z)))) else (bif (g.Kind == 3) then ((getI r_1.XImages g.A).bind fun x3 =>
  (getI r_1.ZImages g.A).bind fun x4 =>
  some ((r_1.XImages.set g.A.toNat (TPauli.mk 2 x3.X x3.Z)), (r_1.ZImages.set g.A.toNat (TPauli.mk 2 x4.X x4.Z)))) else (bif (g.Kind == 4) then ((getI r_1.XImages g.A).bind fun x5 =>
  some ((r_1.XImages.set g.A.toNat (TPauli.mk 2 x5.X x5.Z)), r_1.ZImages)) else (bif (g.Kind == 5) then ((getI r_1.XImages g.A).bind fun x6 =>
  some ((r_1.XImages.set g.A.toNat (TPauli.mk 0 (shlK .i64 1 g.A) (shlK .i64 1 g.A))), r_1.ZImages)) else (bif (g.Kind == 6) then ((getI r_1.XImages g.A).bind fun x7 =>
  some ((r_1.XImages.set g.A.toNat (TPauli.mk 2 (shlK .i64 1 g.A) (shlK .i64 1 g.A))), r_1.ZImages)) else (bif (g.Kind == 9) then ((getI r_1.XImages g.A).bind fun x8 =>
  (getI r_1.ZImages g.B).bind fun x9 =>
  some ((r_1.XImages.set g.A.toNat (TPauli.mk 0 (bits .or .i64 (shlK .i64 1 g.A) (shlK .i64 1 g.B)) 0)), (r_1.ZImages.set g.B.toNat (TPauli.mk 0 0 (bits .or .i64 (shlK .i64 1 g.A) (shlK .i64 1 g.B)))))) else (bif (g.Kind == 10) then ((getI r_1.XImages g.A).bind fun x10 =>
  (getI (r_1.XImages.set g.A.toNat (TPauli.mk 0 (shlK .i64 1 g.A) (shlK .i64 1 g.B))) g.B).bind fun x11 =>
  some (((r_1.XImages.set g.A.toNat (TPauli.mk 0 (shlK .i64 1 g.A) (shlK .i64 1 g.B))).set g.B.toNat (TPauli.mk 0 (shlK .i64 1 g.B) (shlK .i64 1 g.A))), r_1.ZImages)) else (bif (g.Kind == 11) then ((getI r_1.XImages g.A).bind fun x12 =>
  (getI (r_1.XImages.set g.A.toNat (TPauli.mk 0 (shlK .i64 1 g.B) 0)) g.B).bind fun x13 =>
  (getI r_1.ZImages g.A).bind fun x14 =>
  (getI (r_1.ZImages.set g.A.toNat (TPauli.mk 0 0 (shlK .i64 1 g.B))) g.B).bind fun x15 =>
  some (((r_1.XImages.set g.A.toNat (TPauli.mk 0 (shlK .i64 1 g.B) 0)).set g.B.toNat (TPauli.mk 0 (shlK .i64 1 g.A) 0)), ((r_1.ZImages.set g.A.toNat (TPauli.mk 0 0 (shlK .i64 1 g.B))).set g.B.toNat (TPauli.mk 0 0 (shlK .i64 1 g.A))))) else (some (r_1.XImages, r_1.ZImages))))))))))) : Option (List TPauli × List TPauli)).bind fun (XImages, ZImages) =>
  some ((TTableau.mk r_1.Qubits XImages ZImages))

def F_impl_TableauOf_l1 (c : TCircuit) : Nat → (Int × List TPauli × List TPauli) → Option (Int × List TPauli × List TPauli) := fun i (Qubits, XImages, ZImages) =>
  (getI c.Gates (i : Int)).bind fun x =>
  (F_impl_gateTableau c.Qubits x).bind fun r_5 =>
  (F_impl_compose (TTableau.mk Qubits XImages ZImages) r_5).bind fun r_6 =>
  some (r_6.Qubits, r_6.XImages, r_6.ZImages)
def F_impl_TableauOf (c : TCircuit) : Option (TTableau × Bool) :=
  (F_impl_CountT c).bind fun (r_2, r_3) =>
  bif ((!r_3) || (decide (0 < r_2))) then (some (((TTableau.mk 0 [] []), false))) else ((F_impl_identity c.Qubits).bind fun r_4 =>
  chk (c.Gates.length ≤ 9223372036854775807) <|
  (forN (F_impl_TableauOf_l1 c) c.Gates.length 0 (r_4.Qubits, r_4.XImages, r_4.ZImages)).bind fun (Qubits, XImages, ZImages) =>
  some (((TTableau.mk Qubits XImages ZImages), true)))

def F_slices_Concat_impl_Pauli_impl_Pauli_l2 (slices : List (List TPauli)) : Nat → (List TPauli) → Option (List TPauli) := fun i1 newslice =>
  (getI slices (i1 : Int)).bind fun x1 =>
  chk (newslice.length + x1.length ≤ 1099511627776) <|
  some (newslice ++ x1)
def F_slices_Concat_impl_Pauli_impl_Pauli_l1 (slices : List (List TPauli)) : Nat → Int → Option (Int) := fun i size =>
  (getI slices (i : Int)).bind fun x =>
  bif (decide ((IntKind.i64.wrap (size + (x.length : Int))) < 0)) then (none) else (some (IntKind.i64.wrap (size + (x.length : Int))))
def F_slices_Concat_impl_Pauli_impl_Pauli (slices : List (List TPauli)) : Option (List TPauli) :=
  chk (slices.length ≤ 9223372036854775807) <|
  (forN (F_slices_Concat_impl_Pauli_impl_Pauli_l1 slices) slices.length 0 0).bind fun size =>
  chk ((0 : Int) ≤ size ∧ size ≤ 1099511627776) <|
  chk (slices.length ≤ 9223372036854775807) <|
  (forN (F_slices_Concat_impl_Pauli_impl_Pauli_l2 slices) slices.length 0 ([] : List TPauli)).bind fun newslice =>
  some (newslice)

def F_slices_IndexFunc_impl_Pauli_impl_Pauli_l1 (s : List TPauli) (f_ : TPauli → Option (Bool)) : Nat → Unit → Option (Ex (Unit) (Int)) := fun i _ =>
  (getI s (i : Int)).bind fun x1 =>
  (f_ x1).bind fun r_1 =>
  bif r_1 then (some (.rt (i : Int))) else (some (.nx ()))
def F_slices_IndexFunc_impl_Pauli_impl_Pauli (s : List TPauli) (f_ : TPauli → Option (Bool)) : Option (Int) :=
  chk (s.length ≤ 9223372036854775807) <|
  (forX (F_slices_IndexFunc_impl_Pauli_impl_Pauli_l1 s f_) s.length 0 ()).bind <| orR fun _ =>
  some ((-1))

def F_slices_ContainsFunc_impl_Pauli_impl_Pauli (s : List TPauli) (f_ : TPauli → Option (Bool)) : Option (Bool) :=
  (F_slices_IndexFunc_impl_Pauli_impl_Pauli s f_).bind fun r_1 =>
  some ((decide (0 ≤ r_1)))

def F_impl_IsValidPauli (n : Int) (p : TPauli) : Option (Bool) :=
  (F_impl_within n 1 5).bind fun r_1 =>
  (gb r_1 false (F_impl_within p.Phase 0 3)).bind fun r_2 =>
  chk ((r_1 && r_2) = true → (0 : Int) ≤ n) <|
  (gb (r_1 && r_2) false (F_impl_within p.X 0 (IntKind.i64.wrap ((shlK .i64 1 n) - 1)))).bind fun r_3 =>
  chk (((r_1 && r_2) && r_3) = true → (0 : Int) ≤ n) <|
  (gb ((r_1 && r_2) && r_3) false (F_impl_within p.Z 0 (IntKind.i64.wrap ((shlK .i64 1 n) - 1)))).bind fun r_4 =>
  some ((((r_1 && r_2) && r_3) && r_4))

def F_impl_isImage (n : Int) (p : TPauli) : Option (Bool) :=
  (F_impl_IsValidPauli n p).bind fun r_1 =>
  some ((r_1 && ((Int.tmod p.Phase 2) == 0)))

def F_impl_IsValidTableau_1 (p : TPauli) (p1 : Int) : Option (Bool) :=
  (F_impl_isImage p1 p).bind fun r_1 =>
  some ((!r_1))

def F_impl_commute (a : TPauli) (b : TPauli) : Option (Bool) :=
  (F_math_bits_OnesCount (IntKind.u64.wrap (bits .and .i64 a.X b.Z))).bind fun r_1 =>
  (F_math_bits_OnesCount (IntKind.u64.wrap (bits .and .i64 a.Z b.X))).bind fun r_2 =>
  some (((Int.tmod (IntKind.i64.wrap (r_1 + r_2)) 2) == 0))

def F_impl_IsValidTableau_l2 (r_2 : List TPauli) (i : Nat) (t : TTableau) : Nat → Unit → Option (Ex (Unit) (Ex (Unit) (Bool))) := fun i1 _ =>
  (getI r_2 (i : Int)).bind fun x =>
  (getI r_2 (i1 : Int)).bind fun x1 =>
  (F_impl_commute x x1).bind fun r_4 =>
  bif (r_4 == ((IntKind.i64.wrap ((i : Int) - (i1 : Int))) == t.Qubits)) then (some (.rt (.rt false))) else (some (.nx ()))
def F_impl_IsValidTableau_l1 (r_2 : List TPauli) (t : TTableau) : Nat → Unit → Option (Ex (Unit) (Bool)) := fun i _ =>
  chk (i ≤ 9223372036854775807) <|
  (forX (F_impl_IsValidTableau_l2 r_2 i t) i 0 ()).bind <| orR fun _ =>
  some (.nx ())
def F_impl_IsValidTableau (t : TTableau) : Option (Bool) :=
  (F_impl_within t.Qubits 1 5).bind fun r_1 =>
  bif (((!r_1) || ((t.XImages.length : Int) != t.Qubits)) || ((t.ZImages.length : Int) != t.Qubits)) then (some (false)) else ((F_slices_Concat_impl_Pauli_impl_Pauli ([t.XImages, t.ZImages] : List (List TPauli))).bind fun r_2 =>
  (F_slices_ContainsFunc_impl_Pauli_impl_Pauli r_2 (fun x_0 => F_impl_IsValidTableau_1 x_0 t.Qubits)).bind fun r_3 =>
  bif r_3 then (some (false)) else (chk (r_2.length ≤ 9223372036854775807) <|
  (forX (F_impl_IsValidTableau_l1 r_2 t) r_2.length 0 ()).bind <| orR fun _ =>
  some (true)))

def F_impl_circuitIf (n : Int) (gates : List TGate) : Option (TCircuit × Bool) :=
  chk (0 + gates.length ≤ 1099511627776) <|
  (F_impl_IsValidCircuit (TCircuit.mk n gates)).bind fun r_2 =>
  bif (!r_2) then (some (((TCircuit.mk 0 []), false))) else (some (((TCircuit.mk n gates), true)))

def F_impl_letterOf (p : TPauli) (q : Int) : Option (Int) :=
  chk ((0 : Int) ≤ q) <|
  chk ((0 : Int) ≤ q) <|
  (getI ([73, 88, 90, 89] : List UInt8) (IntKind.i64.wrap ((bits .and .i64 (shrK .i64 p.X q) 1) + (IntKind.i64.wrap (2 * (bits .and .i64 (shrK .i64 p.Z q) 1)))))).bind fun x =>
  some ((x.toNat : Int))

def F_impl_reducer_add (r_ : Treducer) (kind : Int) (a : Int) (b : Int) : Option (Treducer) :=
  (F_impl_gateTableau r_.t.Qubits (TGate.mk kind a b)).bind fun r_1 =>
  (F_impl_compose r_.t r_1).bind fun r_2 =>
  chk (r_.gates.length + 1 ≤ 1099511627776) <|
  some ((Treducer.mk r_2 (r_.gates ++ [(TGate.mk kind a b)])))

def F_impl_SynthesizeClifford_l3 (Qubits2 : Int) (XImages2 : List TPauli) (t1 : Int) : Int → Option (Ex (Int) (Int × List TPauli × List TPauli × List TGate)) := fun first1 =>
  bif (decide (first1 < (IntKind.i64.wrap (Qubits2 - 1)))) then ((((getI XImages2 t1).bind fun x1 =>
  some ((x1.Phase, x1.X, x1.Z))) : Option (Int × Int × Int)).bind fun (t5, t6, t7) =>
  (F_impl_letterOf (TPauli.mk t5 t6 t7) first1).bind fun r_4 =>
  bif (r_4 != 88) then (some (.nx (IntKind.i64.wrap (first1 + 1)))) else (some (.br first1))) else (some (.br first1))
def F_impl_SynthesizeClifford_l4 (t1 : Int) : (Int × List TPauli × List TPauli × List TGate × Int) → Option (Ex (Int × List TPauli × List TPauli × List TGate × Int) (Int × List TPauli × List TPauli × List TGate)) := fun (Qubits6, XImages6, ZImages6, gates6, s1) =>
  bif (decide (s1 < Qubits6)) then ((((((getI XImages6 t1).bind fun x2 =>
  some ((x2.Phase, x2.X, x2.Z))) : Option (Int × Int × Int)).bind fun (t8, t9, t10) =>
  (F_impl_letterOf (TPauli.mk t8 t9 t10) s1).bind fun r_5 =>
  bif (r_5 == 88) then ((F_impl_reducer_add (Treducer.mk (TTableau.mk Qubits6 XImages6 ZImages6) gates6) 9 t1 s1).bind fun m5 =>
  some (m5.t.Qubits, m5.t.XImages, m5.t.ZImages, m5.gates)) else (some (Qubits6, XImages6, ZImages6, gates6))) : Option (Int × List TPauli × List TPauli × List TGate)).bind fun (Qubits7, XImages7, ZImages7, gates7) =>
  some (.nx (Qubits7, XImages7, ZImages7, gates7, (IntKind.i64.wrap (s1 + 1))))) else (some (.br (Qubits6, XImages6, ZImages6, gates6, s1)))
def F_impl_SynthesizeClifford_l6 (t1 : Int) : (Int × List TPauli × List TPauli × List TGate × Int) → Option (Ex (Int × List TPauli × List TPauli × List TGate × Int) (Int × List TPauli × List TPauli × List TGate)) := fun (Qubits13, XImages13, ZImages13, gates13, s3) =>
  bif (decide (s3 < Qubits13)) then ((((((getI ZImages13 t1).bind fun x6 =>
  some ((x6.Phase, x6.X, x6.Z))) : Option (Int × Int × Int)).bind fun (t20, t21, t22) =>
  (F_impl_letterOf (TPauli.mk t20 t21 t22) s3).bind fun r_8 =>
  bif (r_8 == 88) then ((F_impl_reducer_add (Treducer.mk (TTableau.mk Qubits13 XImages13 ZImages13) gates13) 9 t1 s3).bind fun m10 =>
  some (m10.t.Qubits, m10.t.XImages, m10.t.ZImages, m10.gates)) else (some (Qubits13, XImages13, ZImages13, gates13))) : Option (Int × List TPauli × List TPauli × List TGate)).bind fun (Qubits14, XImages14, ZImages14, gates14) =>
  some (.nx (Qubits14, XImages14, ZImages14, gates14, (IntKind.i64.wrap (s3 + 1))))) else (some (.br (Qubits13, XImages13, ZImages13, gates13, s3)))
def F_impl_SynthesizeClifford_l5 (t1 : Int) : (Int × List TPauli × List TPauli × List TGate × Int) → Option (Ex (Int × List TPauli × List TPauli × List TGate × Int) (Int × List TPauli × List TPauli × List TGate)) := fun (Qubits9, XImages9, ZImages9, gates9, s2) =>
  bif (decide (s2 < Qubits9)) then ((((getI ZImages9 t1).bind fun x4 =>
  some ((x4.Phase, x4.X, x4.Z))) : Option (Int × Int × Int)).bind fun (t14, t15, t16) =>
  (((F_impl_letterOf (TPauli.mk t14 t15 t16) s2).bind fun r_6 =>
  bif (r_6 == 90) then ((F_impl_reducer_add (Treducer.mk (TTableau.mk Qubits9 XImages9 ZImages9) gates9) 1 s2 0).bind fun m7 =>
  some ((m7.t.Qubits, m7.t.XImages, m7.t.ZImages, m7.gates))) else (bif (r_6 == 89) then ((F_impl_reducer_add (Treducer.mk (TTableau.mk Qubits9 XImages9 ZImages9) gates9) 5 s2 0).bind fun m8 =>
  some ((m8.t.Qubits, m8.t.XImages, m8.t.ZImages, m8.gates))) else (some ((Qubits9, XImages9, ZImages9, gates9))))) : Option (Int × List TPauli × List TPauli × List TGate)).bind fun (Qubits10, XImages10, ZImages10, gates10) =>
  some (.nx (Qubits10, XImages10, ZImages10, gates10, (IntKind.i64.wrap (s2 + 1))))) else (some (.br (Qubits9, XImages9, ZImages9, gates9, s2)))
def F_impl_SynthesizeClifford_l2 (t1 : Int) : (Int × List TPauli × List TPauli × List TGate × Int) → Option (Ex (Int × List TPauli × List TPauli × List TGate × Int) (Int × List TPauli × List TPauli × List TGate)) := fun (Qubits2, XImages2, ZImages2, gates2, s) =>
  bif (decide (s < Qubits2)) then ((((getI XImages2 t1).bind fun x =>
  some ((x.Phase, x.X, x.Z))) : Option (Int × Int × Int)).bind fun (t2, t3, t4) =>
  (((F_impl_letterOf (TPauli.mk t2 t3 t4) s).bind fun r_3 =>
  bif (r_3 == 90) then ((F_impl_reducer_add (Treducer.mk (TTableau.mk Qubits2 XImages2 ZImages2) gates2) 1 s 0).bind fun m =>
  some ((m.t.Qubits, m.t.XImages, m.t.ZImages, m.gates))) else (bif (r_3 == 89) then ((F_impl_reducer_add (Treducer.mk (TTableau.mk Qubits2 XImages2 ZImages2) gates2) 5 s 0).bind fun m1 =>
  some ((m1.t.Qubits, m1.t.XImages, m1.t.ZImages, m1.gates))) else (some ((Qubits2, XImages2, ZImages2, gates2))))) : Option (Int × List TPauli × List TPauli × List TGate)).bind fun (Qubits3, XImages3, ZImages3, gates3) =>
  some (.nx (Qubits3, XImages3, ZImages3, gates3, (IntKind.i64.wrap (s + 1))))) else (some (.br (Qubits2, XImages2, ZImages2, gates2, s)))
def F_impl_SynthesizeClifford_l7 (gates : List TGate) : (List TGate × Int) → Option (Ex (List TGate × Int) (TCircuit × Bool)) := fun (out, i1) =>
  bif (decide (0 ≤ i1)) then ((((getI gates i1).bind fun x29 =>
  chk (out.length + 1 ≤ 1099511627776) <|
  bif (x29.Kind == 5) then (chk (((out ++ [x29]).length) + 2 ≤ 1099511627776) <|
  some ((out ++ [x29]) ++ [x29, x29])) else (some (out ++ [x29]))) : Option (List TGate)).bind fun out1 =>
  some (.nx (out1, (IntKind.i64.wrap (i1 - 1))))) else (some (.br (out, i1)))
def F_impl_SynthesizeClifford_l1 (t : TTableau) : (Int × List TPauli × List TPauli × List TGate × Int) → Option (Ex (Int × List TPauli × List TPauli × List TGate × Int) (TCircuit × Bool)) := fun (Qubits, XImages, ZImages, gates, t1) =>
  bif (decide (t1 < t.Qubits)) then ((((whX (F_impl_SynthesizeClifford_l2 t1) fuel (Qubits, XImages, ZImages, gates, t1)).bind <| orR fun (Qubits2, XImages2, ZImages2, gates2, s) =>
  (whX (F_impl_SynthesizeClifford_l3 Qubits2 XImages2 t1) fuel t1).bind <| orR fun first =>
  ((bif (first != t1) then ((F_impl_reducer_add (Treducer.mk (TTableau.mk Qubits2 XImages2 ZImages2) gates2) 9 first t1).bind fun m2 =>
  (F_impl_reducer_add m2 9 t1 first).bind fun m3 =>
  (F_impl_reducer_add m3 9 first t1).bind fun m4 =>
  some (m4.t.Qubits, m4.t.XImages, m4.t.ZImages, m4.gates)) else (some (Qubits2, XImages2, ZImages2, gates2))) : Option (Int × List TPauli × List TPauli × List TGate)).bind fun (Qubits4, XImages4, ZImages4, gates4) =>
  (((whX (F_impl_SynthesizeClifford_l4 t1) fuel (Qubits4, XImages4, ZImages4, gates4, (IntKind.i64.wrap (t1 + 1)))).bind <| orR fun (Qubits6, XImages6, ZImages6, gates6, s1) =>
  some ((Qubits6, XImages6, ZImages6, gates6))) : Option (Int × List TPauli × List TPauli × List TGate)).bind fun (Qubits5, XImages5, ZImages5, gates5) =>
  (((((getI ZImages5 t1).bind fun x3 =>
  some ((x3.Phase, x3.X, x3.Z))) : Option (Int × Int × Int)).bind fun (t11, t12, t13) =>
  chk ((!(t12 != 0)) = true → (0 : Int) ≤ t1) <|
  bif ((t12 != 0) || (t13 != (shlK .i64 1 t1))) then ((F_impl_reducer_add (Treducer.mk (TTableau.mk Qubits5 XImages5 ZImages5) gates5) 1 t1 0).bind fun m6 =>
  (whX (F_impl_SynthesizeClifford_l5 t1) fuel (m6.t.Qubits, m6.t.XImages, m6.t.ZImages, m6.gates, (IntKind.i64.wrap (t1 + 1)))).bind <| orR fun (Qubits9, XImages9, ZImages9, gates9, s2) =>
  (((((getI ZImages9 t1).bind fun x5 =>
  some ((x5.Phase, x5.X, x5.Z))) : Option (Int × Int × Int)).bind fun (t17, t18, t19) =>
  (F_impl_letterOf (TPauli.mk t17 t18 t19) t1).bind fun r_7 =>
  bif (r_7 == 89) then ((F_impl_reducer_add (Treducer.mk (TTableau.mk Qubits9 XImages9 ZImages9) gates9) 5 t1 0).bind fun m9 =>
  some (m9.t.Qubits, m9.t.XImages, m9.t.ZImages, m9.gates)) else (some (Qubits9, XImages9, ZImages9, gates9))) : Option (Int × List TPauli × List TPauli × List TGate)).bind fun (Qubits11, XImages11, ZImages11, gates11) =>
  (((whX (F_impl_SynthesizeClifford_l6 t1) fuel (Qubits11, XImages11, ZImages11, gates11, (IntKind.i64.wrap (t1 + 1)))).bind <| orR fun (Qubits13, XImages13, ZImages13, gates13, s3) =>
  some ((Qubits13, XImages13, ZImages13, gates13))) : Option (Int × List TPauli × List TPauli × List TGate)).bind fun (Qubits12, XImages12, ZImages12, gates12) =>
  (F_impl_reducer_add (Treducer.mk (TTableau.mk Qubits12 XImages12 ZImages12) gates12) 1 t1 0).bind fun m11 =>
  some (m11.t.Qubits, m11.t.XImages, m11.t.ZImages, m11.gates)) else (some (Qubits5, XImages5, ZImages5, gates5))) : Option (Int × List TPauli × List TPauli × List TGate)).bind fun (Qubits8, XImages8, ZImages8, gates8) =>
  (((((getI XImages8 t1).bind fun x7 =>
  some ((x7.Phase, x7.X, x7.Z))) : Option (Int × Int × Int)).bind fun (t23, t24, t25) =>
  bif (t23 == 2) then ((F_impl_reducer_add (Treducer.mk (TTableau.mk Qubits8 XImages8 ZImages8) gates8) 4 t1 0).bind fun m12 =>
  some (m12.t.Qubits, m12.t.XImages, m12.t.ZImages, m12.gates)) else (some (Qubits8, XImages8, ZImages8, gates8))) : Option (Int × List TPauli × List TPauli × List TGate)).bind fun (Qubits15, XImages15, ZImages15, gates15) =>
  (((getI ZImages15 t1).bind fun x8 =>
  some ((x8.Phase, x8.X, x8.Z))) : Option (Int × Int × Int)).bind fun (t26, t27, t28) =>
  bif (t26 == 2) then ((F_impl_reducer_add (Treducer.mk (TTableau.mk Qubits15 XImages15 ZImages15) gates15) 2 t1 0).bind fun m13 =>
  some ((m13.t.Qubits, m13.t.XImages, m13.t.ZImages, m13.gates))) else (some ((Qubits15, XImages15, ZImages15, gates15)))) : Option (Int × List TPauli × List TPauli × List TGate)).bind fun (Qubits1, XImages1, ZImages1, gates1) =>
  some (.nx (Qubits1, XImages1, ZImages1, gates1, (IntKind.i64.wrap (t1 + 1))))) else (some (.br (Qubits, XImages, ZImages, gates, t1)))
def F_impl_SynthesizeClifford (t : TTableau) : Option (TCircuit × Bool) :=
  (F_impl_IsValidTableau t).bind fun r_2 =>
  bif (!r_2) then (some (((TCircuit.mk 0 []), false))) else ((whX (F_impl_SynthesizeClifford_l1 t) fuel (t.Qubits, t.XImages, t.ZImages, [], 0)).bind <| orR fun (Qubits, XImages, ZImages, gates, t1) =>
  (whX (F_impl_SynthesizeClifford_l7 gates) fuel ([], (IntKind.i64.wrap ((gates.length : Int) - 1)))).bind <| orR fun (out, i1) =>
  (F_impl_circuitIf t.Qubits out).bind fun (r_19, r_20) =>
  some ((r_19, r_20)))

def F_impl_NormalizeClifford (c : TCircuit) : Option (TCircuit × Bool) :=
  (F_impl_TableauOf c).bind fun (r_2, r_3) =>
  bif (!r_3) then (some (((TCircuit.mk 0 []), false))) else ((F_impl_SynthesizeClifford r_2).bind fun (r_4, r_5) =>
  some ((r_4, r_5)))

def F_laws_eqGate (a : TGate) (b : TGate) : Option (Bool) :=
  bif (a.Kind != b.Kind) then (some (false)) else (bif (a.A != b.A) then (some (false)) else (bif (a.B != b.B) then (some (false)) else (some (true))))

def F_laws_eqGateS_l1 (a : List TGate) (b : List TGate) : Nat → Unit → Option (Ex (Unit) (Bool)) := fun i1 _ =>
  (getI a (i1 : Int)).bind fun x =>
  (getI b (i1 : Int)).bind fun x1 =>
  (F_laws_eqGate x x1).bind fun r_1 =>
  bif (!r_1) then (some (.rt false)) else (some (.nx ()))
def F_laws_eqGateS (a : List TGate) (b : List TGate) : Option (Bool) :=
  bif ((a.length : Int) != (b.length : Int)) then (some (false)) else (chk (a.length ≤ 9223372036854775807) <|
  (forX (F_laws_eqGateS_l1 a b) a.length 0 ()).bind <| orR fun _ =>
  some (true))

def F_laws_eqCircuit (a : TCircuit) (b : TCircuit) : Option (Bool) :=
  bif (a.Qubits != b.Qubits) then (some (false)) else ((F_laws_eqGateS a.Gates b.Gates).bind fun r_1 =>
  bif (!r_1) then (some (false)) else (some (true)))

def F_laws_markGateS_l1 : Nat → (List TGate × Int) → Option (List TGate × Int) := fun i1 (m1, K7) =>
  (getI m1 (i1 : Int)).bind fun x =>
  some ((((m1.set (i1 : Int).toNat (TGate.mk K7 x.A x.B)).set (i1 : Int).toNat (TGate.mk K7 (IntKind.i64.wrap (K7 + 1)) x.B)).set (i1 : Int).toNat (TGate.mk K7 (IntKind.i64.wrap (K7 + 1)) (IntKind.i64.wrap ((IntKind.i64.wrap (K7 + 1)) + 1)))), (IntKind.i64.wrap ((IntKind.i64.wrap ((IntKind.i64.wrap (K7 + 1)) + 1)) + 1)))
def F_laws_markGateS (a : List TGate) (k_ : Int) : Option (Int × List TGate) :=
  chk (a.length ≤ 9223372036854775807) <|
  (forN F_laws_markGateS_l1 a.length 0 (a, k_)).bind fun (m1, K7) =>
  some ((K7, m1))

def F_laws_markCircuit (a : TCircuit) (k_ : Int) : Option (Int × List TGate) :=
  (F_laws_markGateS a.Gates k_).bind fun (r_1, m1) =>
  some ((r_1, m1))

def F_laws_heldGateS_l1 (a : List TGate) : Nat → Int → Option (Ex (Int) (Int)) := fun i1 K7 =>
  (getI a (i1 : Int)).bind fun x =>
  bif (x.Kind != K7) then (some (.rt (-1))) else (bif (x.A != (IntKind.i64.wrap (K7 + 1))) then (some (.rt (-1))) else (bif (x.B != (IntKind.i64.wrap ((IntKind.i64.wrap (K7 + 1)) + 1))) then (some (.rt (-1))) else (some (.nx (IntKind.i64.wrap ((IntKind.i64.wrap ((IntKind.i64.wrap (K7 + 1)) + 1)) + 1))))))
def F_laws_heldGateS (a : List TGate) (k_ : Int) : Option (Int) :=
  chk (a.length ≤ 9223372036854775807) <|
  (forX (F_laws_heldGateS_l1 a) a.length 0 k_).bind <| orR fun K7 =>
  some (K7)

def F_laws_heldCircuit (a : TCircuit) (k_ : Int) : Option (Int) :=
  (F_laws_heldGateS a.Gates k_).bind fun r_1 =>
  bif (decide (r_1 < 0)) then (some ((-1))) else (some (r_1))

def F_laws_FnExactNormalizeClifford (aC : TCircuit) : Option (Bool) :=
  (F_laws_szCircuit aC 1048576).bind fun r_1 =>
  bif (decide (r_1 < 0)) then (some (true)) else ((F_laws_toCircuit aC).bind fun r_2 =>
  (F_spec_NormalizeClifford r_2).bind fun (r_3, r_4) =>
  (F_laws_toCircuit aC).bind fun r_5 =>
  (F_impl_NormalizeClifford r_5).bind fun (r_6, r_7) =>
  (F_laws_eqCircuit r_6 r_3).bind fun r_8 =>
  bif ((!r_8) || (!(r_7 == r_4))) then (some (false)) else ((F_laws_toCircuit aC).bind fun r_9 =>
  (F_laws_eqCircuit r_5 r_9).bind fun r_10 =>
  bif (!r_10) then (some (false)) else ((F_laws_markCircuit r_5 1).bind fun (r_11, m) =>
  (gb (!(decide (r_11 < 0))) false (F_laws_eqCircuit r_6 r_3)).bind fun r_12 =>
  bif (((decide (r_11 < 0)) || (!r_12)) || (!(r_7 == r_4))) then (some (false)) else ((F_laws_markCircuit r_6 1).bind fun (r_13, m1) =>
  (F_laws_heldCircuit (TCircuit.mk r_6.Qubits m1) 1).bind fun r_14 =>
  bif (decide (r_14 < 0)) then (some (false)) else (bif (r_14 != r_13) then (some (false)) else ((F_laws_toCircuit aC).bind fun r_15 =>
  (F_impl_NormalizeClifford r_15).bind fun (r_16, r_17) =>
  (F_laws_eqCircuit r_16 r_3).bind fun r_18 =>
  bif ((!r_18) || (!(r_17 == r_4))) then (some (false)) else ((F_laws_heldCircuit (TCircuit.mk r_6.Qubits m1) 1).bind fun r_19 =>
  bif (decide (r_19 < 0)) then (some (false)) else (bif (r_19 != r_13) then (some (false)) else (some (true))))))))))
end Go.VK
