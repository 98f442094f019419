/- The structures, and their cells. -/
import Derived.Test.YtklicjfbpikobaaLibP
namespace Go.VK
open Go.RowKit
structure TPauli where
  Phase : Int
  X : Int
  Z : Int
  deriving Inhabited, DecidableEq
def eN0 (x : TPauli) : List Value := [.int .i64 x.Phase, .int .i64 x.X, .int .i64 x.Z]
theorem eN1 (x : TPauli) : (eN0 x).length = 3 := rfl
theorem eN3 (x : TPauli) : one (eN0 x) = true := rfl
structure TTableau where
  Qubits : Int
  XImages : List TPauli
  ZImages : List TPauli
  deriving Inhabited, DecidableEq
structure TGate where
  Kind : Int
  A : Int
  B : Int
  deriving Inhabited, DecidableEq
def eN2 (x : TGate) : List Value := [.int .i64 x.Kind, .int .i64 x.A, .int .i64 x.B]
theorem eN4 (x : TGate) : (eN2 x).length = 3 := rfl
theorem enc_Gate_one (x : TGate) : one (eN2 x) = true := rfl
structure TCircuit where
  Qubits : Int
  Gates : List TGate
  deriving Inhabited, DecidableEq
structure TTerm where
  Mask : Int
  Coef : Int
  deriving Inhabited, DecidableEq
def enc_Term (x : TTerm) : List Value := [.int .i64 x.Mask, .int .i64 x.Coef]
theorem enc_Term_len (x : TTerm) : (enc_Term x).length = 2 := rfl
theorem enc_Term_one (x : TTerm) : one (enc_Term x) = true := rfl
structure TAffine where
  Mask : Int
  Turn : Int
  deriving Inhabited, DecidableEq
def enc_Affine (x : TAffine) : List Value := [.int .i64 x.Mask, .int .i64 x.Turn]
theorem enc_Affine_len (x : TAffine) : (enc_Affine x).length = 2 := rfl
theorem enc_Affine_one (x : TAffine) : one (enc_Affine x) = true := rfl
structure TPathSum where
  Ins : Int
  Vars : Int
  Root : Int
  Phase : Int
  Terms : List TTerm
  Out : List TAffine
  deriving Inhabited, DecidableEq
structure Treducer where
  t : TTableau
  gates : List TGate
  deriving Inhabited, DecidableEq
structure Tsummer where
  sum : TPathSum
  poly : List (Int × Int)
  values : List TAffine
  deriving Inhabited, DecidableEq
structure Tl8R where
  t : TTableau
  out : List TGate
  deriving Inhabited, DecidableEq
structure Tl21Sum where
  phase : Int
  terms : List TTerm
  deriving Inhabited, DecidableEq
def encA4_Int (x : List Int) : List Value := [.int .i64 (x.getD 0 0), .int .i64 (x.getD 1 0), .int .i64 (x.getD 2 0), .int .i64 (x.getD 3 0)]
theorem encA4_Int_len (x : List Int) : (encA4_Int x).length = 4 := rfl
theorem encA4_Int_one (x : List Int) : one (encA4_Int x) = true := rfl
theorem encA4_Int_at {x : List Int} {j y : Int} (h : getI x j = some y) (hj : j < 4) : (encA4_Int x)[j.toNat * 1]? = some (.int .i64 y) := by
  have h0 := getI_nn h
  have h1 := getI_some h
  have : j.toNat = 0 ∨ j.toNat = 1 ∨ j.toNat = 2 ∨ j.toNat = 3 := by omega
  rcases this with e | e | e | e <;> rw [e] at h1 ⊢ <;> simp [encA4_Int, List.getD, h1]
def encD_SPauli (p : Hd × (List TPauli)) : List Value := [.slice p.1.1 p.2.length p.1.2]
theorem encD_SPauli_len (p : Hd × (List TPauli)) : (encD_SPauli p).length = 1 := rfl
theorem encD_SPauli_one (p : Hd × (List TPauli)) : one (encD_SPauli p) = true := rfl
def rowD_SPauli (p : Hd × (List TPauli)) : List Ro := [⟨p.1.1, (p.2.flatMap eN0)⟩]
def ok_Pauli (x : TPauli) : Prop := I64 x.Phase ∧ I64 x.X ∧ I64 x.Z
def ok_Tableau (x : TTableau) : Prop := I64 x.Qubits ∧ (okL ok_Pauli) x.XImages ∧ (okL ok_Pauli) x.ZImages
def ok_Gate (x : TGate) : Prop := I64 x.Kind ∧ I64 x.A ∧ I64 x.B
def ok_Circuit (x : TCircuit) : Prop := I64 x.Qubits ∧ (okL ok_Gate) x.Gates
def ok_Term (x : TTerm) : Prop := I64 x.Mask ∧ I64 x.Coef
def ok_Affine (x : TAffine) : Prop := I64 x.Mask ∧ I64 x.Turn
def ok_PathSum (x : TPathSum) : Prop := I64 x.Ins ∧ I64 x.Vars ∧ I64 x.Root ∧ I64 x.Phase ∧ (okL ok_Term) x.Terms ∧ (okL ok_Affine) x.Out
end Go.VK
