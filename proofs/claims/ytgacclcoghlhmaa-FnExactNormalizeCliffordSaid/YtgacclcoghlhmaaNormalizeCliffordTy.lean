/- The structures, and their cells. -/
import Derived.Test.YtgacclcoghlhmaaLibP
namespace Go.VK
open Go.RowKit
structure TGate where
  Kind : Int
  A : Int
  B : Int
  deriving Inhabited, DecidableEq
def eN2 (x : TGate) : List Value := [.int .i64 x.Kind, .int .i64 x.A, .int .i64 x.B]
theorem eN4 (x : TGate) : (eN2 x).length = 3 := rfl
theorem enc_Gate_one (x : TGate) : one (eN2 x) = true := rfl
structure TCircuit where
  Qubits : Int
  Gates : List TGate
  deriving Inhabited, DecidableEq
structure TPauli where
  Phase : Int
  X : Int
  Z : Int
  deriving Inhabited, DecidableEq
def eN0 (x : TPauli) : List Value := [.int .i64 x.Phase, .int .i64 x.X, .int .i64 x.Z]
theorem eN1 (x : TPauli) : (eN0 x).length = 3 := rfl
theorem eN3 (x : TPauli) : one (eN0 x) = true := rfl
structure TTableau where
  Qubits : Int
  XImages : List TPauli
  ZImages : List TPauli
  deriving Inhabited, DecidableEq
structure Tl8R where
  t : TTableau
  out : List TGate
  deriving Inhabited, DecidableEq
structure Treducer where
  t : TTableau
  gates : List TGate
  deriving Inhabited, DecidableEq
def encA4_Int (x : List Int) : List Value := [.int .i64 (x.getD 0 0), .int .i64 (x.getD 1 0), .int .i64 (x.getD 2 0), .int .i64 (x.getD 3 0)]
theorem encA4_Int_len (x : List Int) : (encA4_Int x).length = 4 := rfl
theorem encA4_Int_one (x : List Int) : one (encA4_Int x) = true := rfl
theorem encA4_Int_at {x : List Int} {j y : Int} (h : getI x j = some y) (hj : j < 4) : (encA4_Int x)[j.toNat * 1]? = some (.int .i64 y) := by
  have h0 := getI_nn h
  have h1 := getI_some h
  have : j.toNat = 0 ∨ j.toNat = 1 ∨ j.toNat = 2 ∨ j.toNat = 3 := by omega
  rcases this with e | e | e | e <;> rw [e] at h1 ⊢ <;> simp [encA4_Int, List.getD, h1]
def encD_SPauli (p : Hd × (List TPauli)) : List Value := [.slice p.1.1 p.2.length p.1.2]
theorem encD_SPauli_len (p : Hd × (List TPauli)) : (encD_SPauli p).length = 1 := rfl
theorem encD_SPauli_one (p : Hd × (List TPauli)) : one (encD_SPauli p) = true := rfl
def rowD_SPauli (p : Hd × (List TPauli)) : List Ro := [⟨p.1.1, (p.2.flatMap eN0)⟩]
def ok_Gate (x : TGate) : Prop := I64 x.Kind ∧ I64 x.A ∧ I64 x.B
def ok_Circuit (x : TCircuit) : Prop := I64 x.Qubits ∧ (okL ok_Gate) x.Gates
end Go.VK
