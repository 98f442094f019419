/- The structures, and their cells. -/
import Derived.Test.YtedbkfnhbliefaaLibG
namespace Go.VK
open Go.RowKit
structure TGate where
  Kind : Int
  A : Int
  B : Int
  deriving Inhabited, DecidableEq
def enc_Gate (x : TGate) : List Value := [.int .i64 x.Kind, .int .i64 x.A, .int .i64 x.B]
theorem enc_Gate_len (x : TGate) : (enc_Gate x).length = 3 := rfl
theorem enc_Gate_one (x : TGate) : one (enc_Gate x) = true := rfl
structure TCircuit where
  Qubits : Int
  Gates : List TGate
  deriving Inhabited, DecidableEq
structure TLinear where
  Rows : List Int
  deriving Inhabited, DecidableEq
structure TTerm where
  Mask : Int
  Coef : Int
  deriving Inhabited, DecidableEq
def enc_Term (x : TTerm) : List Value := [.int .i64 x.Mask, .int .i64 x.Coef]
theorem enc_Term_len (x : TTerm) : (enc_Term x).length = 2 := rfl
theorem enc_Term_one (x : TTerm) : one (enc_Term x) = true := rfl
structure TPhasePoly where
  Qubits : Int
  Phase : Int
  Terms : List TTerm
  Out : TLinear
  deriving Inhabited, DecidableEq
def ok_Gate (x : TGate) : Prop := I64 x.Kind ∧ I64 x.A ∧ I64 x.B
def ok_Circuit (x : TCircuit) : Prop := I64 x.Qubits ∧ (okL ok_Gate) x.Gates
end Go.VK
