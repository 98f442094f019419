/- The structures, and their cells. -/
import Derived.Test.YteaclldklaocmaaGreatLibP
namespace Go.VK
open Go.RowKit
structure TTwoLevel where
  Kind : Int
  I : Int
  J : Int
  M_ : Int
  deriving Inhabited, DecidableEq
def eN2 (x : TTwoLevel) : List Value := [.int .i64 x.Kind, .int .i64 x.I, .int .i64 x.J, .int .i64 x.M_]
theorem enc_TwoLevel_len (x : TTwoLevel) : (eN2 x).length = 4 := rfl
theorem enc_TwoLevel_one (x : TTwoLevel) : one (eN2 x) = true := rfl
structure TRing where
  A : Int
  B : Int
  C : Int
  D : Int
  deriving Inhabited, DecidableEq
def enc_Ring (x : TRing) : List Value := [.int .i64 x.A, .int .i64 x.B, .int .i64 x.C, .int .i64 x.D]
theorem enc_Ring_len (x : TRing) : (enc_Ring x).length = 4 := rfl
theorem enc_Ring_one (x : TRing) : one (enc_Ring x) = true := rfl
structure TDyadic where
  Num : TRing
  Exp : Int
  deriving Inhabited, DecidableEq
def eN0 (x : TDyadic) : List Value := [.int .i64 x.Num.A, .int .i64 x.Num.B, .int .i64 x.Num.C, .int .i64 x.Num.D, .int .i64 x.Exp]
theorem eN1 (x : TDyadic) : (eN0 x).length = 5 := rfl
theorem enc_Dyadic_one (x : TDyadic) : one (eN0 x) = true := rfl
structure TMatrix where
  Rows : Int
  Cols : Int
  Cells : List TDyadic
  deriving Inhabited, DecidableEq
structure Tl1Cur where
  code : List Int
  at_ : Int
  seed : Int
  deriving Inhabited, DecidableEq
structure Tl2C where
  bad : Bool
  deriving Inhabited, DecidableEq
def enc_l2C (x : Tl2C) : List Value := [.bool x.bad]
theorem enc_l2C_len (x : Tl2C) : (enc_l2C x).length = 1 := rfl
theorem enc_l2C_one (x : Tl2C) : one (enc_l2C x) = true := rfl
structure TGate where
  Kind : Int
  A : Int
  B : Int
  deriving Inhabited, DecidableEq
def enc_Gate (x : TGate) : List Value := [.int .i64 x.Kind, .int .i64 x.A, .int .i64 x.B]
theorem enc_Gate_len (x : TGate) : (enc_Gate x).length = 3 := rfl
theorem enc_Gate_one (x : TGate) : one (enc_Gate x) = true := rfl
structure TCircuit where
  Qubits : Int
  Gates : List TGate
  deriving Inhabited, DecidableEq

end Go.VK
