/- The structures, and their cells. -/
import Derived.Test.YthmigddkloimaaaGreatDoorLibP
namespace Go.VK
open Go.RowKit
structure TNormalForm where
  Syllables : List UInt8
  Clifford : Int
  Phase : Int
  deriving Inhabited, DecidableEq
def enc_NormalForm (x : TNormalForm) : List Value := [.string (bstr x.Syllables), .int .i64 x.Clifford, .int .i64 x.Phase]
theorem enc_NormalForm_len (x : TNormalForm) : (enc_NormalForm x).length = 3 := rfl
theorem enc_NormalForm_one (x : TNormalForm) : one (enc_NormalForm x) = true := rfl
structure TRing where
  A : Int
  B : Int
  C : Int
  D : Int
  deriving Inhabited, DecidableEq
def enc_Ring (x : TRing) : List Value := [.int .i64 x.A, .int .i64 x.B, .int .i64 x.C, .int .i64 x.D]
theorem enc_Ring_len (x : TRing) : (enc_Ring x).length = 4 := rfl
theorem enc_Ring_one (x : TRing) : one (enc_Ring x) = true := rfl
structure TDyadic where
  Num : TRing
  Exp : Int
  deriving Inhabited, DecidableEq
def eN0 (x : TDyadic) : List Value := [.int .i64 x.Num.A, .int .i64 x.Num.B, .int .i64 x.Num.C, .int .i64 x.Num.D, .int .i64 x.Exp]
theorem eN2 (x : TDyadic) : (eN0 x).length = 5 := rfl
theorem enc_Dyadic_one (x : TDyadic) : one (eN0 x) = true := rfl
structure TMatrix where
  Rows : Int
  Cols : Int
  Cells : List TDyadic
  deriving Inhabited, DecidableEq
structure TGate where
  Kind : Int
  A : Int
  B : Int
  deriving Inhabited, DecidableEq
def eN4 (x : TGate) : List Value := [.int .i64 x.Kind, .int .i64 x.A, .int .i64 x.B]
theorem enc_Gate_len (x : TGate) : (eN4 x).length = 3 := rfl
theorem enc_Gate_one (x : TGate) : one (eN4 x) = true := rfl
structure TCircuit where
  Qubits : Int
  Gates : List TGate
  deriving Inhabited, DecidableEq
structure TBloch where
  Cells : List TDyadic
  deriving Inhabited, DecidableEq
structure Tl2C where
  bad : Bool
  deriving Inhabited, DecidableEq
def enc_l2C (x : Tl2C) : List Value := [.bool x.bad]
theorem enc_l2C_len (x : Tl2C) : (enc_l2C x).length = 1 := rfl
theorem enc_l2C_one (x : Tl2C) : one (enc_l2C x) = true := rfl
def eN3 (p : Hd × (List TDyadic)) : List Value := [.slice p.1.1 p.2.length p.1.2]
theorem encD_SDyadic_len (p : Hd × (List TDyadic)) : (eN3 p).length = 1 := rfl
theorem encD_SDyadic_one (p : Hd × (List TDyadic)) : one (eN3 p) = true := rfl
def eN1 (p : Hd × (List TDyadic)) : List Ro := [⟨p.1.1, (p.2.flatMap eN0)⟩]
def encD_Bloch (p : Hd × TBloch) : List Value := [.slice p.1.1 p.2.Cells.length p.1.2]
theorem encD_Bloch_len (p : Hd × TBloch) : (encD_Bloch p).length = 1 := rfl
theorem encD_Bloch_one (p : Hd × TBloch) : one (encD_Bloch p) = true := rfl
def rowD_Bloch (p : Hd × TBloch) : List Ro := [⟨p.1.1, (p.2.Cells.flatMap eN0)⟩]
def ok_NormalForm (x : TNormalForm) : Prop := SL x.Syllables ∧ I64 x.Clifford ∧ I64 x.Phase
end Go.VK
