/- The structures, and their cells. -/
import Derived.Test.YtmonoeihfeikeaaGreatLibO
import Derived.Lib.SlicesCompact
namespace Go.VK
open Go.RowKit
structure TGate where
  Kind : Int
  A : Int
  B : Int
  deriving Inhabited, DecidableEq
def enc_Gate (x : TGate) : List Value := [.int .i64 x.Kind, .int .i64 x.A, .int .i64 x.B]
theorem enc_Gate_len (x : TGate) : (enc_Gate x).length = 3 := rfl
theorem enc_Gate_one (x : TGate) : one (enc_Gate x) = true := rfl
structure TCircuit where
  Qubits : Int
  Gates : List TGate
  deriving Inhabited, DecidableEq
structure TRing where
  A : Int
  B : Int
  C : Int
  D : Int
  deriving Inhabited, DecidableEq
def enc_Ring (x : TRing) : List Value := [.int .i64 x.A, .int .i64 x.B, .int .i64 x.C, .int .i64 x.D]
theorem enc_Ring_len (x : TRing) : (enc_Ring x).length = 4 := rfl
theorem enc_Ring_one (x : TRing) : one (enc_Ring x) = true := rfl
structure TDyadic where
  Num : TRing
  Exp : Int
  deriving Inhabited, DecidableEq
def eN0 (x : TDyadic) : List Value := [.int .i64 x.Num.A, .int .i64 x.Num.B, .int .i64 x.Num.C, .int .i64 x.Num.D, .int .i64 x.Exp]
theorem enc_Dyadic_len (x : TDyadic) : (eN0 x).length = 5 := rfl
theorem enc_Dyadic_one (x : TDyadic) : one (eN0 x) = true := rfl
structure TMatrix where
  Rows : Int
  Cols : Int
  Cells : List TDyadic
  deriving Inhabited, DecidableEq
structure TLinear where
  Rows : List Int
  deriving Inhabited, DecidableEq
structure TTerm where
  Mask : Int
  Coef : Int
  deriving Inhabited, DecidableEq
def enc_Term (x : TTerm) : List Value := [.int .i64 x.Mask, .int .i64 x.Coef]
theorem enc_Term_len (x : TTerm) : (enc_Term x).length = 2 := rfl
theorem enc_Term_one (x : TTerm) : one (enc_Term x) = true := rfl
structure TPhasePoly where
  Qubits : Int
  Phase : Int
  Terms : List TTerm
  Out : TLinear
  deriving Inhabited, DecidableEq
structure Tl2C where
  bad : Bool
  deriving Inhabited, DecidableEq
def enc_l2C (x : Tl2C) : List Value := [.bool x.bad]
theorem enc_l2C_len (x : Tl2C) : (enc_l2C x).length = 1 := rfl
theorem enc_l2C_one (x : Tl2C) : one (enc_l2C x) = true := rfl
structure Tl1Cur where
  code : List Int
  at_ : Int
  seed : Int
  deriving Inhabited, DecidableEq
def encD_SGate (p : Hd × (List TGate)) : List Value := [.slice p.1.1 p.2.length p.1.2]
theorem encD_SGate_len (p : Hd × (List TGate)) : (encD_SGate p).length = 1 := rfl
theorem encD_SGate_one (p : Hd × (List TGate)) : one (encD_SGate p) = true := rfl
def rowD_SGate (p : Hd × (List TGate)) : List Ro := [⟨p.1.1, (p.2.flatMap enc_Gate)⟩]
def encD_SInt (p : Hd × (List Int)) : List Value := [.slice p.1.1 p.2.length p.1.2]
theorem encD_SInt_len (p : Hd × (List Int)) : (encD_SInt p).length = 1 := rfl
theorem encD_SInt_one (p : Hd × (List Int)) : one (encD_SInt p) = true := rfl
def rowD_SInt (p : Hd × (List Int)) : List Ro := [⟨p.1.1, (p.2.flatMap encI)⟩]
def ok_Gate (x : TGate) : Prop := I64 x.Kind ∧ I64 x.A ∧ I64 x.B
end Go.VK
