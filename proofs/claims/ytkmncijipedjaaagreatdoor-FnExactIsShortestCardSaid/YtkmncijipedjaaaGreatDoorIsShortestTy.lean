/- The structures, and their cells. -/
import Derived.Test.YtkmncijipedjaaaGreatDoorLibP
import Derived.Test.YtkmncijipedjaaaGreatDoorLibS
import Derived.Test.YtkmncijipedjaaaGreatDoorLibV
namespace Go.VK
open Go.RowKit
structure TGate where
  Kind : Int
  A : Int
  B : Int
  deriving Inhabited, DecidableEq
def eN0 (x : TGate) : List Value := [.int .i64 x.Kind, .int .i64 x.A, .int .i64 x.B]
theorem enc_Gate_len (x : TGate) : (eN0 x).length = 3 := rfl
theorem enc_Gate_one (x : TGate) : one (eN0 x) = true := rfl
structure TCircuit where
  Qubits : Int
  Gates : List TGate
  deriving Inhabited, DecidableEq
structure TwordTable where
  words : List ((List UInt8) × (List TGate))
  sizes : List Int
  deriving Inhabited, DecidableEq
structure TRing where
  A : Int
  B : Int
  C : Int
  D : Int
  deriving Inhabited, DecidableEq
def enc_Ring (x : TRing) : List Value := [.int .i64 x.A, .int .i64 x.B, .int .i64 x.C, .int .i64 x.D]
theorem enc_Ring_len (x : TRing) : (enc_Ring x).length = 4 := rfl
theorem enc_Ring_one (x : TRing) : one (enc_Ring x) = true := rfl
structure TDyadic where
  Num : TRing
  Exp : Int
  deriving Inhabited, DecidableEq
def eN1 (x : TDyadic) : List Value := [.int .i64 x.Num.A, .int .i64 x.Num.B, .int .i64 x.Num.C, .int .i64 x.Num.D, .int .i64 x.Exp]
theorem enc_Dyadic_len (x : TDyadic) : (eN1 x).length = 5 := rfl
theorem enc_Dyadic_one (x : TDyadic) : one (eN1 x) = true := rfl
structure TMatrix where
  Rows : Int
  Cols : Int
  Cells : List TDyadic
  deriving Inhabited, DecidableEq
structure Tl2C where
  bad : Bool
  deriving Inhabited, DecidableEq
def enc_l2C (x : Tl2C) : List Value := [.bool x.bad]
theorem enc_l2C_len (x : Tl2C) : (enc_l2C x).length = 1 := rfl
theorem enc_l2C_one (x : Tl2C) : one (enc_l2C x) = true := rfl
structure TtableWord where
  gates : List TGate
  m : TMatrix
  deriving Inhabited, DecidableEq
def eN3 (p : (Hd × Hd) × TtableWord) : List Value := [.slice p.1.1.1 p.2.gates.length p.1.1.2, .int .i64 p.2.m.Rows, .int .i64 p.2.m.Cols, .slice p.1.2.1 p.2.m.Cells.length p.1.2.2]
theorem encD_tableWord_len (p : (Hd × Hd) × TtableWord) : (eN3 p).length = 4 := rfl
theorem encD_tableWord_one (p : (Hd × Hd) × TtableWord) : one (eN3 p) = true := rfl
def eN2 (p : (Hd × Hd) × TtableWord) : List Ro := [⟨p.1.1.1, (p.2.gates.flatMap eN0)⟩, ⟨p.1.2.1, (p.2.m.Cells.flatMap eN1)⟩]
def encD_Matrix (p : Hd × TMatrix) : List Value := [.int .i64 p.2.Rows, .int .i64 p.2.Cols, .slice p.1.1 p.2.Cells.length p.1.2]
theorem encD_Matrix_len (p : Hd × TMatrix) : (encD_Matrix p).length = 3 := rfl
theorem encD_Matrix_one (p : Hd × TMatrix) : one (encD_Matrix p) = true := rfl
def rowD_Matrix (p : Hd × TMatrix) : List Ro := [⟨p.1.1, (p.2.Cells.flatMap eN1)⟩]
def ok_Gate (x : TGate) : Prop := I64 x.Kind ∧ I64 x.A ∧ I64 x.B
def ok_Circuit (x : TCircuit) : Prop := I64 x.Qubits ∧ (okL ok_Gate) x.Gates
def gl1 : List Int := [1, 10, 100, 1000, 10000, 100000, 1000000, 10000000, 100000000, 1000000000, 10000000000, 100000000000, 1000000000000, 10000000000000, 100000000000000, 1000000000000000, 10000000000000000, 100000000000000000, 1000000000000000000, 10000000000000000000]
theorem gl1_len : gl1.length = 20 := rfl
end Go.VK
