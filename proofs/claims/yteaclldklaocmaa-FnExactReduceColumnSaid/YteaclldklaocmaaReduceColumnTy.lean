/- The structures, and their cells. -/
import Derived.Test.YteaclldklaocmaaLibP
namespace Go.VK
open Go.RowKit
structure TPauli where
  Phase : Int
  X : Int
  Z : Int
  deriving Inhabited, DecidableEq
def enc_Pauli (x : TPauli) : List Value := [.int .i64 x.Phase, .int .i64 x.X, .int .i64 x.Z]
theorem enc_Pauli_len (x : TPauli) : (enc_Pauli x).length = 3 := rfl
theorem enc_Pauli_one (x : TPauli) : one (enc_Pauli x) = true := rfl
structure TTableau where
  Qubits : Int
  XImages : List TPauli
  ZImages : List TPauli
  deriving Inhabited, DecidableEq
structure TGate where
  Kind : Int
  A : Int
  B : Int
  deriving Inhabited, DecidableEq
def enc_Gate (x : TGate) : List Value := [.int .i64 x.Kind, .int .i64 x.A, .int .i64 x.B]
theorem enc_Gate_len (x : TGate) : (enc_Gate x).length = 3 := rfl
theorem enc_Gate_one (x : TGate) : one (enc_Gate x) = true := rfl
structure TCircuit where
  Qubits : Int
  Gates : List TGate
  deriving Inhabited, DecidableEq
structure TTerm where
  Mask : Int
  Coef : Int
  deriving Inhabited, DecidableEq
def enc_Term (x : TTerm) : List Value := [.int .i64 x.Mask, .int .i64 x.Coef]
theorem enc_Term_len (x : TTerm) : (enc_Term x).length = 2 := rfl
theorem enc_Term_one (x : TTerm) : one (enc_Term x) = true := rfl
structure TAffine where
  Mask : Int
  Turn : Int
  deriving Inhabited, DecidableEq
def enc_Affine (x : TAffine) : List Value := [.int .i64 x.Mask, .int .i64 x.Turn]
theorem enc_Affine_len (x : TAffine) : (enc_Affine x).length = 2 := rfl
theorem enc_Affine_one (x : TAffine) : one (enc_Affine x) = true := rfl
structure TPathSum where
  Ins : Int
  Vars : Int
  Root : Int
  Phase : Int
  Terms : List TTerm
  Out : List TAffine
  deriving Inhabited, DecidableEq
structure TRing where
  A : Int
  B : Int
  C : Int
  D : Int
  deriving Inhabited, DecidableEq
def enc_Ring (x : TRing) : List Value := [.int .i64 x.A, .int .i64 x.B, .int .i64 x.C, .int .i64 x.D]
theorem enc_Ring_len (x : TRing) : (enc_Ring x).length = 4 := rfl
theorem enc_Ring_one (x : TRing) : one (enc_Ring x) = true := rfl
structure TDyadic where
  Num : TRing
  Exp : Int
  deriving Inhabited, DecidableEq
def eN0 (x : TDyadic) : List Value := [.int .i64 x.Num.A, .int .i64 x.Num.B, .int .i64 x.Num.C, .int .i64 x.Num.D, .int .i64 x.Exp]
theorem eN1 (x : TDyadic) : (eN0 x).length = 5 := rfl
theorem enc_Dyadic_one (x : TDyadic) : one (eN0 x) = true := rfl
structure TMatrix where
  Rows : Int
  Cols : Int
  Cells : List TDyadic
  deriving Inhabited, DecidableEq
structure Treducer where
  t : TTableau
  gates : List TGate
  deriving Inhabited, DecidableEq
structure Tl2C where
  bad : Bool
  deriving Inhabited, DecidableEq
def enc_l2C (x : Tl2C) : List Value := [.bool x.bad]
theorem enc_l2C_len (x : Tl2C) : (enc_l2C x).length = 1 := rfl
theorem enc_l2C_one (x : Tl2C) : one (enc_l2C x) = true := rfl
structure TTwoLevel where
  Kind : Int
  I : Int
  J : Int
  M_ : Int
  deriving Inhabited, DecidableEq
def eN2 (x : TTwoLevel) : List Value := [.int .i64 x.Kind, .int .i64 x.I, .int .i64 x.J, .int .i64 x.M_]
theorem enc_TwoLevel_len (x : TTwoLevel) : (eN2 x).length = 4 := rfl
theorem enc_TwoLevel_one (x : TTwoLevel) : one (eN2 x) = true := rfl
structure Tl8R where
  t : TTableau
  out : List TGate
  deriving Inhabited, DecidableEq
structure Tl21Sum where
  phase : Int
  terms : List TTerm
  deriving Inhabited, DecidableEq
def encD_SPauli (p : Hd × (List TPauli)) : List Value := [.slice p.1.1 p.2.length p.1.2]
theorem encD_SPauli_len (p : Hd × (List TPauli)) : (encD_SPauli p).length = 1 := rfl
theorem encD_SPauli_one (p : Hd × (List TPauli)) : one (encD_SPauli p) = true := rfl
def rowD_SPauli (p : Hd × (List TPauli)) : List Ro := [⟨p.1.1, (p.2.flatMap enc_Pauli)⟩]
def ok_Ring (x : TRing) : Prop := I64 x.A ∧ I64 x.B ∧ I64 x.C ∧ I64 x.D
def ok_Dyadic (x : TDyadic) : Prop := ok_Ring x.Num ∧ I64 x.Exp
def ok_Matrix (x : TMatrix) : Prop := I64 x.Rows ∧ I64 x.Cols ∧ (okL ok_Dyadic) x.Cells
end Go.VK
