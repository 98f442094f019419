/- The structures, and their cells. -/
import Derived.Test.YtklicjfbpikobaaDoorLibP
import Derived.Test.YtklicjfbpikobaaDoorLibS
namespace Go.VK
open Go.RowKit
structure TTerm where
  Mask : Int
  Coef : Int
  deriving Inhabited, DecidableEq
def eN0 (x : TTerm) : List Value := [.int .i64 x.Mask, .int .i64 x.Coef]
theorem eN2 (x : TTerm) : (eN0 x).length = 2 := rfl
theorem enc_Term_one (x : TTerm) : one (eN0 x) = true := rfl
structure TAffine where
  Mask : Int
  Turn : Int
  deriving Inhabited, DecidableEq
def eN1 (x : TAffine) : List Value := [.int .i64 x.Mask, .int .i64 x.Turn]
theorem enc_Affine_len (x : TAffine) : (eN1 x).length = 2 := rfl
theorem enc_Affine_one (x : TAffine) : one (eN1 x) = true := rfl
structure TPathSum where
  Ins : Int
  Vars : Int
  Root : Int
  Phase : Int
  Terms : List TTerm
  Out : List TAffine
  deriving Inhabited, DecidableEq
structure Tl21Sum where
  phase : Int
  terms : List TTerm
  deriving Inhabited, DecidableEq
def ok_Term (x : TTerm) : Prop := I64 x.Mask ∧ I64 x.Coef
def ok_Affine (x : TAffine) : Prop := I64 x.Mask ∧ I64 x.Turn
def ok_PathSum (x : TPathSum) : Prop := I64 x.Ins ∧ I64 x.Vars ∧ I64 x.Root ∧ I64 x.Phase ∧ (okL ok_Term) x.Terms ∧ (okL ok_Affine) x.Out
def gl0 : List Int := [0, 1, 28, 2, 29, 14, 24, 3, 30, 22, 20, 15, 25, 17, 4, 8, 31, 27, 13, 23, 21, 19, 16, 7, 26, 12, 18, 6, 11, 5, 10, 9]
theorem gl0_len : gl0.length = 32 := rfl
def gl1 : List Int := [0, 1, 56, 2, 57, 49, 28, 3, 61, 58, 42, 50, 38, 29, 17, 4, 62, 47, 59, 36, 45, 43, 51, 22, 53, 39, 33, 30, 24, 18, 12, 5, 63, 55, 48, 27, 60, 41, 37, 16, 46, 35, 44, 21, 52, 32, 23, 11, 54, 26, 40, 15, 34, 20, 31, 10, 25, 14, 19, 9, 13, 8, 7, 6]
theorem gl1_len : gl1.length = 64 := rfl
end Go.VK
