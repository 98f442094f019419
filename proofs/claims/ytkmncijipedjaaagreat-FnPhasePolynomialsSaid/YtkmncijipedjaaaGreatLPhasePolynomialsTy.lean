/- The structures, and their cells. -/
import Derived.Test.YtkmncijipedjaaaGreatLibP
import Derived.Test.YtkmncijipedjaaaGreatLibS
namespace Go.VK
open Go.RowKit
structure Tl2C where
  bad : Bool
  deriving Inhabited, DecidableEq
structure TEdge where
  A : Int
  B : Int
  deriving Inhabited, DecidableEq
def enc_Edge (x : TEdge) : List Value := [.int .i64 x.A, .int .i64 x.B]
theorem enc_Edge_len (x : TEdge) : (enc_Edge x).length = 2 := rfl
theorem enc_Edge_one (x : TEdge) : one (enc_Edge x) = true := rfl
structure TCouplingGraph where
  Nodes : Int
  Edges : List TEdge
  deriving Inhabited, DecidableEq
structure TGate where
  Kind : Int
  A : Int
  B : Int
  deriving Inhabited, DecidableEq
def eN0 (x : TGate) : List Value := [.int .i64 x.Kind, .int .i64 x.A, .int .i64 x.B]
theorem eN1 (x : TGate) : (eN0 x).length = 3 := rfl
theorem enc_Gate_one (x : TGate) : one (eN0 x) = true := rfl
structure TCircuit where
  Qubits : Int
  Gates : List TGate
  deriving Inhabited, DecidableEq
structure TRouteStep where
  Gate : Int
  A : Int
  B : Int
  deriving Inhabited, DecidableEq
def enc_RouteStep (x : TRouteStep) : List Value := [.int .i64 x.Gate, .int .i64 x.A, .int .i64 x.B]
theorem enc_RouteStep_len (x : TRouteStep) : (enc_RouteStep x).length = 3 := rfl
theorem enc_RouteStep_one (x : TRouteStep) : one (enc_RouteStep x) = true := rfl
structure TRoute where
  Start : List Int
  Steps : List TRouteStep
  deriving Inhabited, DecidableEq
structure TLinear where
  Rows : List Int
  deriving Inhabited, DecidableEq
structure TTerm where
  Mask : Int
  Coef : Int
  deriving Inhabited, DecidableEq
def enc_Term (x : TTerm) : List Value := [.int .i64 x.Mask, .int .i64 x.Coef]
theorem enc_Term_len (x : TTerm) : (enc_Term x).length = 2 := rfl
theorem enc_Term_one (x : TTerm) : one (enc_Term x) = true := rfl
structure TPhasePoly where
  Qubits : Int
  Phase : Int
  Terms : List TTerm
  Out : TLinear
  deriving Inhabited, DecidableEq
structure TRing where
  A : Int
  B : Int
  C : Int
  D : Int
  deriving Inhabited, DecidableEq
def enc_Ring (x : TRing) : List Value := [.int .i64 x.A, .int .i64 x.B, .int .i64 x.C, .int .i64 x.D]
theorem enc_Ring_len (x : TRing) : (enc_Ring x).length = 4 := rfl
theorem enc_Ring_one (x : TRing) : one (enc_Ring x) = true := rfl
structure TDyadic where
  Num : TRing
  Exp : Int
  deriving Inhabited, DecidableEq
def enc_Dyadic (x : TDyadic) : List Value := [.int .i64 x.Num.A, .int .i64 x.Num.B, .int .i64 x.Num.C, .int .i64 x.Num.D, .int .i64 x.Exp]
theorem enc_Dyadic_len (x : TDyadic) : (enc_Dyadic x).length = 5 := rfl
theorem enc_Dyadic_one (x : TDyadic) : one (enc_Dyadic x) = true := rfl
structure TMatrix where
  Rows : Int
  Cols : Int
  Cells : List TDyadic
  deriving Inhabited, DecidableEq
structure TPauli where
  Phase : Int
  X : Int
  Z : Int
  deriving Inhabited, DecidableEq
def enc_Pauli (x : TPauli) : List Value := [.int .i64 x.Phase, .int .i64 x.X, .int .i64 x.Z]
theorem enc_Pauli_len (x : TPauli) : (enc_Pauli x).length = 3 := rfl
theorem enc_Pauli_one (x : TPauli) : one (enc_Pauli x) = true := rfl
structure TTableau where
  Qubits : Int
  XImages : List TPauli
  ZImages : List TPauli
  deriving Inhabited, DecidableEq
structure Tl1Cur where
  code : List Int
  at_ : Int
  seed : Int
  deriving Inhabited, DecidableEq
structure Trouting where
  g : TCouplingGraph
  c : TCircuit
  place : List Int
  done : List Bool
  deriving Inhabited, DecidableEq
structure Treducer where
  t : TTableau
  gates : List TGate
  deriving Inhabited, DecidableEq
structure TrouteNode where
  work : Trouting
  steps : List TRouteStep
  deriving Inhabited, DecidableEq
structure TrouteKey where
  place : List Int
  done : Int
  deriving Inhabited, DecidableEq
structure Tl23Node where
  place : List Int
  done : List Bool
  from_ : Int
  steps : List TRouteStep
  deriving Inhabited, DecidableEq
structure TgrayTask where
  vectors : List Int
  free : Int
  target : Int
  deriving Inhabited, DecidableEq
structure Tl14Task where
  vectors : List Int
  free : List Int
  target : Int
  deriving Inhabited, DecidableEq
structure Tl8R where
  t : TTableau
  out : List TGate
  deriving Inhabited, DecidableEq
structure TwordNode where
  t : TTableau
  word : List TGate
  deriving Inhabited, DecidableEq

end Go.VK
