/- The structures, and their cells. -/
import Derived.Test.YteafjgodcdlanaaLibP
import Derived.Test.YteafjgodcdlanaaLibS
namespace Go.VK
open Go.RowKit
structure TEdge where
  A:Int
  B:Int
  deriving Inhabited,DecidableEq
def eN1 (x:TEdge):List Value:=[.int .i64 x.A,.int .i64 x.B]
theorem enc_Edge_len (x:TEdge):(eN1 x).length=2:=rfl
theorem enc_Edge_one (x:TEdge):one (eN1 x)=true:=rfl
structure TCouplingGraph where
  Nodes:Int
  Edges:List TEdge
  deriving Inhabited,DecidableEq
structure TGate where
  Kind:Int
  A:Int
  B:Int
  deriving Inhabited,DecidableEq
def eN2 (x:TGate):List Value:=[.int .i64 x.Kind,.int .i64 x.A,.int .i64 x.B]
theorem eN9 (x:TGate):(eN2 x).length=3:=rfl
theorem enc_Gate_one (x:TGate):one (eN2 x)=true:=rfl
structure TCircuit where
  Qubits:Int
  Gates:List TGate
  deriving Inhabited,DecidableEq
structure TRouteStep where
  Gate:Int
  A:Int
  B:Int
  deriving Inhabited,DecidableEq
def eN0 (x:TRouteStep):List Value:=[.int .i64 x.Gate,.int .i64 x.A,.int .i64 x.B]
theorem eN8 (x:TRouteStep):(eN0 x).length=3:=rfl
theorem enc_RouteStep_one (x:TRouteStep):one (eN0 x)=true:=rfl
structure TRoute where
  Start:List Int
  Steps:List TRouteStep
  deriving Inhabited,DecidableEq
structure Tl1Cur where
  code:List Int
  at_:Int
  seed:Int
  deriving Inhabited,DecidableEq
structure Trouting where
  g:TCouplingGraph
  c:TCircuit
  place:List Int
  done:List Bool
  deriving Inhabited,DecidableEq
structure TrouteNode where
  work:Trouting
  steps:List TRouteStep
  deriving Inhabited,DecidableEq
structure TrouteKey where
  place:Int×Int×Int×Int×Int
  done:Int
  deriving Inhabited,DecidableEq
def enc_routeKey (x:TrouteKey):List Value:=[.int .i64 x.place.1,.int .i64 x.place.2.1,.int .i64 x.place.2.2.1,.int .i64 x.place.2.2.2.1,.int .i64 x.place.2.2.2.2,.int .u64 x.done]
theorem enc_routeKey_len (x:TrouteKey):(enc_routeKey x).length=6:=rfl
theorem enc_routeKey_one (x:TrouteKey):one (enc_routeKey x)=true:=rfl
structure Tl23Node where
  place:List Int
  done:List Bool
  from_:Int
  steps:List TRouteStep
  deriving Inhabited,DecidableEq
def vK_routeKey (x:TrouteKey):Value:=.agg #[.int .i64 x.place.1,.int .i64 x.place.2.1,.int .i64 x.place.2.2.1,.int .i64 x.place.2.2.2.1,.int .i64 x.place.2.2.2.2,.int .u64 x.done]
def encA2_Int (x:List Int):List Value:=[.int .i64 (x.getD 0 0),.int .i64 (x.getD 1 0)]
theorem encA2_Int_len (x:List Int):(encA2_Int x).length=2:=rfl
theorem encA2_Int_one (x:List Int):one (encA2_Int x)=true:=rfl
theorem encA2_Int_at {x:List Int} {j y:Int} (h:getI x j=some y) (hj:j<2):(encA2_Int x)[j.toNat*1]?=some (.int .i64 y):=by
  have h0:=getI_nn h
  have h1:=getI_some h
  have:j.toNat=0∨j.toNat=1:=by omega
  rcases this with e | e <;> rw [e] at h1 ⊢ <;> simp [encA2_Int,List.getD,h1]
def encD_routeNode (p:(Hd×Hd×Hd×Hd×Hd)×TrouteNode):List Value:=[.int .i64 p.2.work.g.Nodes,.slice p.1.1.1 p.2.work.g.Edges.length p.1.1.2,.int .i64 p.2.work.c.Qubits,.slice p.1.2.1.1 p.2.work.c.Gates.length p.1.2.1.2,.slice p.1.2.2.1.1 p.2.work.place.length p.1.2.2.1.2,.slice p.1.2.2.2.1.1 p.2.work.done.length p.1.2.2.2.1.2,.slice p.1.2.2.2.2.1 p.2.steps.length p.1.2.2.2.2.2]
theorem encD_routeNode_len (p:(Hd×Hd×Hd×Hd×Hd)×TrouteNode):(encD_routeNode p).length=7:=rfl
theorem encD_routeNode_one (p:(Hd×Hd×Hd×Hd×Hd)×TrouteNode):one (encD_routeNode p)=true:=rfl
def capD_routeNode (p:(Hd×Hd×Hd×Hd×Hd)×TrouteNode):Prop:=p.2.work.g.Edges.length≤p.1.1.2∧p.2.work.c.Gates.length≤p.1.2.1.2∧p.2.work.place.length≤p.1.2.2.1.2∧p.2.work.done.length≤p.1.2.2.2.1.2∧p.2.steps.length≤p.1.2.2.2.2.2
theorem capD_routeNode_0 {p:(Hd×Hd×Hd×Hd×Hd)×TrouteNode} (h:capD_routeNode p):p.2.work.g.Edges.length≤p.1.1.2:=by
  unfold capD_routeNode at h
  exact h.1
theorem capD_routeNode_1 {p:(Hd×Hd×Hd×Hd×Hd)×TrouteNode} (h:capD_routeNode p):p.2.work.c.Gates.length≤p.1.2.1.2:=by
  unfold capD_routeNode at h
  exact h.2.1
theorem capD_routeNode_2 {p:(Hd×Hd×Hd×Hd×Hd)×TrouteNode} (h:capD_routeNode p):p.2.work.place.length≤p.1.2.2.1.2:=by
  unfold capD_routeNode at h
  exact h.2.2.1
theorem capD_routeNode_3 {p:(Hd×Hd×Hd×Hd×Hd)×TrouteNode} (h:capD_routeNode p):p.2.work.done.length≤p.1.2.2.2.1.2:=by
  unfold capD_routeNode at h
  exact h.2.2.2.1
theorem capD_routeNode_4 {p:(Hd×Hd×Hd×Hd×Hd)×TrouteNode} (h:capD_routeNode p):p.2.steps.length≤p.1.2.2.2.2.2:=by
  unfold capD_routeNode at h
  exact h.2.2.2.2
def eN7 (p:(Hd×Hd×Hd×Hd×Hd)×TrouteNode):List Ro:=[⟨p.1.1.1,(p.2.work.g.Edges.flatMap eN1)⟩,⟨p.1.2.1.1,(p.2.work.c.Gates.flatMap eN2)⟩,⟨p.1.2.2.1.1,(p.2.work.place.flatMap encI)⟩,⟨p.1.2.2.2.1.1,(p.2.work.done.flatMap encB)⟩,⟨p.1.2.2.2.2.1,(p.2.steps.flatMap eN0)⟩]
def eN3 (p:Hd×(List Int)):List Value:=[.slice p.1.1 p.2.length p.1.2]
theorem encD_SInt_len (p:Hd×(List Int)):(eN3 p).length=1:=rfl
theorem encD_SInt_one (p:Hd×(List Int)):one (eN3 p)=true:=rfl
def capD_SInt (p:Hd×(List Int)):Prop:=p.2.length≤p.1.2
theorem capD_SInt_0 {p:Hd×(List Int)} (h:capD_SInt p):p.2.length≤p.1.2:=by
  unfold capD_SInt at h
  exact h
def eN4 (p:Hd×(List Int)):List Ro:=[⟨p.1.1,(p.2.flatMap encI)⟩]
def eN6 (p:(Hd×Hd×Hd)×Tl23Node):List Value:=[.slice p.1.1.1 p.2.place.length p.1.1.2,.slice p.1.2.1.1 p.2.done.length p.1.2.1.2,.int .i64 p.2.from_,.slice p.1.2.2.1 p.2.steps.length p.1.2.2.2]
theorem encD_l23Node_len (p:(Hd×Hd×Hd)×Tl23Node):(eN6 p).length=4:=rfl
theorem encD_l23Node_one (p:(Hd×Hd×Hd)×Tl23Node):one (eN6 p)=true:=rfl
def capD_l23Node (p:(Hd×Hd×Hd)×Tl23Node):Prop:=p.2.place.length≤p.1.1.2∧p.2.done.length≤p.1.2.1.2∧p.2.steps.length≤p.1.2.2.2
theorem capD_l23Node_0 {p:(Hd×Hd×Hd)×Tl23Node} (h:capD_l23Node p):p.2.place.length≤p.1.1.2:=by
  unfold capD_l23Node at h
  exact h.1
theorem capD_l23Node_1 {p:(Hd×Hd×Hd)×Tl23Node} (h:capD_l23Node p):p.2.done.length≤p.1.2.1.2:=by
  unfold capD_l23Node at h
  exact h.2.1
theorem capD_l23Node_2 {p:(Hd×Hd×Hd)×Tl23Node} (h:capD_l23Node p):p.2.steps.length≤p.1.2.2.2:=by
  unfold capD_l23Node at h
  exact h.2.2
def eN5 (p:(Hd×Hd×Hd)×Tl23Node):List Ro:=[⟨p.1.1.1,(p.2.place.flatMap encI)⟩,⟨p.1.2.1.1,(p.2.done.flatMap encB)⟩,⟨p.1.2.2.1,(p.2.steps.flatMap eN0)⟩]

end Go.VK
