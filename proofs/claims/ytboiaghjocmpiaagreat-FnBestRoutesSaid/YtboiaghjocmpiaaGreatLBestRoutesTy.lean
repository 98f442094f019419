/- The structures, and their cells. -/
import Derived.Test.YtboiaghjocmpiaaGreatLibP
import Derived.Test.YtboiaghjocmpiaaGreatLibS
namespace Go.VK
open Go.RowKit
structure Ah where
  A:Int
  B:Int
  deriving Inhabited,DecidableEq
def eN1 (x:Ah):List Value:=[.int .i64 x.A,.int .i64 x.B]
theorem A6 (x:Ah):(eN1 x).length=2:=rfl
theorem FC (x:Ah):one (eN1 x)=true:=rfl
structure Ae where
  Nodes:Int
  Edges:List Ah
  deriving Inhabited,DecidableEq
structure Ac where
  Kind:Int
  A:Int
  B:Int
  deriving Inhabited,DecidableEq
def eN0 (x:Ac):List Value:=[.int .i64 x.Kind,.int .i64 x.A,.int .i64 x.B]
theorem eN8 (x:Ac):(eN0 x).length=3:=rfl
theorem BP (x:Ac):one (eN0 x)=true:=rfl
structure Ad where
  Qubits:Int
  Gates:List Ac
  deriving Inhabited,DecidableEq
structure Ak where
  Gate:Int
  A:Int
  B:Int
  deriving Inhabited,DecidableEq
def eN2 (x:Ak):List Value:=[.int .i64 x.Gate,.int .i64 x.A,.int .i64 x.B]
theorem A5 (x:Ak):(eN2 x).length=3:=rfl
theorem C8 (x:Ak):one (eN2 x)=true:=rfl
structure Am where
  Start:List Int
  Steps:List Ak
  deriving Inhabited,DecidableEq
structure Ag where
  code:List Int
  at_:Int
  seed:Int
  deriving Inhabited,DecidableEq
structure Ap where
  g:Ae
  c:Ad
  place:List Int
  done:List Bool
  deriving Inhabited,DecidableEq
structure Aa where
  A:Int
  B:Int
  C:Int
  D:Int
  deriving Inhabited,DecidableEq
def Dt (x:Aa):List Value:=[.int .i64 x.A,.int .i64 x.B,.int .i64 x.C,.int .i64 x.D]
theorem I2 (x:Aa):(Dt x).length=4:=rfl
theorem Vh (x:Aa):one (Dt x)=true:=rfl
structure Ab where
  Num:Aa
  Exp:Int
  deriving Inhabited,DecidableEq
def Aw (x:Ab):List Value:=[.int .i64 x.Num.A,.int .i64 x.Num.B,.int .i64 x.Num.C,.int .i64 x.Num.D,.int .i64 x.Exp]
theorem BV (x:Ab):(Aw x).length=5:=rfl
theorem QU (x:Ab):one (Aw x)=true:=rfl
structure Af where
  Rows:Int
  Cols:Int
  Cells:List Ab
  deriving Inhabited,DecidableEq
structure Al where
  work:Ap
  steps:List Ak
  deriving Inhabited,DecidableEq
structure AB where
  place:Int×Int×Int×Int×Int
  done:Int
  deriving Inhabited,DecidableEq
def Pv (x:AB):List Value:=[.int .i64 x.place.1,.int .i64 x.place.2.1,.int .i64 x.place.2.2.1,.int .i64 x.place.2.2.2.1,.int .i64 x.place.2.2.2.2,.int .u64 x.done]
theorem WU (x:AB):(Pv x).length=6:=rfl
theorem WP (x:AB):one (Pv x)=true:=rfl
structure Ai where
  place:List Int
  done:List Bool
  from_:Int
  steps:List Ak
  deriving Inhabited,DecidableEq
def AM (x:AB):Value:=.agg #[.int .i64 x.place.1,.int .i64 x.place.2.1,.int .i64 x.place.2.2.1,.int .i64 x.place.2.2.2.1,.int .i64 x.place.2.2.2.2,.int .u64 x.done]
def AY (x:List Int):List Value:=[.int .i64 (x.getD 0 0),.int .i64 (x.getD 1 0)]
theorem Cj (x:List Int):(AY x).length=2:=rfl
theorem Nc (x:List Int):one (AY x)=true:=rfl
theorem WO {x:List Int} {j y:Int} (h:getI x j=some y) (hj:j<2):(AY x)[j.toNat*1]?=some (.int .i64 y):=by
  have h0:=getI_nn h
  have h1:=getI_some h
  have:j.toNat=0∨j.toNat=1:=by omega
  rcases this with e | e <;> rw [e] at h1 ⊢ <;> simp [AY,List.getD,h1]
def AS (p:(Hd×Hd×Hd×Hd×Hd)×Al):List Value:=[.int .i64 p.2.work.g.Nodes,.slice p.1.1.1 p.2.work.g.Edges.length p.1.1.2,.int .i64 p.2.work.c.Qubits,.slice p.1.2.1.1 p.2.work.c.Gates.length p.1.2.1.2,.slice p.1.2.2.1.1 p.2.work.place.length p.1.2.2.1.2,.slice p.1.2.2.2.1.1 p.2.work.done.length p.1.2.2.2.1.2,.slice p.1.2.2.2.2.1 p.2.steps.length p.1.2.2.2.2.2]
theorem H0 (p:(Hd×Hd×Hd×Hd×Hd)×Al):(AS p).length=7:=rfl
theorem TD (p:(Hd×Hd×Hd×Hd×Hd)×Al):one (AS p)=true:=rfl
def BA (p:(Hd×Hd×Hd×Hd×Hd)×Al):Prop:=p.2.work.g.Edges.length≤p.1.1.2∧p.2.work.c.Gates.length≤p.1.2.1.2∧p.2.work.place.length≤p.1.2.2.1.2∧p.2.work.done.length≤p.1.2.2.2.1.2∧p.2.steps.length≤p.1.2.2.2.2.2
theorem Qv {p:(Hd×Hd×Hd×Hd×Hd)×Al} (h:BA p):p.2.work.g.Edges.length≤p.1.1.2:=by
  unfold BA at h
  exact h.1
theorem Ut {p:(Hd×Hd×Hd×Hd×Hd)×Al} (h:BA p):p.2.work.c.Gates.length≤p.1.2.1.2:=by
  unfold BA at h
  exact h.2.1
theorem WN {p:(Hd×Hd×Hd×Hd×Hd)×Al} (h:BA p):p.2.work.place.length≤p.1.2.2.1.2:=by
  unfold BA at h
  exact h.2.2.1
theorem WM {p:(Hd×Hd×Hd×Hd×Hd)×Al} (h:BA p):p.2.work.done.length≤p.1.2.2.2.1.2:=by
  unfold BA at h
  exact h.2.2.2.1
theorem Sx {p:(Hd×Hd×Hd×Hd×Hd)×Al} (h:BA p):p.2.steps.length≤p.1.2.2.2.2.2:=by
  unfold BA at h
  exact h.2.2.2.2
def eN7 (p:(Hd×Hd×Hd×Hd×Hd)×Al):List Ro:=[⟨p.1.1.1,(p.2.work.g.Edges.flatMap eN1)⟩,⟨p.1.2.1.1,(p.2.work.c.Gates.flatMap eN0)⟩,⟨p.1.2.2.1.1,(p.2.work.place.flatMap encI)⟩,⟨p.1.2.2.2.1.1,(p.2.work.done.flatMap encB)⟩,⟨p.1.2.2.2.2.1,(p.2.steps.flatMap eN2)⟩]
def eN3 (p:Hd×(List Int)):List Value:=[.slice p.1.1 p.2.length p.1.2]
theorem AJ (p:Hd×(List Int)):(eN3 p).length=1:=rfl
theorem TI (p:Hd×(List Int)):one (eN3 p)=true:=rfl
def PY (p:Hd×(List Int)):Prop:=p.2.length≤p.1.2
theorem WR {p:Hd×(List Int)} (h:PY p):p.2.length≤p.1.2:=by
  unfold PY at h
  exact h
def eN4 (p:Hd×(List Int)):List Ro:=[⟨p.1.1,(p.2.flatMap encI)⟩]
def eN6 (p:(Hd×Hd×Hd)×Ai):List Value:=[.slice p.1.1.1 p.2.place.length p.1.1.2,.slice p.1.2.1.1 p.2.done.length p.1.2.1.2,.int .i64 p.2.from_,.slice p.1.2.2.1 p.2.steps.length p.1.2.2.2]
theorem Bz (p:(Hd×Hd×Hd)×Ai):(eN6 p).length=4:=rfl
theorem Lw (p:(Hd×Hd×Hd)×Ai):one (eN6 p)=true:=rfl
def Gs (p:(Hd×Hd×Hd)×Ai):Prop:=p.2.place.length≤p.1.1.2∧p.2.done.length≤p.1.2.1.2∧p.2.steps.length≤p.1.2.2.2
theorem WK {p:(Hd×Hd×Hd)×Ai} (h:Gs p):p.2.place.length≤p.1.1.2:=by
  unfold Gs at h
  exact h.1
theorem WL {p:(Hd×Hd×Hd)×Ai} (h:Gs p):p.2.done.length≤p.1.2.1.2:=by
  unfold Gs at h
  exact h.2.1
theorem WQ {p:(Hd×Hd×Hd)×Ai} (h:Gs p):p.2.steps.length≤p.1.2.2.2:=by
  unfold Gs at h
  exact h.2.2
def eN5 (p:(Hd×Hd×Hd)×Ai):List Ro:=[⟨p.1.1.1,(p.2.place.flatMap encI)⟩,⟨p.1.2.1.1,(p.2.done.flatMap encB)⟩,⟨p.1.2.2.1,(p.2.steps.flatMap eN2)⟩]
def Ek (p:Hd×(List Ac)):List Value:=[.slice p.1.1 p.2.length p.1.2]
theorem Iq (p:Hd×(List Ac)):(Ek p).length=1:=rfl
theorem WT (p:Hd×(List Ac)):one (Ek p)=true:=rfl
def NJ (p:Hd×(List Ac)):Prop:=p.2.length≤p.1.2
theorem WS {p:Hd×(List Ac)} (h:NJ p):p.2.length≤p.1.2:=by
  unfold NJ at h
  exact h
def AW (p:Hd×(List Ac)):List Ro:=[⟨p.1.1,(p.2.flatMap eN0)⟩]

structure SD where
  Rows:List Int
  deriving Inhabited,DecidableEq
structure RR where
  Mask:Int
  Coef:Int
  deriving Inhabited,DecidableEq
structure WW where
  Qubits:Int
  Phase:Int
  Terms:List RR
  Out:SD
  deriving Inhabited,DecidableEq
structure A0 where
  bad:Bool
  deriving Inhabited,DecidableEq
end Go.VK
