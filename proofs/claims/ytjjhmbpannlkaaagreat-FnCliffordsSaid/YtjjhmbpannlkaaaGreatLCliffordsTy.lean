/- The structures, and their cells. -/
import Derived.Test.YtjjhmbpannlkaaaGreatLibP
import Derived.Test.YtjjhmbpannlkaaaGreatLibS
namespace Go.VK
open Go.RowKit
structure Aa where
  Phase:Int
  X:Int
  Z:Int
  deriving Inhabited,DecidableEq
def eN0 (x:Aa):List Value:=[.int .i64 x.Phase,.int .i64 x.X,.int .i64 x.Z]
theorem eN2 (x:Aa):(eN0 x).length=3:=rfl
theorem BR (x:Aa):one (eN0 x)=true:=rfl
structure Ae where
  Qubits:Int
  XImages:List Aa
  ZImages:List Aa
  deriving Inhabited,DecidableEq
structure Ab where
  Kind:Int
  A:Int
  B:Int
  deriving Inhabited,DecidableEq
def eN1 (x:Ab):List Value:=[.int .i64 x.Kind,.int .i64 x.A,.int .i64 x.B]
theorem eN4 (x:Ab):(eN1 x).length=3:=rfl
theorem BK (x:Ab):one (eN1 x)=true:=rfl
structure Aj where
  Qubits:Int
  Gates:List Ab
  deriving Inhabited,DecidableEq
structure Ah where
  code:List Int
  at_:Int
  seed:Int
  deriving Inhabited,DecidableEq
structure Ap where
  t:Ae
  gates:List Ab
  deriving Inhabited,DecidableEq
structure Ac where
  A:Int
  B:Int
  C:Int
  D:Int
  deriving Inhabited,DecidableEq
def DL (x:Ac):List Value:=[.int .i64 x.A,.int .i64 x.B,.int .i64 x.C,.int .i64 x.D]
theorem HY (x:Ac):(DL x).length=4:=rfl
theorem Sk (x:Ac):one (DL x)=true:=rfl
structure Ad where
  Num:Ac
  Exp:Int
  deriving Inhabited,DecidableEq
def Au (x:Ad):List Value:=[.int .i64 x.Num.A,.int .i64 x.Num.B,.int .i64 x.Num.C,.int .i64 x.Num.D,.int .i64 x.Exp]
theorem BA (x:Ad):(Au x).length=5:=rfl
theorem QT (x:Ad):one (Au x)=true:=rfl
structure Ag where
  Rows:Int
  Cols:Int
  Cells:List Ad
  deriving Inhabited,DecidableEq
structure Aq where
  t:Ae
  out:List Ab
  deriving Inhabited,DecidableEq
structure Af where
  t:Ae
  word:List Ab
  deriving Inhabited,DecidableEq
structure A7 where
  e0:Aa
  e1:Aa
  e2:Aa
  e3:Aa
  deriving Inhabited,DecidableEq
def KM (x:A7):List Value:=[.int .i64 x.e0.Phase,.int .i64 x.e0.X,.int .i64 x.e0.Z,.int .i64 x.e1.Phase,.int .i64 x.e1.X,.int .i64 x.e1.Z,.int .i64 x.e2.Phase,.int .i64 x.e2.X,.int .i64 x.e2.Z,.int .i64 x.e3.Phase,.int .i64 x.e3.X,.int .i64 x.e3.Z]
theorem TQ (x:A7):(KM x).length=12:=rfl
theorem TV (x:A7):one (KM x)=true:=rfl
def A2 (x:A7):Value:=.agg #[.int .i64 x.e0.Phase,.int .i64 x.e0.X,.int .i64 x.e0.Z,.int .i64 x.e1.Phase,.int .i64 x.e1.X,.int .i64 x.e1.Z,.int .i64 x.e2.Phase,.int .i64 x.e2.X,.int .i64 x.e2.Z,.int .i64 x.e3.Phase,.int .i64 x.e3.X,.int .i64 x.e3.Z]
def E1 (x:List Int):List Value:=[.int .i64 (x.getD 0 0),.int .i64 (x.getD 1 0),.int .i64 (x.getD 2 0),.int .i64 (x.getD 3 0)]
theorem GT (x:List Int):(E1 x).length=4:=rfl
theorem Rt (x:List Int):one (E1 x)=true:=rfl
theorem NM {x:List Int} {j y:Int} (h:getI x j=some y) (hj:j<4):(E1 x)[j.toNat*1]?=some (.int .i64 y):=by
  have h0:=getI_nn h
  have h1:=getI_some h
  have:j.toNat=0∨j.toNat=1∨j.toNat=2∨j.toNat=3:=by omega
  rcases this with e | e | e | e <;> rw [e] at h1 ⊢ <;> simp [E1,List.getD,h1]
def CE (p:Hd×(List Aa)):List Value:=[.slice p.1.1 p.2.length p.1.2]
theorem H9 (p:Hd×(List Aa)):(CE p).length=1:=rfl
theorem TS (p:Hd×(List Aa)):one (CE p)=true:=rfl
def Ml (p:Hd×(List Aa)):Prop:=p.2.length≤p.1.2
theorem TT {p:Hd×(List Aa)} (h:Ml p):p.2.length≤p.1.2:=by
  unfold Ml at h
  exact h
def AF (p:Hd×(List Aa)):List Ro:=[⟨p.1.1,(p.2.flatMap eN0)⟩]
def eN5 (p:(Hd×Hd×Hd)×Af):List Value:=[.int .i64 p.2.t.Qubits,.slice p.1.1.1 p.2.t.XImages.length p.1.1.2,.slice p.1.2.1.1 p.2.t.ZImages.length p.1.2.1.2,.slice p.1.2.2.1 p.2.word.length p.1.2.2.2]
theorem E6 (p:(Hd×Hd×Hd)×Af):(eN5 p).length=4:=rfl
theorem N9 (p:(Hd×Hd×Hd)×Af):one (eN5 p)=true:=rfl
def Bm (p:(Hd×Hd×Hd)×Af):Prop:=p.2.t.XImages.length≤p.1.1.2∧p.2.t.ZImages.length≤p.1.2.1.2∧p.2.word.length≤p.1.2.2.2
theorem TP {p:(Hd×Hd×Hd)×Af} (h:Bm p):p.2.t.XImages.length≤p.1.1.2:=by
  unfold Bm at h
  exact h.1
theorem TU {p:(Hd×Hd×Hd)×Af} (h:Bm p):p.2.t.ZImages.length≤p.1.2.1.2:=by
  unfold Bm at h
  exact h.2.1
theorem SD {p:(Hd×Hd×Hd)×Af} (h:Bm p):p.2.word.length≤p.1.2.2.2:=by
  unfold Bm at h
  exact h.2.2
def eN3 (p:(Hd×Hd×Hd)×Af):List Ro:=[⟨p.1.1.1,(p.2.t.XImages.flatMap eN0)⟩,⟨p.1.2.1.1,(p.2.t.ZImages.flatMap eN0)⟩,⟨p.1.2.2.1,(p.2.word.flatMap eN1)⟩]

structure Rw where
  Rows:List Int
  deriving Inhabited,DecidableEq
structure Nd where
  Mask:Int
  Coef:Int
  deriving Inhabited,DecidableEq
structure TR where
  Qubits:Int
  Phase:Int
  Terms:List Nd
  Out:Rw
  deriving Inhabited,DecidableEq
structure Az where
  bad:Bool
  deriving Inhabited,DecidableEq
end Go.VK
