/- The structures, and their cells. -/
import Derived.Test.YtckobcclloialaaGreatLibP
namespace Go.VK
open Go.RowKit
structure Ad where
  Rows:List Int
  deriving Inhabited,DecidableEq
structure Ab where
  Mask:Int
  Coef:Int
  deriving Inhabited,DecidableEq
def eN1 (x:Ab):List Value:=[.int .i64 x.Mask,.int .i64 x.Coef]
theorem eN3 (x:Ab):(eN1 x).length=2:=rfl
theorem BN (x:Ab):one (eN1 x)=true:=rfl
structure Ah where
  Qubits:Int
  Phase:Int
  Terms:List Ab
  Out:Ad
  deriving Inhabited,DecidableEq
structure Aa where
  Kind:Int
  A:Int
  B:Int
  deriving Inhabited,DecidableEq
def eN0 (x:Aa):List Value:=[.int .i64 x.Kind,.int .i64 x.A,.int .i64 x.B]
theorem eN2 (x:Aa):(eN0 x).length=3:=rfl
theorem Al (x:Aa):one (eN0 x)=true:=rfl
structure Ae where
  Qubits:Int
  Gates:List Aa
  deriving Inhabited,DecidableEq
structure Ac where
  code:List Int
  at_:Int
  seed:Int
  deriving Inhabited,DecidableEq
structure Ag where
  vectors:List Int
  free:Int
  target:Int
  deriving Inhabited,DecidableEq
structure Af where
  vectors:List Int
  free:List Int
  target:Int
  deriving Inhabited,DecidableEq
def Bz (p:Hd×(List Aa)):List Value:=[.slice p.1.1 p.2.length p.1.2]
theorem Gf (p:Hd×(List Aa)):(Bz p).length=1:=rfl
theorem PY (p:Hd×(List Aa)):one (Bz p)=true:=rfl
def A1 (p:Hd×(List Aa)):List Ro:=[⟨p.1.1,(p.2.flatMap eN0)⟩]
def Eg (p:Hd×(List Int)):List Value:=[.slice p.1.1 p.2.length p.1.2]
theorem Iy (p:Hd×(List Int)):(Eg p).length=1:=rfl
theorem PZ (p:Hd×(List Int)):one (Eg p)=true:=rfl
def Cq (p:Hd×(List Int)):List Ro:=[⟨p.1.1,(p.2.flatMap encI)⟩]
def Av (p:Hd×Ag):List Value:=[.slice p.1.1 p.2.vectors.length p.1.2,.int .i64 p.2.free,.int .i64 p.2.target]
theorem CE (p:Hd×Ag):(Av p).length=3:=rfl
theorem Qa (p:Hd×Ag):one (Av p)=true:=rfl
def PX (p:Hd×Ag):List Ro:=[⟨p.1.1,(p.2.vectors.flatMap encI)⟩]

end Go.VK
