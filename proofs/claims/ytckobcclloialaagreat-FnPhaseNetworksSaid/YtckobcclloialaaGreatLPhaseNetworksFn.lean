/- What each Go function computes, by program. -/
import Derived.Test.YtckobcclloialaaGreatLPhaseNetworksTy
set_option linter.unusedVariables false
namespace Go.VK
open Go.RowKit
def CR (c:Ac):Option (Int×Ac) :=
  ((bif (decide (c.at_<(c.code.length:Int))) then ((getI c.code c.at_).bind fun x =>
  some (IntKind.i64.wrap x)) else (some 0)):Option (Int)).bind fun b =>
  bif (decide ((IntKind.i64.wrap (c.at_+1))≤(c.code.length:Int))) then (some ((b,(Ac.mk c.code (IntKind.i64.wrap (c.at_+1)) (IntKind.u64.wrap ((IntKind.u64.wrap ((IntKind.u64.wrap (c.seed*6364136223846793005))+(IntKind.u64.wrap b)))+1442695040888963407)))))) else (some (((IntKind.i64.wrap (bits .and .u64 (shrK .u64 (IntKind.u64.wrap ((IntKind.u64.wrap ((IntKind.u64.wrap (c.seed*6364136223846793005))+(IntKind.u64.wrap b)))+1442695040888963407)) 40) 255)),(Ac.mk c.code (IntKind.i64.wrap (c.at_+1)) (IntKind.u64.wrap ((IntKind.u64.wrap ((IntKind.u64.wrap (c.seed*6364136223846793005))+(IntKind.u64.wrap b)))+1442695040888963407))))))

def Am (c:Ac) (n1:Int):Option (Int×Ac) :=
  bif (decide (n1≤1)) then (some ((0,c))) else ((CR c).bind fun (r_1,m1) =>
  ((bif (decide (200<n1)) then ((CR (Ac.mk c.code m1.at_ m1.seed)).bind fun (r_2,m2) =>
  some (m2.at_,m2.seed,(IntKind.i64.wrap ((IntKind.i64.wrap (r_1*256))+r_2)))) else (some (m1.at_,m1.seed,r_1))):Option (Int×Int×Int)).bind fun (at_,seed,x) =>
  chk (n1≠(0:Int)) <|
  some (((Int.tmod x n1),(Ac.mk c.code at_ seed))))

def ES (by_:List Int):Nat→(List Ab)→Option (List Ab):=fun i out =>
  (((getI by_ (i:Int)).bind fun x =>
  bif ((decide (0<(i:Int)))&&(decide (0<(Int.tmod (IntKind.i64.wrap ((Int.tmod x 8)+8)) 8)))) then (chk (out.length+1≤1099511627776) <|
  some (out++[(Ab.mk (i:Int) (Int.tmod (IntKind.i64.wrap ((Int.tmod x 8)+8)) 8))])) else (some out)):Option (List Ab)).bind fun out1 =>
  some out1
def BT (by_:List Int):Option (List Ab) :=
  chk (by_.length≤9223372036854775807) <|
  (forN (ES by_) by_.length 0 []).bind fun out =>
  some (out)

def BG (c:Ac) (n1:Int):Option (Bool×Ac) :=
  (Am c n1).bind fun (r_1,m1) =>
  some (((r_1==0),(Ac.mk c.code m1.at_ m1.seed)))

def G2:Nat→(List Int)→Option (List Int):=fun i1 Rows =>
  chk ((0:Int)≤(IntKind.u64.wrap (i1:Int))) <|
  chk (Rows.length+1≤1099511627776) <|
  some (Rows++[(shlK .i64 1 (IntKind.u64.wrap (i1:Int)))])
def AQ (n:Int):Option (Ad) :=
  chk (n.toNat≤9223372036854775807) <|
  (forN G2 n.toNat 0 []).bind fun Rows =>
  some ((Ad.mk Rows))

def AA (l:List Int):Option (List Int) :=
  chk (0+l.length≤1099511627776) <|
  some (l)

def A9 (m:Ad) (a:Int) (b:Int):Option (Ad) :=
  (AA m.Rows).bind fun r_1 =>
  (getI r_1 b).bind fun x =>
  (getI r_1 a).bind fun x1 =>
  some ((Ad.mk (r_1.set b.toNat (bits .xor .i64 x x1))))

def Ff (n1:Int) (c:Ac):(Int×Int×List Int×Int)→Option (Ex (Int×Int×List Int×Int) (Ad×Ac)):=fun (at_,seed,Rows,k_) =>
  bif ((decide (0<k_))&&(decide (1<n1))) then ((Am (Ac.mk c.code at_ seed) n1).bind fun (r_3,m2) =>
  (Am (Ac.mk c.code m2.at_ m2.seed) (IntKind.i64.wrap (n1-1))).bind fun (r_4,m3) =>
  chk (n1≠(0:Int)) <|
  (A9 (Ad.mk Rows) r_3 (Int.tmod (IntKind.i64.wrap ((IntKind.i64.wrap (r_3+1))+r_4)) n1)).bind fun r_5 =>
  some (.nx (m3.at_,m3.seed,r_5.Rows,(IntKind.i64.wrap (k_-1))))) else (some (.br (at_,seed,Rows,k_)))
def CS (c:Ac) (n1:Int):Option (Ad×Ac) :=
  (AQ n1).bind fun r_1 =>
  (Am c 8).bind fun (r_2,m1) =>
  (whX (Ff n1 c) fuel (m1.at_,m1.seed,r_1.Rows,r_2)).bind<|orR fun (at_,seed,Rows,k_) =>
  some (((Ad.mk Rows),(Ac.mk c.code at_ seed)))

def DX (c:Ac):Nat→(Int×Int×List Int)→Option (Int×Int×List Int):=fun i (at_2,seed2,by_2) =>
  (Am (Ac.mk c.code at_2 seed2) 8).bind fun (r_5,m5) =>
  (getI by_2 (i:Int)).bind fun x1 =>
  some (m5.at_,m5.seed,(by_2.set (i:Int).toNat r_5))
def Fu (c:Ac) (n1:Int):(Int×Int×List Int×Int)→Option (Ex (Int×Int×List Int×Int) (Ah×Ac)):=fun (at_,seed,by_,k_) =>
  bif (decide (0<k_)) then ((Am (Ac.mk c.code at_ seed) ((shlK .i64 1 (IntKind.u64.wrap n1)).toNat:Int)).bind fun (r_2,m2) =>
  (Am (Ac.mk c.code m2.at_ m2.seed) 8).bind fun (r_3,m3) =>
  (getI by_ r_2).bind fun x =>
  some (.nx (m3.at_,m3.seed,(by_.set r_2.toNat r_3),(IntKind.i64.wrap (k_-1))))) else (some (.br (at_,seed,by_,k_)))
def Ej (c:Ac) (n1:Int):Option (Ah×Ac) :=
  chk ((0:Int)≤(IntKind.u64.wrap n1)) <|
  chk ((0:Int)≤(shlK .i64 1 (IntKind.u64.wrap n1))∧(shlK .i64 1 (IntKind.u64.wrap n1))≤1099511627776) <|
  (Am c 6).bind fun (r_1,m1) =>
  (whX (Fu c n1) fuel (m1.at_,m1.seed,(List.replicate ((shlK .i64 1 (IntKind.u64.wrap n1)).toNat) 0),r_1)).bind<|orR fun (at_,seed,by_,k_) =>
  (((BG (Ac.mk c.code at_ seed) 6).bind fun (r_4,m4) =>
  bif r_4 then (chk (((shlK .i64 1 (IntKind.u64.wrap n1)).toNat)≤9223372036854775807) <|
  (forN (DX c) ((shlK .i64 1 (IntKind.u64.wrap n1)).toNat) 0 (m4.at_,m4.seed,by_)).bind fun (at_2,seed2,by_2) =>
  some (at_2,seed2,by_2)) else (some (m4.at_,m4.seed,by_))):Option (Int×Int×List Int)).bind fun (at_1,seed1,by_1) =>
  (Am (Ac.mk c.code at_1 seed1) 8).bind fun (r_6,m6) =>
  (BT by_1).bind fun r_7 =>
  (CS (Ac.mk c.code m6.at_ m6.seed) n1).bind fun (r_8,m7) =>
  some (((Ah.mk n1 r_6 r_7 r_8),(Ac.mk c.code m7.at_ m7.seed)))

def Bl (c:Ac) (list:List Int):Option (Int×Ac) :=
  (Am c (list.length:Int)).bind fun (r_1,m1) =>
  (getI list r_1).bind fun x =>
  some ((x,(Ac.mk c.code m1.at_ m1.seed)))

def Dy (c:Ac):Option (Ad×Ac) :=
  (Am c 5).bind fun (r_1,m1) =>
  (CS (Ac.mk c.code m1.at_ m1.seed) (IntKind.i64.wrap (1+r_1))).bind fun (r_2,m2) =>
  (((Am (Ac.mk c.code m2.at_ m2.seed) 12).bind fun (r_3,m3) =>
  bif (r_3==0) then ((Bl (Ac.mk c.code m3.at_ m3.seed) [(-1),0,31,32,3]).bind fun (r_4,m4) =>
  (getI r_2.Rows 0).bind fun x =>
  some (m4.at_,m4.seed,(r_2.Rows.set (0:Int).toNat r_4))) else (bif (r_3==1) then ((Am (Ac.mk c.code m3.at_ m3.seed) 70).bind fun (r_5,m5) =>
  chk (r_2.Rows.length+1≤1099511627776) <|
  some (m5.at_,m5.seed,(r_2.Rows++[r_5]))) else (bif (r_3==2) then (chk ((0:Int)≤1∧1≤(r_2.Rows.length:Int)) <|
  some (m3.at_,m3.seed,(List.drop 1 r_2.Rows))) else (some (m3.at_,m3.seed,r_2.Rows))))):Option (Int×Int×List Int)).bind fun (at_,seed,Rows) =>
  some (((Ad.mk Rows),(Ac.mk c.code at_ seed)))

def Dv (c:Ac):Option (Ah×Ac) :=
  (Am c 5).bind fun (r_1,m1) =>
  (Ej (Ac.mk c.code m1.at_ m1.seed) (IntKind.i64.wrap (1+r_1))).bind fun (r_2,m2) =>
  (((Am (Ac.mk c.code m2.at_ m2.seed) 16).bind fun (r_3,m3) =>
  bif (r_3==0) then ((Bl (Ac.mk c.code m3.at_ m3.seed) [(-1),8,0]).bind fun (r_4,m4) =>
  some (m4.at_,m4.seed,r_2.Qubits,r_4,r_2.Terms,r_2.Out.Rows)) else (bif (r_3==1) then ((Am (Ac.mk c.code m3.at_ m3.seed) 33).bind fun (r_5,m5) =>
  (Am (Ac.mk c.code m5.at_ m5.seed) 9).bind fun (r_6,m6) =>
  chk (r_2.Terms.length+1≤1099511627776) <|
  some (m6.at_,m6.seed,r_2.Qubits,r_2.Phase,(r_2.Terms++[(Ab.mk r_5 r_6)]),r_2.Out.Rows)) else (bif (r_3==2) then ((Dy (Ac.mk c.code m3.at_ m3.seed)).bind fun (r_7,m7) =>
  some (m7.at_,m7.seed,r_2.Qubits,r_2.Phase,r_2.Terms,r_7.Rows)) else (bif (r_3==3) then ((Am (Ac.mk c.code m3.at_ m3.seed) 7).bind fun (r_8,m8) =>
  some (m8.at_,m8.seed,r_8,r_2.Phase,r_2.Terms,r_2.Out.Rows)) else (some (m3.at_,m3.seed,r_2.Qubits,r_2.Phase,r_2.Terms,r_2.Out.Rows)))))):Option (Int×Int×Int×Int×List Ab×List Int)).bind fun (at_,seed,Qubits,Phase,Terms,Out) =>
  some (((Ah.mk Qubits Phase Terms (Ad.mk Out)),(Ac.mk c.code at_ seed)))

def Fs (code:List Int):Option (Ah) :=
  (Dv (Ac.mk code 0 0)).bind fun (r_1,m) =>
  some (r_1)

def Dd (code:List Int):Option (Ah) :=
  (Fs code).bind fun r_1 =>
  some (r_1)

def A2 (n:Int) (low:Int) (high:Int):Option (Bool) :=
  some (((decide (low≤n))&&(decide (n≤high))))

def Cn (terms:List Ab) (n:Int):Nat→Unit→Option (Ex (Unit) (Bool)):=fun i _ =>
  (getI terms (i:Int)).bind fun x =>
  chk ((0:Int)≤n) <|
  (A2 x.Mask 1 (IntKind.i64.wrap ((shlK .i64 1 n)-1))).bind fun r_1 =>
  (gb (!(!r_1)) false (A2 x.Coef 1 7)).bind fun r_2 =>
  (gb ((!((!r_1)||(!r_2)))&&(decide (0<(i:Int)))) (Ab.mk 0 0) (getI terms (IntKind.i64.wrap ((i:Int)-1)))).bind fun x1 =>
  bif (((!r_1)||(!r_2))||((decide (0<(i:Int)))&&(decide (x.Mask≤x1.Mask)))) then (some (.rt false)) else (some (.nx ()))
def Cb (n:Int) (terms:List Ab):Option (Bool) :=
  chk (terms.length≤9223372036854775807) <|
  (forX (Cn terms n) terms.length 0 ()).bind<|orR fun _ =>
  some (true)

def C0 (s:List Int) (f_:Int→Option (Bool)):Nat→Unit→Option (Ex (Unit) (Int)):=fun i _ =>
  (getI s (i:Int)).bind fun x1 =>
  (f_ x1).bind fun r_1 =>
  bif r_1 then (some (.rt (i:Int))) else (some (.nx ()))
def BL (s:List Int) (f_:Int→Option (Bool)):Option (Int) :=
  chk (s.length≤9223372036854775807) <|
  (forX (C0 s f_) s.length 0 ()).bind<|orR fun _ =>
  some ((-1))

def CK (s:List Int) (f_:Int→Option (Bool)):Option (Bool) :=
  (BL s f_).bind fun r_1 =>
  some ((decide (0≤r_1)))

def Db (row:Int) (p:Int):Option (Bool) :=
  chk ((0:Int)≤p) <|
  (A2 row 0 (IntKind.i64.wrap ((shlK .i64 1 p)-1))).bind fun r_1 =>
  some ((!r_1))

def AL (s:List Int):Option (List Int) :=
  chk (0+s.length≤1099511627776) <|
  some (s)

def BW (row:Int) (p:Int):Option (Bool) :=
  chk ((0:Int)≤p) <|
  some (((bits .and .i64 (shrK .i64 row p) 1)==1))

def Ce (s:List Int) (i:Int) (j:Int):Option (List Int) :=
  chk ((0:Int)≤i∧i≤j∧j≤(s.length:Int)) <|
  bif (i==j) then (some (s)) else (chk (i.toNat≤j.toNat) <|
  some ((List.take i.toNat s++List.drop j.toNat s)))

def D9 (i:Nat) (x:Int):Nat→(List Int)→Option (List Int):=fun i1 left2 =>
  (((getI left2 (i1:Int)).bind fun x1 =>
  chk ((0:Int)≤(i:Int)) <|
  bif ((bits .and .i64 (shrK .i64 x1 (i:Int)) 1)==1) then (some (left2.set (i1:Int).toNat (bits .xor .i64 x1 x))) else (some left2)):Option (List Int)).bind fun left3 =>
  some left3
def BM:Nat→(List Int×Int)→Option (List Int×Int):=fun i (left,rank) =>
  (((BL left (fun x_0=>BW x_0 (i:Int))).bind fun r_2 =>
  bif (decide (r_2<0)) then (some (left,rank)) else ((getI left r_2).bind fun x =>
  (Ce left r_2 (IntKind.i64.wrap (r_2+1))).bind fun r_3 =>
  chk (r_3.length≤9223372036854775807) <|
  (forN (D9 i x) r_3.length 0 r_3).bind fun left2 =>
  some (left2,(IntKind.i64.wrap (rank+1))))):Option (List Int×Int)).bind fun (left1,rank1) =>
  some (left1,rank1)
def Cr (rows:List Int):Option (Int) :=
  (AL rows).bind fun r_1 =>
  (forN BM 10 0 (r_1,0)).bind fun (left,rank) =>
  some (rank)

def AO (m:Ad):Option (Bool) :=
  (A2 (m.Rows.length:Int) 1 5).bind fun r_1 =>
  (gb r_1 false (CK m.Rows (fun x_0=>Db x_0 (m.Rows.length:Int)))).bind fun r_2 =>
  (gb (r_1&&(!r_2)) 0 (Cr m.Rows)).bind fun r_3 =>
  some (((r_1&&(!r_2))&&(r_3==(m.Rows.length:Int))))

def AD (p:Ah):Option (Bool) :=
  (A2 p.Qubits 1 5).bind fun r_1 =>
  (gb r_1 false (A2 p.Phase 0 7)).bind fun r_2 =>
  (gb (r_1&&r_2) false (Cb p.Qubits p.Terms)).bind fun r_3 =>
  (gb (((r_1&&r_2)&&r_3)&&((p.Out.Rows.length:Int)==p.Qubits)) false (AO p.Out)).bind fun r_4 =>
  some (((((r_1&&r_2)&&r_3)&&((p.Out.Rows.length:Int)==p.Qubits))&&r_4))

def Ei (v_:Int) (p:Int):Option (Bool) :=
  chk ((0:Int)≤p) <|
  some (((bits .and .i64 (shrK .i64 v_ p) 1)==0))

def Eo (vectors:List Int) (j:Int):Option (Bool) :=
  (CK vectors (fun x_0=>Ei x_0 j)).bind fun r_1 =>
  some ((!r_1))

def E8 (vectors:List Int) (j:Int):Nat→(List Int×List Int)→Option (List Int×List Int):=fun i (set_,bare) =>
  (((getI vectors (i:Int)).bind fun x =>
  chk ((0:Int)≤j) <|
  bif ((bits .and .i64 (shrK .i64 x j) 1)==1) then (chk (set_.length+1≤1099511627776) <|
  some ((set_++[x]),bare)) else (chk (bare.length+1≤1099511627776) <|
  some (set_,(bare++[x])))):Option (List Int×List Int)).bind fun (set_1,bare1) =>
  some (set_1,bare1)
def Ck (vectors:List Int) (j:Int):Option (List Int×List Int) :=
  chk (vectors.length≤9223372036854775807) <|
  (forN (E8 vectors j) vectors.length 0 ([],[])).bind fun (set_,bare) =>
  some ((set_,bare))

def F2 (task:Ag):Nat→(Int×Int)→Option (Int×Int):=fun i (best,most) =>
  ((chk ((0:Int)≤(i:Int)) <|
  bif ((bits .and .i64 (shrK .i64 task.free (i:Int)) 1)==0) then (some (best,most)) else ((Ck task.vectors (i:Int)).bind fun (r_1,r_2) =>
  bif (decide (most<(if (r_1.length:Int)<(r_2.length:Int) then (r_2.length:Int) else (r_1.length:Int)))) then (some ((i:Int),(if (r_1.length:Int)<(r_2.length:Int) then (r_2.length:Int) else (r_1.length:Int)))) else (some (best,most)))):Option (Int×Int)).bind fun (best1,most1) =>
  some (best1,most1)
def CY (task:Ag):Option (Int) :=
  (forN (F2 task) 5 0 ((-1),(-1))).bind fun (best,most) =>
  some (best)

def D8 (t:Int) (j:Int):Nat→(List Int)→Option (List Int):=fun i m1 =>
  (getI m1 (i:Int)).bind fun x =>
  chk ((0:Int)≤t) <|
  bif ((bits .and .i64 (shrK .i64 x t) 1)==1) then (chk ((0:Int)≤j) <|
  some (m1.set (i:Int).toNat (bits .xor .i64 x (shlK .i64 1 j)))) else (some m1)
def Ez (t:Int) (j:Int):Nat→(List Ag)→Option (List Ag):=fun i ts =>
  (getI ts (i:Int)).bind fun x =>
  chk (x.vectors.length≤9223372036854775807) <|
  (forN (D8 t j) x.vectors.length 0 x.vectors).bind fun vs =>
  some (ts.set i (Ag.mk vs x.free x.target))
def Fp (tasks:List Ag) (j:Int) (t:Int):Option (List Ag) :=
  chk (tasks.length≤9223372036854775807) <|
  (forN (Ez t j) tasks.length 0 tasks).bind fun ts =>
  some (ts)
def Bt (n:Int) (tg:Int) (last:Int) (m:Nat):(List Aa×List Ag×Int)→Option (Ex (List Aa×List Ag×Int) (Ex (List Aa×List Ag) (List Aa))):=fun (out,ts,j) =>
  bif (decide (j<n))&&(decide (0≤tg)) then
    ((gb (j != tg) false ((getI ts last).bind fun x=>chk (x.vectors.length=m)<|Eo x.vectors j)).bind fun r =>
    ((bif (j != tg)&&r then (chk (out.length+1≤1099511627776) <|
    (Fp ts j tg).bind fun ts1=>some (out++[Aa.mk 9 j tg],ts1)) else (some (out,ts))):Option (List Aa×List Ag)).bind fun (out1,ts1) =>
    some (.nx (out1,ts1,IntKind.i64.wrap (j+1)))) else (some (.br (out,ts,j)))
def CQ (n:Int):(List Aa×List Ag)→Option (Ex (List Aa×List Ag) (List Aa)):=fun (out,ts) =>
  bif decide (0<(ts.length:Int)) then
    ((getI ts (IntKind.i64.wrap ((ts.length:Int)-1))).bind fun x =>
    chk ((0:Int)≤IntKind.i64.wrap ((ts.length:Int)-1)∧IntKind.i64.wrap ((ts.length:Int)-1)≤(ts.length:Int)) <|
    bif ((x.vectors.length:Int)==0) then (some (.nx (out,ts.take (IntKind.i64.wrap ((ts.length:Int)-1)).toNat)))
    else ((whX (Bt n x.target (IntKind.i64.wrap ((ts.length:Int)-1)) x.vectors.length) fuel (out,ts,0)).bind<|orR fun (out1,ts1,j) =>
    chk (ts1.length=ts.length) <|
    (getI ts1 (IntKind.i64.wrap ((ts.length:Int)-1))).bind fun x1 =>
    chk (x1.vectors.length=x.vectors.length) <|
    (CY (Ag.mk x1.vectors x.free x.target)).bind fun b =>
    bif decide (b<0) then (some (.nx (out1,ts1.take (IntKind.i64.wrap ((ts.length:Int)-1)).toNat))) else
    ((Ck x1.vectors b).bind fun (s1,s2) =>
    chk ((0:Int)≤b) <|
    chk (ts.length+2≤1099511627776) <|
    some (.nx (out1,ts1.take (IntKind.i64.wrap ((ts.length:Int)-1)).toNat++[Ag.mk s1 (bits .andNot .i64 x.free (shlK .i64 1 b)) (bif decide (x.target<0) then b else x.target),Ag.mk s2 (bits .andNot .i64 x.free (shlK .i64 1 b)) x.target])))))
  else (some (.br (out,ts)))
def CC (n:Int) (masks:List Int):Option (List Aa) :=
  (AL masks).bind fun r_1 =>
  chk ((0:Int)≤n) <|
  (whX (CQ n) fuel ([],[Ag.mk r_1 (IntKind.i64.wrap ((shlK .i64 1 n)-1)) (-1)])).bind<|orR fun (out,ts) =>
  some (out)

def EI (terms:List Ab):Nat→(List Int)→Option (List Int):=fun i out =>
  (getI terms (i:Int)).bind fun x =>
  chk (out.length+1≤1099511627776) <|
  some (out++[x.Mask])
def Dh (terms:List Ab):Option (List Int) :=
  chk (terms.length≤9223372036854775807) <|
  (forN (EI terms) terms.length 0 []).bind fun out =>
  some (out)

def Dk (s:List Aa) (f_:Aa→Option (Bool)):Nat→Unit→Option (Ex (Unit) (Int)):=fun i _ =>
  (getI s (i:Int)).bind fun x1 =>
  (f_ x1).bind fun r_1 =>
  bif r_1 then (some (.rt (i:Int))) else (some (.nx ()))
def D5 (s:List Aa) (f_:Aa→Option (Bool)):Option (Int) :=
  chk (s.length≤9223372036854775807) <|
  (forX (Dk s f_) s.length 0 ()).bind<|orR fun _ =>
  some ((-1))

def BJ (s:List Aa) (f_:Aa→Option (Bool)):Option (Bool) :=
  (D5 s f_).bind fun r_1 =>
  some ((decide (0≤r_1)))

def Fc (kind:Int):Option (Bool) :=
  (A2 kind 9 11).bind fun r_1 =>
  some (r_1)

def DZ (n:Int) (g:Aa):Option (Bool) :=
  (A2 n 1 5).bind fun r_1 =>
  (gb (!(!r_1)) false (A2 g.Kind 1 12)).bind fun r_2 =>
  bif ((!r_1)||(!r_2)) then (some (false)) else (bif (g.Kind==12) then (some (((g.A==0)&&(g.B==0)))) else ((Fc g.Kind).bind fun r_3 =>
  bif r_3 then ((A2 g.A 0 (IntKind.i64.wrap (n-1))).bind fun r_4 =>
  (gb r_4 false (A2 g.B 0 (IntKind.i64.wrap (n-1)))).bind fun r_5 =>
  some (((r_4&&r_5)&&(g.A != g.B)))) else ((A2 g.A 0 (IntKind.i64.wrap (n-1))).bind fun r_6 =>
  some ((r_6&&(g.B==0))))))

def CB (g:Aa) (p:Ae):Option (Bool) :=
  (DZ p.Qubits g).bind fun r_1 =>
  some ((!r_1))

def AW (c:Ae):Option (Bool) :=
  (A2 c.Qubits 1 5).bind fun r_1 =>
  (gb (r_1&&(decide ((c.Gates.length:Int)≤400))) false (BJ c.Gates (fun x_0=>CB x_0 c))).bind fun r_2 =>
  some (((r_1&&(decide ((c.Gates.length:Int)≤400)))&&(!r_2)))

def GX:Nat→(List Int)→Option (List Int):=fun i Rows =>
  chk ((0:Int)≤(i:Int)) <|
  chk (Rows.length+1≤1099511627776) <|
  some (Rows++[(shlK .i64 1 (i:Int))])
def Bu (n:Int):Option (Ad) :=
  chk (n.toNat≤9223372036854775807) <|
  (forN GX n.toNat 0 []).bind fun Rows =>
  some ((Ad.mk Rows))

def E3 (m:Ad) (a:Int) (b:Int):Option (Ad) :=
  (AL m.Rows).bind fun r_1 =>
  (getI r_1 b).bind fun x =>
  (getI r_1 a).bind fun x1 =>
  some ((Ad.mk (r_1.set b.toNat (bits .xor .i64 x x1))))

def Cm (c:Ae):Nat→(List Int)→Option (Ex (List Int) (Ad×Bool)):=fun i Rows =>
  (((getI c.Gates (i:Int)).bind fun x =>
  bif (x.Kind==9) then ((E3 (Ad.mk Rows) x.A x.B).bind fun r_4 =>
  some (.inl r_4.Rows)) else (bif (x.Kind==11) then ((getI Rows x.B).bind fun x1 =>
  (getI Rows x.A).bind fun x2 =>
  (getI (Rows.set x.A.toNat x1) x.B).bind fun x3 =>
  some (.inl ((Rows.set x.A.toNat x1).set x.B.toNat x2))) else (some (.inr (.rt ((Ad.mk []),false)))))):Option ((List Int) ⊕ (Ex (List Int) (Ad×Bool)))).bind<|orR fun Rows1 =>
  some (.nx Rows1)
def Ea (c:Ae):Option (Ad×Bool) :=
  (AW c).bind fun r_2 =>
  bif (!r_2) then (some (((Ad.mk []),false))) else ((Bu c.Qubits).bind fun r_3 =>
  chk (c.Gates.length≤9223372036854775807) <|
  (forX (Cm c) c.Gates.length 0 r_3.Rows).bind<|orR fun Rows =>
  some (((Ad.mk Rows),true)))

def DL (m:Ad) (mask:Int):Nat→Int→Option (Int):=fun i out =>
  (((getI m.Rows (i:Int)).bind fun x =>
  chk ((0:Int)≤(i:Int)) <|
  bif ((bits .and .i64 (shrK .i64 mask (i:Int)) 1)==1) then (some (bits .xor .i64 out x)) else (some out)):Option (Int)).bind fun out1 =>
  some out1
def Ed (m:Ad) (mask:Int):Option (Int) :=
  chk (m.Rows.length≤9223372036854775807) <|
  (forN (DL m mask) m.Rows.length 0 0).bind fun out =>
  some (out)

def DN (second:Ad) (first:Ad):(List Int×Int)→Option (Ex (List Int×Int) (Ad×Bool)):=fun (Rows,t) =>
  bif (decide (t<(second.Rows.length:Int))) then ((getI second.Rows t).bind fun x =>
  (Ed first x).bind fun r_4 =>
  chk (Rows.length+1≤1099511627776) <|
  some (.nx ((Rows++[r_4]),(IntKind.i64.wrap (t+1))))) else (some (.br (Rows,t)))
def DD (first:Ad) (second:Ad):Option (Ad×Bool) :=
  (AO first).bind fun r_2 =>
  (gb (!(!r_2)) false (AO second)).bind fun r_3 =>
  bif (((!r_2)||(!r_3))||((first.Rows.length:Int) != (second.Rows.length:Int))) then (some (((Ad.mk []),false))) else ((whX (DN second first) fuel ([],0)).bind<|orR fun (Rows,t) =>
  some (((Ad.mk Rows),true)))

def Ds (from_:Int) (to_:Int) (p:List Int) (p1:List Aa):Option (List Int×List Aa) :=
  (getI p to_).bind fun x =>
  (getI p from_).bind fun x1 =>
  chk (p1.length+1≤1099511627776) <|
  some (((p.set to_.toNat (bits .xor .i64 x x1)),(p1++[(Aa.mk 9 from_ to_)])))

def BQ (i:Nat):Nat→(List Int×List Aa)→Option (List Int×List Aa):=fun i2 (rows3,out3) =>
  (((gb ((i2:Int) != (i:Int)) 0 (getI rows3 (i2:Int))).bind fun x2 =>
  chk (((i2:Int) != (i:Int))=true→(0:Int)≤(i:Int)) <|
  bif (((i2:Int) != (i:Int))&&((bits .and .i64 (shrK .i64 x2 (i:Int)) 1)==1)) then ((Ds (i:Int) (i2:Int) rows3 out3).bind fun (m3,m4) =>
  some (m3,m4)) else (some (rows3,out3))):Option (List Int×List Aa)).bind fun (rows4,out4) =>
  some (rows4,out4)
def Bb (r_1:List Int) (i:Nat):(List Int×List Aa×Int)→Option (Ex (List Int×List Aa×Int) (List Int×List Aa)):=fun (rows1,out1,i1) =>
  (gb (decide (i1<(r_1.length:Int))) 0 (getI rows1 (i:Int))).bind fun x =>
  chk ((decide (i1<(r_1.length:Int)))=true→(0:Int)≤(i:Int)) <|
  bif ((decide (i1<(r_1.length:Int)))&&((bits .and .i64 (shrK .i64 x (i:Int)) 1)==0)) then ((((getI rows1 i1).bind fun x1 =>
  chk ((0:Int)≤(i:Int)) <|
  bif ((bits .and .i64 (shrK .i64 x1 (i:Int)) 1)==1) then ((Ds i1 (i:Int) rows1 out1).bind fun (m1,m2) =>
  some (m1,m2)) else (some (rows1,out1))):Option (List Int×List Aa)).bind fun (rows2,out2) =>
  some (.nx (rows2,out2,(IntKind.i64.wrap (i1+1))))) else (some (.br (rows1,out1,i1)))
def BK (r_1:List Int):Nat→(List Int×List Aa)→Option (List Int×List Aa):=fun i (rows,out) =>
  (whX (Bb r_1 i) fuel (rows,out,(IntKind.i64.wrap ((i:Int)+1)))).bind<|orR fun (rows1,out1,i1) =>
  chk (r_1.length≤9223372036854775807) <|
  (forN (BQ i) r_1.length 0 (rows1,out1)).bind fun (rows3,out3) =>
  some (rows3,out3)
def BP (m:Ad):Option (List Aa) :=
  (AL m.Rows).bind fun r_1 =>
  chk (r_1.length≤9223372036854775807) <|
  (forN (BK r_1) r_1.length 0 (r_1,[])).bind fun (rows,out) =>
  some (out)

def CD (r_2:List Aa):Nat→(List Int)→Option (List Int):=fun i Rows =>
  (getI r_2 (i:Int)).bind fun x =>
  (getI Rows x.B).bind fun x1 =>
  (getI Rows x.A).bind fun x2 =>
  some (Rows.set x.B.toNat (bits .xor .i64 x1 x2))
def Cp (m:Ad):Option (Ad) :=
  (Bu (m.Rows.length:Int)).bind fun r_1 =>
  (BP m).bind fun r_2 =>
  chk (r_2.length≤9223372036854775807) <|
  (forN (CD r_2) r_2.length 0 r_1.Rows).bind fun Rows =>
  some ((Ad.mk Rows))

def F0 (s:List Ab):Option (List Ab) :=
  chk (0+s.length≤1099511627776) <|
  some (s)

def Fl (s:List Ab) (f_:Ab→Option (Bool)):Nat→Unit→Option (Ex (Unit) (Int)):=fun i _ =>
  (getI s (i:Int)).bind fun x1 =>
  (f_ x1).bind fun r_1 =>
  bif r_1 then (some (.rt (i:Int))) else (some (.nx ()))
def CP (s:List Ab) (f_:Ab→Option (Bool)):Option (Int) :=
  chk (s.length≤9223372036854775807) <|
  (forX (Fl s f_) s.length 0 ()).bind<|orR fun _ =>
  some ((-1))

def C6 (t:Ab) (p:List Int) (p1:Int):Option (Bool) :=
  (getI p p1).bind fun x =>
  some ((t.Mask==x))

def Gw (q:Int):Nat→(List Aa)→Option (List Aa):=fun i out =>
  (getI [] (i:Int)).bind fun x =>
  chk (out.length+1≤1099511627776) <|
  some (out++[(Aa.mk x q 0)])
def GC (q:Int):Nat→(List Aa)→Option (List Aa):=fun i1 out1 =>
  (getI [7] (i1:Int)).bind fun x1 =>
  chk (out1.length+1≤1099511627776) <|
  some (out1++[(Aa.mk x1 q 0)])
def GR (q:Int):Nat→(List Aa)→Option (List Aa):=fun i2 out2 =>
  (getI [5] (i2:Int)).bind fun x2 =>
  chk (out2.length+1≤1099511627776) <|
  some (out2++[(Aa.mk x2 q 0)])
def G7 (q:Int):Nat→(List Aa)→Option (List Aa):=fun i3 out3 =>
  (getI [5,7] (i3:Int)).bind fun x3 =>
  chk (out3.length+1≤1099511627776) <|
  some (out3++[(Aa.mk x3 q 0)])
def Hh (q:Int):Nat→(List Aa)→Option (List Aa):=fun i4 out4 =>
  (getI [4] (i4:Int)).bind fun x4 =>
  chk (out4.length+1≤1099511627776) <|
  some (out4++[(Aa.mk x4 q 0)])
def He (q:Int):Nat→(List Aa)→Option (List Aa):=fun i5 out5 =>
  (getI [4,7] (i5:Int)).bind fun x5 =>
  chk (out5.length+1≤1099511627776) <|
  some (out5++[(Aa.mk x5 q 0)])
def GH (q:Int):Nat→(List Aa)→Option (List Aa):=fun i6 out6 =>
  (getI [6] (i6:Int)).bind fun x6 =>
  chk (out6.length+1≤1099511627776) <|
  some (out6++[(Aa.mk x6 q 0)])
def Gt (q:Int):Nat→(List Aa)→Option (List Aa):=fun i7 out7 =>
  (getI [8] (i7:Int)).bind fun x7 =>
  chk (out7.length+1≤1099511627776) <|
  some (out7++[(Aa.mk x7 q 0)])
def Dg (q:Int) (coef:Int):Option (List Aa) :=
  bif (coef==0) then ((forN (Gw q) 0 0 []).bind fun out =>
  some (out)) else (bif (coef==1) then ((forN (GC q) 1 0 []).bind fun out1 =>
  some (out1)) else (bif (coef==2) then ((forN (GR q) 1 0 []).bind fun out2 =>
  some (out2)) else (bif (coef==3) then ((forN (G7 q) 2 0 []).bind fun out3 =>
  some (out3)) else (bif (coef==4) then ((forN (Hh q) 1 0 []).bind fun out4 =>
  some (out4)) else (bif (coef==5) then ((forN (He q) 2 0 []).bind fun out5 =>
  some (out5)) else (bif (coef==6) then ((forN (GH q) 1 0 []).bind fun out6 =>
  some (out6)) else (bif (coef==7) then ((forN (Gt q) 1 0 []).bind fun out7 =>
  some (out7)) else (none))))))))

def F1 (s:List Ab) (i:Int) (j:Int):Option (List Ab) :=
  chk ((0:Int)≤i∧i≤j∧j≤(s.length:Int)) <|
  bif (i==j) then (some (s)) else (chk (i.toNat≤j.toNat) <|
  some ((List.take i.toNat s++List.drop j.toNat s)))

def Cz (q:Int) (p:List Ab) (p1:List Int) (p2:List Aa):Option (List Ab×List Aa) :=
  (CP p (fun x_0=>C6 x_0 p1 q)).bind fun r_ =>
  bif (decide (0≤r_)) then ((getI p r_).bind fun x =>
  (Dg q x.Coef).bind fun r_1 =>
  chk (p2.length+r_1.length≤1099511627776) <|
  (F1 p r_ (IntKind.i64.wrap (r_+1))).bind fun r_2 =>
  some ((r_2,(p2++r_1)))) else (some ((p,p2)))

def Dj (gates:List Aa):Nat→(List Int×List Ab×List Aa)→Option (List Int×List Ab×List Aa):=fun i1 (rows,left1,out1) =>
  (getI gates (i1:Int)).bind fun x =>
  (getI rows x.B).bind fun x1 =>
  (getI rows x.A).bind fun x2 =>
  chk (out1.length+1≤1099511627776) <|
  (Cz x.B left1 (rows.set x.B.toNat (bits .xor .i64 x1 x2)) (out1++[x])).bind fun (m2,m3) =>
  some ((rows.set x.B.toNat (bits .xor .i64 x1 x2)),m2,m3)
def Fw (r_2:Ad):Nat→(List Ab×List Aa)→Option (List Ab×List Aa):=fun i (left,out) =>
  (Cz (i:Int) left r_2.Rows out).bind fun (m,m1) =>
  some (m,m1)
def Cd (n:Int) (gates:List Aa) (terms:List Ab):Option (List Aa×Bool) :=
  (Bu n).bind fun r_2 =>
  (F0 terms).bind fun r_3 =>
  chk (n.toNat≤9223372036854775807) <|
  (forN (Fw r_2) n.toNat 0 (r_3,[])).bind fun (left,out) =>
  chk (gates.length≤9223372036854775807) <|
  (forN (Dj gates) gates.length 0 (r_2.Rows,left,out)).bind fun (rows,left1,out1) =>
  some ((out1,((left1.length:Int)==0)))

def Ct (slices:List (List Aa)):Nat→(List Aa)→Option (List Aa):=fun i1 newslice =>
  (getI slices (i1:Int)).bind fun x1 =>
  chk (newslice.length+x1.length≤1099511627776) <|
  some (newslice++x1)
def BZ (slices:List (List Aa)):Nat→Int→Option (Int):=fun i size =>
  (getI slices (i:Int)).bind fun x =>
  bif (decide ((IntKind.i64.wrap (size+(x.length:Int)))<0)) then (none) else (some (IntKind.i64.wrap (size+(x.length:Int))))
def Eq (slices:List (List Aa)):Option (List Aa) :=
  chk (slices.length≤9223372036854775807) <|
  (forN (BZ slices) slices.length 0 0).bind fun size =>
  chk ((0:Int)≤size∧size≤1099511627776) <|
  chk (slices.length≤9223372036854775807) <|
  (forN (Ct slices) slices.length 0 ([]:List Aa)).bind fun newslice =>
  some (newslice)

def ED:(List Aa×Int×Int)→Option (Ex (List Aa×Int×Int) (List Aa)):=fun (m1,i,j) =>
  bif (decide (i<j)) then ((getI m1 j).bind fun x =>
  (getI m1 i).bind fun x1 =>
  (getI (m1.set i.toNat x) j).bind fun x2 =>
  some (.nx (((m1.set i.toNat x).set j.toNat x1),(IntKind.i64.wrap (i+1)),(IntKind.i64.wrap (j-1))))) else (some (.br (m1,i,j)))
def Eb (s:List Aa):Option (List Aa) :=
  (whX ED fuel (s,0,(IntKind.i64.wrap ((s.length:Int)-1)))).bind<|orR fun (m1,i,j) =>
  some (m1)

def Ee (m:Ad):Option (List Aa) :=
  (BP m).bind fun r_1 =>
  (Eb r_1).bind fun m1 =>
  some (m1)

def BV (n:Int) (gates:List Aa):Option (Ae×Bool) :=
  chk (0+gates.length≤1099511627776) <|
  (AW (Ae.mk n gates)).bind fun r_2 =>
  bif (!r_2) then (some (((Ae.mk 0 []),false))) else (some (((Ae.mk n gates),true)))

def FQ (x:Int) (y:Int):Option (Int×Int) :=
  some (((IntKind.u64.wrap ((IntKind.u64.wrap ((IntKind.u64.wrap ((shrK .u64 x 32)*(shrK .u64 y 32)))+(shrK .u64 (IntKind.u64.wrap ((IntKind.u64.wrap ((shrK .u64 x 32)*(bits .and .u64 y 4294967295)))+(shrK .u64 (IntKind.u64.wrap ((bits .and .u64 x 4294967295)*(bits .and .u64 y 4294967295))) 32))) 32)))+(shrK .u64 (IntKind.u64.wrap ((bits .and .u64 (IntKind.u64.wrap ((IntKind.u64.wrap ((shrK .u64 x 32)*(bits .and .u64 y 4294967295)))+(shrK .u64 (IntKind.u64.wrap ((bits .and .u64 x 4294967295)*(bits .and .u64 y 4294967295))) 32))) 4294967295)+(IntKind.u64.wrap ((bits .and .u64 x 4294967295)*(shrK .u64 y 32))))) 32))),(IntKind.u64.wrap (x*y))))

def FC (x:Int) (y:Int):Option (Int×Int) :=
  (FQ x y).bind fun (r_2,r_3) =>
  some ((r_2,r_3))

def GO (r_2:Int):(List Aa×Int)→Option (Ex (List Aa×Int) (List Aa)):=fun (newslice,n1) =>
  bif (decide (n1<((IntKind.i64.wrap r_2).toNat:Int))) then (chk ((0:Int)≤n1∧n1≤((IntKind.i64.wrap r_2).toNat:Int)) <|
  chk ((0:Int)≤n1∧n1≤((IntKind.i64.wrap r_2).toNat:Int)) <|
  some (.nx ((List.take n1.toNat newslice++List.take (min (n1.toNat-0) ((IntKind.i64.wrap r_2).toNat-n1.toNat)) (List.take n1.toNat newslice)++List.drop (n1.toNat+(min (n1.toNat-0) ((IntKind.i64.wrap r_2).toNat-n1.toNat))) newslice),(IntKind.i64.wrap (n1+((min (n1.toNat-0) ((IntKind.i64.wrap r_2).toNat-n1.toNat):Nat):Int)))))) else (some (.br (newslice,n1)))
def FK (x:List Aa) (count:Int):Option (List Aa) :=
  bif (decide (count<0)) then (none) else ((FC (IntKind.u64.wrap (x.length:Int)) (IntKind.u64.wrap count)).bind fun (r_1,r_2) =>
  bif ((decide (0<r_1))||(decide (9223372036854775807<r_2))) then (none) else (chk ((0:Int)≤(IntKind.i64.wrap r_2)∧(IntKind.i64.wrap r_2)≤1099511627776) <|
  (whX (GO r_2) fuel ((List.take (min x.length ((IntKind.i64.wrap r_2).toNat)) x++List.drop (min x.length ((IntKind.i64.wrap r_2).toNat)) (List.replicate ((IntKind.i64.wrap r_2).toNat) (Aa.mk 0 0 0))),((min x.length ((IntKind.i64.wrap r_2).toNat):Nat):Int))).bind<|orR fun (newslice,n1) =>
  some (newslice)))

def F7 (count:Int):Option (List Aa) :=
  (FK [(Aa.mk 12 0 0)] count).bind fun r_1 =>
  some (r_1)

def BH (p:Ah):Option (Ae×Bool) :=
  (AD p).bind fun r_2 =>
  bif (!r_2) then (some (((Ae.mk 0 []),false))) else ((Dh p.Terms).bind fun r_3 =>
  (CC p.Qubits r_3).bind fun r_4 =>
  (Ea (Ae.mk p.Qubits r_4)).bind fun (r_5,r_6) =>
  (Cp r_5).bind fun r_7 =>
  (DD r_7 p.Out).bind fun (r_8,r_9) =>
  (Ee r_8).bind fun r_10 =>
  (Eq ([r_4,r_10]:List (List Aa))).bind fun r_11 =>
  (Cd p.Qubits r_11 p.Terms).bind fun (r_12,r_13) =>
  (F7 p.Phase).bind fun r_14 =>
  chk (r_12.length+r_14.length≤1099511627776) <|
  (BV p.Qubits (r_12++r_14)).bind fun (r_15,r_16) =>
  some ((r_15,r_16)))

def Ay (n:Int) (lo:Int) (hi:Int):Option (Bool) :=
  some (((decide (lo≤n))&&(decide (n≤hi))))

def EZ (l:List Int) (lo:Int) (hi:Int):Nat→Unit→Option (Ex (Unit) (Bool)):=fun i _ =>
  (getI l (i:Int)).bind fun x =>
  (Ay x lo hi).bind fun r_1 =>
  bif (!r_1) then (some (.rt false)) else (some (.nx ()))
def Ek (l:List Int) (lo:Int) (hi:Int):Option (Bool) :=
  chk (l.length≤9223372036854775807) <|
  (forX (EZ l lo hi) l.length 0 ()).bind<|orR fun _ =>
  some (true)

def Dc (r_1:List Int) (l:List Int) (bit:Nat):(Int×Int)→Option (Ex (Int×Int) (List Int×Int)):=fun (at_1,i2) =>
  bif (decide (i2<(r_1.length:Int))) then ((getI l i2).bind fun x =>
  chk ((0:Int)≤(IntKind.u64.wrap (bit:Int))) <|
  bif ((bits .and .i64 (shrK .i64 x (IntKind.u64.wrap (bit:Int))) 1)==1) then (some (.br (i2,i2))) else (some (.nx (at_1,(IntKind.i64.wrap (i2+1)))))) else (some (.br (at_1,i2)))
def DP (rank:Int) (bit:Nat) (x1:Int):Nat→(List Int)→Option (List Int):=fun i3 l2 =>
  (((gb ((i3:Int) != rank) 0 (getI l2 (i3:Int))).bind fun x4 =>
  chk (((i3:Int) != rank)=true→(0:Int)≤(IntKind.u64.wrap (bit:Int))) <|
  bif (((i3:Int) != rank)&&((bits .and .i64 (shrK .i64 x4 (IntKind.u64.wrap (bit:Int))) 1)==1)) then ((getI l2 (i3:Int)).bind fun x5 =>
  some (l2.set (i3:Int).toNat (bits .xor .i64 x5 x1))) else (some l2)):Option (List Int)).bind fun l3 =>
  some l3
def DC (r_1:List Int):Nat→(List Int×Int)→Option (List Int×Int):=fun bit (l,rank) =>
  (((whX (Dc r_1 l bit) fuel ((-1),rank)).bind<|orR fun (at_,i1) =>
  bif (decide (at_<0)) then (some (l,rank)) else ((getI l at_).bind fun x1 =>
  (getI l rank).bind fun x2 =>
  (getI (l.set at_.toNat x2) rank).bind fun x3 =>
  chk (r_1.length≤9223372036854775807) <|
  (forN (DP rank bit x1) r_1.length 0 ((l.set at_.toNat x2).set rank.toNat x1)).bind fun l2 =>
  some (l2,(IntKind.i64.wrap (rank+1))))):Option (List Int×Int)).bind fun (l1,rank1) =>
  some (l1,rank1)
def Cv (rows:List Int):Option (Int) :=
  (AA rows).bind fun r_1 =>
  (forN (DC r_1) 10 0 (r_1,0)).bind fun (l,rank) =>
  some (rank)

def BE (m:Ad):Option (Bool) :=
  (Ay (m.Rows.length:Int) 1 5).bind fun r_1 =>
  chk (r_1=true→(0:Int)≤(IntKind.u64.wrap (m.Rows.length:Int))) <|
  (gb r_1 false (Ek m.Rows 0 (IntKind.i64.wrap ((shlK .i64 1 (IntKind.u64.wrap (m.Rows.length:Int)))-1)))).bind fun r_2 =>
  (gb (r_1&&r_2) 0 (Cv m.Rows)).bind fun r_3 =>
  some (((r_1&&r_2)&&(r_3==(m.Rows.length:Int))))

def Fg (p:Ah):Nat→Unit→Option (Ex (Unit) (Bool)):=fun i _ =>
  (getI p.Terms (i:Int)).bind fun x =>
  chk ((0:Int)≤(IntKind.u64.wrap p.Qubits)) <|
  (Ay x.Mask 1 (IntKind.i64.wrap ((shlK .i64 1 (IntKind.u64.wrap p.Qubits))-1))).bind fun r_4 =>
  (gb (!(!r_4)) false (Ay x.Coef 1 7)).bind fun r_5 =>
  (gb ((!((!r_4)||(!r_5)))&&(decide (0<(i:Int)))) (Ab.mk 0 0) (getI p.Terms (IntKind.i64.wrap ((i:Int)-1)))).bind fun x1 =>
  bif (((!r_4)||(!r_5))||((decide (0<(i:Int)))&&(decide (x.Mask≤x1.Mask)))) then (some (.rt false)) else (some (.nx ()))
def BB (p:Ah):Option (Bool) :=
  (Ay p.Qubits 1 5).bind fun r_1 =>
  (gb (!(!r_1)) false (Ay p.Phase 0 7)).bind fun r_2 =>
  (gb (!(((!r_1)||(!r_2))||((p.Out.Rows.length:Int) != p.Qubits))) false (BE p.Out)).bind fun r_3 =>
  bif ((((!r_1)||(!r_2))||((p.Out.Rows.length:Int) != p.Qubits))||(!r_3)) then (some (false)) else (chk (p.Terms.length≤9223372036854775807) <|
  (forX (Fg p) p.Terms.length 0 ()).bind<|orR fun _ =>
  some (true))

def EA (vectors:List Int) (j:Int) (bit:Int):Nat→(List Int)→Option (List Int):=fun i out =>
  (((getI vectors (i:Int)).bind fun x =>
  chk ((0:Int)≤(IntKind.u64.wrap j)) <|
  bif ((bits .and .i64 (shrK .i64 x (IntKind.u64.wrap j)) 1)==bit) then (chk (out.length+1≤1099511627776) <|
  some (out++[x])) else (some out)):Option (List Int)).bind fun out1 =>
  some out1
def AK (vectors:List Int) (j:Int) (bit:Int):Option (List Int) :=
  chk (vectors.length≤9223372036854775807) <|
  (forN (EA vectors j bit) vectors.length 0 []).bind fun out =>
  some (out)

def Es (t:Int) (j:Int):Nat→(List Int)→Option (List Int):=fun i m1 =>
  (((getI m1 (i:Int)).bind fun x =>
  chk ((0:Int)≤(IntKind.u64.wrap t)) <|
  bif ((bits .and .i64 (shrK .i64 x (IntKind.u64.wrap t)) 1)==1) then (chk ((0:Int)≤(IntKind.u64.wrap j)) <|
  some (m1.set (i:Int).toNat (bits .xor .i64 x (shlK .i64 1 (IntKind.u64.wrap j))))) else (some m1)):Option (List Int)).bind fun m2 =>
  some m2
def Co (vectors:List Int) (j:Int) (t:Int):Option (List Int) :=
  chk (vectors.length≤9223372036854775807) <|
  (forN (Es t j) vectors.length 0 vectors).bind fun m1 =>
  some (m1)

def Dt (a:Int) (b:Int):Option (Int) :=
  bif (decide (b<a)) then (some (a)) else (some (b))

def C3 (n:Int):(List Int×Int)→Option (Ex (List Int×Int) (Ae)):=fun (all,q) =>
  bif decide (q<n) then (chk (all.length+1≤1099511627776)<|some (.nx (all++[q],IntKind.i64.wrap (q+1)))) else (some (.br (all,q)))
def CA (tg:Int) (j:Int):Nat→(List Af)→Option (List Af):=fun q ts =>
  (getI ts (q:Int)).bind fun y =>
  (Co y.vectors j tg).bind fun vs =>
  some (ts.set q (Af.mk vs y.free y.target))
def Br (n:Int) (tg:Int):(List Aa×List Int×List Af×Int)→Option (Ex (List Aa×List Int×List Af×Int) (Ex (List Aa×List Af) (Ae))):=fun (gs,xv,ts,j) =>
  bif (decide (j<n))&&(decide (0≤tg)) then
    ((gb (!(j==tg)) [] (AK xv j 0)).bind fun r =>
    ((bif (j==tg)||(decide (0<(r.length:Int))) then (some (gs,xv,ts)) else (chk (gs.length+1≤1099511627776) <|
    (Co xv j tg).bind fun xv1 =>
    chk (ts.length≤9223372036854775807) <|
    (forN (CA tg j) ts.length 0 ts).bind fun ts1 =>
    some (gs++[Aa.mk 9 j tg],xv1,ts1))):Option (List Aa×List Int×List Af)).bind fun (gs1,xv1,ts1) =>
    some (.nx (gs1,xv1,ts1,IntKind.i64.wrap (j+1)))) else (some (.br (gs,xv,ts,j)))
def CG (fr:List Int) (xv:List Int):Nat→(Int×Int)→Option (Int×Int):=fun q (best,most) =>
  (getI fr (q:Int)).bind fun j =>
  (AK xv j 0).bind fun a =>
  (AK xv j 1).bind fun b =>
  (Dt (a.length:Int) (b.length:Int)).bind fun k =>
  bif decide (most<k) then (some (j,k)) else (some (best,most))
def CZ (fr:List Int) (best:Int):Nat→(List Int)→Option (List Int):=fun q free =>
  (getI fr (q:Int)).bind fun j =>
  bif (j != best) then (chk (free.length+1≤1099511627776)<|some (free++[j])) else (some free)
def Cw (n:Int):(List Aa×List Af)→Option (Ex (List Aa×List Af) (Ae)):=fun (gs,ts) =>
  bif decide (0<(ts.length:Int)) then
    (chk (IntKind.i64.wrap ((ts.length:Int)-1)=((ts.length-1:Nat):Int)) <|
    (getI ts ((ts.length-1:Nat):Int)).bind fun x =>
    bif ((x.vectors.length:Int)==0) then (some (.nx (gs,ts.take (ts.length-1))))
    else ((whX (Br n x.target) fuel (gs,x.vectors,ts.take (ts.length-1),0)).bind<|orR fun (gs1,xv,ts1,j) =>
    chk (x.free.length≤9223372036854775807) <|
    (forN (CG x.free xv) x.free.length 0 (-1,0)).bind fun (best,most) =>
    bif decide (best<0) then (some (.nx (gs1,ts1))) else
    ((forN (CZ x.free best) x.free.length 0 []).bind fun free =>
    (AK xv best 1).bind fun s1 =>
    (AK xv best 0).bind fun s2 =>
    chk (ts1.length+2≤1099511627776) <|
    some (.nx (gs1,ts1++[Af.mk s1 free (bif decide (x.target<0) then best else x.target),Af.mk s2 free x.target])))))
  else (some (.br (gs,ts)))
def Ev (n:Int) (masks:List Int):Option (Ae) :=
  (whX (C3 n) fuel ([],0)).bind<|orR fun (all,q) =>
  (AA masks).bind fun r_1 =>
  (whX (Cw n) fuel ([],[Af.mk r_1 all (-1)])).bind<|orR fun (gs,ts) =>
  some (Ae.mk n gs)

def DJ (n:Int) (g:Aa):Option (Bool) :=
  (Ay g.Kind 1 8).bind fun r_1 =>
  bif r_1 then ((Ay g.A 0 (IntKind.i64.wrap (n-1))).bind fun r_2 =>
  some ((r_2&&(g.B==0)))) else ((Ay g.Kind 9 11).bind fun r_3 =>
  bif r_3 then ((Ay g.A 0 (IntKind.i64.wrap (n-1))).bind fun r_4 =>
  (gb r_4 false (Ay g.B 0 (IntKind.i64.wrap (n-1)))).bind fun r_5 =>
  some (((r_4&&r_5)&&(g.A != g.B)))) else (some ((((g.Kind==12)&&(g.A==0))&&(g.B==0)))))

def Fz (c:Ae):Nat→Unit→Option (Ex (Unit) (Bool)):=fun i _ =>
  (getI c.Gates (i:Int)).bind fun x =>
  (DJ c.Qubits x).bind fun r_2 =>
  bif (!r_2) then (some (.rt false)) else (some (.nx ()))
def BX (c:Ae):Option (Bool) :=
  (Ay c.Qubits 1 5).bind fun r_1 =>
  bif ((!r_1)||(decide (400<(c.Gates.length:Int)))) then (some (false)) else (chk (c.Gates.length≤9223372036854775807) <|
  (forX (Fz c) c.Gates.length 0 ()).bind<|orR fun _ =>
  some (true))

def EH (c:Ae):Option (Bool) :=
  (BX c).bind fun r_1 =>
  some (r_1)

def Ci (c:Ae):Nat→(List Int)→Option (Ex (List Int) (Ad×Bool)):=fun i Rows =>
  (((getI c.Gates (i:Int)).bind fun x =>
  bif (x.Kind==9) then ((A9 (Ad.mk Rows) x.A x.B).bind fun r_4 =>
  some (.inl r_4.Rows)) else (bif (x.Kind==11) then ((A9 (Ad.mk Rows) x.A x.B).bind fun r_5 =>
  (A9 r_5 x.B x.A).bind fun r_6 =>
  (A9 r_6 x.A x.B).bind fun r_7 =>
  some (.inl r_7.Rows)) else (some (.inr (.rt ((Ad.mk []),false)))))):Option ((List Int) ⊕ (Ex (List Int) (Ad×Bool)))).bind<|orR fun Rows1 =>
  some (.nx Rows1)
def DR (c:Ae):Option (Ad×Bool) :=
  (EH c).bind fun r_2 =>
  bif (!r_2) then (some (((Ad.mk []),false))) else ((AQ c.Qubits).bind fun r_3 =>
  chk (c.Gates.length≤9223372036854775807) <|
  (forX (Ci c) c.Gates.length 0 r_3.Rows).bind<|orR fun Rows =>
  some (((Ad.mk Rows),true)))

def Et (k_:Nat):Nat→(List Int×List Aa)→Option (List Int×List Aa):=fun i3 (Rows3,out3) =>
  (((gb ((i3:Int) != (k_:Int)) 0 (getI Rows3 (i3:Int))).bind fun x2 =>
  chk (((i3:Int) != (k_:Int))=true→(0:Int)≤(IntKind.u64.wrap (k_:Int))) <|
  bif (((i3:Int) != (k_:Int))&&((bits .and .i64 (shrK .i64 x2 (IntKind.u64.wrap (k_:Int))) 1)==1)) then ((A9 (Ad.mk Rows3) (k_:Int) (i3:Int)).bind fun r_3 =>
  chk (out3.length+1≤1099511627776) <|
  some (r_3.Rows,(out3++[(Aa.mk 9 (k_:Int) (i3:Int))]))) else (some (Rows3,out3))):Option (List Int×List Aa)).bind fun (Rows4,out4) =>
  some (Rows4,out4)
def Df (r_1:List Int) (k_:Nat):(List Int×List Aa×Int)→Option (Ex (List Int×List Aa×Int) (List Int×List Aa)):=fun (Rows1,out1,i1) =>
  (gb (decide (i1<(r_1.length:Int))) 0 (getI Rows1 (k_:Int))).bind fun x =>
  chk ((decide (i1<(r_1.length:Int)))=true→(0:Int)≤(IntKind.u64.wrap (k_:Int))) <|
  bif ((decide (i1<(r_1.length:Int)))&&((bits .and .i64 (shrK .i64 x (IntKind.u64.wrap (k_:Int))) 1)==0)) then ((((getI Rows1 i1).bind fun x1 =>
  chk ((0:Int)≤(IntKind.u64.wrap (k_:Int))) <|
  bif ((bits .and .i64 (shrK .i64 x1 (IntKind.u64.wrap (k_:Int))) 1)==1) then ((A9 (Ad.mk Rows1) i1 (k_:Int)).bind fun r_2 =>
  chk (out1.length+1≤1099511627776) <|
  some (r_2.Rows,(out1++[(Aa.mk 9 i1 (k_:Int))]))) else (some (Rows1,out1))):Option (List Int×List Aa)).bind fun (Rows2,out2) =>
  some (.nx (Rows2,out2,(IntKind.i64.wrap (i1+1))))) else (some (.br (Rows1,out1,i1)))
def D6 (r_1:List Int):Nat→(List Int×List Aa)→Option (List Int×List Aa):=fun k_ (Rows,out) =>
  (whX (Df r_1 k_) fuel (Rows,out,(IntKind.i64.wrap ((k_:Int)+1)))).bind<|orR fun (Rows1,out1,i1) =>
  chk (r_1.length≤9223372036854775807) <|
  (forN (Et k_) r_1.length 0 (Rows1,out1)).bind fun (Rows3,out3) =>
  some (Rows3,out3)
def C8 (m:Ad):Option (List Aa) :=
  (AA m.Rows).bind fun r_1 =>
  chk (r_1.length≤9223372036854775807) <|
  (forN (D6 r_1) r_1.length 0 (r_1,[])).bind fun (Rows,out) =>
  some (out)

def Fx (r_4:List Aa):Nat→(List Int)→Option (List Int):=fun i Rows =>
  (getI r_4 (i:Int)).bind fun x =>
  (A9 (Ad.mk Rows) x.A x.B).bind fun r_5 =>
  some r_5.Rows
def DW (m:Ad):Option (Ad×Bool) :=
  (BE m).bind fun r_2 =>
  bif (!r_2) then (some (((Ad.mk []),false))) else ((AQ (m.Rows.length:Int)).bind fun r_3 =>
  (C8 m).bind fun r_4 =>
  chk (r_4.length≤9223372036854775807) <|
  (forN (Fx r_4) r_4.length 0 r_3.Rows).bind fun Rows =>
  some (((Ad.mk Rows),true)))

def Dp (r_1:List Aa):(List Aa×Int)→Option (Ex (List Aa×Int) (Ae)):=fun (Gates,i) =>
  bif (decide (0≤i)) then ((getI r_1 i).bind fun x =>
  chk (Gates.length+1≤1099511627776) <|
  some (.nx ((Gates++[x]),(IntKind.i64.wrap (i-1))))) else (some (.br (Gates,i)))
def DE (m:Ad):Option (Ae) :=
  (C8 m).bind fun r_1 =>
  (whX (Dp r_1) fuel ([],(IntKind.i64.wrap ((r_1.length:Int)-1)))).bind<|orR fun (Gates,i) =>
  some ((Ae.mk (m.Rows.length:Int) Gates))

def Gy (row:Int):(List Int×Int)→Option (Ex (List Int×Int) (List Int)):=fun (out,k_) =>
  chk ((0:Int)≤(IntKind.u64.wrap k_)) <|
  bif (decide (0<(shrK .i64 row (IntKind.u64.wrap k_)))) then (((chk ((0:Int)≤(IntKind.u64.wrap k_)) <|
  bif ((bits .and .i64 (shrK .i64 row (IntKind.u64.wrap k_)) 1)==1) then (chk (out.length+1≤1099511627776) <|
  some (out++[k_])) else (some out)):Option (List Int)).bind fun out1 =>
  some (.nx (out1,(IntKind.i64.wrap (k_+1))))) else (some (.br (out,k_)))
def DB (row:Int):Option (List Int) :=
  (whX (Gy row) fuel ([],0)).bind<|orR fun (out,k_) =>
  some (out)

def Cx (r_1:List Int) (first:Ad):Nat→Int→Option (Int):=fun i1 x1 =>
  (getI r_1 (i1:Int)).bind fun x2 =>
  (getI first.Rows x2).bind fun x3 =>
  some (bits .xor .i64 x1 x3)
def E1 (second:Ad) (first:Ad):(List Int×Int)→Option (Ex (List Int×Int) (Ad)):=fun (Rows,t) =>
  bif (decide (t<(second.Rows.length:Int))) then ((getI second.Rows t).bind fun x =>
  (DB x).bind fun r_1 =>
  chk (r_1.length≤9223372036854775807) <|
  (forN (Cx r_1 first) r_1.length 0 0).bind fun x1 =>
  chk (Rows.length+1≤1099511627776) <|
  some (.nx ((Rows++[x1]),(IntKind.i64.wrap (t+1))))) else (some (.br (Rows,t)))
def DO (first:Ad) (second:Ad):Option (Ad) :=
  (whX (E1 second first) fuel ([],0)).bind<|orR fun (Rows,t) =>
  some ((Ad.mk Rows))

def E9 (l:List Int) (n1:Int):Nat→Unit→Option (Ex (Unit) (Bool)):=fun i _ =>
  (getI l (i:Int)).bind fun x =>
  bif (x==n1) then (some (.rt true)) else (some (.nx ()))
def Cl (l:List Int) (n1:Int):Option (Bool) :=
  chk (l.length≤9223372036854775807) <|
  (forX (E9 l n1) l.length 0 ()).bind<|orR fun _ =>
  some (false)

def Gl (x:List Int) (q:Int):Nat→(List Aa)→Option (List Aa):=fun i out =>
  (getI x (i:Int)).bind fun x1 =>
  chk (out.length+1≤1099511627776) <|
  some (out++[(Aa.mk x1 q 0)])
def C5 (q:Int) (coef:Int):Option (List Aa) :=
  (getI ([[],[7],[5],[5,7],[4],[4,7],[6],[8]]:List (List Int)) coef).bind fun x =>
  chk (x.length≤9223372036854775807) <|
  (forN (Gl x q) x.length 0 []).bind fun out =>
  some (out)

def Em (terms:List Ab) (Rows:List Int) (x:Int):Nat→(List Aa×List Int)→Option (List Aa×List Int):=fun i3 (Gates3,done3) =>
  (((getI terms (i3:Int)).bind fun x1 =>
  (getI Rows x).bind fun x2 =>
  (gb (x1.Mask==x2) false (Cl done3 x1.Mask)).bind fun r_3 =>
  bif ((x1.Mask==x2)&&(!r_3)) then (chk (done3.length+1≤1099511627776) <|
  (C5 x x1.Coef).bind fun r_4 =>
  chk (Gates3.length+r_4.length≤1099511627776) <|
  some ((Gates3++r_4),(done3++[x1.Mask]))) else (some (Gates3,done3))):Option (List Aa×List Int)).bind fun (Gates4,done4) =>
  some (Gates4,done4)
def BS (at_1:List Int) (terms:List Ab) (Rows:List Int):Nat→(List Aa×List Int)→Option (List Aa×List Int):=fun i2 (Gates2,done2) =>
  (getI at_1 (i2:Int)).bind fun x =>
  chk (terms.length≤9223372036854775807) <|
  (forN (Em terms Rows x) terms.length 0 (Gates2,done2)).bind fun (Gates3,done3) =>
  some (Gates3,done3)
def Bh (c:Ae) (terms:List Ab):(List Aa×List Int×List Int×List Int×Int)→Option (Ex (List Aa×List Int×List Int×List Int×Int) (Ae×Int)):=fun (Gates,Rows,done,at_1,i1) =>
  bif (decide (i1≤(c.Gates.length:Int))) then (((chk (at_1.length≤9223372036854775807) <|
  (forN (BS at_1 terms Rows) at_1.length 0 (Gates,done)).bind fun (Gates2,done2) =>
  bif (decide (i1<(c.Gates.length:Int))) then ((getI c.Gates i1).bind fun x3 =>
  chk (Gates2.length+1≤1099511627776) <|
  (A9 (Ad.mk Rows) x3.A x3.B).bind fun r_5 =>
  some ((Gates2++[x3]),r_5.Rows,done2,[x3.B])) else (some (Gates2,Rows,done2,at_1))):Option (List Aa×List Int×List Int×List Int)).bind fun (Gates1,Rows1,done1,at_2) =>
  some (.nx (Gates1,Rows1,done1,at_2,(IntKind.i64.wrap (i1+1))))) else (some (.br (Gates,Rows,done,at_1,i1)))
def DA:Nat→(List Int)→Option (List Int):=fun q at_ =>
  chk (at_.length+1≤1099511627776) <|
  some (at_++[(q:Int)])
def Ch (c:Ae) (terms:List Ab):Option (Ae×Int) :=
  (AQ c.Qubits).bind fun r_2 =>
  chk (c.Qubits.toNat≤9223372036854775807) <|
  (forN DA c.Qubits.toNat 0 []).bind fun at_ =>
  (whX (Bh c terms) fuel ([],r_2.Rows,[],at_,0)).bind<|orR fun (Gates,Rows,done,at_1,i1) =>
  some (((Ae.mk c.Qubits Gates),(done.length:Int)))

def CN:(List Aa×Int)→Option (Ex (List Aa×Int) (Ae×Bool)):=fun (Gates,K19) =>
  bif (decide (0<K19)) then (chk (Gates.length+1≤1099511627776) <|
  some (.nx ((Gates++[(Aa.mk 12 0 0)]),(IntKind.i64.wrap (K19-1))))) else (some (.br (Gates,K19)))
def DS (p:Ah):Nat→(List Int)→Option (List Int):=fun i masks =>
  (getI p.Terms (i:Int)).bind fun x =>
  chk (masks.length+1≤1099511627776) <|
  some (masks++[x.Mask])
def BU (p:Ah):Option (Ae×Bool) :=
  (BB p).bind fun r_2 =>
  bif (!r_2) then (some (((Ae.mk 0 []),false))) else (chk (p.Terms.length≤9223372036854775807) <|
  (forN (DS p) p.Terms.length 0 []).bind fun masks =>
  (Ev p.Qubits masks).bind fun r_3 =>
  (DR r_3).bind fun (r_4,r_5) =>
  (DW r_4).bind fun (r_6,r_7) =>
  (DO r_6 p.Out).bind fun r_8 =>
  (DE r_8).bind fun r_9 =>
  chk (r_3.Gates.length+r_9.Gates.length≤1099511627776) <|
  (Ch (Ae.mk r_3.Qubits (r_3.Gates++r_9.Gates)) p.Terms).bind fun (r_10,r_11) =>
  (whX CN fuel (r_10.Gates,p.Phase)).bind<|orR fun (Gates,K19) =>
  some (((Ae.mk r_10.Qubits Gates),true)))

def DY (c:Ac) (n1:Int) (kinds:List Int):Option (Aa×Ac) :=
  (Am c (kinds.length:Int)).bind fun (r_1,m1) =>
  (getI kinds r_1).bind fun x =>
  bif (x==12) then (some (((Aa.mk x 0 0),(Ac.mk c.code m1.at_ m1.seed)))) else ((Am (Ac.mk c.code m1.at_ m1.seed) n1).bind fun (r_2,m2) =>
  (((Ay x 9 11).bind fun r_3 =>
  bif r_3 then (bif (n1==1) then (some (.inr ((Aa.mk 1 0 0),(Ac.mk c.code m2.at_ m2.seed)))) else ((Am (Ac.mk c.code m2.at_ m2.seed) (IntKind.i64.wrap (n1-1))).bind fun (r_4,m3) =>
  chk (n1≠(0:Int)) <|
  some (.inl (m3.at_,m3.seed,(Int.tmod (IntKind.i64.wrap ((IntKind.i64.wrap (r_2+1))+r_4)) n1))))) else (some (.inl (m2.at_,m2.seed,0)))):Option ((Int×Int×Int) ⊕ (Aa×Ac))).bind<|orR fun (at_,seed,B3) =>
  some (((Aa.mk x r_2 B3),(Ac.mk c.code at_ seed))))

def Fv (c:Ac) (n1:Int) (kinds:List Int):(Int×Int×List Aa×Int)→Option (Ex (Int×Int×List Aa×Int) (Ae×Ac)):=fun (at_,seed,Gates,k_) =>
  bif (decide (0<k_)) then ((DY (Ac.mk c.code at_ seed) n1 kinds).bind fun (r_2,m2) =>
  chk (Gates.length+1≤1099511627776) <|
  some (.nx (m2.at_,m2.seed,(Gates++[r_2]),(IntKind.i64.wrap (k_-1))))) else (some (.br (at_,seed,Gates,k_)))
def C2 (c:Ac) (n1:Int) (most:Int) (kinds:List Int):Option (Ae×Ac) :=
  (Am c (IntKind.i64.wrap (most+1))).bind fun (r_1,m1) =>
  (whX (Fv c n1 kinds) fuel (m1.at_,m1.seed,[],r_1)).bind<|orR fun (at_,seed,Gates,k_) =>
  some (((Ae.mk n1 Gates),(Ac.mk c.code at_ seed)))

def Dl (c:Ac):Option (Ae×Ac) :=
  (Bl c [1,2,2,3]).bind fun (r_1,m1) =>
  (C2 (Ac.mk c.code m1.at_ m1.seed) r_1 8 [1,2,3,4,5,6,7,8,9,9,10,11,12,7,1]).bind fun (r_2,m2) =>
  some ((r_2,(Ac.mk c.code m2.at_ m2.seed)))

def Ew (c:Ac):Option (Ae×Ac) :=
  (Dl c).bind fun (r_1,m1) =>
  (((Am (Ac.mk c.code m1.at_ m1.seed) 14).bind fun (r_2,m2) =>
  bif (r_2==0) then ((Bl (Ac.mk c.code m2.at_ m2.seed) [0,1,5,6]).bind fun (r_3,m3) =>
  some (m3.at_,m3.seed,r_3,r_1.Gates)) else (bif (r_2==1) then ((Am (Ac.mk c.code m2.at_ m2.seed) 14).bind fun (r_4,m4) =>
  (Am (Ac.mk c.code m4.at_ m4.seed) 4).bind fun (r_5,m5) =>
  (Am (Ac.mk c.code m5.at_ m5.seed) 4).bind fun (r_6,m6) =>
  chk (r_1.Gates.length+1≤1099511627776) <|
  some (m6.at_,m6.seed,r_1.Qubits,(r_1.Gates++[(Aa.mk r_4 (IntKind.i64.wrap (r_5-1)) (IntKind.i64.wrap (r_6-1)))]))) else (some (m2.at_,m2.seed,r_1.Qubits,r_1.Gates)))):Option (Int×Int×Int×List Aa)).bind fun (at_,seed,Qubits,Gates) =>
  some (((Ae.mk Qubits Gates),(Ac.mk c.code at_ seed)))

def Fa (n1:Int) (c:Ac):(Int×Int×List Aa×Int)→Option (Ex (Int×Int×List Aa×Int) (Ae×Ac)):=fun (at_,seed,Gates,k_) =>
  bif ((decide (0<k_))&&(decide (1<n1))) then ((Am (Ac.mk c.code at_ seed) n1).bind fun (r_2,m2) =>
  (Am (Ac.mk c.code m2.at_ m2.seed) (IntKind.i64.wrap (n1-1))).bind fun (r_3,m3) =>
  chk (n1≠(0:Int)) <|
  chk (Gates.length+1≤1099511627776) <|
  some (.nx (m3.at_,m3.seed,(Gates++[(Aa.mk 9 r_2 (Int.tmod (IntKind.i64.wrap ((IntKind.i64.wrap (r_2+1))+r_3)) n1))]),(IntKind.i64.wrap (k_-1))))) else (some (.br (at_,seed,Gates,k_)))
def D0 (c:Ac) (n1:Int):Option (Ae×Ac) :=
  (Am c 9).bind fun (r_1,m1) =>
  (whX (Fa n1 c) fuel (m1.at_,m1.seed,[],r_1)).bind<|orR fun (at_,seed,Gates,k_) =>
  some (((Ae.mk n1 Gates),(Ac.mk c.code at_ seed)))

def DK (c:Ac):Option (Ae×Ac) :=
  (BG c 10).bind fun (r_1,m1) =>
  bif r_1 then ((Ew (Ac.mk c.code m1.at_ m1.seed)).bind fun (r_2,m2) =>
  some ((r_2,(Ac.mk c.code m2.at_ m2.seed)))) else ((Am (Ac.mk c.code m1.at_ m1.seed) 5).bind fun (r_3,m3) =>
  (D0 (Ac.mk c.code m3.at_ m3.seed) (IntKind.i64.wrap (1+r_3))).bind fun (r_4,m4) =>
  some ((r_4,(Ac.mk c.code m4.at_ m4.seed))))

def Fe (c:Ae) (lo:Int) (hi:Int):Nat→Int→Option (Int):=fun i n1 =>
  (((getI c.Gates (i:Int)).bind fun x =>
  (Ay x.Kind lo hi).bind fun r_1 =>
  bif r_1 then (some (IntKind.i64.wrap (n1+1))) else (some n1)):Option (Int)).bind fun n2 =>
  some n2
def D7 (c:Ae) (lo:Int) (hi:Int):Option (Int) :=
  chk (c.Gates.length≤9223372036854775807) <|
  (forN (Fe c lo hi) c.Gates.length 0 0).bind fun n1 =>
  some (n1)

def Di (c:Ae):Option (Bool) :=
  (BX c).bind fun r_1 =>
  (gb r_1 0 (D7 c 9 9)).bind fun r_2 =>
  some ((r_1&&(r_2==(c.Gates.length:Int))))

def F3 (c:Ae):Nat→(List Int×List Int)→Option (List Int×List Int):=fun i (Rows,out) =>
  (((getI c.Gates (i:Int)).bind fun x =>
  (A9 (Ad.mk Rows) x.A x.B).bind fun r_3 =>
  (getI r_3.Rows x.B).bind fun x1 =>
  (Cl out x1).bind fun r_4 =>
  bif (!r_4) then (chk (out.length+1≤1099511627776) <|
  some (r_3.Rows,(out++[x1]))) else (some (r_3.Rows,out))):Option (List Int×List Int)).bind fun (Rows1,out1) =>
  some (Rows1,out1)
def De (c:Ae):Option (List Int) :=
  (AQ c.Qubits).bind fun r_1 =>
  (AA r_1.Rows).bind fun r_2 =>
  chk (c.Gates.length≤9223372036854775807) <|
  (forN (F3 c) c.Gates.length 0 (r_1.Rows,r_2)).bind fun (Rows,out) =>
  some (out)

def DF (r_4:List Int) (code:List Int):Nat→(Int×Int×List Int)→Option (Int×Int×List Int):=fun i (at_1,seed1,by_) =>
  (getI r_4 (i:Int)).bind fun x =>
  (Am (Ac.mk code at_1 seed1) 8).bind fun (r_5,m1) =>
  (getI by_ x).bind fun x1 =>
  some (m1.at_,m1.seed,(by_.set x.toNat r_5))
def DU (code:List Int):Option (Ae×List Ab) :=
  (DK (Ac.mk code 0 0)).bind fun (r_2,m) =>
  (((Di r_2).bind fun r_3 =>
  bif r_3 then (chk ((0:Int)≤(IntKind.u64.wrap r_2.Qubits)) <|
  chk ((0:Int)≤(shlK .i64 1 (IntKind.u64.wrap r_2.Qubits))∧(shlK .i64 1 (IntKind.u64.wrap r_2.Qubits))≤1099511627776) <|
  (De r_2).bind fun r_4 =>
  chk (r_4.length≤9223372036854775807) <|
  (forN (DF r_4 code) r_4.length 0 (m.at_,m.seed,(List.replicate ((shlK .i64 1 (IntKind.u64.wrap r_2.Qubits)).toNat) 0))).bind fun (at_1,seed1,by_) =>
  (BT by_).bind fun r_6 =>
  some (at_1,seed1,r_6)) else (some (m.at_,m.seed,[]))):Option (Int×Int×List Ab)).bind fun (at_,seed,l) =>
  (((BG (Ac.mk code at_ seed) 8).bind fun (r_7,m2) =>
  bif r_7 then ((Am (Ac.mk code m2.at_ m2.seed) 33).bind fun (r_8,m3) =>
  (Am (Ac.mk code m3.at_ m3.seed) 9).bind fun (r_9,m4) =>
  chk (l.length+1≤1099511627776) <|
  some (l++[(Ab.mk r_8 r_9)])) else (some l)):Option (List Ab)).bind fun l1 =>
  some ((r_2,l1))

def Cg (g:Aa):Option (Bool) :=
  some ((g.Kind != 9))

def Ec (c:Ae):Option (Bool) :=
  (AW c).bind fun r_1 =>
  (gb r_1 false (BJ c.Gates Cg)).bind fun r_2 =>
  some ((r_1&&(!r_2)))

def Ef (c:Ae) (terms:List Ab):Option (Ae×Bool) :=
  (Ec c).bind fun r_2 =>
  (gb (!(!r_2)) false (Cb c.Qubits terms)).bind fun r_3 =>
  bif ((!r_2)||(!r_3)) then (some (((Ae.mk 0 []),false))) else ((Cd c.Qubits c.Gates terms).bind fun (r_4,r_5) =>
  bif (!r_5) then (some (((Ae.mk 0 []),false))) else ((BV c.Qubits r_4).bind fun (r_6,r_7) =>
  some ((r_6,r_7))))

def DG (c:Ae) (terms:List Ab):Option (Ae×Bool) :=
  (Di c).bind fun r_2 =>
  bif (!(!r_2)) then ((AQ c.Qubits).bind fun r_3 =>
  (BB (Ah.mk c.Qubits 0 terms r_3)).bind fun r_4 =>
  bif (!r_4) then (some (((Ae.mk 0 []),false))) else ((Ch c terms).bind fun (r_5,r_6) =>
  bif ((decide (r_6<(terms.length:Int)))||(decide (400<(r_5.Gates.length:Int)))) then (some (((Ae.mk 0 []),false))) else (some ((r_5,true))))) else (some (((Ae.mk 0 []),false)))

def Fd (s1:List Aa) (s2:List Aa):Nat→Unit→Option (Ex (Unit) (Bool)):=fun i _ =>
  (getI s1 (i:Int)).bind fun x =>
  (getI s2 (i:Int)).bind fun x1 =>
  bif (!((x.Kind==x1.Kind)&&((x.A==x1.A)&&((x.B==x1.B)&&true)))) then (some (.rt false)) else (some (.nx ()))
def EM (s1:List Aa) (s2:List Aa):Option (Bool) :=
  bif ((s1.length:Int) != (s2.length:Int)) then (some (false)) else (chk (s1.length≤9223372036854775807) <|
  (forX (Fd s1 s2) s1.length 0 ()).bind<|orR fun _ =>
  some (true))

def Do (a:Ae) (b:Ae):Option (Bool) :=
  (gb (a.Qubits==b.Qubits) false (EM a.Gates b.Gates)).bind fun r_1 =>
  some (((a.Qubits==b.Qubits)&&r_1))

def AU (c:List Int) (mask:Int) (coef:Int):Option (List Int) :=
  (getI c mask).bind fun x =>
  some ((c.set mask.toNat (Int.tmod (IntKind.i64.wrap ((Int.tmod (IntKind.i64.wrap (x+coef)) 8)+8)) 8)))

def Dx (kind:Int):Option (Int) :=
  bif (kind==4) then (some (4)) else (bif (kind==5) then (some (2)) else (bif (kind==6) then (some (6)) else (bif (kind==7) then (some (1)) else (bif (kind==8) then (some (7)) else (some (0))))))

def Fo (c:List Int):Nat→(List Ab)→Option (List Ab):=fun i out =>
  (((getI c (i:Int)).bind fun x =>
  bif ((decide (0<(i:Int)))&&(decide (0<x))) then (chk (out.length+1≤1099511627776) <|
  some (out++[(Ab.mk (i:Int) x)])) else (some out)):Option (List Ab)).bind fun out1 =>
  some out1
def Dm (c:List Int):Option (List Ab) :=
  (forN (Fo c) 32 0 []).bind fun out =>
  some (out)

def Bj (c:Ae):Nat→(Int×List Int×List Int)→Option (Ex (Int×List Int×List Int) (Ah×Bool)):=fun i (Phase,Out,sums) =>
  (((getI c.Gates (i:Int)).bind fun x =>
  bif (x.Kind==9) then ((getI Out x.B).bind fun x1 =>
  (getI Out x.A).bind fun x2 =>
  some (.inl (Phase,(Out.set x.B.toNat (bits .xor .i64 x1 x2)),sums))) else (bif (x.Kind==11) then ((getI Out x.B).bind fun x3 =>
  (getI Out x.A).bind fun x4 =>
  (getI (Out.set x.A.toNat x3) x.B).bind fun x5 =>
  some (.inl (Phase,((Out.set x.A.toNat x3).set x.B.toNat x4),sums))) else (bif (x.Kind==10) then ((getI Out x.A).bind fun x6 =>
  (AU sums x6 2).bind fun m =>
  (getI Out x.B).bind fun x7 =>
  (AU m x7 2).bind fun m1 =>
  (AU m1 (bits .xor .i64 x6 x7) 6).bind fun m2 =>
  some (.inl (Phase,Out,m2))) else (bif (x.Kind==12) then (some (.inl ((Int.tmod (IntKind.i64.wrap (Phase+1)) 8),Out,sums))) else ((Dx x.Kind).bind fun r_4 =>
  bif (r_4==0) then (some (.inr (.rt ((Ah.mk 0 0 [] (Ad.mk [])),false)))) else ((getI Out x.A).bind fun x8 =>
  (AU sums x8 r_4).bind fun m3 =>
  some (.inl (Phase,Out,m3)))))))):Option ((Int×List Int×List Int) ⊕ (Ex (Int×List Int×List Int) (Ah×Bool)))).bind<|orR fun (Phase1,Out1,sums1) =>
  some (.nx (Phase1,Out1,sums1))
def BA (c:Ae):Option (Ah×Bool) :=
  (AW c).bind fun r_2 =>
  bif (!r_2) then (some (((Ah.mk 0 0 [] (Ad.mk [])),false))) else ((Bu c.Qubits).bind fun r_3 =>
  chk (c.Gates.length≤9223372036854775807) <|
  (forX (Bj c) c.Gates.length 0 (0,r_3.Rows,(List.replicate 32 0))).bind<|orR fun (Phase,Out,sums) =>
  (Dm sums).bind fun r_5 =>
  some (((Ah.mk c.Qubits Phase r_5 (Ad.mk Out)),true)))

def Fk (a:List Ab) (b:List Ab):Nat→Unit→Option (Ex (Unit) (Bool)):=fun i _ =>
  (getI a (i:Int)).bind fun x =>
  (getI b (i:Int)).bind fun x1 =>
  bif (!((x.Mask==x1.Mask)&&((x.Coef==x1.Coef)&&true))) then (some (.rt false)) else (some (.nx ()))
def Da (a:List Ab) (b:List Ab):Option (Bool) :=
  bif ((a.length:Int) != (b.length:Int)) then (some (false)) else (chk (a.length≤9223372036854775807) <|
  (forX (Fk a b) a.length 0 ()).bind<|orR fun _ =>
  some (true))

def CL (x:Int):Option (Int) :=
  some ((bits .and .i64 (IntKind.i64.wrap (IntKind.u64.wrap ((IntKind.u64.wrap ((IntKind.u64.wrap ((bits .and .u64 (IntKind.u64.wrap ((shrK .u64 (IntKind.u64.wrap ((bits .and .u64 (shrK .u64 (IntKind.u64.wrap ((bits .and .u64 (shrK .u64 x 1) 6148914691236517205)+(bits .and .u64 x 6148914691236517205))) 2) 3689348814741910323)+(bits .and .u64 (IntKind.u64.wrap ((bits .and .u64 (shrK .u64 x 1) 6148914691236517205)+(bits .and .u64 x 6148914691236517205))) 3689348814741910323))) 4)+(IntKind.u64.wrap ((bits .and .u64 (shrK .u64 (IntKind.u64.wrap ((bits .and .u64 (shrK .u64 x 1) 6148914691236517205)+(bits .and .u64 x 6148914691236517205))) 2) 3689348814741910323)+(bits .and .u64 (IntKind.u64.wrap ((bits .and .u64 (shrK .u64 x 1) 6148914691236517205)+(bits .and .u64 x 6148914691236517205))) 3689348814741910323))))) 1085102592571150095)+(shrK .u64 (bits .and .u64 (IntKind.u64.wrap ((shrK .u64 (IntKind.u64.wrap ((bits .and .u64 (shrK .u64 (IntKind.u64.wrap ((bits .and .u64 (shrK .u64 x 1) 6148914691236517205)+(bits .and .u64 x 6148914691236517205))) 2) 3689348814741910323)+(bits .and .u64 (IntKind.u64.wrap ((bits .and .u64 (shrK .u64 x 1) 6148914691236517205)+(bits .and .u64 x 6148914691236517205))) 3689348814741910323))) 4)+(IntKind.u64.wrap ((bits .and .u64 (shrK .u64 (IntKind.u64.wrap ((bits .and .u64 (shrK .u64 x 1) 6148914691236517205)+(bits .and .u64 x 6148914691236517205))) 2) 3689348814741910323)+(bits .and .u64 (IntKind.u64.wrap ((bits .and .u64 (shrK .u64 x 1) 6148914691236517205)+(bits .and .u64 x 6148914691236517205))) 3689348814741910323))))) 1085102592571150095) 8)))+(shrK .u64 (IntKind.u64.wrap ((bits .and .u64 (IntKind.u64.wrap ((shrK .u64 (IntKind.u64.wrap ((bits .and .u64 (shrK .u64 (IntKind.u64.wrap ((bits .and .u64 (shrK .u64 x 1) 6148914691236517205)+(bits .and .u64 x 6148914691236517205))) 2) 3689348814741910323)+(bits .and .u64 (IntKind.u64.wrap ((bits .and .u64 (shrK .u64 x 1) 6148914691236517205)+(bits .and .u64 x 6148914691236517205))) 3689348814741910323))) 4)+(IntKind.u64.wrap ((bits .and .u64 (shrK .u64 (IntKind.u64.wrap ((bits .and .u64 (shrK .u64 x 1) 6148914691236517205)+(bits .and .u64 x 6148914691236517205))) 2) 3689348814741910323)+(bits .and .u64 (IntKind.u64.wrap ((bits .and .u64 (shrK .u64 x 1) 6148914691236517205)+(bits .and .u64 x 6148914691236517205))) 3689348814741910323))))) 1085102592571150095)+(shrK .u64 (bits .and .u64 (IntKind.u64.wrap ((shrK .u64 (IntKind.u64.wrap ((bits .and .u64 (shrK .u64 (IntKind.u64.wrap ((bits .and .u64 (shrK .u64 x 1) 6148914691236517205)+(bits .and .u64 x 6148914691236517205))) 2) 3689348814741910323)+(bits .and .u64 (IntKind.u64.wrap ((bits .and .u64 (shrK .u64 x 1) 6148914691236517205)+(bits .and .u64 x 6148914691236517205))) 3689348814741910323))) 4)+(IntKind.u64.wrap ((bits .and .u64 (shrK .u64 (IntKind.u64.wrap ((bits .and .u64 (shrK .u64 x 1) 6148914691236517205)+(bits .and .u64 x 6148914691236517205))) 2) 3689348814741910323)+(bits .and .u64 (IntKind.u64.wrap ((bits .and .u64 (shrK .u64 x 1) 6148914691236517205)+(bits .and .u64 x 6148914691236517205))) 3689348814741910323))))) 1085102592571150095) 8))) 16)))+(shrK .u64 (IntKind.u64.wrap ((IntKind.u64.wrap ((bits .and .u64 (IntKind.u64.wrap ((shrK .u64 (IntKind.u64.wrap ((bits .and .u64 (shrK .u64 (IntKind.u64.wrap ((bits .and .u64 (shrK .u64 x 1) 6148914691236517205)+(bits .and .u64 x 6148914691236517205))) 2) 3689348814741910323)+(bits .and .u64 (IntKind.u64.wrap ((bits .and .u64 (shrK .u64 x 1) 6148914691236517205)+(bits .and .u64 x 6148914691236517205))) 3689348814741910323))) 4)+(IntKind.u64.wrap ((bits .and .u64 (shrK .u64 (IntKind.u64.wrap ((bits .and .u64 (shrK .u64 x 1) 6148914691236517205)+(bits .and .u64 x 6148914691236517205))) 2) 3689348814741910323)+(bits .and .u64 (IntKind.u64.wrap ((bits .and .u64 (shrK .u64 x 1) 6148914691236517205)+(bits .and .u64 x 6148914691236517205))) 3689348814741910323))))) 1085102592571150095)+(shrK .u64 (bits .and .u64 (IntKind.u64.wrap ((shrK .u64 (IntKind.u64.wrap ((bits .and .u64 (shrK .u64 (IntKind.u64.wrap ((bits .and .u64 (shrK .u64 x 1) 6148914691236517205)+(bits .and .u64 x 6148914691236517205))) 2) 3689348814741910323)+(bits .and .u64 (IntKind.u64.wrap ((bits .and .u64 (shrK .u64 x 1) 6148914691236517205)+(bits .and .u64 x 6148914691236517205))) 3689348814741910323))) 4)+(IntKind.u64.wrap ((bits .and .u64 (shrK .u64 (IntKind.u64.wrap ((bits .and .u64 (shrK .u64 x 1) 6148914691236517205)+(bits .and .u64 x 6148914691236517205))) 2) 3689348814741910323)+(bits .and .u64 (IntKind.u64.wrap ((bits .and .u64 (shrK .u64 x 1) 6148914691236517205)+(bits .and .u64 x 6148914691236517205))) 3689348814741910323))))) 1085102592571150095) 8)))+(shrK .u64 (IntKind.u64.wrap ((bits .and .u64 (IntKind.u64.wrap ((shrK .u64 (IntKind.u64.wrap ((bits .and .u64 (shrK .u64 (IntKind.u64.wrap ((bits .and .u64 (shrK .u64 x 1) 6148914691236517205)+(bits .and .u64 x 6148914691236517205))) 2) 3689348814741910323)+(bits .and .u64 (IntKind.u64.wrap ((bits .and .u64 (shrK .u64 x 1) 6148914691236517205)+(bits .and .u64 x 6148914691236517205))) 3689348814741910323))) 4)+(IntKind.u64.wrap ((bits .and .u64 (shrK .u64 (IntKind.u64.wrap ((bits .and .u64 (shrK .u64 x 1) 6148914691236517205)+(bits .and .u64 x 6148914691236517205))) 2) 3689348814741910323)+(bits .and .u64 (IntKind.u64.wrap ((bits .and .u64 (shrK .u64 x 1) 6148914691236517205)+(bits .and .u64 x 6148914691236517205))) 3689348814741910323))))) 1085102592571150095)+(shrK .u64 (bits .and .u64 (IntKind.u64.wrap ((shrK .u64 (IntKind.u64.wrap ((bits .and .u64 (shrK .u64 (IntKind.u64.wrap ((bits .and .u64 (shrK .u64 x 1) 6148914691236517205)+(bits .and .u64 x 6148914691236517205))) 2) 3689348814741910323)+(bits .and .u64 (IntKind.u64.wrap ((bits .and .u64 (shrK .u64 x 1) 6148914691236517205)+(bits .and .u64 x 6148914691236517205))) 3689348814741910323))) 4)+(IntKind.u64.wrap ((bits .and .u64 (shrK .u64 (IntKind.u64.wrap ((bits .and .u64 (shrK .u64 x 1) 6148914691236517205)+(bits .and .u64 x 6148914691236517205))) 2) 3689348814741910323)+(bits .and .u64 (IntKind.u64.wrap ((bits .and .u64 (shrK .u64 x 1) 6148914691236517205)+(bits .and .u64 x 6148914691236517205))) 3689348814741910323))))) 1085102592571150095) 8))) 16))) 32)))) 127))

def EY (x:Int):Option (Int) :=
  (CL x).bind fun r_1 =>
  some (r_1)

def Dq (mask:Int):Option (Int) :=
  (EY (IntKind.u64.wrap mask)).bind fun r_1 =>
  some (r_1)

def Dw (p:Ah) (mask:Int) (x:Int):Nat→(List Int)→Option (List Int):=fun i sums2 =>
  (((getI p.Terms (i:Int)).bind fun x1 =>
  bif ((bits .and .i64 x1.Mask mask)==mask) then ((AU sums2 mask (IntKind.i64.wrap (x*x1.Coef))).bind fun m =>
  some m) else (some sums2)):Option (List Int)).bind fun sums3 =>
  some sums3
def Fy (p:Ah):(List Int×Int)→Option (Ex (List Int×Int) (List Ab×Bool)):=fun (sums,mask) =>
  chk ((0:Int)≤p.Qubits) <|
  bif (decide (mask<(shlK .i64 1 p.Qubits))) then ((((Dq mask).bind fun r_3 =>
  bif (decide (3<r_3)) then (some sums) else ((Dq mask).bind fun r_4 =>
  (getI ([0,1,(-2),4]:List Int) r_4).bind fun x =>
  chk (p.Terms.length≤9223372036854775807) <|
  (forN (Dw p mask x) p.Terms.length 0 sums).bind fun sums2 =>
  some sums2)):Option (List Int)).bind fun sums1 =>
  some (.nx (sums1,(IntKind.i64.wrap (mask+1))))) else (some (.br (sums,mask)))
def C7 (p:Ah):Option (List Ab×Bool) :=
  (AD p).bind fun r_2 =>
  bif (!r_2) then (some (([],false))) else ((whX (Fy p) fuel ((List.replicate 32 0),1)).bind<|orR fun (sums,mask) =>
  (Dm sums).bind fun r_5 =>
  some ((r_5,true)))

def EN (s1:List Int) (s2:List Int):Nat→Unit→Option (Ex (Unit) (Bool)):=fun i _ =>
  (getI s1 (i:Int)).bind fun x =>
  (getI s2 (i:Int)).bind fun x1 =>
  bif (x != x1) then (some (.rt false)) else (some (.nx ()))
def Dz (s1:List Int) (s2:List Int):Option (Bool) :=
  bif ((s1.length:Int) != (s2.length:Int)) then (some (false)) else (chk (s1.length≤9223372036854775807) <|
  (forX (EN s1 s2) s1.length 0 ()).bind<|orR fun _ =>
  some (true))

def EU (s1:List Ab) (s2:List Ab):Nat→Unit→Option (Ex (Unit) (Bool)):=fun i _ =>
  (getI s1 (i:Int)).bind fun x =>
  (getI s2 (i:Int)).bind fun x1 =>
  bif (!((x.Mask==x1.Mask)&&((x.Coef==x1.Coef)&&true))) then (some (.rt false)) else (some (.nx ()))
def En (s1:List Ab) (s2:List Ab):Option (Bool) :=
  bif ((s1.length:Int) != (s2.length:Int)) then (some (false)) else (chk (s1.length≤9223372036854775807) <|
  (forX (EU s1 s2) s1.length 0 ()).bind<|orR fun _ =>
  some (true))

def CU (p:Ah) (q:Ah):Option (Bool×Bool) :=
  (AD p).bind fun r_2 =>
  (gb (!(!r_2)) false (AD q)).bind fun r_3 =>
  bif (((!r_2)||(!r_3))||(p.Qubits != q.Qubits)) then (some ((false,false))) else ((C7 p).bind fun (r_4,r_5) =>
  (C7 q).bind fun (r_6,r_7) =>
  (gb (p.Phase==q.Phase) false (Dz p.Out.Rows q.Out.Rows)).bind fun r_8 =>
  (gb ((p.Phase==q.Phase)&&r_8) false (En r_4 r_6)).bind fun r_9 =>
  some (((((p.Phase==q.Phase)&&r_8)&&r_9),true)))

def EJ (terms:List Ab):Nat→Int→Option (Int):=fun i count =>
  (getI terms (i:Int)).bind fun x =>
  some (IntKind.i64.wrap (count+(Int.tmod x.Coef 2)))
def Ep (terms:List Ab):Option (Int) :=
  chk (terms.length≤9223372036854775807) <|
  (forN (EJ terms) terms.length 0 0).bind fun count =>
  some (count)

def DI (p:Ah):Option (Int×Bool) :=
  (AD p).bind fun r_2 =>
  bif (!r_2) then (some ((0,false))) else ((Ep p.Terms).bind fun r_3 =>
  some ((r_3,true)))

def ET (c:Ae) (is_:Int→Option (Bool)):Nat→Int→Option (Int):=fun i count =>
  (((getI c.Gates (i:Int)).bind fun x1 =>
  (is_ x1.Kind).bind fun r_3 =>
  bif r_3 then (some (IntKind.i64.wrap (count+1))) else (some count)):Option (Int)).bind fun count1 =>
  some count1
def EG (c:Ae) (is_:Int→Option (Bool)):Option (Int×Bool) :=
  (AW c).bind fun r_2 =>
  bif (!r_2) then (some ((0,false))) else (chk (c.Gates.length≤9223372036854775807) <|
  (forN (ET c is_) c.Gates.length 0 0).bind fun count =>
  some ((count,true)))

def CO (kind:Int):Option (Bool) :=
  some (((kind==7)||(kind==8)))

def ER (c:Ae):Option (Int×Bool) :=
  (EG c CO).bind fun (r_2,r_3) =>
  some ((r_2,r_3))

def CH (c:Ae):Option (Int) :=
  (ER c).bind fun (r_1,r_2) =>
  some (r_1)

def EO (code:List Int) (more:List Int):Option (Bool) :=
  bif (decide (1048576<(IntKind.i64.wrap ((code.length:Int)+(more.length:Int))))) then (some (true)) else ((Dd code).bind fun r_1 =>
  (BH r_1).bind fun (r_2,r_3) =>
  (BU r_1).bind fun (r_4,r_5) =>
  (DU more).bind fun (r_6,r_7) =>
  (Ef r_6 r_7).bind fun (r_8,r_9) =>
  (DG r_6 r_7).bind fun (r_10,r_11) =>
  (gb (!(!(r_3==r_5))) false (Do r_2 r_4)).bind fun r_12 =>
  (gb (!(((!(r_3==r_5))||(!r_12))||(!(r_9==r_11)))) false (Do r_8 r_10)).bind fun r_13 =>
  bif ((((!(r_3==r_5))||(!r_12))||(!(r_9==r_11)))||(!r_13)) then (some (false)) else (((bif r_9 then ((BA r_8).bind fun (r_14,r_15) =>
  (gb (!(!r_15)) false (Da r_14.Terms r_7)).bind fun r_16 =>
  bif ((!r_15)||(!r_16)) then (some (.inr false)) else (some (.inl ()))) else (some (.inl ()))):Option ((Unit) ⊕ (Bool))).bind<|orR fun _ =>
  bif (!r_3) then (some (true)) else ((BA r_2).bind fun (r_17,r_18) =>
  (CU r_1 r_17).bind fun (r_19,r_20) =>
  (DI r_1).bind fun (r_21,r_22) =>
  (gb (((r_18&&r_20)&&r_22)&&r_19) 0 (CH r_2)).bind fun r_23 =>
  some (((((r_18&&r_20)&&r_22)&&r_19)&&(r_23==r_21))))))
end Go.VK
