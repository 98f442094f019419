/- Strings: their operations, one lemma an operation. Plain lemmas over any program. -/
import Derived.Test.YtkmncijipedjaaaGreatDoorLibJ
import Derived.Laws.Strings
import Derived.Laws.BytesString
import Derived.Laws.Concat
namespace Go.VK
open Go.RowKit

/-- A string out of its bytes. -/
def bstr (l : List UInt8) : ByteArray := ⟨l.toArray⟩
/-- Numbers as bytes. -/
def bts (l : List Int) : List UInt8 := l.map fun x => UInt8.ofNat x.toNat
def enc_u8 (x : Int) : List Value := [.int .u8 x]
theorem enc_u8_len (x : Int) : (enc_u8 x).length = 1 := rfl
theorem enc_u8_one (x : Int) : one (enc_u8 x) = true := rfl
/-- A drawn byte; a drawn string. -/
def U8 (a : Int) : Prop := 0 ≤ a ∧ a ≤ 255
def SL (x : List UInt8) : Prop := x.length ≤ 9223372036854775807
def encS (x : List UInt8) : List Value := [.string (bstr x)]
theorem encS_len (x : List UInt8) : (encS x).length = 1 := rfl
theorem encS_one (x : List UInt8) : one (encS x) = true := rfl
theorem bstr_size (l : List UInt8) : (bstr l).size = l.length := by simp [bstr, ByteArray.size]
theorem bstr_list (l : List UInt8) : (bstr l).toList = l := ByteArray.toList_mk l
def strB (P : Program) (T : TypeId) : Bool := match P.underlying T with | some .string => true | _ => false
theorem strB_spec {P : Program} {T : TypeId} (h : strB P T = true) : P.underlying T = some .string := by
  unfold strB at h; split at h
  · assumption
  · cases h
section
variable {P : Program} {n : Nat} {f : Nat → Value} {w : World} {o : Oper} {T T' : TypeId} {x y : Operand} {k : IntKind}
theorem Y_slen {a : List UInt8} (hT : strB P T = true) (ho : o.op = .call ⟨.builtin .len, #[x], #[T]⟩) (hx : ev n f x = .string (bstr a)) : Y P n f w o (.int .i64 a.length) := by
  have := run_len_string (P := P) w T o.type (bstr a) (strB_spec hT)
  unfold Y execOp; rw [ho]; simp [resolve, invoke, builtin, hx, this, goInt, bstr_size]
theorem Y_sidx {a : List UInt8} {i : Int} {b : UInt8} (hT : strB P T = true) (ho : o.op = .index T x y) (hx : ev n f x = .string (bstr a)) (hy : ev n f y = .int k i) (h : getI a i = some b) : Y P n f w o (.int .u8 b.toNat) := by
  have h0 := getI_nn h
  have h1 := getI_lt h
  have hr := run_index_string (P := P) w T (bstr a) k i (strB_spec hT)
  rw [dif_pos ⟨h0, by rw [bstr_size]; omega⟩] at hr
  have hb : ((bstr a)[i.toNat]'(by rw [bstr_size]; exact h1)) = b := by
    have h2 := getI_some h
    rw [List.getElem?_eq_getElem h1] at h2
    have := Option.some.inj h2
    rw [← this]
    rfl
  rw [hb] at hr
  unfold Y execOp; rw [ho]
  simp only [hx, hy]
  simp [hr]
theorem Y_sadd {a b : List UInt8} (ho : o.op = .binOp .add T x y T') (hx : ev n f x = .string (bstr a)) (hy : ev n f y = .string (bstr b)) (h : a.length + b.length ≤ 1099511627776) : Y P n f w o (.string (bstr (a ++ b))) := by
  have hr := run_string_add_sum (P := P) w (bstr a) (bstr b) (by rw [bstr_size, bstr_size]; omega)
  rw [show bstr a ++ bstr b = bstr (a ++ b) from ByteArray.mk_append_mk a b] at hr
  unfold Y execOp; rw [ho]; simp [hx, hy, binOp, hr, eqGuard_at_string]
theorem Y_seq {a b : List UInt8} (ho : o.op = .binOp .eql T x y T') (hx : ev n f x = .string (bstr a)) (hy : ev n f y = .string (bstr b)) : Y P n f w o (.bool (a == b)) := by
  unfold Y execOp; rw [ho]; simp [hx, hy, binOp_string_eql, bstr_list, eqGuard_at_string]
theorem Y_sne {a b : List UInt8} (ho : o.op = .binOp .neq T x y T') (hx : ev n f x = .string (bstr a)) (hy : ev n f y = .string (bstr b)) : Y P n f w o (.bool (!(a == b))) := by
  unfold Y execOp; rw [ho]; simp [hx, hy, binOp_string_neq, bstr_list, eqGuard_at_string]
theorem foldl_push (ns : List Int) : ∀ (l : List UInt8), ns.foldl (fun r n => r.push (UInt8.ofNat n.toNat)) (bstr l) = bstr (l ++ bts ns) := by
  induction ns with
  | nil => intro l; simp [bts]
  | cons m ns ih =>
    intro l
    have : (bstr l).push (UInt8.ofNat m.toNat) = bstr (l ++ [UInt8.ofNat m.toNat]) := by
      unfold bstr ByteArray.push; simp
    simp only [List.foldl_cons, this, ih]
    simp [bts]
theorem enc_u8_flat (l : List Int) : l.flatMap enc_u8 = l.map (Value.int .u8) := by
  induction l with
  | nil => rfl
  | cons a l ih => simp [List.flatMap_cons, enc_u8, ih]
theorem Y_b2s {e : TypeId} {B : Option Addr} {m c : Nat} {l : List Int} (hT : sliceB P T e = true) (he : intB P e .u8 = true) (hT' : strB P T' = true) (ho : o.op = .convert T T' x) (hx : ev n f x = .slice B m c) (hl : l.length = m) (hc : CF w B (l.flatMap enc_u8)) :
    Y P n f w o (.string (bstr (bts l))) := by
  subst hl
  have hr := run_convert_bytes_string (P := P) w T T' e B l.length c (sliceB_spec hT) (intB_spec he) (strB_spec hT')
  rw [enc_u8_flat] at hc
  have : (Conv.bytesToString (.slice B l.length c)).run P w = .ok (.string (bstr (bts l))) w := by
    cases B with
    | none =>
      cases l with
      | nil => rfl
      | cons a l => have := hc.1 (by simp); simp at this
    | some a =>
      have hld : (loadCells a l.length).run P w = .ok (l.map (Value.int .u8)).toArray w := by
        have h2 := run_loadCells_list (P := P) w a (l.map (Value.int .u8)) (fun j u hu => by simpa [ad] using hc.2 j u hu)
        simpa using h2
      have := run_bytesToString (P := P) w a l.length c l hld
      rw [this]
      have e := foldl_push l []
      rw [show bstr [] = ByteArray.empty from rfl, List.nil_append] at e
      rw [e]
  unfold Y execOp; rw [ho]; simp [hx, hr, this]
end
theorem eqr_string {P : Program} {d T : Nat} {a b : List UInt8} (h : P.underlying T = some .string) : EqR P (d + 1) T (.string (bstr a)) (.string (bstr b)) (a == b) := fun w => by
  rw [run_equalIn_string w d T _ _ h, bstr_list, bstr_list]
end Go.VK
