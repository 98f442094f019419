/- laws.FnExactPauliMatrix returns true for all arguments, and leaves what it was handed as it was. No condition beyond the given statement. -/
import Derived.Test.YtchihdcajdocgaaPauliMatrixOp
import Derived.Test.YtchihdcajdocgaaRows
import Derived.Test.YtchihdcajdocgaaPauliMatrixLaw
import Derived.Test.YtchihdcajdocgaaPauliMatrixW4
import Derived.Test.YtchihdcajdocgaaPauliMatrixCa
import Derived.Test.YtchihdcajdocgaaPauliMatrixCb
import Derived.Test.YtchihdcajdocgaaPauliMatrixCc
import Derived.Test.YtchihdcajdocgaaPauliMatrixCd
set_option linter.unusedVariables false
set_option maxRecDepth 100000
set_option maxHeartbeats 1000000
namespace Go.Proofs.Ytchihdcajdocgaa
open Go.ChangeShapes Go.WideShapes Go.ChangeAt Go.RowKit Go.VK
theorem own : ownKnob Try.prog.godebug = none := by kernel_rfl
theorem laidOut : laidOutB Try.prog = true := by kernel_rfl
theorem mapsRow : mapsRowed Try.prog = true := by kernel_rfl
theorem slicesFull : slicesFullB Try.prog = true := by kernel_rfl
theorem contract_FnExactPauliMatrix (H : Type) (enc : TypeId × Value → H) (W : World) (base : Nat) (args : Array Value) (ds gs : List (DataW H)) (before : List MemPlace)
    (hval : ∀ (j : Nat) t v, Try.f3.params[j]? = some t → args[j]? = some v → Value.okWide Try.prog W .any base t v)
    (hW : DataW.Whole enc Try.prog Try.f3.params.toList Rows.fnExactPauliMatrixSpec.vars false W args.toList ds gs before) :
    Calls Try.prog 3 args W fun e W' => ∃ v, e = .returned v ∧ Rows.fnExactPauliMatrixSpec.post enc Try.prog Try.f3 false true false false W args v W' := by
  have hW' := hW
  obtain ⟨p, q, hA, hV, rfl, hfz, hnd⟩ := hW
  have hA : DataW.TrodAll enc Try.prog W 0 (fun _ => true) true Try.f3.params.toList args.toList ds p := hA
  rw [Try.params3] at hA hval
  obtain ⟨v0, vs0, d0, ds0, p0, q0, ea0, ed0, ep0, h0, hA0⟩ := trodAll_cons hA
  obtain ⟨v1, vs1, d1, ds1, p1, q1, ea1, ed1, ep1, h1, hA1⟩ := trodAll_cons hA0
  obtain ⟨ev, edn, _⟩ := trodAll_nil hA1
  subst ev edn
  obtain rfl : args = #[v0, v1] := Array.toList_inj.mp (by rw [ea0, ea1])
  obtain rfl : ds = [d0, d1] := by rw [ed0, ed1]
  obtain ⟨rfl, rfl⟩ := trodVars_none hV
  obtain ⟨n0, t0⟩ := h0
  rw [val_scal k_sc_3 (hval 0 3 v0 rfl rfl)] at t0
  obtain ⟨a0, e0, o0⟩ := rd_int k_int_3_i64 t0
  obtain rfl := (List.cons.inj e0).1
  obtain ⟨n1, t1⟩ := h1
  obtain ⟨cs1, rfl, _⟩ := okWide_struct (Try.underlying23) (hval 1 23 v1 rfl rfl)
  obtain ⟨a1, e1, o1⟩ := rd_Pauli t1
  obtain rfl := Array.toList_inj.mp (show cs1.toList = (List.toArray _).toList from e1)
  have hF := law_FnExactPauliMatrix a0 a1 o0 o1
  refine Calls.mono (c_laws_FnExactPauliMatrix a0 a1  W  (ST.refl (fun _ h => by cases h)) hF) (fun e W' ⟨v, he, hv, hST⟩ => ⟨v, he, ?_⟩)
  subst hv
  exact post_true (tb := 4) laidOut mapsRow slicesFull (by kernel_rfl) (by kernel_rfl) (by kernel_rfl) hW' rfl rfl hST
theorem lifted_FnExactPauliMatrix (os : Os) (started : os.Started) (H : Type) (enc : TypeId × Value → H) :
    ReturnsInHanded {} Try.checked os 3 .any (Rows.fnExactPauliMatrixSpec.pre6 enc Try.prog Try.f3 Rows.fnExactPauliMatrixRow.domain false) (Rows.fnExactPauliMatrixSpec.post enc Try.prog Try.f3 false true false false) := by
  refine returnsInHanded_of_change (C := Try.checked) own started (by kernel_rfl) Try.func3
    (ChangeSpec.witness6 (enc := enc) (C := Try.checked) false ⟨#[], #[.int .i64 0, .agg #[.int .i64 0, .int .i64 0, .int .i64 0]], []⟩ 8 (by kernel_rfl) (by kernel_rfl) (by kernel_rfl) (by kernel_rfl)) ?_
  intro W base args ds gs before hval hW _ _
  exact contract_FnExactPauliMatrix H enc W base args ds gs before hval hW
theorem closed_row : joinedFacts Try.prog 3 Try.f3 Rows.fnExactPauliMatrixSpec Rows.fnExactPauliMatrixRow = true := by
  unfold joinedFacts
  rw [laidOut, mapsRow, cl_inPlace, cl_unfollowed, cl_recurses, cl_named, cl_stopsHeard, cl_mayEnter, cl_lifted, cl_make]
  kernel_rfl
/-- 'laws.FnExactPauliMatrix' returns true for all arguments, and leaves what it was handed as it was. No condition. -/
theorem proved_FnExactPauliMatrix : Rows.FnExactPauliMatrixSaid :=
  OpenClaim.holds_of_wide 3 Try.f3 rfl rfl rfl rfl rfl rfl rfl ⟨rfl, rfl, rfl, rfl, rfl⟩ rfl rfl rfl rfl rfl (by kernel_rfl) Try.func3 closed_row
    (of_decide_eq_true (by kernel_rfl)) (by unfold Func.isWrapper; first | (rw [if_pos (by decide +kernel)]; kernel_rfl) | (rw [if_neg (by decide +kernel)]; exact ⟨rfl, rfl⟩))
    (fun os started H enc _ => lifted_FnExactPauliMatrix os started H enc)
end Go.Proofs.Ytchihdcajdocgaa
