/- laws.FnExactNormalizeClifford returns true for all arguments, and leaves what it was handed as it was. No condition beyond the given statement. -/
import Derived.Test.YtgacclcoghlhmaaNormalizeCliffordOp
import Derived.Test.YtgacclcoghlhmaaRows
import Derived.Test.YtgacclcoghlhmaaNormalizeCliffordLaw
import Derived.Test.YtgacclcoghlhmaaNormalizeCliffordW6
import Derived.Test.YtgacclcoghlhmaaNormalizeCliffordCa
import Derived.Test.YtgacclcoghlhmaaNormalizeCliffordCb
import Derived.Test.YtgacclcoghlhmaaNormalizeCliffordCc
import Derived.Test.YtgacclcoghlhmaaNormalizeCliffordCd
set_option linter.unusedVariables false
set_option maxRecDepth 100000
set_option maxHeartbeats 1000000
namespace Go.Proofs.Ytgacclcoghlhmaa
open Go.ChangeShapes Go.WideShapes Go.ChangeAt Go.RowKit Go.VK
theorem own : ownKnob Try.prog.godebug = none := by kernel_rfl
theorem laidOut : laidOutB Try.prog = true := by kernel_rfl
theorem mapsRow : mapsRowed Try.prog = true := by kernel_rfl
theorem slicesFull : slicesFullB Try.prog = true := by kernel_rfl
theorem contract_FnExactNormalizeClifford (H : Type) (enc : TypeId × Value → H) (W : World) (base : Nat) (args : Array Value) (ds gs : List (DataW H)) (before : List MemPlace)
    (hval : ∀ (j : Nat) t v, Try.f3.params[j]? = some t → args[j]? = some v → Value.okWide Try.prog W .any base t v)
    (hW : DataW.Whole enc Try.prog Try.f3.params.toList Rows.fnExactNormalizeCliffordSpec.vars false W args.toList ds gs before) :
    Calls Try.prog 3 args W fun e W' => ∃ v, e = .returned v ∧ Rows.fnExactNormalizeCliffordSpec.post enc Try.prog Try.f3 false true false false W args v W' := by
  have hW' := hW
  obtain ⟨p, q, hA, hV, rfl, hfz, hnd⟩ := hW
  have hA : DataW.TrodAll enc Try.prog W 0 (fun _ => true) true Try.f3.params.toList args.toList ds p := hA
  rw [Try.params3] at hA hval
  obtain ⟨v0, vs0, d0, ds0, p0, q0, ea0, ed0, ep0, h0, hA0⟩ := trodAll_cons hA
  obtain ⟨ev, edn, _⟩ := trodAll_nil hA0
  subst ev edn
  obtain rfl : args = #[v0] := Array.toList_inj.mp (by rw [ea0])
  obtain rfl : ds = [d0] := by rw [ed0]
  obtain ⟨rfl, rfl⟩ := trodVars_none hV
  obtain ⟨n0, t0⟩ := h0
  obtain ⟨cs0, rfl, _⟩ := okWide_struct (Try.underlying24) (hval 0 24 v0 rfl rfl)
  obtain ⟨a0, B0_0, c0_0, e0, o0, r0_0⟩ := rd_Circuit t0
  obtain rfl := Array.toList_inj.mp (show cs0.toList = (List.toArray _).toList from e0)
  have hF := law_FnExactNormalizeClifford a0 o0
  refine Calls.mono (c_laws_FnExactNormalizeClifford a0 B0_0 c0_0 a0.Gates.length W rfl (ST.refl (ro_cons r0_0 (fun _ h => by cases h))) hF) (fun e W' ⟨v, he, hv, hST⟩ => ⟨v, he, ?_⟩)
  subst hv
  exact post_true (tb := 4) laidOut mapsRow slicesFull (by kernel_rfl) (by kernel_rfl) (by kernel_rfl) hW' rfl rfl hST
theorem lifted_FnExactNormalizeClifford (os : Os) (started : os.Started) (H : Type) (enc : TypeId × Value → H) :
    ReturnsInHanded {} Try.checked os 3 .any (Rows.fnExactNormalizeCliffordSpec.pre6 enc Try.prog Try.f3 Rows.fnExactNormalizeCliffordRow.domain false) (Rows.fnExactNormalizeCliffordSpec.post enc Try.prog Try.f3 false true false false) := by
  refine returnsInHanded_of_change (C := Try.checked) own started (by kernel_rfl) Try.func3
    (ChangeSpec.witness6 (enc := enc) (C := Try.checked) false ⟨#[], #[.agg #[.int .i64 0, .slice none 0 0]], []⟩ 8 (by kernel_rfl) (by kernel_rfl) (by kernel_rfl) (by kernel_rfl)) ?_
  intro W base args ds gs before hval hW _ _
  exact contract_FnExactNormalizeClifford H enc W base args ds gs before hval hW
theorem closed_row : joinedFacts Try.prog 3 Try.f3 Rows.fnExactNormalizeCliffordSpec Rows.fnExactNormalizeCliffordRow = true := by
  unfold joinedFacts
  rw [laidOut, mapsRow, cl_inPlace, cl_unfollowed, cl_recurses, cl_named, cl_stopsHeard, cl_mayEnter, cl_lifted, cl_make]
  kernel_rfl
/-- 'laws.FnExactNormalizeClifford' returns true for all arguments, and leaves what it was handed as it was. No condition. -/
theorem proved_FnExactNormalizeClifford : Rows.FnExactNormalizeCliffordSaid :=
  OpenClaim.holds_of_wide 3 Try.f3 rfl rfl rfl rfl rfl rfl rfl ⟨rfl, rfl, rfl, rfl, rfl⟩ rfl rfl rfl rfl rfl (by kernel_rfl) Try.func3 closed_row
    (of_decide_eq_true (by kernel_rfl)) (by unfold Func.isWrapper; first | (rw [if_pos (by decide +kernel)]; kernel_rfl) | (rw [if_neg (by decide +kernel)]; exact ⟨rfl, rfl⟩))
    (fun os started H enc _ => lifted_FnExactNormalizeClifford os started H enc)
end Go.Proofs.Ytgacclcoghlhmaa
