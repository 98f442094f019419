/- laws.FnExactSubstituteVar returns true for all arguments, and leaves what it was handed as it was. No condition beyond the given statement. -/
import Derived.Test.YtklicjfbpikobaaSubstituteVarOp
import Derived.Test.YtklicjfbpikobaaRows
import Derived.Test.YtklicjfbpikobaaSubstituteVarLaw
import Derived.Test.YtklicjfbpikobaaSubstituteVarW4
import Derived.Test.YtklicjfbpikobaaSubstituteVarCa
import Derived.Test.YtklicjfbpikobaaSubstituteVarCb
import Derived.Test.YtklicjfbpikobaaSubstituteVarCc
import Derived.Test.YtklicjfbpikobaaSubstituteVarCd
set_option linter.unusedVariables false
set_option maxRecDepth 100000
set_option maxHeartbeats 1000000
namespace Go.Proofs.Ytklicjfbpikobaa
open Go.ChangeShapes Go.WideShapes Go.ChangeAt Go.RowKit Go.VK
theorem own : ownKnob Try.prog.godebug = none := by kernel_rfl
theorem laidOut : laidOutB Try.prog = true := by kernel_rfl
theorem mapsRow : mapsRowed Try.prog = true := by kernel_rfl
theorem slicesFull : slicesFullB Try.prog = true := by kernel_rfl
theorem contract_FnExactSubstituteVar (H : Type) (enc : TypeId × Value → H) (W : World) (base : Nat) (args : Array Value) (ds gs : List (DataW H)) (before : List MemPlace)
    (hval : ∀ (j : Nat) t v, Try.f5.params[j]? = some t → args[j]? = some v → Value.okWide Try.prog W .any base t v)
    (hW : DataW.Whole enc Try.prog Try.f5.params.toList Rows.fnExactSubstituteVarSpec.vars false W args.toList ds gs before) :
    Calls Try.prog 5 args W fun e W' => ∃ v, e = .returned v ∧ Rows.fnExactSubstituteVarSpec.post enc Try.prog Try.f5 false true false false W args v W' := by
  have hW' := hW
  obtain ⟨p, q, hA, hV, rfl, hfz, hnd⟩ := hW
  have hA : DataW.TrodAll enc Try.prog W 0 (fun _ => true) true Try.f5.params.toList args.toList ds p := hA
  rw [Try.params5] at hA hval
  obtain ⟨v0, vs0, d0, ds0, p0, q0, ea0, ed0, ep0, h0, hA0⟩ := trodAll_cons hA
  obtain ⟨v1, vs1, d1, ds1, p1, q1, ea1, ed1, ep1, h1, hA1⟩ := trodAll_cons hA0
  obtain ⟨v2, vs2, d2, ds2, p2, q2, ea2, ed2, ep2, h2, hA2⟩ := trodAll_cons hA1
  obtain ⟨ev, edn, _⟩ := trodAll_nil hA2
  subst ev edn
  obtain rfl : args = #[v0, v1, v2] := Array.toList_inj.mp (by rw [ea0, ea1, ea2])
  obtain rfl : ds = [d0, d1, d2] := by rw [ed0, ed1, ed2]
  obtain ⟨rfl, rfl⟩ := trodVars_none hV
  obtain ⟨n0, t0⟩ := h0
  obtain ⟨cs0, rfl, _⟩ := okWide_struct (Try.underlying50) (hval 0 50 v0 rfl rfl)
  obtain ⟨a0, B0_0, c0_0, B0_1, c0_1, e0, o0, r0_0, r0_1⟩ := rd_PathSum t0
  obtain rfl := Array.toList_inj.mp (show cs0.toList = (List.toArray _).toList from e0)
  obtain ⟨n1, t1⟩ := h1
  rw [val_scal k_sc_3 (hval 1 3 v1 rfl rfl)] at t1
  obtain ⟨a1, e1, o1⟩ := rd_int k_int_3_i64 t1
  obtain rfl := (List.cons.inj e1).1
  obtain ⟨n2, t2⟩ := h2
  obtain ⟨cs2, rfl, _⟩ := okWide_struct (Try.underlying52) (hval 2 52 v2 rfl rfl)
  obtain ⟨a2, e2, o2⟩ := rd_Affine t2
  obtain rfl := Array.toList_inj.mp (show cs2.toList = (List.toArray _).toList from e2)
  have hF := law_FnExactSubstituteVar a0 a1 a2 o0 o1 o2
  refine Calls.mono (c_laws_FnExactSubstituteVar a0 a1 a2 B0_0 c0_0 a0.Terms.length B0_1 c0_1 a0.Out.length W rfl rfl (ST.refl (ro_cons r0_0 (ro_cons r0_1 (fun _ h => by cases h)))) hF) (fun e W' ⟨v, he, hv, hST⟩ => ⟨v, he, ?_⟩)
  subst hv
  exact post_true (tb := 4) laidOut mapsRow slicesFull (by kernel_rfl) (by kernel_rfl) (by kernel_rfl) hW' rfl rfl hST
theorem lifted_FnExactSubstituteVar (os : Os) (started : os.Started) (H : Type) (enc : TypeId × Value → H) :
    ReturnsInHanded {} Try.checked os 5 .any (Rows.fnExactSubstituteVarSpec.pre6 enc Try.prog Try.f5 Rows.fnExactSubstituteVarRow.domain false) (Rows.fnExactSubstituteVarSpec.post enc Try.prog Try.f5 false true false false) := by
  refine returnsInHanded_of_change (C := Try.checked) own started (by kernel_rfl) Try.func5
    (ChangeSpec.witness6 (enc := enc) (C := Try.checked) false ⟨#[], #[.agg #[.int .i64 0, .int .i64 0, .int .i64 0, .int .i64 0, .slice none 0 0, .slice none 0 0], .int .i64 0, .agg #[.int .i64 0, .int .i64 0]], []⟩ 8 (by kernel_rfl) (by kernel_rfl) (by kernel_rfl) (by kernel_rfl)) ?_
  intro W base args ds gs before hval hW _ _
  exact contract_FnExactSubstituteVar H enc W base args ds gs before hval hW
theorem closed_row : joinedFacts Try.prog 5 Try.f5 Rows.fnExactSubstituteVarSpec Rows.fnExactSubstituteVarRow = true := by
  unfold joinedFacts
  rw [laidOut, mapsRow, cl_inPlace, cl_unfollowed, cl_recurses, cl_named, cl_stopsHeard, cl_mayEnter, cl_lifted, cl_make]
  kernel_rfl
/-- 'laws.FnExactSubstituteVar' returns true for all arguments, and leaves what it was handed as it was. No condition. -/
theorem proved_FnExactSubstituteVar : Rows.FnExactSubstituteVarSaid :=
  OpenClaim.holds_of_wide 5 Try.f5 rfl rfl rfl rfl rfl rfl rfl ⟨rfl, rfl, rfl, rfl, rfl⟩ rfl rfl rfl rfl rfl (by kernel_rfl) Try.func5 closed_row
    (of_decide_eq_true (by kernel_rfl)) (by unfold Func.isWrapper; first | (rw [if_pos (by decide +kernel)]; kernel_rfl) | (rw [if_neg (by decide +kernel)]; exact ⟨rfl, rfl⟩))
    (fun os started H enc _ => lifted_FnExactSubstituteVar os started H enc)
end Go.Proofs.Ytklicjfbpikobaa
