/- laws.FnExactGatesCommute returns true for all arguments, and leaves what it was handed as it was. No condition beyond the given statement. -/
import Derived.Test.YtmonoeihfeikeaaGreatGatesCommuteOp
import Derived.Test.YtmonoeihfeikeaaGreatRows
import Derived.Test.YtmonoeihfeikeaaGreatGatesCommuteLaw
import Derived.Test.YtmonoeihfeikeaaGreatGatesCommuteW3
import Derived.Test.YtmonoeihfeikeaaGreatGatesCommuteCa
import Derived.Test.YtmonoeihfeikeaaGreatGatesCommuteCb
import Derived.Test.YtmonoeihfeikeaaGreatGatesCommuteCc
import Derived.Test.YtmonoeihfeikeaaGreatGatesCommuteCd
set_option linter.unusedVariables false
set_option maxRecDepth 100000
set_option maxHeartbeats 1000000
namespace Go.Proofs.YtmonoeihfeikeaaGreat
open Go.ChangeShapes Go.WideShapes Go.ChangeAt Go.RowKit Go.VK
theorem own : ownKnob Tryz.prog.godebug = none := by kernel_rfl
theorem laidOut : laidOutB Tryz.prog = true := by kernel_rfl
theorem mapsRow : mapsRowed Tryz.prog = true := by kernel_rfl
theorem slicesFull : slicesFullB Tryz.prog = true := by kernel_rfl
theorem contract_FnExactGatesCommute (H : Type) (enc : TypeId × Value → H) (W : World) (base : Nat) (args : Array Value) (ds gs : List (DataW H)) (before : List MemPlace)
    (hval : ∀ (j : Nat) t v, Tryz.f5.params[j]? = some t → args[j]? = some v → Value.okWide Tryz.prog W .any base t v)
    (hW : DataW.Whole enc Tryz.prog Tryz.f5.params.toList Rows.fnExactGatesCommuteSpec.vars false W args.toList ds gs before) :
    Calls Tryz.prog 5 args W fun e W' => ∃ v, e = .returned v ∧ Rows.fnExactGatesCommuteSpec.post enc Tryz.prog Tryz.f5 false true false false W args v W' := by
  have hW' := hW
  obtain ⟨p, q, hA, hV, rfl, hfz, hnd⟩ := hW
  have hA : DataW.TrodAll enc Tryz.prog W 0 (fun _ => true) true Tryz.f5.params.toList args.toList ds p := hA
  rw [Tryz.params5] at hA hval
  obtain ⟨v0, vs0, d0, ds0, p0, q0, ea0, ed0, ep0, h0, hA0⟩ := trodAll_cons hA
  obtain ⟨v1, vs1, d1, ds1, p1, q1, ea1, ed1, ep1, h1, hA1⟩ := trodAll_cons hA0
  obtain ⟨v2, vs2, d2, ds2, p2, q2, ea2, ed2, ep2, h2, hA2⟩ := trodAll_cons hA1
  obtain ⟨ev, edn, _⟩ := trodAll_nil hA2
  subst ev edn
  obtain rfl : args = #[v0, v1, v2] := Array.toList_inj.mp (by rw [ea0, ea1, ea2])
  obtain rfl : ds = [d0, d1, d2] := by rw [ed0, ed1, ed2]
  obtain ⟨rfl, rfl⟩ := trodVars_none hV
  obtain ⟨n0, t0⟩ := h0
  rw [val_scal k_sc_3 (hval 0 3 v0 rfl rfl)] at t0
  obtain ⟨a0, e0, o0⟩ := rd_int k_int_3_i64 t0
  obtain rfl := (List.cons.inj e0).1
  obtain ⟨n1, t1⟩ := h1
  obtain ⟨cs1, rfl, _⟩ := okWide_struct (Tryz.underlying65) (hval 1 65 v1 rfl rfl)
  obtain ⟨a1, e1, o1⟩ := rd_Gate t1
  obtain rfl := Array.toList_inj.mp (show cs1.toList = (List.toArray _).toList from e1)
  obtain ⟨n2, t2⟩ := h2
  obtain ⟨cs2, rfl, _⟩ := okWide_struct (Tryz.underlying65) (hval 2 65 v2 rfl rfl)
  obtain ⟨a2, e2, o2⟩ := rd_Gate t2
  obtain rfl := Array.toList_inj.mp (show cs2.toList = (List.toArray _).toList from e2)
  have hF := law_FnExactGatesCommute a0 a1 a2 o0 o1 o2
  refine Calls.mono (c_laws_FnExactGatesCommute a0 a1 a2  W  (ST.refl (fun _ h => by cases h)) hF) (fun e W' ⟨v, he, hv, hST⟩ => ⟨v, he, ?_⟩)
  subst hv
  exact post_true (tb := 4) laidOut mapsRow slicesFull (by kernel_rfl) (by kernel_rfl) (by kernel_rfl) hW' rfl rfl hST
theorem lifted_FnExactGatesCommute (os : Os) (started : os.Started) (H : Type) (enc : TypeId × Value → H) :
    ReturnsInHanded {} Tryz.checked os 5 .any (Rows.fnExactGatesCommuteSpec.pre6 enc Tryz.prog Tryz.f5 Rows.fnExactGatesCommuteRow.domain false) (Rows.fnExactGatesCommuteSpec.post enc Tryz.prog Tryz.f5 false true false false) := by
  refine returnsInHanded_of_change (C := Tryz.checked) own started (by kernel_rfl) Tryz.func5
    (ChangeSpec.witness6 (enc := enc) (C := Tryz.checked) false ⟨#[], #[.int .i64 0, .agg #[.int .i64 0, .int .i64 0, .int .i64 0], .agg #[.int .i64 0, .int .i64 0, .int .i64 0]], []⟩ 8 (by kernel_rfl) (by kernel_rfl) (by kernel_rfl) (by kernel_rfl)) ?_
  intro W base args ds gs before hval hW _ _
  exact contract_FnExactGatesCommute H enc W base args ds gs before hval hW
theorem closed_row : joinedFacts Tryz.prog 5 Tryz.f5 Rows.fnExactGatesCommuteSpec Rows.fnExactGatesCommuteRow = true := by
  unfold joinedFacts
  rw [laidOut, mapsRow, cl_inPlace, cl_unfollowed, cl_recurses, cl_named, cl_stopsHeard, cl_mayEnter, cl_lifted, cl_make]
  kernel_rfl
/-- 'laws.FnExactGatesCommute' returns true for all arguments, and leaves what it was handed as it was. No condition. -/
theorem proved_FnExactGatesCommute : Rows.FnExactGatesCommuteSaid :=
  OpenClaim.holds_of_wide 5 Tryz.f5 rfl rfl rfl rfl rfl rfl rfl ⟨rfl, rfl, rfl, rfl, rfl⟩ rfl rfl rfl rfl rfl (by kernel_rfl) Tryz.func5 closed_row
    (of_decide_eq_true (by kernel_rfl)) (by unfold Func.isWrapper; first | (rw [if_pos (by decide +kernel)]; kernel_rfl) | (rw [if_neg (by decide +kernel)]; exact ⟨rfl, rfl⟩))
    (fun os started H enc _ => lifted_FnExactGatesCommute os started H enc)
end Go.Proofs.YtmonoeihfeikeaaGreat
