/- laws.FnExactIsOneQubit returns true for all arguments, and leaves what it was handed as it was. No condition beyond the given statement. -/
import Derived.Test.YthfilimbhhijaaaIsOneQubitOp
import Derived.Test.YthfilimbhhijaaaRows
import Derived.Test.YthfilimbhhijaaaIsOneQubitLaw
import Derived.Test.YthfilimbhhijaaaIsOneQubitW4
set_option linter.unusedVariables false
set_option maxRecDepth 100000
set_option maxHeartbeats 1000000
namespace Go.Proofs.Ythfilimbhhijaaa
open Go.ChangeShapes Go.WideShapes Go.ChangeAt Go.RowKit Go.VK
theorem own : ownKnob Try.prog.godebug = none := by kernel_rfl
theorem laidOut : laidOutB Try.prog = true := by kernel_rfl
theorem mapsRow : mapsRowed Try.prog = true := by kernel_rfl
theorem slicesFull : slicesFullB Try.prog = true := by kernel_rfl
theorem contract_FnExactIsOneQubit (H : Type) (enc : TypeId × Value → H) (W : World) (base : Nat) (args : Array Value) (ds gs : List (DataW H)) (before : List MemPlace)
    (hval : ∀ (j : Nat) t v, Try.f10.params[j]? = some t → args[j]? = some v → Value.okWide Try.prog W .any base t v)
    (hW : DataW.Whole enc Try.prog Try.f10.params.toList Rows.fnExactIsOneQubitSpec.vars false W args.toList ds gs before) :
    Calls Try.prog 10 args W fun e W' => ∃ v, e = .returned v ∧ Rows.fnExactIsOneQubitSpec.post enc Try.prog Try.f10 false true false false W args v W' := by
  have hW' := hW
  obtain ⟨p, q, hA, hV, rfl, hfz, hnd⟩ := hW
  have hA : DataW.TrodAll enc Try.prog W 0 (fun _ => true) true Try.f10.params.toList args.toList ds p := hA
  rw [Try.params10] at hA hval
  obtain ⟨v0, vs0, d0, ds0, p0, q0, ea0, ed0, ep0, h0, hA0⟩ := trodAll_cons hA
  obtain ⟨ev, edn, _⟩ := trodAll_nil hA0
  subst ev edn
  obtain rfl : args = #[v0] := Array.toList_inj.mp (by rw [ea0])
  obtain rfl : ds = [d0] := by rw [ed0]
  obtain ⟨rfl, rfl⟩ := trodVars_none hV
  obtain ⟨n0, t0⟩ := h0
  obtain ⟨cs0, rfl, _⟩ := okWide_struct (Try.underlying58) (hval 0 58 v0 rfl rfl)
  obtain ⟨a0, B0_0, c0_0, e0, o0, r0_0⟩ := rd_Matrix t0
  obtain rfl := Array.toList_inj.mp (show cs0.toList = (List.toArray _).toList from e0)
  have hF := law_FnExactIsOneQubit a0 o0
  refine Calls.mono (c_laws_FnExactIsOneQubit a0 B0_0 c0_0 a0.Cells.length W rfl (ST.refl (ro_cons r0_0 (fun _ h => by cases h))) hF) (fun e W' ⟨v, he, hv, hST⟩ => ⟨v, he, ?_⟩)
  subst hv
  exact post_true (tb := 4) laidOut mapsRow slicesFull (by kernel_rfl) (by kernel_rfl) (by kernel_rfl) hW' rfl rfl hST
theorem lifted_FnExactIsOneQubit (os : Os) (started : os.Started) (H : Type) (enc : TypeId × Value → H) :
    ReturnsInHanded {} Try.checked os 10 .any (Rows.fnExactIsOneQubitSpec.pre6 enc Try.prog Try.f10 Rows.fnExactIsOneQubitRow.domain false) (Rows.fnExactIsOneQubitSpec.post enc Try.prog Try.f10 false true false false) := by
  refine returnsInHanded_of_change (C := Try.checked) own started (by kernel_rfl) Try.func10
    (ChangeSpec.witness6 (enc := enc) (C := Try.checked) false ⟨#[], #[.agg #[.int .i64 0, .int .i64 0, .slice none 0 0]], []⟩ 8 (by kernel_rfl) (by kernel_rfl) (by kernel_rfl) (by kernel_rfl)) ?_
  intro W base args ds gs before hval hW _ _
  exact contract_FnExactIsOneQubit H enc W base args ds gs before hval hW
/-- 'laws.FnExactIsOneQubit' returns true for all arguments, and leaves what it was handed as it was. No condition. -/
theorem proved_FnExactIsOneQubit : Rows.FnExactIsOneQubitSaid :=
  OpenClaim.holds_of_wide 10 Try.f10 rfl rfl rfl rfl rfl rfl rfl ⟨rfl, rfl, rfl, rfl, rfl⟩ rfl rfl rfl rfl rfl (by kernel_rfl) Try.func10 (by kernel_rfl)
    (of_decide_eq_true (by kernel_rfl)) (by unfold Func.isWrapper; first | (rw [if_pos (by decide +kernel)]; kernel_rfl) | (rw [if_neg (by decide +kernel)]; exact ⟨rfl, rfl⟩))
    (fun os started H enc _ => lifted_FnExactIsOneQubit os started H enc)
end Go.Proofs.Ythfilimbhhijaaa
