/- laws.FnExactReducePathSum returns true for all arguments, and leaves what it was handed as it was. No condition beyond the given statement. -/
import Derived.Test.YtklicjfbpikobaaDoorReducePathSumOp
import Derived.Test.YtklicjfbpikobaaDoorRows
import Derived.Test.YtklicjfbpikobaaDoorReducePathSumLaw
import Derived.Test.YtklicjfbpikobaaDoorReducePathSumW4
import Derived.Test.YtklicjfbpikobaaDoorLibM
import Derived.Test.YtklicjfbpikobaaDoorCards
import Derived.Test.YtklicjfbpikobaaDoorTie
import Derived.SevenTiedAt
import Derived.Test.YtklicjfbpikobaaDoorReducePathSumCa
import Derived.Test.YtklicjfbpikobaaDoorReducePathSumCb
import Derived.Test.YtklicjfbpikobaaDoorReducePathSumCc
import Derived.Test.YtklicjfbpikobaaDoorReducePathSumCd
set_option linter.unusedVariables false
set_option maxRecDepth 100000
set_option maxHeartbeats 1000000
namespace Go.Proofs.YtklicjfbpikobaaDoor
open Go.ChangeShapes Go.WideShapes Go.ChangeAt Go.RowKit Go.VK
theorem own : ownKnob Tryd.prog.godebug = none := by kernel_rfl
theorem laidOut : laidOutB Tryd.prog = true := by kernel_rfl
theorem mapsRow : mapsRowed Tryd.prog = true := by kernel_rfl
theorem slicesFull : slicesFullB Tryd.prog = true := by kernel_rfl
theorem laid_cells0 {H : Type} {enc : TypeId × Value → H} {w : World} {base : Nat} {spare : Nat → Bool} {held : Bool} {n : Nat} {x : List Value} {p : List MemPlace} (h : DataW.trod enc Tryd.prog w base spare held n 97 x = some (.agg [.lit (.int .u8 0), .lit (.int .u8 1), .lit (.int .u8 28), .lit (.int .u8 2), .lit (.int .u8 29), .lit (.int .u8 14), .lit (.int .u8 24), .lit (.int .u8 3), .lit (.int .u8 30), .lit (.int .u8 22), .lit (.int .u8 20), .lit (.int .u8 15), .lit (.int .u8 25), .lit (.int .u8 17), .lit (.int .u8 4), .lit (.int .u8 8), .lit (.int .u8 31), .lit (.int .u8 27), .lit (.int .u8 13), .lit (.int .u8 23), .lit (.int .u8 21), .lit (.int .u8 19), .lit (.int .u8 16), .lit (.int .u8 7), .lit (.int .u8 26), .lit (.int .u8 12), .lit (.int .u8 18), .lit (.int .u8 6), .lit (.int .u8 11), .lit (.int .u8 5), .lit (.int .u8 10), .lit (.int .u8 9)], p)) : x = gl0.flatMap enc_u8 :=
  rd_arrx (l := gl0) k_ar_97_32_5 k_sz_97_32 k_sz_5_1 k_int_5_u8 h
theorem laid_cells1 {H : Type} {enc : TypeId × Value → H} {w : World} {base : Nat} {spare : Nat → Bool} {held : Bool} {n : Nat} {x : List Value} {p : List MemPlace} (h : DataW.trod enc Tryd.prog w base spare held n 98 x = some (.agg [.lit (.int .u8 0), .lit (.int .u8 1), .lit (.int .u8 56), .lit (.int .u8 2), .lit (.int .u8 57), .lit (.int .u8 49), .lit (.int .u8 28), .lit (.int .u8 3), .lit (.int .u8 61), .lit (.int .u8 58), .lit (.int .u8 42), .lit (.int .u8 50), .lit (.int .u8 38), .lit (.int .u8 29), .lit (.int .u8 17), .lit (.int .u8 4), .lit (.int .u8 62), .lit (.int .u8 47), .lit (.int .u8 59), .lit (.int .u8 36), .lit (.int .u8 45), .lit (.int .u8 43), .lit (.int .u8 51), .lit (.int .u8 22), .lit (.int .u8 53), .lit (.int .u8 39), .lit (.int .u8 33), .lit (.int .u8 30), .lit (.int .u8 24), .lit (.int .u8 18), .lit (.int .u8 12), .lit (.int .u8 5), .lit (.int .u8 63), .lit (.int .u8 55), .lit (.int .u8 48), .lit (.int .u8 27), .lit (.int .u8 60), .lit (.int .u8 41), .lit (.int .u8 37), .lit (.int .u8 16), .lit (.int .u8 46), .lit (.int .u8 35), .lit (.int .u8 44), .lit (.int .u8 21), .lit (.int .u8 52), .lit (.int .u8 32), .lit (.int .u8 23), .lit (.int .u8 11), .lit (.int .u8 54), .lit (.int .u8 26), .lit (.int .u8 40), .lit (.int .u8 15), .lit (.int .u8 34), .lit (.int .u8 20), .lit (.int .u8 31), .lit (.int .u8 10), .lit (.int .u8 25), .lit (.int .u8 14), .lit (.int .u8 19), .lit (.int .u8 9), .lit (.int .u8 13), .lit (.int .u8 8), .lit (.int .u8 7), .lit (.int .u8 6)], p)) : x = gl1.flatMap enc_u8 :=
  rd_arrx (l := gl1) k_ar_98_64_5 k_sz_98_64 k_sz_5_1 k_int_5_u8 h
noncomputable def laidWorld (os : Os) : World :=
  { World.holding Tryd.prog os ⟨#[], #[], []⟩ with heap := (((World.holding Tryd.prog os ⟨#[], #[], []⟩).heap.modify 0 (fun o => match o with | .cells _ t frozen => .cells #[.int .u8 0, .int .u8 1, .int .u8 28, .int .u8 2, .int .u8 29, .int .u8 14, .int .u8 24, .int .u8 3, .int .u8 30, .int .u8 22, .int .u8 20, .int .u8 15, .int .u8 25, .int .u8 17, .int .u8 4, .int .u8 8, .int .u8 31, .int .u8 27, .int .u8 13, .int .u8 23, .int .u8 21, .int .u8 19, .int .u8 16, .int .u8 7, .int .u8 26, .int .u8 12, .int .u8 18, .int .u8 6, .int .u8 11, .int .u8 5, .int .u8 10, .int .u8 9] t frozen | o => o)).modify 1 (fun o => match o with | .cells _ t frozen => .cells #[.int .u8 0, .int .u8 1, .int .u8 56, .int .u8 2, .int .u8 57, .int .u8 49, .int .u8 28, .int .u8 3, .int .u8 61, .int .u8 58, .int .u8 42, .int .u8 50, .int .u8 38, .int .u8 29, .int .u8 17, .int .u8 4, .int .u8 62, .int .u8 47, .int .u8 59, .int .u8 36, .int .u8 45, .int .u8 43, .int .u8 51, .int .u8 22, .int .u8 53, .int .u8 39, .int .u8 33, .int .u8 30, .int .u8 24, .int .u8 18, .int .u8 12, .int .u8 5, .int .u8 63, .int .u8 55, .int .u8 48, .int .u8 27, .int .u8 60, .int .u8 41, .int .u8 37, .int .u8 16, .int .u8 46, .int .u8 35, .int .u8 44, .int .u8 21, .int .u8 52, .int .u8 32, .int .u8 23, .int .u8 11, .int .u8 54, .int .u8 26, .int .u8 40, .int .u8 15, .int .u8 34, .int .u8 20, .int .u8 31, .int .u8 10, .int .u8 25, .int .u8 14, .int .u8 19, .int .u8 9, .int .u8 13, .int .u8 8, .int .u8 7, .int .u8 6] t frozen | o => o)) }
theorem laid_plain (w : World) : laidMetH Tryd.prog Rows.fnExactReducePathSumRow.laid w = laidMet Tryd.prog Rows.fnExactReducePathSumRow.laid w := MakeChecks.laidMetH_plain Tryd.prog Rows.fnExactReducePathSumRow.laid w (by rfl)
theorem laid_met (os : Os) (args : Array Value) : laidMetH Tryd.prog Rows.fnExactReducePathSumRow.laid ((laidWorld os).forCall (fun _ _ => 0) ⟨#[], args, []⟩).memory :=
  by rw [laid_plain]; exact laidMet_of_run (ps := [.cell 0 0, .cell 0 1, .cell 0 2, .cell 0 3, .cell 0 4, .cell 0 5, .cell 0 6, .cell 0 7, .cell 0 8, .cell 0 9, .cell 0 10, .cell 0 11, .cell 0 12, .cell 0 13, .cell 0 14, .cell 0 15, .cell 0 16, .cell 0 17, .cell 0 18, .cell 0 19, .cell 0 20, .cell 0 21, .cell 0 22, .cell 0 23, .cell 0 24, .cell 0 25, .cell 0 26, .cell 0 27, .cell 0 28, .cell 0 29, .cell 0 30, .cell 0 31, .cell 1 0, .cell 1 1, .cell 1 2, .cell 1 3, .cell 1 4, .cell 1 5, .cell 1 6, .cell 1 7, .cell 1 8, .cell 1 9, .cell 1 10, .cell 1 11, .cell 1 12, .cell 1 13, .cell 1 14, .cell 1 15, .cell 1 16, .cell 1 17, .cell 1 18, .cell 1 19, .cell 1 20, .cell 1 21, .cell 1 22, .cell 1 23, .cell 1 24, .cell 1 25, .cell 1 26, .cell 1 27, .cell 1 28, .cell 1 29, .cell 1 30, .cell 1 31, .cell 1 32, .cell 1 33, .cell 1 34, .cell 1 35, .cell 1 36, .cell 1 37, .cell 1 38, .cell 1 39, .cell 1 40, .cell 1 41, .cell 1 42, .cell 1 43, .cell 1 44, .cell 1 45, .cell 1 46, .cell 1 47, .cell 1 48, .cell 1 49, .cell 1 50, .cell 1 51, .cell 1 52, .cell 1 53, .cell 1 54, .cell 1 55, .cell 1 56, .cell 1 57, .cell 1 58, .cell 1 59, .cell 1 60, .cell 1 61, .cell 1 62, .cell 1 63]) 8 (by kernel_rfl) (by kernel_rfl) (by kernel_rfl)
theorem contract_FnExactReducePathSum (H : Type) (enc : TypeId × Value → H) (W : World) (base : Nat) (args : Array Value) (ds gs : List (DataW H)) (before : List MemPlace)
    (hval : ∀ (j : Nat) t v, Tryd.f4.params[j]? = some t → args[j]? = some v → Value.okWide Tryd.prog W .any base t v)
    (hW : DataW.Whole enc Tryd.prog Tryd.f4.params.toList Rows.fnExactReducePathSumSpec.vars false W args.toList ds gs before) (hL : laidMetH Tryd.prog Rows.fnExactReducePathSumRow.laid W) :
    Calls Tryd.prog 4 args W fun e W' => ∃ v, e = .returned v ∧ Rows.fnExactReducePathSumSpec.post enc Tryd.prog Tryd.f4 false true false false W args v W' := by
  rw [laid_plain] at hL
  have hW' := hW
  obtain ⟨p, q, hA, hV, rfl, hfz, hnd⟩ := hW
  have hA : DataW.TrodAll enc Tryd.prog W 0 (fun _ => true) true Tryd.f4.params.toList args.toList ds p := hA
  rw [Tryd.params4] at hA hval
  obtain ⟨v0, vs0, d0, ds0, p0, q0, ea0, ed0, ep0, h0, hA0⟩ := trodAll_cons hA
  obtain ⟨ev, edn, _⟩ := trodAll_nil hA0
  subst ev edn
  obtain rfl : args = #[v0] := Array.toList_inj.mp (by rw [ea0])
  obtain rfl : ds = [d0] := by rw [ed0]
  obtain ⟨rfl, rfl⟩ := trodVars_none hV
  obtain ⟨n0, t0⟩ := h0
  obtain ⟨cs0, rfl, _⟩ := okWide_struct (Tryd.underlying25) (hval 0 25 v0 rfl rfl)
  obtain ⟨a0, B0_0, c0_0, B0_1, c0_1, e0, o0, r0_0, r0_1⟩ := rd_PathSum t0
  obtain rfl := Array.toList_inj.mp (show cs0.toList = (List.toArray _).toList from e0)
  have hF := law_FnExactReducePathSum a0 o0
  refine Calls.mono (c_laws_FnExactReducePathSum a0 B0_0 c0_0 a0.Terms.length B0_1 c0_1 a0.Out.length W rfl rfl (ST.refl (ro_cons r0_0 (ro_cons r0_1 (ro_cons (laid_cf (show laidMet Tryd.prog [("math/bits.deBruijn32tab", Rows.laid_math_bits_deBruijn32tab)] W from (laidMet_cons hL).1) (g := 0) (by kernel_rfl) (by kernel_rfl) (fun n x p h => laid_cells0 h)) (ro_cons (laid_cf (show laidMet Tryd.prog [("math/bits.deBruijn64tab", Rows.laid_math_bits_deBruijn64tab)] W from (laidMet_cons hL).2) (g := 1) (by kernel_rfl) (by kernel_rfl) (fun n x p h => laid_cells1 h)) (fun _ h => by cases h)))))) hF) (fun e W' ⟨v, he, hv, hST⟩ => ⟨v, he, ?_⟩)
  subst hv
  exact post_true (tb := 4) laidOut mapsRow slicesFull (by kernel_rfl) (by kernel_rfl) (by kernel_rfl) hW' rfl rfl hST
theorem lifted_FnExactReducePathSum (os : Os) (started : os.Started) (H : Type) (enc : TypeId × Value → H) :
    ReturnsInHanded {} Tryd.checked os 4 .any (fun w args => (Rows.fnExactReducePathSumSpec.pre enc Tryd.prog Tryd.f4 [] false w args ∧ laidMetH Tryd.prog Rows.fnExactReducePathSumRow.laid w) ∧ sizedMet enc Tryd.prog Tryd.f4 (OpenSpec.ofChange Rows.fnExactReducePathSumSpec) false w args) (Rows.fnExactReducePathSumSpec.post enc Tryd.prog Tryd.f4 false true false false) := by
  refine returnsInHanded_of_change_and (C := Tryd.checked) (X := fun w _ => laidMetH Tryd.prog Rows.fnExactReducePathSumRow.laid w) (fun _ _ _ hh h => h.of_heap hh) own started (by kernel_rfl) Tryd.func4
    (ChangeSpec.witness_at (enc := enc) (C := Tryd.checked) (os := os) (X := fun w _ => laidMetH Tryd.prog Rows.fnExactReducePathSumRow.laid w) false (laidWorld os) #[.agg #[.int .i64 0, .int .i64 0, .int .i64 0, .int .i64 0, .slice none 0 0, .slice none 0 0]] 8 rfl (by kernel_rfl) (by kernel_rfl) (by kernel_rfl) (by kernel_rfl) (by kernel_rfl) (laid_met os _)) ?_
  intro W base args ds gs before hval hW _ _ hL _
  exact contract_FnExactReducePathSum H enc W base args ds gs before hval hW hL
theorem closed_row : joinedFacts Tryd.prog 4 Tryd.f4 Rows.fnExactReducePathSumSpec Rows.fnExactReducePathSumRow = true := by
  unfold joinedFacts
  rw [laidOut, mapsRow, cl_inPlace, cl_unfollowed, cl_recurses, cl_named, cl_stopsHeard, cl_mayEnter, cl_lifted, cl_make]
  kernel_rfl
/-- 'laws.FnExactReducePathSum' returns true for all arguments, and leaves what it was handed as it was: where the listed variable holds what the program's text lays. -/
theorem row_FnExactReducePathSum : Rows.FnExactReducePathSumSaid :=
  OpenClaim.holds_of_wide 4 Tryd.f4 rfl rfl rfl rfl rfl rfl rfl ⟨rfl, rfl, rfl, rfl, rfl⟩ rfl rfl rfl rfl rfl (by kernel_rfl) Tryd.func4 closed_row
    (of_decide_eq_true (by kernel_rfl)) (by unfold Func.isWrapper; first | (rw [if_pos (by decide +kernel)]; kernel_rfl) | (rw [if_neg (by decide +kernel)]; exact ⟨rfl, rfl⟩))
    (fun os started H enc _ => lifted_FnExactReducePathSum os started H enc)
theorem stand_FnExactReducePathSum : (Tryd.f4.params.toList.all fun t => !(Tryd.prog.wantsStandIn t)) = true := by kernel_rfl
/-- The tied card. -/
theorem proved_FnExactReducePathSum : Rows.FnExactReducePathSumCardSaid :=
  Claim7.holds_tied_plain_at .later [] [.data, .data] true (true, "ebeeb6f05cb977217da0860f4e617b716d75ae5ea7e9d9579096943c343d4b1a") false row_FnExactReducePathSum (fun _ h => by cases h) (by kernel_rfl) (fun _ h => by cases h) fnExactReducePathSum_row_tie rfl ⟨rfl, rfl⟩ (by kernel_rfl) rfl
    (fun f fn hf hfn => by
      obtain rfl : 4 = f := Option.some.inj ((show Tryd.prog.funcNamed "loop.example/g00864/laws.FnExactReducePathSum" = some 4 by kernel_rfl).symm.trans hf)
      obtain rfl : Tryd.f4 = fn := Option.some.inj (Tryd.func4.symm.trans hfn)
      exact ⟨by kernel_rfl, fun j t ht => by
        have := List.all_eq_true.1 stand_FnExactReducePathSum t (List.mem_of_getElem? (i := j) (by rw [Array.getElem?_toList]; exact ht))
        exact (show Tryd.prog.wantsStandIn t = false by simpa using this)⟩)
    (by kernel_rfl)
end Go.Proofs.YtklicjfbpikobaaDoor
