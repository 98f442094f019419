/- laws.FnExactIsShortest returns true for all arguments, and leaves what it was handed as it was. No condition beyond the given statement. -/
import Derived.Test.YtkmncijipedjaaaGreatDoorIsShortestOp
import Derived.Test.YtkmncijipedjaaaGreatDoorRows
import Derived.Test.YtkmncijipedjaaaGreatDoorIsShortestLaw
import Derived.Test.YtkmncijipedjaaaGreatDoorIsShortestW3
import Derived.Test.YtkmncijipedjaaaGreatDoorLibM
import Derived.Test.YtkmncijipedjaaaGreatDoorCards
import Derived.Test.YtkmncijipedjaaaGreatDoorTie
import Derived.SevenTiedAt
import Derived.Test.YtkmncijipedjaaaGreatDoorIsShortestCa
import Derived.Test.YtkmncijipedjaaaGreatDoorIsShortestCb
import Derived.Test.YtkmncijipedjaaaGreatDoorIsShortestCc
import Derived.Test.YtkmncijipedjaaaGreatDoorIsShortestCd
set_option linter.unusedVariables false
set_option maxRecDepth 100000
set_option maxHeartbeats 1000000
namespace Go.Proofs.YtkmncijipedjaaaGreatDoor
open Go.ChangeShapes Go.WideShapes Go.ChangeAt Go.RowKit Go.VK
theorem own : ownKnob Tryz.prog.godebug = none := by kernel_rfl
theorem laidOut : laidOutB Tryz.prog = true := by kernel_rfl
theorem mapsRow : mapsRowed Tryz.prog = true := by kernel_rfl
theorem slicesFull : slicesFullB Tryz.prog = true := by kernel_rfl
theorem laid_cells1 {H : Type} {enc : TypeId × Value → H} {w : World} {base : Nat} {spare : Nat → Bool} {held : Bool} {n : Nat} {x : List Value} {p : List MemPlace} (h : DataW.trod enc Tryz.prog w base spare held n 167 x = some (.agg [.lit (.int .u64 1), .lit (.int .u64 10), .lit (.int .u64 100), .lit (.int .u64 1000), .lit (.int .u64 10000), .lit (.int .u64 100000), .lit (.int .u64 1000000), .lit (.int .u64 10000000), .lit (.int .u64 100000000), .lit (.int .u64 1000000000), .lit (.int .u64 10000000000), .lit (.int .u64 100000000000), .lit (.int .u64 1000000000000), .lit (.int .u64 10000000000000), .lit (.int .u64 100000000000000), .lit (.int .u64 1000000000000000), .lit (.int .u64 10000000000000000), .lit (.int .u64 100000000000000000), .lit (.int .u64 1000000000000000000), .lit (.int .u64 10000000000000000000)], p)) : x = gl1.flatMap enc_u64 :=
  rd_arr64 (l := gl1) k_ar_167_20_161 k_sz_167_20 k_sz_161_1 k_int_161_u64 h
noncomputable def laidWorld (os : Os) : World :=
  { World.holding Tryz.prog os ⟨#[], #[], []⟩ with heap := ((((World.holding Tryz.prog os ⟨#[], #[], []⟩).heap.modify 2 (fun o => match o with | .cells _ t frozen => .cells #[.int .u8 0, .int .u8 1, .int .u8 28, .int .u8 2, .int .u8 29, .int .u8 14, .int .u8 24, .int .u8 3, .int .u8 30, .int .u8 22, .int .u8 20, .int .u8 15, .int .u8 25, .int .u8 17, .int .u8 4, .int .u8 8, .int .u8 31, .int .u8 27, .int .u8 13, .int .u8 23, .int .u8 21, .int .u8 19, .int .u8 16, .int .u8 7, .int .u8 26, .int .u8 12, .int .u8 18, .int .u8 6, .int .u8 11, .int .u8 5, .int .u8 10, .int .u8 9] t frozen | o => o)).modify 3 (fun o => match o with | .cells _ t frozen => .cells #[.int .u8 0, .int .u8 1, .int .u8 56, .int .u8 2, .int .u8 57, .int .u8 49, .int .u8 28, .int .u8 3, .int .u8 61, .int .u8 58, .int .u8 42, .int .u8 50, .int .u8 38, .int .u8 29, .int .u8 17, .int .u8 4, .int .u8 62, .int .u8 47, .int .u8 59, .int .u8 36, .int .u8 45, .int .u8 43, .int .u8 51, .int .u8 22, .int .u8 53, .int .u8 39, .int .u8 33, .int .u8 30, .int .u8 24, .int .u8 18, .int .u8 12, .int .u8 5, .int .u8 63, .int .u8 55, .int .u8 48, .int .u8 27, .int .u8 60, .int .u8 41, .int .u8 37, .int .u8 16, .int .u8 46, .int .u8 35, .int .u8 44, .int .u8 21, .int .u8 52, .int .u8 32, .int .u8 23, .int .u8 11, .int .u8 54, .int .u8 26, .int .u8 40, .int .u8 15, .int .u8 34, .int .u8 20, .int .u8 31, .int .u8 10, .int .u8 25, .int .u8 14, .int .u8 19, .int .u8 9, .int .u8 13, .int .u8 8, .int .u8 7, .int .u8 6] t frozen | o => o)).modify 1 (fun o => match o with | .cells _ t frozen => .cells #[.int .u64 1, .int .u64 10, .int .u64 100, .int .u64 1000, .int .u64 10000, .int .u64 100000, .int .u64 1000000, .int .u64 10000000, .int .u64 100000000, .int .u64 1000000000, .int .u64 10000000000, .int .u64 100000000000, .int .u64 1000000000000, .int .u64 10000000000000, .int .u64 100000000000000, .int .u64 1000000000000000, .int .u64 10000000000000000, .int .u64 100000000000000000, .int .u64 1000000000000000000, .int .u64 10000000000000000000] t frozen | o => o)) }
theorem laid_plain (w : World) : laidMetH Tryz.prog Rows.fnExactIsShortestRow.laid w = laidMet Tryz.prog Rows.fnExactIsShortestRow.laid w := MakeChecks.laidMetH_plain Tryz.prog Rows.fnExactIsShortestRow.laid w (by rfl)
theorem laid_met (os : Os) (args : Array Value) : laidMetH Tryz.prog Rows.fnExactIsShortestRow.laid ((laidWorld os).forCall (fun _ _ => 0) ⟨#[], args, []⟩).memory :=
  by rw [laid_plain]; exact laidMet_of_run (ps := [.cell 2 0, .cell 2 1, .cell 2 2, .cell 2 3, .cell 2 4, .cell 2 5, .cell 2 6, .cell 2 7, .cell 2 8, .cell 2 9, .cell 2 10, .cell 2 11, .cell 2 12, .cell 2 13, .cell 2 14, .cell 2 15, .cell 2 16, .cell 2 17, .cell 2 18, .cell 2 19, .cell 2 20, .cell 2 21, .cell 2 22, .cell 2 23, .cell 2 24, .cell 2 25, .cell 2 26, .cell 2 27, .cell 2 28, .cell 2 29, .cell 2 30, .cell 2 31, .cell 3 0, .cell 3 1, .cell 3 2, .cell 3 3, .cell 3 4, .cell 3 5, .cell 3 6, .cell 3 7, .cell 3 8, .cell 3 9, .cell 3 10, .cell 3 11, .cell 3 12, .cell 3 13, .cell 3 14, .cell 3 15, .cell 3 16, .cell 3 17, .cell 3 18, .cell 3 19, .cell 3 20, .cell 3 21, .cell 3 22, .cell 3 23, .cell 3 24, .cell 3 25, .cell 3 26, .cell 3 27, .cell 3 28, .cell 3 29, .cell 3 30, .cell 3 31, .cell 3 32, .cell 3 33, .cell 3 34, .cell 3 35, .cell 3 36, .cell 3 37, .cell 3 38, .cell 3 39, .cell 3 40, .cell 3 41, .cell 3 42, .cell 3 43, .cell 3 44, .cell 3 45, .cell 3 46, .cell 3 47, .cell 3 48, .cell 3 49, .cell 3 50, .cell 3 51, .cell 3 52, .cell 3 53, .cell 3 54, .cell 3 55, .cell 3 56, .cell 3 57, .cell 3 58, .cell 3 59, .cell 3 60, .cell 3 61, .cell 3 62, .cell 3 63, .cell 1 0, .cell 1 1, .cell 1 2, .cell 1 3, .cell 1 4, .cell 1 5, .cell 1 6, .cell 1 7, .cell 1 8, .cell 1 9, .cell 1 10, .cell 1 11, .cell 1 12, .cell 1 13, .cell 1 14, .cell 1 15, .cell 1 16, .cell 1 17, .cell 1 18, .cell 1 19]) 8 (by kernel_rfl) (by kernel_rfl) (by kernel_rfl)
theorem contract_FnExactIsShortest (H : Type) (enc : TypeId × Value → H) (W : World) (base : Nat) (args : Array Value) (ds gs : List (DataW H)) (before : List MemPlace)
    (hval : ∀ (j : Nat) t v, Tryz.f3.params[j]? = some t → args[j]? = some v → Value.okWide Tryz.prog W .any base t v)
    (hW : DataW.Whole enc Tryz.prog Tryz.f3.params.toList Rows.fnExactIsShortestSpec.vars false W args.toList ds gs before) (hL : laidMetH Tryz.prog Rows.fnExactIsShortestRow.laid W) :
    Calls Tryz.prog 3 args W fun e W' => ∃ v, e = .returned v ∧ Rows.fnExactIsShortestSpec.post enc Tryz.prog Tryz.f3 false true false false W args v W' := by
  rw [laid_plain] at hL
  have hW' := hW
  obtain ⟨p, q, hA, hV, rfl, hfz, hnd⟩ := hW
  have hA : DataW.TrodAll enc Tryz.prog W 0 (fun _ => true) true Tryz.f3.params.toList args.toList ds p := hA
  rw [Tryz.params3] at hA hval
  obtain ⟨v0, vs0, d0, ds0, p0, q0, ea0, ed0, ep0, h0, hA0⟩ := trodAll_cons hA
  obtain ⟨ev, edn, _⟩ := trodAll_nil hA0
  subst ev edn
  obtain rfl : args = #[v0] := Array.toList_inj.mp (by rw [ea0])
  obtain rfl : ds = [d0] := by rw [ed0]
  obtain ⟨rfl, rfl⟩ := trodVars_none hV
  obtain ⟨n0, t0⟩ := h0
  obtain ⟨cs0, rfl, _⟩ := okWide_struct (Tryz.underlying24) (hval 0 24 v0 rfl rfl)
  obtain ⟨a0, B0_0, c0_0, e0, o0, r0_0⟩ := rd_Circuit t0
  obtain rfl := Array.toList_inj.mp (show cs0.toList = (List.toArray _).toList from e0)
  have hv1 := laid_var (show laidMet Tryz.prog [("internal/strconv.uint64pow10", Rows.laid_internal_strconv_uint64pow10)] W from (laidMet_cons (laidMet_cons hL).2).2) (g := 1) (by kernel_rfl) (by kernel_rfl) (fun n x p h => laid_cells1 h)
  have ht1 : Go.Lib.TabIs Tryz.prog W "internal/strconv.uint64pow10" .u64 Go.Lib.pow10Tab := by unfold Go.Lib.TabIs; rw [hv1, enc_u64_flat]; rfl
  have hF := law_FnExactIsShortest a0 o0
  refine Calls.mono (c_laws_FnExactIsShortest a0 B0_0 c0_0 a0.Gates.length W rfl ht1 (ST.refl (ro_cons r0_0 (ro_cons (laid_cf (show laidMet Tryz.prog [("internal/strconv.uint64pow10", Rows.laid_internal_strconv_uint64pow10)] W from (laidMet_cons (laidMet_cons hL).2).2) (g := 1) (by kernel_rfl) (by kernel_rfl) (fun n x p h => laid_cells1 h)) (fun _ h => by cases h)))) hF) (fun e W' ⟨v, he, hv, hST⟩ => ⟨v, he, ?_⟩)
  subst hv
  exact post_true (tb := 4) laidOut mapsRow slicesFull (by kernel_rfl) (by kernel_rfl) (by kernel_rfl) hW' rfl rfl hST
theorem lifted_FnExactIsShortest (os : Os) (started : os.Started) (H : Type) (enc : TypeId × Value → H) :
    ReturnsInHanded {} Tryz.checked os 3 .any (fun w args => (Rows.fnExactIsShortestSpec.pre enc Tryz.prog Tryz.f3 [] false w args ∧ laidMetH Tryz.prog Rows.fnExactIsShortestRow.laid w) ∧ sizedMet enc Tryz.prog Tryz.f3 (OpenSpec.ofChange Rows.fnExactIsShortestSpec) false w args) (Rows.fnExactIsShortestSpec.post enc Tryz.prog Tryz.f3 false true false false) := by
  refine returnsInHanded_of_change_and (C := Tryz.checked) (X := fun w _ => laidMetH Tryz.prog Rows.fnExactIsShortestRow.laid w) (fun _ _ _ hh h => h.of_heap hh) own started (by kernel_rfl) Tryz.func3
    (ChangeSpec.witness_at (enc := enc) (C := Tryz.checked) (os := os) (X := fun w _ => laidMetH Tryz.prog Rows.fnExactIsShortestRow.laid w) false (laidWorld os) #[.agg #[.int .i64 0, .slice none 0 0]] 8 rfl (by kernel_rfl) (by kernel_rfl) (by kernel_rfl) (by kernel_rfl) (by kernel_rfl) (laid_met os _)) ?_
  intro W base args ds gs before hval hW _ _ hL _
  exact contract_FnExactIsShortest H enc W base args ds gs before hval hW hL
theorem closed_row : joinedFacts Tryz.prog 3 Tryz.f3 Rows.fnExactIsShortestSpec Rows.fnExactIsShortestRow = true := by
  unfold joinedFacts
  rw [laidOut, mapsRow, cl_inPlace, cl_unfollowed, cl_recurses, cl_named, cl_stopsHeard, cl_mayEnter, cl_lifted, cl_make]
  kernel_rfl
/-- 'laws.FnExactIsShortest' returns true for all arguments, and leaves what it was handed as it was: where the listed variable holds what the program's text lays. -/
theorem row_FnExactIsShortest : Rows.FnExactIsShortestSaid :=
  OpenClaim.holds_of_wide 3 Tryz.f3 rfl rfl rfl rfl rfl rfl rfl ⟨rfl, rfl, rfl, rfl, rfl⟩ rfl rfl rfl rfl rfl (by kernel_rfl) Tryz.func3 closed_row
    (of_decide_eq_true (by kernel_rfl)) (by unfold Func.isWrapper; first | (rw [if_pos (by decide +kernel)]; kernel_rfl) | (rw [if_neg (by decide +kernel)]; exact ⟨rfl, rfl⟩))
    (fun os started H enc _ => lifted_FnExactIsShortest os started H enc)
theorem stand_FnExactIsShortest : (Tryz.f3.params.toList.all fun t => !(Tryz.prog.wantsStandIn t)) = true := by kernel_rfl
/-- The tied card. -/
theorem proved_FnExactIsShortest : Rows.FnExactIsShortestCardSaid :=
  Claim7.holds_tied_plain_at .later [] [.data, .data, .data] true (true, "58799e7f3515054e2331be1c26e6a26a34da4d905c3ce1accf3900a68f353fc5") false row_FnExactIsShortest (fun _ h => by cases h) (by kernel_rfl) (fun _ h => by cases h) fnExactIsShortest_row_tie rfl ⟨rfl, rfl⟩ (by kernel_rfl) rfl
    (fun f fn hf hfn => by
      obtain rfl : 3 = f := Option.some.inj ((show Tryz.prog.funcNamed "loop.example/g00864/laws.FnExactIsShortest" = some 3 by kernel_rfl).symm.trans hf)
      obtain rfl : Tryz.f3 = fn := Option.some.inj (Tryz.func3.symm.trans hfn)
      exact ⟨by kernel_rfl, fun j t ht => by
        have := List.all_eq_true.1 stand_FnExactIsShortest t (List.mem_of_getElem? (i := j) (by rw [Array.getElem?_toList]; exact ht))
        exact (show Tryz.prog.wantsStandIn t = false by simpa using this)⟩)
    (by kernel_rfl)
end Go.Proofs.YtkmncijipedjaaaGreatDoor
