/- laws.FnExactCliffordWord returns true for all arguments, and leaves what it was handed as it was. No condition beyond the given statement. -/
import Derived.Test.YtoladcammhboiaaDoorCliffordWordOp
import Derived.Test.YtoladcammhboiaaDoorRows
import Derived.Test.YtoladcammhboiaaDoorCliffordWordLaw
import Derived.Test.YtoladcammhboiaaDoorCliffordWordW6
import Derived.Test.YtoladcammhboiaaDoorLibM
import Derived.Test.YtoladcammhboiaaDoorCards
import Derived.Test.YtoladcammhboiaaDoorTie
import Derived.SevenTiedAt
import Derived.Test.YtoladcammhboiaaDoorCliffordWordCa
import Derived.Test.YtoladcammhboiaaDoorCliffordWordCb
import Derived.Test.YtoladcammhboiaaDoorCliffordWordCc
import Derived.Test.YtoladcammhboiaaDoorCliffordWordCd
set_option linter.unusedVariables false
set_option maxRecDepth 100000
set_option maxHeartbeats 1000000
namespace Go.Proofs.YtoladcammhboiaaDoor
open Go.ChangeShapes Go.WideShapes Go.ChangeAt Go.RowKit Go.VK
theorem own : ownKnob Tryd.prog.godebug = none := by kernel_rfl
theorem laidOut : laidOutB Tryd.prog = true := by kernel_rfl
theorem mapsRow : mapsRowed Tryd.prog = true := by kernel_rfl
theorem slicesFull : slicesFullB Tryd.prog = true := by kernel_rfl
theorem laid_cells0_0 {H : Type} {enc : TypeId × Value → H} {w : World} {base : Nat} {spare : Nat → Bool} {held : Bool} {n : Nat} {x : List Value} {p : List MemPlace} (h : DataW.trod enc Tryd.prog w base spare held n 42 x = some (.agg [.lit (.int .i64 1), .lit (.int .i64 0), .lit (.int .i64 0), .lit (.int .i64 0)], p)) : x = [.int .i64 1, .int .i64 0, .int .i64 0, .int .i64 0] := by
  have hl := rd_len k_fd_42_0_0_3 k_sz_42_4 h
  obtain ⟨n0, ⟨y0, p0⟩, e0, t0⟩ := rd_fldx k_fd_42_0_0_3 k_sz_3_1 h
  obtain rfl : (.lit (.int .i64 1) : DataW H) = y0 := Option.some.inj e0
  have c0 := rd_intx k_int_3_i64 t0
  obtain ⟨n1, ⟨y1, p1⟩, e1, t1⟩ := rd_fldx k_fd_42_1_1_3 k_sz_3_1 h
  obtain rfl : (.lit (.int .i64 0) : DataW H) = y1 := Option.some.inj e1
  have c1 := rd_intx k_int_3_i64 t1
  obtain ⟨n2, ⟨y2, p2⟩, e2, t2⟩ := rd_fldx k_fd_42_2_2_3 k_sz_3_1 h
  obtain rfl : (.lit (.int .i64 0) : DataW H) = y2 := Option.some.inj e2
  have c2 := rd_intx k_int_3_i64 t2
  obtain ⟨n3, ⟨y3, p3⟩, e3, t3⟩ := rd_fldx k_fd_42_3_3_3 k_sz_3_1 h
  obtain rfl : (.lit (.int .i64 0) : DataW H) = y3 := Option.some.inj e3
  have c3 := rd_intx k_int_3_i64 t3
  exact (seg_step (off := 0) c0 rfl (seg_step (off := 1) c1 rfl (seg_step (off := 2) c2 rfl (seg_step (off := 3) c3 rfl (seg_end hl)))))
theorem laid_cells0 {H : Type} {enc : TypeId × Value → H} {w : World} {base : Nat} {spare : Nat → Bool} {held : Bool} {n : Nat} {x : List Value} {p : List MemPlace} (h : DataW.trod enc Tryd.prog w base spare held n 44 x = some (.agg [.agg [.lit (.int .i64 1), .lit (.int .i64 0), .lit (.int .i64 0), .lit (.int .i64 0)], .lit (.int .i64 2)], p)) : x = [.int .i64 1, .int .i64 0, .int .i64 0, .int .i64 0, .int .i64 2] := by
  have hl := rd_len k_fd_44_0_0_42 k_sz_44_5 h
  obtain ⟨n0, ⟨y0, p0⟩, e0, t0⟩ := rd_fldx k_fd_44_0_0_42 k_sz_42_4 h
  obtain rfl : (.agg [.lit (.int .i64 1), .lit (.int .i64 0), .lit (.int .i64 0), .lit (.int .i64 0)] : DataW H) = y0 := Option.some.inj e0
  have c0 := laid_cells0_0 t0
  obtain ⟨n1, ⟨y1, p1⟩, e1, t1⟩ := rd_fldx k_fd_44_1_4_3 k_sz_3_1 h
  obtain rfl : (.lit (.int .i64 2) : DataW H) = y1 := Option.some.inj e1
  have c1 := rd_intx k_int_3_i64 t1
  exact (seg_step (off := 0) c0 rfl (seg_step (off := 4) c1 rfl (seg_end hl)))
noncomputable def laidWorld (os : Os) : World :=
  { World.holding Tryd.prog os ⟨#[], #[], []⟩ with heap := (World.holding Tryd.prog os ⟨#[], #[], []⟩).heap.modify 0 fun
      | .cells _ t frozen => .cells #[.int .i64 1, .int .i64 0, .int .i64 0, .int .i64 0, .int .i64 2] t frozen
      | o => o }
theorem laid_plain (w : World) : laidMetH Tryd.prog Rows.fnExactCliffordWordRow.laid w = laidMet Tryd.prog Rows.fnExactCliffordWordRow.laid w := MakeChecks.laidMetH_plain Tryd.prog Rows.fnExactCliffordWordRow.laid w (by rfl)
theorem laid_met (os : Os) (args : Array Value) : laidMetH Tryd.prog Rows.fnExactCliffordWordRow.laid ((laidWorld os).forCall (fun _ _ => 0) ⟨#[], args, []⟩).memory :=
  by rw [laid_plain]; exact laidMet_of_run (ps := [.cell 0 0, .cell 0 1, .cell 0 2, .cell 0 3, .cell 0 4]) 8 (by kernel_rfl) (by kernel_rfl) (by kernel_rfl)
theorem contract_FnExactCliffordWord (H : Type) (enc : TypeId × Value → H) (W : World) (base : Nat) (args : Array Value) (ds gs : List (DataW H)) (before : List MemPlace)
    (hval : ∀ (j : Nat) t v, Tryd.f3.params[j]? = some t → args[j]? = some v → Value.okWide Tryd.prog W .any base t v)
    (hW : DataW.Whole enc Tryd.prog Tryd.f3.params.toList Rows.fnExactCliffordWordSpec.vars false W args.toList ds gs before) (hL : laidMetH Tryd.prog Rows.fnExactCliffordWordRow.laid W) :
    Calls Tryd.prog 3 args W fun e W' => ∃ v, e = .returned v ∧ Rows.fnExactCliffordWordSpec.post enc Tryd.prog Tryd.f3 false true false false W args v W' := by
  rw [laid_plain] at hL
  have hW' := hW
  obtain ⟨p, q, hA, hV, rfl, hfz, hnd⟩ := hW
  have hA : DataW.TrodAll enc Tryd.prog W 0 (fun _ => true) true Tryd.f3.params.toList args.toList ds p := hA
  rw [Tryd.params3] at hA hval
  obtain ⟨v0, vs0, d0, ds0, p0, q0, ea0, ed0, ep0, h0, hA0⟩ := trodAll_cons hA
  obtain ⟨ev, edn, _⟩ := trodAll_nil hA0
  subst ev edn
  obtain rfl : args = #[v0] := Array.toList_inj.mp (by rw [ea0])
  obtain rfl : ds = [d0] := by rw [ed0]
  obtain ⟨_, _, _, _, g1, _, rfl, _⟩ := trodVars_one hV
  obtain ⟨n0, t0⟩ := h0
  rw [val_scal k_sc_3 (hval 0 3 v0 rfl rfl)] at t0
  obtain ⟨a0, e0, o0⟩ := rd_int k_int_3_i64 t0
  obtain rfl := (List.cons.inj e0).1
  have hF := law_FnExactCliffordWord a0 o0
  refine Calls.mono (c_laws_FnExactCliffordWord a0  W  (ST.refl (ro_cons (laid_cf (show laidMet Tryd.prog [("loop.example/g00864/impl.half", Rows.laid_loop_example_g00864_impl_half)] W from hL) (g := 0) (by kernel_rfl) (by kernel_rfl) (fun n x p h => laid_cells0 h)) (fun _ h => by cases h))) hF) (fun e W' ⟨v, he, hv, hST⟩ => ⟨v, he, ?_⟩)
  subst hv
  exact post_true_v (tb := 4) laidOut mapsRow slicesFull (by kernel_rfl) (by kernel_rfl) (by kernel_rfl) (by kernel_rfl) hW' rfl hST
theorem lifted_FnExactCliffordWord (os : Os) (started : os.Started) (H : Type) (enc : TypeId × Value → H) :
    ReturnsInHanded {} Tryd.checked os 3 .any (fun w args => (Rows.fnExactCliffordWordSpec.pre enc Tryd.prog Tryd.f3 [] false w args ∧ laidMetH Tryd.prog Rows.fnExactCliffordWordRow.laid w) ∧ sizedMet enc Tryd.prog Tryd.f3 (OpenSpec.ofChange Rows.fnExactCliffordWordSpec) false w args) (Rows.fnExactCliffordWordSpec.post enc Tryd.prog Tryd.f3 false true false false) := by
  refine returnsInHanded_of_change_and (C := Tryd.checked) (X := fun w _ => laidMetH Tryd.prog Rows.fnExactCliffordWordRow.laid w) (fun _ _ _ hh h => h.of_heap hh) own started (by kernel_rfl) Tryd.func3
    (ChangeSpec.witness_at (enc := enc) (C := Tryd.checked) (os := os) (X := fun w _ => laidMetH Tryd.prog Rows.fnExactCliffordWordRow.laid w) false (laidWorld os) #[.int .i64 0] 8 rfl (by kernel_rfl) (by kernel_rfl) (by kernel_rfl) (by kernel_rfl) (by kernel_rfl) (laid_met os _)) ?_
  intro W base args ds gs before hval hW _ _ hL _
  exact contract_FnExactCliffordWord H enc W base args ds gs before hval hW hL
theorem closed_row : joinedFacts Tryd.prog 3 Tryd.f3 Rows.fnExactCliffordWordSpec Rows.fnExactCliffordWordRow = true := by
  unfold joinedFacts
  rw [laidOut, mapsRow, cl_inPlace, cl_unfollowed, cl_recurses, cl_named, cl_stopsHeard, cl_mayEnter, cl_lifted, cl_make]
  kernel_rfl
/-- 'laws.FnExactCliffordWord' returns true for all arguments, and leaves what it was handed as it was: where the listed variable holds what the program's text lays. -/
theorem row_FnExactCliffordWord : Rows.FnExactCliffordWordSaid :=
  OpenClaim.holds_of_wide 3 Tryd.f3 rfl rfl rfl rfl rfl rfl rfl ⟨rfl, rfl, rfl, rfl, rfl⟩ rfl rfl rfl rfl rfl (by kernel_rfl) Tryd.func3 closed_row
    (of_decide_eq_true (by kernel_rfl)) (by unfold Func.isWrapper; first | (rw [if_pos (by decide +kernel)]; kernel_rfl) | (rw [if_neg (by decide +kernel)]; exact ⟨rfl, rfl⟩))
    (fun os started H enc _ => lifted_FnExactCliffordWord os started H enc)
theorem stand_FnExactCliffordWord : (Tryd.f3.params.toList.all fun t => !(Tryd.prog.wantsStandIn t)) = true := by kernel_rfl
/-- The tied card. -/
theorem proved_FnExactCliffordWord : Rows.FnExactCliffordWordCardSaid :=
  Claim7.holds_tied_plain_at .later [] [.data] true (true, "5d22cc9de2911d6494e0915f898f0c619929c24c7008ee9a7277382a41d2a108") false row_FnExactCliffordWord (fun _ h => by cases h) (by kernel_rfl) (fun _ h => by cases h) fnExactCliffordWord_row_tie rfl ⟨rfl, rfl⟩ (by kernel_rfl) rfl
    (fun f fn hf hfn => by
      obtain rfl : 3 = f := Option.some.inj ((show Tryd.prog.funcNamed "loop.example/g00864/laws.FnExactCliffordWord" = some 3 by kernel_rfl).symm.trans hf)
      obtain rfl : Tryd.f3 = fn := Option.some.inj (Tryd.func3.symm.trans hfn)
      exact ⟨by kernel_rfl, fun j t ht => by
        have := List.all_eq_true.1 stand_FnExactCliffordWord t (List.mem_of_getElem? (i := j) (by rw [Array.getElem?_toList]; exact ht))
        exact (show Tryd.prog.wantsStandIn t = false by simpa using this)⟩)
    (by kernel_rfl)
end Go.Proofs.YtoladcammhboiaaDoor
