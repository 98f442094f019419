/- laws.FnBloch returns true for all arguments, and leaves what it was handed as it was. No condition beyond the given statement. -/
import Derived.Test.YtmonoeihfeikeaaGreatDoorLBlochOp
import Derived.Test.YtmonoeihfeikeaaGreatDoorRows
import Derived.Test.YtmonoeihfeikeaaGreatDoorLBlochLaw
import Derived.Test.YtmonoeihfeikeaaGreatDoorLBlochW4
import Derived.Test.YtmonoeihfeikeaaGreatDoorLibM
import Derived.Test.YtmonoeihfeikeaaGreatDoorCards
import Derived.Test.YtmonoeihfeikeaaGreatDoorTie
import Derived.SevenTiedAt
import Derived.Test.YtmonoeihfeikeaaGreatDoorLBlochCa
import Derived.Test.YtmonoeihfeikeaaGreatDoorLBlochCb
import Derived.Test.YtmonoeihfeikeaaGreatDoorLBlochCc
import Derived.Test.YtmonoeihfeikeaaGreatDoorLBlochCd
set_option linter.unusedVariables false
set_option maxRecDepth 100000
set_option maxHeartbeats 1000000
namespace Go.Proofs.YtmonoeihfeikeaaGreatDoor
open Go.ChangeShapes Go.WideShapes Go.ChangeAt Go.RowKit Go.VK
theorem own : ownKnob Tryz.prog.godebug = none := by kernel_rfl
theorem laidOut : laidOutB Tryz.prog = true := by kernel_rfl
theorem mapsRow : mapsRowed Tryz.prog = true := by kernel_rfl
theorem slicesFull : slicesFullB Tryz.prog = true := by kernel_rfl
theorem laid_cells0_0 {H : Type} {enc : TypeId × Value → H} {w : World} {base : Nat} {spare : Nat → Bool} {held : Bool} {n : Nat} {x : List Value} {p : List MemPlace} (h : DataW.trod enc Tryz.prog w base spare held n 41 x = some (.agg [.lit (.int .i64 1), .lit (.int .i64 0), .lit (.int .i64 0), .lit (.int .i64 0)], p)) : x = [.int .i64 1, .int .i64 0, .int .i64 0, .int .i64 0] := by
  have hl := rd_len K20 K3 h
  obtain ⟨n0, ⟨y0, p0⟩, e0, t0⟩ := rd_fldx K20 K2 h
  obtain rfl : (.lit (.int .i64 1) : DataW H) = y0 := Option.some.inj e0
  have c0 := rd_intx K24 t0
  obtain ⟨n1, ⟨y1, p1⟩, e1, t1⟩ := rd_fldx K21 K2 h
  obtain rfl : (.lit (.int .i64 0) : DataW H) = y1 := Option.some.inj e1
  have c1 := rd_intx K24 t1
  obtain ⟨n2, ⟨y2, p2⟩, e2, t2⟩ := rd_fldx K22 K2 h
  obtain rfl : (.lit (.int .i64 0) : DataW H) = y2 := Option.some.inj e2
  have c2 := rd_intx K24 t2
  obtain ⟨n3, ⟨y3, p3⟩, e3, t3⟩ := rd_fldx K19 K2 h
  obtain rfl : (.lit (.int .i64 0) : DataW H) = y3 := Option.some.inj e3
  have c3 := rd_intx K24 t3
  exact (seg_step (off := 0) c0 rfl (seg_step (off := 1) c1 rfl (seg_step (off := 2) c2 rfl (seg_step (off := 3) c3 rfl (seg_end hl)))))
theorem laid_cells0 {H : Type} {enc : TypeId × Value → H} {w : World} {base : Nat} {spare : Nat → Bool} {held : Bool} {n : Nat} {x : List Value} {p : List MemPlace} (h : DataW.trod enc Tryz.prog w base spare held n 43 x = some (.agg [.agg [.lit (.int .i64 1), .lit (.int .i64 0), .lit (.int .i64 0), .lit (.int .i64 0)], .lit (.int .i64 2)], p)) : x = [.int .i64 1, .int .i64 0, .int .i64 0, .int .i64 0, .int .i64 2] := by
  have hl := rd_len K39 K0 h
  obtain ⟨n0, ⟨y0, p0⟩, e0, t0⟩ := rd_fldx K39 K3 h
  obtain rfl : (.agg [.lit (.int .i64 1), .lit (.int .i64 0), .lit (.int .i64 0), .lit (.int .i64 0)] : DataW H) = y0 := Option.some.inj e0
  have c0 := laid_cells0_0 t0
  obtain ⟨n1, ⟨y1, p1⟩, e1, t1⟩ := rd_fldx K30 K2 h
  obtain rfl : (.lit (.int .i64 2) : DataW H) = y1 := Option.some.inj e1
  have c1 := rd_intx K24 t1
  exact (seg_step (off := 0) c0 rfl (seg_step (off := 4) c1 rfl (seg_end hl)))
noncomputable def laidWorld (os : Os) : World :=
  { World.holding Tryz.prog os ⟨#[], #[], []⟩ with heap := (World.holding Tryz.prog os ⟨#[], #[], []⟩).heap.modify 0 fun
      | .cells _ t frozen => .cells #[.int .i64 1, .int .i64 0, .int .i64 0, .int .i64 0, .int .i64 2] t frozen
      | o => o }
theorem laid_plain (w : World) : laidMetH Tryz.prog Rows.fnBlochRow.laid w = laidMet Tryz.prog Rows.fnBlochRow.laid w := MakeChecks.laidMetH_plain Tryz.prog Rows.fnBlochRow.laid w (by rfl)
theorem laid_met (os : Os) (args : Array Value) : laidMetH Tryz.prog Rows.fnBlochRow.laid ((laidWorld os).forCall (fun _ _ => 0) ⟨#[], args, []⟩).memory :=
  by rw [laid_plain]; exact laidMet_of_run (ps := [.cell 0 0, .cell 0 1, .cell 0 2, .cell 0 3, .cell 0 4]) 8 (by kernel_rfl) (by kernel_rfl) (by kernel_rfl)
theorem contract_FnBloch (H : Type) (enc : TypeId × Value → H) (W : World) (base : Nat) (args : Array Value) (ds gs : List (DataW H)) (before : List MemPlace)
    (hval : ∀ (j : Nat) t v, Tryz.f3.params[j]? = some t → args[j]? = some v → Value.okWide Tryz.prog W .any base t v)
    (hW : DataW.Whole enc Tryz.prog Tryz.f3.params.toList Rows.fnBlochSpec.vars false W args.toList ds gs before) (hL : laidMetH Tryz.prog Rows.fnBlochRow.laid W) :
    Calls Tryz.prog 3 args W fun e W' => ∃ v, e = .returned v ∧ Rows.fnBlochSpec.post enc Tryz.prog Tryz.f3 false true false false W args v W' := by
  rw [laid_plain] at hL
  have hW' := hW
  obtain ⟨p, q, hA, hV, rfl, hfz, hnd⟩ := hW
  have hA : DataW.TrodAll enc Tryz.prog W 0 (fun _ => true) true Tryz.f3.params.toList args.toList ds p := hA
  rw [Tryz.params3] at hA hval
  obtain ⟨v0, vs0, d0, ds0, p0, q0, ea0, ed0, ep0, h0, hA0⟩ := trodAll_cons hA
  obtain ⟨v1, vs1, d1, ds1, p1, q1, ea1, ed1, ep1, h1, hA1⟩ := trodAll_cons hA0
  obtain ⟨ev, edn, _⟩ := trodAll_nil hA1
  subst ev edn
  obtain rfl : args = #[v0, v1] := Array.toList_inj.mp (by rw [ea0, ea1])
  obtain rfl : ds = [d0, d1] := by rw [ed0, ed1]
  obtain ⟨_, _, _, _, g1, _, rfl, _⟩ := trodVars_one hV
  obtain ⟨n0, t0⟩ := h0
  rw [val_scal K118 (hval 0 22 v0 rfl rfl)] at t0
  obtain ⟨B0, c0, a0, e0, o0, r0⟩ := rd_slice (enc1 := enc_u8) (ok := U8) K70 k_sz_5_1 rfl enc_u8_len (fun _ _ _ h => rd_u8 k_int_5_u8 h) t0
  obtain rfl := (List.cons.inj e0).1
  obtain ⟨n1, t1⟩ := h1
  rw [val_scal K118 (hval 1 22 v1 rfl rfl)] at t1
  obtain ⟨B1, c1, a1, e1, o1, r1⟩ := rd_slice (enc1 := enc_u8) (ok := U8) K70 k_sz_5_1 rfl enc_u8_len (fun _ _ _ h => rd_u8 k_int_5_u8 h) t1
  obtain rfl := (List.cons.inj e1).1
  have hF := law_FnBloch a0 a1 o0 o1
  refine Calls.mono (c_laws_FnBloch a0 a1 B0 c0 a0.length B1 c1 a1.length W rfl rfl (ST.refl (ro_cons r0 (ro_cons r1 (ro_cons (laid_cf (show laidMet Tryz.prog [("loop.example/g00864/impl.half", Rows.laid_loop_example_g00864_impl_half)] W from hL) (g := 0) (by kernel_rfl) (by kernel_rfl) (fun n x p h => laid_cells0 h)) (fun _ h => by cases h))))) hF) (fun e W' ⟨v, he, hv, hST⟩ => ⟨v, he, ?_⟩)
  subst hv
  exact post_true_v (tb := 4) laidOut mapsRow slicesFull (by kernel_rfl) (by kernel_rfl) (by kernel_rfl) (by kernel_rfl) hW' rfl hST
theorem lifted_FnBloch (os : Os) (started : os.Started) (H : Type) (enc : TypeId × Value → H) :
    ReturnsInHanded {} Tryz.checked os 3 .any (fun w args => (Rows.fnBlochSpec.pre enc Tryz.prog Tryz.f3 [] false w args ∧ laidMetH Tryz.prog Rows.fnBlochRow.laid w) ∧ sizedMet enc Tryz.prog Tryz.f3 (OpenSpec.ofChange Rows.fnBlochSpec) false w args) (Rows.fnBlochSpec.post enc Tryz.prog Tryz.f3 false true false false) := by
  refine returnsInHanded_of_change_and (C := Tryz.checked) (X := fun w _ => laidMetH Tryz.prog Rows.fnBlochRow.laid w) (fun _ _ _ hh h => h.of_heap hh) own started (by kernel_rfl) Tryz.func3
    (ChangeSpec.witness_at (enc := enc) (C := Tryz.checked) (os := os) (X := fun w _ => laidMetH Tryz.prog Rows.fnBlochRow.laid w) false (laidWorld os) #[.slice none 0 0, .slice none 0 0] 8 rfl (by kernel_rfl) (by kernel_rfl) (by kernel_rfl) (by kernel_rfl) (by kernel_rfl) (laid_met os _)) ?_
  intro W base args ds gs before hval hW _ _ hL _
  exact contract_FnBloch H enc W base args ds gs before hval hW hL
theorem closed_row : joinedFacts Tryz.prog 3 Tryz.f3 Rows.fnBlochSpec Rows.fnBlochRow = true := by
  unfold joinedFacts
  rw [laidOut, mapsRow, cl_inPlace, cl_unfollowed, cl_recurses, cl_named, cl_stopsHeard, cl_mayEnter, cl_lifted, cl_make]
  kernel_rfl
/-- 'laws.FnBloch' returns true for all arguments, and leaves what it was handed as it was: where the listed variable holds what the program's text lays. -/
theorem row_FnBloch : Rows.FnBlochSaid :=
  OpenClaim.holds_of_wide 3 Tryz.f3 rfl rfl rfl rfl rfl rfl rfl ⟨rfl, rfl, rfl, rfl, rfl⟩ rfl rfl rfl rfl rfl (by kernel_rfl) Tryz.func3 closed_row
    (of_decide_eq_true (by kernel_rfl)) (by unfold Func.isWrapper; first | (rw [if_pos (by decide +kernel)]; kernel_rfl) | (rw [if_neg (by decide +kernel)]; exact ⟨rfl, rfl⟩))
    (fun os started H enc _ => lifted_FnBloch os started H enc)
theorem stand_FnBloch : (Tryz.f3.params.toList.all fun t => !(Tryz.prog.wantsStandIn t)) = true := by kernel_rfl
/-- The tied card. -/
theorem proved_FnBloch : Rows.FnBlochCardSaid :=
  Claim7.holds_tied_plain_at .later [] [.data] true (true, "a60d370f727076d7dfbc0738eb2ee0b0f2d0278510057d20e0365075075303c9") false row_FnBloch (fun _ h => by cases h) (by kernel_rfl) (fun _ h => by cases h) fnBloch_row_tie rfl ⟨rfl, rfl⟩ (by kernel_rfl) rfl
    (fun f fn hf hfn => by
      obtain rfl : 3 = f := Option.some.inj ((show Tryz.prog.funcNamed "loop.example/g00864/laws.FnBloch" = some 3 by kernel_rfl).symm.trans hf)
      obtain rfl : Tryz.f3 = fn := Option.some.inj (Tryz.func3.symm.trans hfn)
      exact ⟨by kernel_rfl, fun j t ht => by
        have := List.all_eq_true.1 stand_FnBloch t (List.mem_of_getElem? (i := j) (by rw [Array.getElem?_toList]; exact ht))
        exact (show Tryz.prog.wantsStandIn t = false by simpa using this)⟩)
    (by kernel_rfl)
end Go.Proofs.YtmonoeihfeikeaaGreatDoor
