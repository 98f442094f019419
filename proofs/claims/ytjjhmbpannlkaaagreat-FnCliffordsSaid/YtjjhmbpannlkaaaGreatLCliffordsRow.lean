/- laws.FnCliffords returns true for all arguments, and leaves what it was handed as it was. No condition beyond the given statement. -/
import Derived.Test.YtjjhmbpannlkaaaGreatLCliffordsOp
import Derived.Test.YtjjhmbpannlkaaaGreatRows
import Derived.Test.YtjjhmbpannlkaaaGreatLCliffordsLaw
import Derived.Test.YtjjhmbpannlkaaaGreatLCliffordsW4
import Derived.Test.YtjjhmbpannlkaaaGreatLCliffordsCa
import Derived.Test.YtjjhmbpannlkaaaGreatLCliffordsCb
import Derived.Test.YtjjhmbpannlkaaaGreatLCliffordsCc
import Derived.Test.YtjjhmbpannlkaaaGreatLCliffordsCd
set_option linter.unusedVariables false
set_option maxRecDepth 100000
set_option maxHeartbeats 1000000
namespace Go.Proofs.YtjjhmbpannlkaaaGreat
open Go.ChangeShapes Go.WideShapes Go.ChangeAt Go.RowKit Go.VK
theorem own:ownKnob Tryz.prog.godebug=none:=by kernel_rfl
theorem laidOut:laidOutB Tryz.prog=true:=by kernel_rfl
theorem mapsRow:mapsRowed Tryz.prog=true:=by kernel_rfl
theorem slicesFull:slicesFullB Tryz.prog=true:=by kernel_rfl
theorem contract_FnCliffords (H:Type) (enc:TypeId×Value→H) (W:World) (base:Nat) (args:Array Value) (ds gs:List (DataW H)) (before:List MemPlace)
    (hval:∀ (j:Nat) t v,Tryz.f3.params[j]?=some t→args[j]?=some v→Value.okWide Tryz.prog W .any base t v)
    (hW:DataW.Whole enc Tryz.prog Tryz.f3.params.toList Rows.fnCliffordsSpec.vars false W args.toList ds gs before) :
    Calls Tryz.prog 3 args W fun e W'=>∃ v,e=.returned v∧Rows.fnCliffordsSpec.post enc Tryz.prog Tryz.f3 false true false false W args v W':=by
  have hW':=hW
  obtain ⟨p,q,hA,hV,rfl,hfz,hnd⟩:=hW
  have hA:DataW.TrodAll enc Tryz.prog W 0 (fun _=>true) true Tryz.f3.params.toList args.toList ds p:=hA
  rw [Tryz.params3] at hA hval
  obtain ⟨v0,vs0,d0,ds0,p0,q0,ea0,ed0,ep0,h0,hA0⟩:=trodAll_cons hA
  obtain ⟨v1,vs1,d1,ds1,p1,q1,ea1,ed1,ep1,h1,hA1⟩:=trodAll_cons hA0
  obtain ⟨ev,edn,_⟩:=trodAll_nil hA1
  subst ev edn
  obtain rfl:args=#[v0,v1]:=Array.toList_inj.mp (by rw [ea0,ea1])
  obtain rfl:ds=[d0,d1]:=by rw [ed0,ed1]
  obtain ⟨rfl,rfl⟩:=trodVars_none hV
  obtain ⟨n0,t0⟩:=h0
  rw [val_scal G7 (hval 0 22 v0 rfl rfl)] at t0
  obtain ⟨B0,c0,a0,e0,o0,r0⟩:=rd_slice (enc1:=enc_u8) (ok:=U8) DW I0 rfl enc_u8_len (fun _ _ _ h=>rd_u8 Kj h) t0
  obtain rfl:=(List.cons.inj e0).1
  obtain ⟨n1,t1⟩:=h1
  rw [val_scal G7 (hval 1 22 v1 rfl rfl)] at t1
  obtain ⟨B1,c1,a1,e1,o1,r1⟩:=rd_slice (enc1:=enc_u8) (ok:=U8) DW I0 rfl enc_u8_len (fun _ _ _ h=>rd_u8 Kj h) t1
  obtain rfl:=(List.cons.inj e1).1
  have hF:=law_FnCliffords a0 a1 o0 o1
  refine Calls.mono (N5 a0 a1 B0 c0 a0.length B1 c1 a1.length W rfl rfl (ST.refl (ro_cons r0 (ro_cons r1 (fun _ h=>by cases h)))) hF) (fun e W' ⟨v,he,hv,hST⟩=>⟨v,he,?_⟩)
  subst hv
  exact post_true (tb:=4) laidOut mapsRow slicesFull (by kernel_rfl) (by kernel_rfl) (by kernel_rfl) hW' rfl rfl hST
theorem lifted_FnCliffords (os:Os) (started:os.Started) (H:Type) (enc:TypeId×Value→H) :
    ReturnsInHanded {} Tryz.checked os 3 .any (Rows.fnCliffordsSpec.pre6 enc Tryz.prog Tryz.f3 Rows.fnCliffordsRow.domain false) (Rows.fnCliffordsSpec.post enc Tryz.prog Tryz.f3 false true false false):=by
  refine returnsInHanded_of_change (C:=Tryz.checked) own started (by kernel_rfl) Tryz.func3
    (ChangeSpec.witness6 (enc:=enc) (C:=Tryz.checked) false ⟨#[],#[.slice none 0 0,.slice none 0 0],[]⟩ 8 (by kernel_rfl) (by kernel_rfl) (by kernel_rfl) (by kernel_rfl)) ?_
  intro W base args ds gs before hval hW _ _
  exact contract_FnCliffords H enc W base args ds gs before hval hW
theorem closed_row:joinedFacts Tryz.prog 3 Tryz.f3 Rows.fnCliffordsSpec Rows.fnCliffordsRow=true:=by
  unfold joinedFacts
  rw [laidOut,mapsRow,cl_inPlace,cl_unfollowed,cl_recurses,cl_named,cl_stopsHeard,cl_mayEnter,cl_lifted,cl_make]
  kernel_rfl
/-- 'laws.FnCliffords' returns true for all arguments, and leaves what it was handed as it was. No condition. -/
theorem proved_FnCliffords:Rows.FnCliffordsSaid :=
  OpenClaim.holds_of_wide 3 Tryz.f3 rfl rfl rfl rfl rfl rfl rfl ⟨rfl,rfl,rfl,rfl,rfl⟩ rfl rfl rfl rfl rfl (by kernel_rfl) Tryz.func3 closed_row
    (of_decide_eq_true (by kernel_rfl)) (by unfold Func.isWrapper; first | (rw [if_pos (by decide +kernel)]; kernel_rfl) | (rw [if_neg (by decide +kernel)]; exact ⟨rfl,rfl⟩))
    (fun os started H enc _=>lifted_FnCliffords os started H enc)
end Go.Proofs.YtjjhmbpannlkaaaGreat
