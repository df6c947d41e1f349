/- AdmitRoom: for every input of bulk at most 1048576 (the row's own condition) the law returns true and its arguments read as they did. -/
import Derived.Test.YtbaajjihhdmdpaaGreatDoorRa06

namespace Go.Proofs.YtbaajjihhdmdpaaGreatDoor.admitRoom
open Go.RowKit Go.ChangeShapes Go.WideShapes Go.Deep
set_option linter.unusedSectionVars false
set_option linter.unusedVariables false
set_option linter.unusedSimpArgs false
set_option linter.unnecessarySimpa false
set_option maxRecDepth 100000
set_option maxHeartbeats 4000000

abbrev lay : List (String × DataW Unit) := [("math/bits.deBruijn32tab", Rows.laid_math_bits_deBruijn32tab), ("math/bits.deBruijn64tab", Rows.laid_math_bits_deBruijn64tab), ("internal/strconv.uint64pow10", Rows.laid_internal_strconv_uint64pow10)]
abbrev wit : Array Value := #[.agg #[.int .i64 0, .slice none 0 0, .int .i64 0, .int .i64 0, .slice none 0 0, .slice none 0 0], .agg #[.int .i64 0, .int .i64 0, .slice none 0 0], .agg #[.int .i64 0, .int .i64 0, .int .i64 0], .int .i64 0]
theorem laid_met (os : Os) : laidMetH Tryz.prog lay ((World.doorLaid Tryz.prog 24 os).forCall (fun _ _ => 0) ⟨#[], wit, []⟩).memory := by
  rw [MakeChecks.laidMetH_plain _ _ _ (by kernel_rfl)]
  exact laidMet_of_run' 8 (by kernel_rfl) (by kernel_rfl)
def readings {H : Type} : List (DataW H) := [.agg [.lit (.int .i64 0), .nil, .lit (.int .i64 0), .lit (.int .i64 0), .nil, .nil], .agg [.lit (.int .i64 0), .lit (.int .i64 0), .nil], .agg [.lit (.int .i64 0), .lit (.int .i64 0), .lit (.int .i64 0)], .lit (.int .i64 0)]
theorem reads (os : Os) {H : Type} (enc : TypeId × Value → H) : DataW.whole enc Tryz.prog ((World.doorLaid Tryz.prog 24 os).forCall (fun _ _ => 0) ⟨#[], wit, []⟩).memory Tryz.f3.params.toList Rows.admitRoomSpec.vars false wit.toList 8 = some (readings, [], []) := by kernel_rfl

theorem contract (H : Type) (enc : TypeId × Value → H) (W : World) (base : Nat) (args : Array Value) (ds gs : List (DataW H)) (before : List MemPlace)
    (hval : ∀ (j : Nat) t v, Tryz.f3.params[j]? = some t → args[j]? = some v → Value.okWide Tryz.prog W .any base t v)
    (hW : DataW.Whole enc Tryz.prog Tryz.f3.params.toList Rows.admitRoomSpec.vars false W args.toList ds gs before) (hL : laidMetH Tryz.prog lay W) (hk : Rows.uptoSmall H (ds ++ gs) = true) :
    Calls Tryz.prog 3 args W fun e W' => ∃ v, e = .returned v ∧ Rows.admitRoomSpec.post enc Tryz.prog Tryz.f3 false true false false W args v W' := by
  have hW' := hW
  obtain ⟨p, q, hA0, hV, rfl, hfz, hnd⟩ := hW
  have hA : DataW.TrodAll enc Tryz.prog W 0 (fun _ => true) true Tryz.f3.params.toList args.toList ds p := hA0
  rw [Tryz.params3] at hA hval
  obtain ⟨v0, vs0, d0, ds0, p0, q0, hargs, rfl, rfl, h0, r0⟩ := trodAll_cons hA
  obtain ⟨v1, vs1, d1, ds1, p1, q1, rfl, rfl, rfl, h1, r1⟩ := trodAll_cons r0
  obtain ⟨v2, vs2, d2, ds2, p2, q2, rfl, rfl, rfl, h2, r2⟩ := trodAll_cons r1
  obtain ⟨v3, vs3, d3, ds3, p3, q3, rfl, rfl, rfl, h3, r3⟩ := trodAll_cons r2
  obtain ⟨rfl, rfl, rfl⟩ := trodAll_nil r3
  obtain rfl : args = #[v0, v1, v2, v3] := by cases args; simp_all
  obtain ⟨rfl, rfl⟩ := trodVars_none hV
  rw [List.append_nil] at hk
  obtain ⟨n0, k0, b0⟩ := argS Tryz.underlying26 rdNet (hval 0 26 v0 rfl rfl) h0 1048576 (bulk_part hk (by simp))
  obtain ⟨s1, k1, b1⟩ := argS Tryz.underlying29 rdSched (hval 1 29 v1 rfl rfl) h1 1048576 (bulk_part hk (by simp))
  obtain ⟨l2, k2, b2⟩ := argS Tryz.underlying31 rdLink (hval 2 31 v2 rfl rfl) h2 1048576 (bulk_part hk (by simp))
  obtain ⟨x3, k3, b3⟩ := argI Tryz.underlying3 (hval 3 3 v3 rfl rfl) h3
  have hc := S3 n0 (net_ok b0) s1 (Nat.le_trans b1 (by decide)) l2 x3
  refine law_calls (vs := [v0, v1, v2, v3]) hc (tab_of hL) rfl (rep_cons k0 (rep_cons k1 (rep_cons k2 (rep_cons k3 rep_nil)))) fun W' hb => ?_
  refine post_law hW' rfl (by kernel_rfl) rfl (fun t ht => ?_) hb
  rw [Tryz.params3] at ht
  have hall : ([26, 29, 31, 3].all fun t => Tryz.prog.readableRec t && decide (t < Tryz.prog.types.size)) = true := by kernel_rfl
  simpa using List.all_eq_true.1 hall t ht

theorem lifted (os : Os) (started : os.Started) (H : Type) (enc : TypeId × Value → H) (F : Stop.Interp) :
    ReturnsInHanded {} Tryz.checked os 3 .any ((Rows.OpenSpec.upto Rows.admitRoomSpec).preRow enc Tryz.prog Tryz.f3 Rows.admitRoomUptoRow.domain false Rows.admitRoomUptoRow.laid) (((Rows.OpenSpec.upto Rows.admitRoomSpec).at F).post enc Tryz.prog Tryz.f3 false true false false) := by
  refine returnsInHanded_of_row (C := Tryz.checked) (s := (Rows.OpenSpec.upto Rows.admitRoomSpec)) ownKnob0 started (by kernel_rfl) Tryz.func3
    (witness_row_at (enc := enc) (C := Tryz.checked) false (World.doorLaid Tryz.prog 24 os) wit rfl (by kernel_rfl) (by kernel_rfl) (by kernel_rfl)
      (OpenSpec.preRow_of_cond 8 (reads os enc) (by kernel_rfl) (fun k hk => by cases hk; kernel_rfl) (by kernel_rfl) (laid_met os))) ?_
  intro W base args ds gs before hval hW _ hcond _ hL _ _
  exact contract H enc W base args ds gs before hval hW hL (hcond _ rfl)

theorem joined : joinedFacts Tryz.prog 3 Tryz.f3 (Rows.OpenSpec.upto Rows.admitRoomSpec).bare Rows.admitRoomUptoRow = true := by
  unfold joinedFacts
  simp only [Bool.and_eq_true]
  repeat' apply And.intro
  all_goals as_aux_lemma => kernel_rfl
theorem named : Tryz.prog.funcNamed "hopmesh/hopmeshlaw41.AdmitRoom" = some 3 := by kernel_rfl
theorem inst : Func.isInstance Tryz.prog Tryz.f3 Rows.admitRoomUptoRow.origin Rows.admitRoomUptoRow.targs := of_decide_eq_true (by kernel_rfl)
theorem wrap : Func.isWrapper Tryz.prog Tryz.f3 Rows.admitRoomUptoRow.wrapper Rows.admitRoomUptoRow.mainSum := by unfold Func.isWrapper; first | (rw [if_pos (by decide +kernel)]; kernel_rfl) | (rw [if_neg (by decide +kernel)]; exact ⟨rfl, rfl⟩)
theorem saidUpto : Rows.AdmitRoomUptoSaid :=
  OpenClaim.holds_of_cond 3 Tryz.f3 rfl rfl rfl rfl rfl rfl rfl ⟨rfl, rfl, rfl, rfl, rfl⟩ rfl rfl rfl rfl rfl named Tryz.func3 joined inst wrap
    (fun os started H enc _ F => by rw [OpenClaim.pre_eq_preRow]; exact lifted os started H enc F)
theorem looks0 : false = Tryz.pinned.checked.prog.looks [] := by kernel_rfl
theorem plain (f : FuncId) (fn : Func) (hf : Tryz.pinned.checked.prog.funcNamed "hopmesh/hopmeshlaw41.AdmitRoom" = some f) (hfn : Tryz.pinned.checked.prog.funcs[f]? = some fn) :
    false = Tryz.pinned.checked.prog.looks [] ∧ ∀ (j : Nat) t, fn.params[j]? = some t → Tryz.pinned.checked.prog.wantsStandIn t = false := by
  obtain rfl : f = 3 := Option.some.inj (named.symm.trans hf) |>.symm
  obtain rfl : fn = Tryz.f3 := (Option.some.inj (Tryz.func3.symm.trans hfn)).symm
  refine ⟨looks0, fun j t ht => ?_⟩
  rw [Tryz.params3] at ht
  have hm : t ∈ [26, 29, 31, 3] := by simpa using Array.mem_of_getElem? ht
  have hall : ([26, 29, 31, 3].all fun u => !Tryz.prog.wantsStandIn u) = true := by kernel_rfl
  exact (show Tryz.prog.wantsStandIn t = false by simpa using List.all_eq_true.1 hall t hm)
theorem wf : OpenClaim.wfByText (Rows.OpenSpec.upto Rows.admitRoomSpec) Rows.admitRoomUptoRow = true := by kernel_rfl
theorem goes : false = Rows.admitRoomUptoRow.goesBy Tryz.pinned.checked.prog := by kernel_rfl
theorem main0 : Tryz.pinned.checked.prog.mainIs = some (Rows.admitRoomUptoCard.stood.harness.1, Rows.admitRoomUptoCard.stood.harness.2.toList) := by kernel_rfl
theorem cardUpto : Rows.AdmitRoomUptoCardSaid :=
  Claim7.holds_tied_plain_at .later [] _ _ _ _ saidUpto (fun _ h => by cases h) wf (fun _ h => by cases h) admitRoomUpto_row_tie rfl ⟨rfl, rfl⟩ main0 rfl plain goes
end Go.Proofs.YtbaajjihhdmdpaaGreatDoor.admitRoom
namespace Go.Proofs.YtbaajjihhdmdpaaGreatDoor
theorem admitRoom_holds : Rows.AdmitRoomUptoCardSaid := admitRoom.cardUpto
#print axioms admitRoom_holds
end Go.Proofs.YtbaajjihhdmdpaaGreatDoor
