/- The law vesperlaw12.TapeSpans (any waves, any span: the spans, twice, as the document says; the waves stay, and what was told is its owner's) answers true, whatever else lies in memory. No condition but the card's own: errors.errorType reads as the program's text lays it, and the card ties that. -/
import Derived.Test.YtdibgdiiamcmfaaDoorTapeLaid
import Derived.Test.YtdibgdiiamcmfaaDoorTapeSpansW
import Derived.Test.YtdibgdiiamcmfaaDoorTapeOpen
import Derived.Test.YtdibgdiiamcmfaaDoorCards
import Derived.Test.YtdibgdiiamcmfaaDoorTie
import Derived.SevenTiedAt
import Derived.Below
import Derived.WalkKit
import Derived.ProofKit
import Derived.OpenShut
set_option linter.unusedVariables false
set_option linter.unusedSimpArgs false
namespace Go.Proofs.YtdibgdiiamcmfaaDoor.TapeSpansK
open Go Go.ChangeShapes Go.WideShapes Go.ChangeAt Go.RowKit
open Go.Proofs.YtdibgdiiamcmfaaDoor.Laid

theorem laidOut : laidOutB Tryd.prog = true := by kernel_rfl
theorem noStand : ((#[24, 44] : Array TypeId).toList.all fun t => !Tryd.pinned.checked.prog.wantsStandIn t) = true := by kernel_rfl

set_option maxRecDepth 100000 in
theorem lifted (os : Os) (started : os.Started) (H : Type) (enc : TypeId × Value → H) :
    ReturnsInHanded {} Tryd.checked os 8 .any (fun w args => (Rows.tapeSpansSpec.pre enc Tryd.prog Tryd.f8 [] false w args ∧ laidMetH Tryd.prog lst w) ∧ sizedMet enc Tryd.prog Tryd.f8 (OpenSpec.ofChange Rows.tapeSpansSpec) false w args)
      (Rows.tapeSpansSpec.post enc Tryd.prog Tryd.f8 false true false false) := by
  refine returnsInHanded_of_change_and (C := Tryd.checked) (X := fun w _ => laidMetH Tryd.prog lst w) (fun _ _ _ hh h => h.of_heap hh) own started (by kernel_rfl) Tryd.func8
    (ChangeSpec.witness_shaped (enc := enc) (C := Tryd.checked) (os := os) (X := fun w _ => laidMetH Tryd.prog lst w) false (World.doorLaid Tryd.prog 400 os) #[.slice none 0 0, .agg #[.int .i64 0, .int .u16 0, .bool false, .bool false, .bool false, .bool false, .bool false, .bool false, .bool false, .int .u8 0]] 8 rfl (World.shaped_of_RefB (by kernel_rfl) (by kernel_rfl)) (by kernel_rfl) (by kernel_rfl) (by kernel_rfl) (door_met os _)) ?_
  intro W base args ds gs before hval0 hW _ _ hL _
  have hval : ∀ (j : Nat) t v, Tryd.f8.params[j]? = some t → args[j]? = some v → Value.okWide Tryd.prog W .any base t v := hval0
  have hW' := hW
  obtain ⟨p, q, hA0, hV, rfl, hfz, hnd⟩ := hW
  have hA : DataW.TrodAll enc Tryd.prog W 0 (fun _ => true) true Tryd.f8.params.toList args.toList ds p := hA0
  rw [Tryd.params8] at hA hval
  obtain ⟨v0, vs0, d0, ds0, p0, q0, hargs, rfl, rfl, h0, r0⟩ := trodAll_cons hA
  obtain ⟨v1, vs1, d1, ds1, p1, q1, rfl, rfl, rfl, h1, r1⟩ := trodAll_cons r0
  obtain ⟨rfl, rfl, rfl⟩ := trodAll_nil r1
  obtain rfl : args = #[v0, v1] := by cases args; simp_all
  obtain ⟨rfl, rfl⟩ := trodVars_none hV
  have k0 := h0
  have lt0 : ∀ x ∈ p0, x.block < W.heap.size := by obtain ⟨m, hm⟩ := k0; exact DataW.trod_lt m _ _ _ hm
  obtain ⟨a0, n0, c0, rfl⟩ := okWide_slice Tryd.underlying24 (hval 0 24 v0 rfl rfl)
  obtain ⟨f0, g0⟩ := h0
  obtain ⟨A0, c0', l0, t0, hr0, hc0⟩ := Opens.waves_open g0
  simp only [Value.cells, List.cons.injEq, and_true] at t0
  cases t0
  clear g0
  have k1 := h1
  have lt1 : ∀ x ∈ p1, x.block < W.heap.size := by obtain ⟨m, hm⟩ := k1; exact DataW.trod_lt m _ _ _ hm
  obtain ⟨cs1, n1, e1, g1⟩ := Opens.agg_open Tryd.underlying44 (hval 1 44 v1 rfl rfl) h1
  obtain ⟨s0, s1, s2, s3, s4, s5, s6, s7, s8, s9, t1⟩ := Opens.span_open g1
  have t1 := congrArg List.toArray t1
  rw [Array.toArray_toList] at t1
  subst t1 e1
  clear g1
  clear hA0 hval0 hval
  refine (SpansW.spans_law s0 s1 s2 s3 s4 s5 s6 s7 s8 s9 _ _ l0 W hr0 hc0 (gok hL)).mono fun e W' ⟨he, bel⟩ => ?_
  subst he
  exact ⟨_, rfl, _, _, _, [], _, [], hW', trodAll_mk1 (shut_bool Tryd.underlying4 _), (trodAll_cons_mk (Below.trod laidOut (by kernel_rfl) (of_decide_eq_true (by kernel_rfl)) k0 bel lt0) (trodAll_cons_mk (Below.trod laidOut (by kernel_rfl) (of_decide_eq_true (by kernel_rfl)) k1 bel lt1) trodAll_mk0)), rfl, bel.frame _, fun h => by cases h⟩

theorem over : Rows.TapeSpansSaid :=
  OpenClaim.holds_of_wide 8 Tryd.f8 rfl rfl rfl rfl rfl rfl rfl ⟨rfl, rfl, rfl, rfl, rfl⟩ rfl rfl rfl rfl rfl (by kernel_rfl) Tryd.func8 (by kernel_rfl)
    (of_decide_eq_true (by kernel_rfl)) (by unfold Func.isWrapper; first | (rw [if_pos (by decide +kernel)]; kernel_rfl) | (rw [if_neg (by decide +kernel)]; exact ⟨rfl, rfl⟩))
    (fun os started H enc _ => lifted os started H enc)

theorem card : Rows.TapeSpansCardSaid :=
  Claim7.holds_tied_plain_at .later [] [.handle] true (true, "440bf157fea7f8f0fc2c9c7eefd8ffd634c0ec5335f4d6817e2758cf6a6e6a03") true
    over (fun _ h => by cases h) (by kernel_rfl) (fun _ h => by cases h) tapeSpans_row_tie rfl ⟨rfl, rfl⟩ (by kernel_rfl) rfl
    (fun f fn hf hfn => by
      obtain rfl : f = 8 := Option.some.inj ((show Tryd.prog.funcNamed "vesper/vesperlaw12.TapeSpans" = some 8 by kernel_rfl).symm.trans hf) |>.symm
      obtain rfl : fn = Tryd.f8 := (Option.some.inj (Tryd.func8.symm.trans hfn)).symm
      exact ⟨by kernel_rfl, fun j t ht => by
        rw [Tryd.params8] at ht
        simpa using List.all_eq_true.mp noStand t (Array.mem_toList_iff.mpr (Array.mem_of_getElem? ht))⟩)
    (by kernel_rfl)
end Go.Proofs.YtdibgdiiamcmfaaDoor.TapeSpansK
namespace Go.Proofs.YtdibgdiiamcmfaaDoor
theorem tapeSpans_card : Rows.TapeSpansCardSaid := TapeSpansK.card
#print axioms tapeSpans_card
end Go.Proofs.YtdibgdiiamcmfaaDoor
