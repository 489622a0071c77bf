/- The law vesperlaw12.TapeBack (what is written is read, what is played is heard) answers true, whatever else lies in memory. No condition but the card's own: errors.errorType reads as the program's text lays it, and the card ties that. -/
import Derived.Test.YtdibgdiiamcmfaaDoorTapeLaid
import Derived.Test.YtdibgdiiamcmfaaDoorTapeBackP
import Derived.Test.YtdibgdiiamcmfaaDoorTapeOpen
import Derived.Test.YtdibgdiiamcmfaaDoorCards
import Derived.Test.YtdibgdiiamcmfaaDoorTie
import Derived.SevenTiedAt
import Derived.Below
import Derived.WalkKit
import Derived.ProofKit
set_option linter.unusedVariables false
set_option linter.unusedSimpArgs false
namespace Go.Proofs.YtdibgdiiamcmfaaDoor.TapeBackK
open Go Go.ChangeShapes Go.WideShapes Go.ChangeAt Go.RowKit
open Go.Proofs.YtdibgdiiamcmfaaDoor.Laid

theorem laidOut : laidOutB Tryd.prog = true := by kernel_rfl
theorem noStand : ((#[50, 44] : Array TypeId).toList.all fun t => !Tryd.pinned.checked.prog.wantsStandIn t) = true := by kernel_rfl

set_option maxRecDepth 100000 in
theorem lifted (os : Os) (started : os.Started) (H : Type) (enc : TypeId × Value → H) :
    ReturnsInHanded {} Tryd.checked os 9 .any (fun w args => (Rows.tapeBackSpec.pre enc Tryd.prog Tryd.f9 [] false w args ∧ laidMetH Tryd.prog lst w) ∧ sizedMet enc Tryd.prog Tryd.f9 (OpenSpec.ofChange Rows.tapeBackSpec) false w args)
      (Rows.tapeBackSpec.post enc Tryd.prog Tryd.f9 false true false false) := by
  refine returnsInHanded_of_change_and (C := Tryd.checked) (X := fun w _ => laidMetH Tryd.prog lst w) (fun _ _ _ hh h => h.of_heap hh) own started (by kernel_rfl) Tryd.func9
    (ChangeSpec.witness_shaped (enc := enc) (C := Tryd.checked) (os := os) (X := fun w _ => laidMetH Tryd.prog lst w) false (World.doorLaid Tryd.prog 400 os) #[.agg #[.slice none 0 0, .int .i64 0, .slice none 0 0, .int .i64 0], .agg #[.int .i64 0, .int .u16 0, .bool false, .bool false, .bool false, .bool false, .bool false, .bool false, .bool false, .int .u8 0]] 8 rfl (World.shaped_of_RefB (by kernel_rfl) (by kernel_rfl)) (by kernel_rfl) (by kernel_rfl) (by kernel_rfl) (door_met os _)) ?_
  intro W base args ds gs before hval0 hW _ _ hL _
  have hval : ∀ (j : Nat) t v, Tryd.f9.params[j]? = some t → args[j]? = some v → Value.okWide Tryd.prog W .any base t v := hval0
  have hW' := hW
  obtain ⟨p, q, hA0, hV, rfl, hfz, hnd⟩ := hW
  have hA : DataW.TrodAll enc Tryd.prog W 0 (fun _ => true) true Tryd.f9.params.toList args.toList ds p := hA0
  rw [Tryd.params9] at hA hval
  obtain ⟨v0, vs0, d0, ds0, p0, q0, hargs, rfl, rfl, h0, r0⟩ := trodAll_cons hA
  obtain ⟨v1, vs1, d1, ds1, p1, q1, rfl, rfl, rfl, h1, r1⟩ := trodAll_cons r0
  obtain ⟨rfl, rfl, rfl⟩ := trodAll_nil r1
  obtain rfl : args = #[v0, v1] := by cases args; simp_all
  obtain ⟨rfl, rfl⟩ := trodVars_none hV
  have k0 := h0
  have k1 := h1
  have lt0 : ∀ x ∈ p0, x.block < W.heap.size := by obtain ⟨m, hm⟩ := k0; exact DataW.trod_lt m _ _ _ hm
  have lt1 : ∀ x ∈ p1, x.block < W.heap.size := by obtain ⟨m, hm⟩ := k1; exact DataW.trod_lt m _ _ _ hm
  obtain ⟨cs0, n0, e0, g0⟩ := Opens.agg_open Tryd.underlying50 (hval 0 50 v0 rfl rfl) h0
  obtain ⟨cs1, n1, e1, g1⟩ := Opens.agg_open Tryd.underlying44 (hval 1 44 v1 rfl rfl) h1
  obtain ⟨A, c, l, a1, A2, c2, l2, a3, t0, hr, hc, hb, hr2, hc2⟩ := Opens.tape_open g0
  obtain ⟨s0, s1, s2, s3, s4, s5, s6, s7, s8, s9, t1⟩ := Opens.span_open g1
  have t0 := congrArg List.toArray t0
  have t1 := congrArg List.toArray t1
  rw [Array.toArray_toList] at t0 t1
  subst t0 t1 e0 e1
  clear hA0 hval0 hval g0 g1
  obtain ⟨k, hk⟩ := BackP.TapeBack l a1 l2 a3 s0 s1 s2 s3 s4 s5 s6 s7 s8 s9 hb
  refine (PTape.vesperlaw12_TapeBack.calls k A c l a1 A2 c2 l2 a3 s0 s1 s2 s3 s4 s5 s6 s7 s8 s9 true W hr hc hr2 hc2 hk (gok hL)).mono fun e W' ⟨he, bel⟩ => ?_
  subst he
  exact ⟨_, rfl, _, _, _, [], _, [], hW', trodAll_mk1 (shut_bool Tryd.underlying4 _), (trodAll_cons_mk (Below.trod laidOut (by kernel_rfl) (of_decide_eq_true (by kernel_rfl)) k0 bel lt0) (trodAll_cons_mk (Below.trod laidOut (by kernel_rfl) (of_decide_eq_true (by kernel_rfl)) k1 bel lt1) trodAll_mk0)), rfl, bel.frame _, fun h => by cases h⟩

theorem over : Rows.TapeBackSaid :=
  OpenClaim.holds_of_wide 9 Tryd.f9 rfl rfl rfl rfl rfl rfl rfl ⟨rfl, rfl, rfl, rfl, rfl⟩ rfl rfl rfl rfl rfl (by kernel_rfl) Tryd.func9 (by kernel_rfl)
    (of_decide_eq_true (by kernel_rfl)) (by unfold Func.isWrapper; first | (rw [if_pos (by decide +kernel)]; kernel_rfl) | (rw [if_neg (by decide +kernel)]; exact ⟨rfl, rfl⟩))
    (fun os started H enc _ => lifted os started H enc)

theorem card : Rows.TapeBackCardSaid :=
  Claim7.holds_tied_plain_at .later [] [.handle] true (true, "440bf157fea7f8f0fc2c9c7eefd8ffd634c0ec5335f4d6817e2758cf6a6e6a03") true
    over (fun _ h => by cases h) (by kernel_rfl) (fun _ h => by cases h) tapeBack_row_tie rfl ⟨rfl, rfl⟩ (by kernel_rfl) rfl
    (fun f fn hf hfn => by
      obtain rfl : f = 9 := Option.some.inj ((show Tryd.prog.funcNamed "vesper/vesperlaw12.TapeBack" = some 9 by kernel_rfl).symm.trans hf) |>.symm
      obtain rfl : fn = Tryd.f9 := (Option.some.inj (Tryd.func9.symm.trans hfn)).symm
      exact ⟨by kernel_rfl, fun j t ht => by
        rw [Tryd.params9] at ht
        simpa using List.all_eq_true.mp noStand t (Array.mem_toList_iff.mpr (Array.mem_of_getElem? ht))⟩)
    (by kernel_rfl)
end Go.Proofs.YtdibgdiiamcmfaaDoor.TapeBackK
namespace Go.Proofs.YtdibgdiiamcmfaaDoor
theorem tapeBack_card : Rows.TapeBackCardSaid := TapeBackK.card
#print axioms tapeBack_card
end Go.Proofs.YtdibgdiiamcmfaaDoor
