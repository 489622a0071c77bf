/- The law vesperlaw14.AsmObjects (Check, Bytes and Find of any object, as the document says) answers true, whatever else lies in memory. No condition but the card's own: the listed variables read as the program's text lays them, and the card ties that. -/
import Derived.Test.YtbffmfeflcdgbaaDoorAsmLd
import Derived.Test.YtbffmfeflcdgbaaDoorAsmLaw
import Derived.Test.YtbffmfeflcdgbaaDoorAsmP7
import Derived.Test.YtbffmfeflcdgbaaDoorAsmOp
import Derived.Test.YtbffmfeflcdgbaaDoorCards
import Derived.Test.YtbffmfeflcdgbaaDoorTie
import Derived.SevenTiedAt
import Derived.ChangeMaps5
set_option linter.unusedVariables false
set_option linter.unusedSimpArgs false
namespace Go.Proofs.YtbffmfeflcdgbaaDoor.AsmObjectsK
open Go Go.ChangeShapes Go.WideShapes Go.ChangeAt Go.RowKit
open Go.Proofs.YtbffmfeflcdgbaaDoor.Laid

theorem laidOut : laidOutB Tryd.prog = true := by kernel_rfl
theorem noStand : ((#[26, 28] : Array TypeId).toList.all fun t => !Tryd.pinned.checked.prog.wantsStandIn t) = true := by kernel_rfl

set_option maxRecDepth 100000 in
theorem lifted (os : Os) (started : os.Started) (H : Type) (enc : TypeId × Value → H) :
 ReturnsInHanded {} Tryd.checked os 3 .any (fun w args => (Rows.asmObjectsSpec.pre enc Tryd.prog Tryd.f3 [] false w args ∧ laidMetH Tryd.prog lst w) ∧ sizedMet enc Tryd.prog Tryd.f3 (OpenSpec.ofChange Rows.asmObjectsSpec) false w args)
  (Rows.asmObjectsSpec.post enc Tryd.prog Tryd.f3 false true false false) := by
 refine handed_all (C := Tryd.checked) (X := fun w _ => laidMetH Tryd.prog lst w) (fun _ _ _ hh h => h.of_heap hh) own started (by kernel_rfl) Tryd.func3
  (ChangeSpec.witness_shaped (enc := enc) (C := Tryd.checked) (os := os) (X := fun w _ => laidMetH Tryd.prog lst w) false (door os) #[.agg #[.slice none 0 0, .slice none 0 0, .slice none 0 0], .agg #[.int .i64 0, .int .i64 0, .string ⟨#[]⟩]] 8 (World.laidAll_os _ _ _) (door_shaped os _) (by kernel_rfl) (by kernel_rfl) (by kernel_rfl) (door_met os _)) ?_
 intro W base args ds gs before hval0 hW hL hS hsz0
 have hsz : (DataW.weightsEach Tryd.prog (Tryd.f3.params.toList ++ Rows.asmObjectsSpec.plain.varTypes Tryd.prog) (ds ++ gs)).all (· ≤ reachBytes) = true := hsz0
 have hval : ∀ (j : Nat) t v, Tryd.f3.params[j]? = some t → args[j]? = some v → Value.okWide Tryd.prog W .any base t v := hval0
 have hW' := hW
 obtain ⟨p, q, hA0, hV, rfl, hfz, hnd⟩ := hW
 have hA : DataW.TrodAll enc Tryd.prog W 0 (fun _ => true) true Tryd.f3.params.toList args.toList ds p := hA0
 rw [Tryd.params3] at hA hval hsz
 obtain ⟨v0, vs0, d0, ds0, p0, q0, hargs, rfl, rfl, h0, r0⟩ := trodAll_cons hA
 obtain ⟨v1, vs1, d1, ds1, p1, q1, rfl, rfl, rfl, h1, r1⟩ := trodAll_cons r0
 obtain ⟨rfl, rfl, rfl⟩ := trodAll_nil r1
 obtain rfl : args = #[v0, v1] := by cases args; simp_all
 obtain ⟨rfl, rfl⟩ := trodVars_none hV
 have k0 := h0
 have lt0 : ∀ x ∈ p0, x.block < W.heap.size := by obtain ⟨m, hm⟩ := k0; exact DataW.trod_lt m _ _ _ hm
 have k1 := h1
 have lt1 : ∀ x ∈ p1, x.block < W.heap.size := by obtain ⟨m, hm⟩ := k1; exact DataW.trod_lt m _ _ _ hm
 obtain ⟨cs0, rfl, -⟩ := okWide_struct Tryd.underlying26 (hval 0 26 v0 rfl rfl)
 obtain ⟨cs1, rfl, -⟩ := okWide_struct Tryd.underlying28 (hval 1 28 v1 rfl rfl)
 have hw0 : Opens.Wt Tryd.prog 26 d0 := fun n hn => by
  have := List.all_eq_true.1 hsz n (DataW.weights_mem_each (j := 0) rfl rfl n hn)
  simpa using this
 obtain ⟨f0, g0⟩ := h0
 obtain ⟨f1, g1⟩ := h1
 obtain ⟨A0, c0, l0, A1, c1, l1, A2, c2, l2, e0, hr0, hc0, hr1, hc1, hr2, hc2, hb, n0, n1, n2⟩ := Opens.object_open g0 hw0
 obtain ⟨a, b, nm, e1⟩ := Opens.ask_open g1
 obtain rfl : cs0 = #[.slice A0 l0.length c0, .slice A1 l1.length c1, .slice A2 l2.length c2] := by cases cs0; simp only [Value.cells] at e0; simp_all
 obtain rfl : cs1 = #[.int .i64 a, .int .i64 b, .string nm] := by cases cs1; simp only [Value.cells] at e1; simp_all
 clear g0 g1 hA0 hval0 hval hsz0 hsz hw0 e0 e1
 have hG := gok hL
 obtain ⟨K, big, mb, fr, hbig, hpl⟩ := P.plain l0 l1 l2 nm a b n0 n1 n2 (fun x hx => (hb x hx).2) (fun x hx => (hb x hx).1)
 refine (Law.law_calls K big mb A0 A1 A2 c0 c1 c2 l0 l1 l2 nm a b fr W hr0 hc0 hr1 hc1 hr2 hc2 hbig hpl hG).mono fun e W' ⟨he, bel⟩ => ?_
 subst he
 exact ⟨_, rfl, _, _, _, [], _, [], hW', trodAll_mk1 (shut_bool Tryd.underlying4 _), (trodAll_cons_mk (Below.trod laidOut (by kernel_rfl) (of_decide_eq_true (by kernel_rfl)) k0 bel lt0) (trodAll_cons_mk (Below.trod laidOut (by kernel_rfl) (of_decide_eq_true (by kernel_rfl)) k1 bel lt1) trodAll_mk0)), rfl, bel.frame _, fun h => by cases h⟩

theorem over : Rows.AsmObjectsSaid :=
 OpenClaim.holds_of_wide 3 Tryd.f3 rfl rfl rfl rfl rfl rfl rfl ⟨rfl, rfl, rfl, rfl, rfl⟩ rfl rfl rfl rfl rfl (by kernel_rfl) Tryd.func3 (by kernel_rfl)
  (of_decide_eq_true (by kernel_rfl)) (by unfold Func.isWrapper; first | (rw [if_pos (by decide +kernel)]; kernel_rfl) | (rw [if_neg (by decide +kernel)]; exact ⟨rfl, rfl⟩))
  (fun os started H enc _ => lifted os started H enc)

theorem card : Rows.AsmObjectsCardSaid :=
 Claim7.holds_tied_plain_at .later [] [.data, .data, .data, .data, .data, .data, .data, .pinned] true (true, "24e44915076c27a7e3fb2d4ce9ee8e044fc12df961b7dda20842bd94ccf1de27") false
  over (fun _ h => by cases h) (by kernel_rfl) (fun _ h => by cases h) asmObjects_row_tie rfl ⟨rfl, rfl⟩ (by kernel_rfl) rfl
  (fun f fn hf hfn => by
   obtain rfl : f = 3 := Option.some.inj ((show Tryd.prog.funcNamed "vesper/vesperlaw14.AsmObjects" = some 3 by kernel_rfl).symm.trans hf) |>.symm
   obtain rfl : fn = Tryd.f3 := (Option.some.inj (Tryd.func3.symm.trans hfn)).symm
   exact ⟨by kernel_rfl, fun j t ht => by
    rw [Tryd.params3] at ht
    simpa using List.all_eq_true.mp noStand t (Array.mem_toList_iff.mpr (Array.mem_of_getElem? ht))⟩)
  (by kernel_rfl)
end Go.Proofs.YtbffmfeflcdgbaaDoor.AsmObjectsK
namespace Go.Proofs.YtbffmfeflcdgbaaDoor
theorem asmObjects_card : Rows.AsmObjectsCardSaid := AsmObjectsK.card
#print axioms asmObjects_card
end Go.Proofs.YtbffmfeflcdgbaaDoor
