/- The law vesperlaw13.SourceSizes (the size of any item, or that it may not be, as the document says) answers true, whatever else lies in memory. No condition but the card's own: the listed variables read as the program's text lays them, and the card ties that. -/
import Derived.Test.YtjedbamcjgabpaaDoorSrcLd
import Derived.Test.YtjedbamcjgabpaaDoorSrcP1
import Derived.Test.YtjedbamcjgabpaaDoorSrcOp
import Derived.Test.YtjedbamcjgabpaaDoorPSoVesperlaw13SourceSizes
import Derived.Test.YtjedbamcjgabpaaDoorCards
import Derived.Test.YtjedbamcjgabpaaDoorTie
import Derived.SevenTiedAt
import Derived.ChangeMaps5
set_option linter.unusedVariables false
set_option linter.unusedSimpArgs false
namespace Go.Proofs.YtjedbamcjgabpaaDoor.SourceSizesK
open Go Go.ChangeShapes Go.WideShapes Go.ChangeAt Go.RowKit
open Go.Proofs.YtjedbamcjgabpaaDoor.Laid

set_option maxRecDepth 1000000 in
theorem awake : PSo.vesperlaw13_awake.f 1000 = some true := by kernel_rfl
theorem pure (a0 : Int) (nm : ByteArray) (arg : Int) (lab : ByteArray) (part : Int) (by_ : List Int) : PSo.vesperlaw13_SourceSizes.f 1000 a0 nm arg lab part by_ = some true := by
 obtain ⟨r, h1, h2⟩ := PSo.size_eq a0 nm arg lab part by_
 unfold PSo.vesperlaw13_SourceSizes.f
 rw [awake, h1, h2, Option.bind_some, Option.bind_some, Option.bind_some, if_pos rfl, if_pos rfl]
 exact congrArg some (beq_self_eq_true r.2)
theorem laidOut : laidOutB Tryd.prog = true := by kernel_rfl
theorem noStand : ((#[43] : Array TypeId).toList.all fun t => !Tryd.pinned.checked.prog.wantsStandIn t) = true := by kernel_rfl

set_option maxRecDepth 100000 in
theorem lifted (os : Os) (started : os.Started) (H : Type) (enc : TypeId × Value → H) :
 ReturnsInHanded {} Tryd.checked os 7 .any (fun w args => (Rows.sourceSizesSpec.pre enc Tryd.prog Tryd.f7 [] false w args ∧ laidMetH Tryd.prog lst w) ∧ sizedMet enc Tryd.prog Tryd.f7 (OpenSpec.ofChange Rows.sourceSizesSpec) false w args)
  (Rows.sourceSizesSpec.post enc Tryd.prog Tryd.f7 false true false false) := by
 refine handed_all (C := Tryd.checked) (X := fun w _ => laidMetH Tryd.prog lst w) (fun _ _ _ hh h => h.of_heap hh) own started (by kernel_rfl) Tryd.func7
  (ChangeSpec.witness_shaped (enc := enc) (C := Tryd.checked) (os := os) (X := fun w _ => laidMetH Tryd.prog lst w) false (door os) #[.agg #[.int .u8 0, .string ⟨#[]⟩, .int .i64 0, .string ⟨#[]⟩, .int .u8 0, .slice none 0 0]] 8 (World.laidAll_os _ _ _) (door_shaped os _) (by kernel_rfl) (by kernel_rfl) (by kernel_rfl) (door_met os _)) ?_
 intro W base args ds gs before hval0 hW hL hS hsz0
 have hsz : (DataW.weightsEach Tryd.prog (Tryd.f7.params.toList ++ Rows.sourceSizesSpec.plain.varTypes Tryd.prog) (ds ++ gs)).all (· ≤ reachBytes) = true := hsz0
 have hval : ∀ (j : Nat) t v, Tryd.f7.params[j]? = some t → args[j]? = some v → Value.okWide Tryd.prog W .any base t v := hval0
 have hW' := hW
 obtain ⟨p, q, hA0, hV, rfl, hfz, hnd⟩ := hW
 have hA : DataW.TrodAll enc Tryd.prog W 0 (fun _ => true) true Tryd.f7.params.toList args.toList ds p := hA0
 rw [Tryd.params7] at hA hval hsz
 obtain ⟨v0, vs0, d0, ds0, p0, q0, hargs, rfl, rfl, h0, r0⟩ := trodAll_cons hA
 obtain ⟨rfl, rfl, rfl⟩ := trodAll_nil r0
 obtain rfl : args = #[v0] := by cases args; simp_all
 obtain ⟨rfl, rfl⟩ := trodVars_none hV
 have k0 := h0
 have lt0 : ∀ x ∈ p0, x.block < W.heap.size := by obtain ⟨m, hm⟩ := k0; exact DataW.trod_lt m _ _ _ hm
 obtain ⟨cs0, rfl, -⟩ := okWide_struct Tryd.underlying43 (hval 0 43 v0 rfl rfl)
 have hw0 : Opens.Wt Tryd.prog 43 d0 := fun n hn => by
  have := List.all_eq_true.1 hsz n (DataW.weights_mem_each (j := 0) rfl rfl n hn)
  simpa using this
 obtain ⟨f0, g0⟩ := h0
 obtain ⟨s, A0, c0, e0, hb, hr0, hc0⟩ := Opens.item_openB g0 hw0
 obtain rfl : cs0 = #[.int .u8 s.f0, .string s.f1, .int .i64 s.f2, .string s.f3, .int .u8 s.f4, .slice A0 s.f5.length c0] := by cases cs0; simp only [Value.cells] at e0; simp_all
 clear g0 hA0 hval0 hval hsz0 hsz hw0 e0
 have hG := gok hL hS
 refine (PSo.vesperlaw13_SourceSizes.calls 1000 s.f0 s.f1 s.f2 s.f3 s.f4 A0 c0 s.f5 true W hr0 hc0 (pure _ _ _ _ _ _) hG).mono fun e W' ⟨he, bel⟩ => ?_
 subst he
 exact ⟨_, rfl, _, _, _, [], _, [], hW', trodAll_mk1 (shut_bool Tryd.underlying4 _), (trodAll_cons_mk (Below.trod laidOut (by kernel_rfl) (of_decide_eq_true (by kernel_rfl)) k0 bel lt0) trodAll_mk0), rfl, bel.frame _, fun h => by cases h⟩

theorem over : Rows.SourceSizesSaid :=
 OpenClaim.holds_of_wide 7 Tryd.f7 rfl rfl rfl rfl rfl rfl rfl ⟨rfl, rfl, rfl, rfl, rfl⟩ rfl rfl rfl rfl rfl (by kernel_rfl) Tryd.func7 (by kernel_rfl)
  (of_decide_eq_true (by kernel_rfl)) (by unfold Func.isWrapper; first | (rw [if_pos (by decide +kernel)]; kernel_rfl) | (rw [if_neg (by decide +kernel)]; exact ⟨rfl, rfl⟩))
  (fun os started H enc _ => lifted os started H enc)

theorem card : Rows.SourceSizesCardSaid :=
 Claim7.holds_tied_plain_at .later [] [.data, .data, .data, .data, .data, .data, .data, .data, .pinned] true (true, "8fe8cfe511753242ea3f07d72a9e09b5fac063e90756e17f90231b7630fa9766") true
  over (fun _ h => by cases h) (by kernel_rfl) (fun _ h => by cases h) sourceSizes_row_tie rfl ⟨rfl, rfl⟩ (by kernel_rfl) rfl
  (fun f fn hf hfn => by
   obtain rfl : f = 7 := Option.some.inj ((show Tryd.prog.funcNamed "vesper/vesperlaw13.SourceSizes" = some 7 by kernel_rfl).symm.trans hf) |>.symm
   obtain rfl : fn = Tryd.f7 := (Option.some.inj (Tryd.func7.symm.trans hfn)).symm
   exact ⟨by kernel_rfl, fun j t ht => by
    rw [Tryd.params7] at ht
    simpa using List.all_eq_true.mp noStand t (Array.mem_toList_iff.mpr (Array.mem_of_getElem? ht))⟩)
  (by kernel_rfl)
end Go.Proofs.YtjedbamcjgabpaaDoor.SourceSizesK
namespace Go.Proofs.YtjedbamcjgabpaaDoor
theorem sourceSizes_card : Rows.SourceSizesCardSaid := SourceSizesK.card
#print axioms sourceSizes_card
end Go.Proofs.YtjedbamcjgabpaaDoor
