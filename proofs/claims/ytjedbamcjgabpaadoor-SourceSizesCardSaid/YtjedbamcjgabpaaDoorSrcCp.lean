/- code.Print, walked: an instruction as a line. -/
import Derived.Test.YtjedbamcjgabpaaDoorSrcI
import Derived.Test.YtjedbamcjgabpaaDoorSrcHex
import Derived.Test.YtjedbamcjgabpaaDoorPSoCodeEncode
import Derived.Test.YtjedbamcjgabpaaDoorPSoCodeFind
import Derived.Deep.RegionHeld3
import Derived.Deep.DrawnRows
import Derived.Laws.Concat
set_option linter.unusedVariables false
set_option linter.unusedSimpArgs false
namespace Go.Proofs.YtjedbamcjgabpaaDoor.PSo
open Go Go.RowKit
open Go.Proofs.YtjedbamcjgabpaaDoorW.PrintWords
open Go.Proofs.YtjedbamcjgabpaaDoor.Src

theorem hex_size {a b : Int} {h : ByteArray} (e : bits_Hex.f a b = some h) : h.size ≤ 4 := by
 have h1 : (hexS1 a).size = 1 := rfl
 have h2 : (hexS2 a).size = 2 := rfl
 have h4 : (hexS4 a).size = 4 := rfl
 unfold bits_Hex.f at e
 repeat' split at e
 all_goals first | (obtain rfl := Option.some.inj e; omega) | cases e

def code_Print.f (a0 : ByteArray) (a1 : Int) : Option (ByteArray × Int) := (code_Encode.f 300 a0 a1).bind fun b => if b.2 = 0 then ((code_Find.f 300 a0).bind fun x => if x.2.1 = 1 then some (a0, 0) else if 0 ≤ x.2.1 ∧ x.2.1 < 7 ∧ a0.size ≤ 100 then ((bits_Hex.f a1 (digitsT.getD x.2.1.toNat 0)).bind fun h => some (a0 ++ (⟨#[32]⟩ : ByteArray) ++ h, 0)) else none) else some (⟨#[]⟩, b.2)

set_option maxRecDepth 100000 in
set_option maxHeartbeats 4000000 in
theorem code_Print.calls (a0 : ByteArray) (a1 : Int) (r1 : ByteArray) (r2 : Int) (w : World) (h : code_Print.f a0 a1 = some (r1, r2))
 (hG : GOk w := by first | exact HG.out | exact GOk.below HG.out HB.out | exact GOk.below HG.out (by repeat (first | (with_reducible first | exact HB.out | apply below_alloc | apply pw_below_drewN | apply below_drew1 | refine below_set ?_ (Aside0.out (by assumption))) | exact HB.out))) :
 Calls Tryd.prog 43 #[.agg #[.string a0, .int .i64 a1]] w fun e w' => e = .returned (.tuple #[.string r1, .int .i64 r2]) ∧ Below w.heap.size w w' := by
 unfold code_Print.f at h
 cases hE : code_Encode.f 300 a0 a1 with
 | none => rw [hE] at h; cases h
 | some b =>
  obtain ⟨bs, er⟩ := b
  rw [hE] at h
  simp only [Option.bind_some] at h
  have HE := Aside0.mk hE
  clear hE
  have HB := Aside0.mk (below_alloc (Below.refl w.heap.size w) (.cells #[.string a0, .int .i64 a1] 80))
  have HR := Aside0.mk (blk_new w (.cells #[.string a0, .int .i64 a1] 80))
  have HG := Aside0.mk (GOk.below hG HB.out)
  clear hG
  by_cases he : er = 0
  ·subst he
   rw [if_pos rfl] at h
   cases hF : code_Find.f 300 a0 with
   | none => rw [hF] at h; cases h
   | some x =>
    obtain ⟨x1, x2, x3, x4, x5⟩ := x
    rw [hF] at h
    simp only [Option.bind_some] at h
    have HF := Aside0.mk hF
    clear hF
    by_cases h1 : x2 = 1
    ·subst h1
     rw [if_pos rfl] at h
     have h2 := Option.some.inj h
     simp only [Prod.mk.injEq] at h2
     obtain ⟨rfl, rfl⟩ := h2
     clear h
     go_enter Tryd.func43, Tryd.ntmps43
     go_wp2_with fail
     (with_reducible refine (code_Encode.calls 300 a0 a1 bs 0 _ HE.out HG.out).mono ?_)
     rintro e w1 ⟨v0, rfl, -, hb⟩
     have HB1 := Aside0.mk (below_step HB.out hb)
     have HG1 := Aside0.mk (GOk.below HG.out hb)
     have HR1 := Aside0.mk (blk_below HR.out hb)
     clear hb HB HG HR
     have q0 := (blk_cell HR1.out 0).trans (rfl : _ = some (Value.string a0))
     go_wp2_with fail
     (with_reducible refine (code_Find.calls 300 a0 x1 1 x3 x4 x5 _ HF.out HG1.out).mono ?_)
     rintro e w2 ⟨rfl, hb⟩
     have HB2 := Aside0.mk (below_alloc (below_step HB1.out hb) (.cells #[.string x1, .int .u8 1, .int .i64 x3, .int .i64 x4] 72))
     have HR2 := Aside0.mk (blk_alloc (blk_below HR1.out hb) (.cells #[.string x1, .int .u8 1, .int .i64 x3, .int .i64 x4] 72))
     clear hb HB1 HG1 HR1 q0
     have q1 := (blk_cell HR2.out 0).trans (rfl : _ = some (Value.string a0))
     go_wp2
     go_ret2
     exact ⟨rfl, HB2.out⟩
    ·rw [if_neg h1] at h
     by_cases h3 : 0 ≤ x2 ∧ x2 < 7 ∧ a0.size ≤ 100
     ·rw [if_pos h3] at h
      obtain ⟨k0, k1, k2⟩ := h3
      obtain ⟨n, rfl⟩ := Int.eq_ofNat_of_zero_le k0
      obtain ⟨z, hz⟩ : ∃ z, digitsT.getD n 0 = z := ⟨_, rfl⟩
      rw [Int.toNat_natCast, hz] at h
      cases hH : bits_Hex.f a1 z with
      | none => rw [hH] at h; cases h
      | some t =>
       rw [hH] at h
       simp only [Option.bind_some] at h
       have h2 := Option.some.inj h
       simp only [Prod.mk.injEq] at h2
       obtain ⟨rfl, rfl⟩ := h2
       have ht := hex_size hH
       have HH := Aside0.mk hH
       have HZ := Aside0.mk hz
       have t1 : ((n : Int) == 1) = false := beq_eq_false_iff_ne.2 h1
       have m1 := fun (W : World) => run_string_add_sum (P := Tryd.prog) (w := W) a0 ⟨#[32]⟩ (by show a0.size + 1 ≤ _; omega)
       have m2 := fun (W : World) => run_string_add_sum (P := Tryd.prog) (w := W) (a0 ++ ⟨#[32]⟩) t (by rw [ByteArray.size_append]; show a0.size + 1 + t.size ≤ _; omega)
       clear h hH h1 hz
       go_enter Tryd.func43, Tryd.ntmps43
       go_wp2_with fail
       (with_reducible refine (code_Encode.calls 300 a0 a1 bs 0 _ HE.out HG.out).mono ?_)
       rintro e w1 ⟨v0, rfl, -, hb⟩
       have HB1 := Aside0.mk (below_step HB.out hb)
       have HG1 := Aside0.mk (GOk.below HG.out hb)
       have HR1 := Aside0.mk (blk_below HR.out hb)
       clear hb HB HG HR
       have q0 := (blk_cell HR1.out 0).trans (rfl : _ = some (Value.string a0))
       go_wp2_with fail
       (with_reducible refine (code_Find.calls 300 a0 x1 n x3 x4 x5 _ HF.out HG1.out).mono ?_)
       rintro e w2 ⟨rfl, hb⟩
       have HB2 := Aside0.mk (below_alloc (below_step HB1.out hb) (.cells #[.string x1, .int .u8 n, .int .i64 x3, .int .i64 x4] 72))
       have HG2 := Aside0.mk (GOk.below HG1.out (below_alloc hb (.cells #[.string x1, .int .u8 n, .int .i64 x3, .int .i64 x4] 72)))
       have HR2 := Aside0.mk (blk_alloc (blk_below HR1.out hb) (.cells #[.string x1, .int .u8 n, .int .i64 x3, .int .i64 x4] 72))
       have HI := Aside0.mk (blk_new w2 (.cells #[.string x1, .int .u8 n, .int .i64 x3, .int .i64 x4] 72))
       clear hb HB1 HG1 HR1 q0
       have q1 := HG2.out.dig n (by omega)
       rw [HZ.out] at q1
       go_wp2_with fail
       have q2 := (blk_cell HR2.out 0).trans (rfl : _ = some (Value.string a0))
       have q3 := (blk_cell HR2.out 1).trans (rfl : _ = some (Value.int .i64 a1))
       have q4 := (blk_cell HI.out 1).trans (rfl : _ = some (Value.int .u8 n))
       generalize (w2.alloc (.cells #[.string x1, .int .u8 n, .int .i64 x3, .int .i64 x4] 72)) = W at q1 q2 q3 q4 HB2 ⊢
       have Q := Aside0.mk (And.intro q1 (And.intro q2 (And.intro q3 q4)))
       clear HR2 HI HG2
       go_region_held3 (fun w' => w'.cell? ⟨0, n, none⟩ = some (.int .i64 z) ∧ w'.cell? ⟨w.heap.size, 0, none⟩ = some (Value.string a0) ∧ w'.cell? ⟨w.heap.size, 1, none⟩ = some (Value.int .i64 a1) ∧ w'.cell? ⟨w2.heap.size, 1, none⟩ = some (Value.int .u8 n)) (first | go_keep | exact ⟨q1, q2, q3, q4⟩) (first | (go_at_call 41; (with_reducible refine (bits_Hex.calls a1 z t _ HH.out).mono ?_); rintro e w5 ⟨rfl, hb5⟩; have HW := Aside0.mk (below_step (by repeat (first | (with_reducible first | exact Below.refl _ _ | apply below_alloc | apply pw_below_drewN | apply below_drew1) | exact Below.refl _ _) : Below W.heap.size W _) hb5); clear hb5 q1 q2 q3 q4; have q1 := (HW.out.cell (World.block_lt_of_cell? W _ Q.out.1)).trans Q.out.1; have q2 := (HW.out.cell (World.block_lt_of_cell? W _ Q.out.2.1)).trans Q.out.2.1; have q3 := (HW.out.cell (World.block_lt_of_cell? W _ Q.out.2.2.1)).trans Q.out.2.2.1; have q4 := (HW.out.cell (World.block_lt_of_cell? W _ Q.out.2.2.2)).trans Q.out.2.2.2))
       all_goals
        go_wp2
        go_ret2
        exact ⟨rfl, below_step HB2.out (by repeat (first | (with_reducible first | exact HW.out | apply below_alloc | apply pw_below_drewN | apply below_drew1) | exact HW.out))⟩
     ·rw [if_neg h3] at h; cases h
  ·rw [if_neg he] at h
   have h2 := Option.some.inj h
   simp only [Prod.mk.injEq] at h2
   obtain ⟨rfl, rfl⟩ := h2
   have t1 : (er != 0) = true := bne_iff_ne.2 he
   clear h he
   go_enter Tryd.func43, Tryd.ntmps43
   go_wp2_with fail
   (with_reducible refine (code_Encode.calls 300 a0 a1 bs er _ HE.out HG.out).mono ?_)
   rintro e w1 ⟨v0, rfl, -, hb⟩
   have HB1 := Aside0.mk (below_step HB.out hb)
   clear hb HB HG HR
   go_wp2
   go_ret2
   exact ⟨rfl, HB1.out⟩
end Go.Proofs.YtjedbamcjgabpaaDoor.PSo
