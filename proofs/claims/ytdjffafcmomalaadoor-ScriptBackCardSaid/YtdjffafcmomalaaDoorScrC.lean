/- script.Print and script.Parse in the printed form. Condition: a text of at most 281474976710656 bytes. -/
import Derived.Test.YtdjffafcmomalaaDoorScrParse
set_option linter.unusedVariables false
set_option linter.unusedSimpArgs false
namespace Go.Proofs.YtdjffafcmomalaaDoor.PScr
open Go Go.RowKit
open Go.Proofs.YtdjffafcmomalaaDoorW.PrintWords Go.Proofs.YtdjffafcmomalaaDoor.Scr

theorem reps_rowL (w : World) (base : Nat) (ok : Nat → Prop) (l : List S34) : Reps (k34.M w base ok) 10 l (rowL l) := by
  have key : ∀ m, m ≤ l.length → Reps (k34.M w base ok) 10 (l.take m) (rowL (l.take m)) := by
    intro m
    induction m with
    | zero => intro _; exact Reps.none _ _
    | succ m ih =>
      intro hm
      rw [List.take_succ_eq_append_getElem (by omega), rowL_snoc]
      exact (ih (by omega)).snoc (k34_mkM w base ok l[m]) rfl
  have := key l.length (Nat.le_refl _)
  rwa [List.take_length] at this

def script_Parse.f (t : ByteArray) : Option (List S34 × Int × Int) := if t.size ≤ 281474976710656 then some (parseR t.data.toList) else none
theorem script_Parse.calls (a0 : ByteArray) (r1 : List S34) (r2 : Int) (r3 : Int) (w : World) (h : script_Parse.f a0 = some (r1, r2, r3))
    (hG : GOk w := by first | exact HG.out | exact GOk.below HG.out HB.out | exact GOk.below HG.out (by repeat (first | (with_reducible first | exact HB.out | apply below_alloc | apply pw_below_drewN | apply below_drew1) | exact HB.out))) :
    Calls Tryd.prog 23 #[.string a0] w fun e w' => ∃ v0_ : Value, e = .returned (.tuple #[v0_, .int .i64 r2, .int .i64 r3]) ∧ Kd.R k34 34 w' w.heap.size (fun _ => True) v0_ r1 ∧ Below w.heap.size w w' := by
  unfold script_Parse.f at h
  by_cases hs : a0.size ≤ 281474976710656
  · rw [if_pos hs, Option.some.injEq] at h
    refine (parse_calls a0 w hs hG).mono ?_
    rw [h]
    rintro e w' ⟨v, rfl, ho, hB⟩
    exact ⟨v, rfl, ⟨fun _ _ => trivial, rowL r1, ho, reps_rowL _ _ _ _⟩, hB⟩
  · rw [if_neg hs] at h; cases h
end Go.Proofs.YtdjffafcmomalaaDoor.PScr
