/- source.words, walked: a line's words, without its remark. -/
import Derived.Test.YtjedbamcjgabpaaDoorSrcNm
import Derived.Shelf.Strings.FieldsFuncAny
import Derived.Test.YtjedbamcjgabpaaDoorSrcLn
set_option linter.unusedVariables false
set_option linter.unusedSimpArgs false
namespace Go.Proofs.YtjedbamcjgabpaaDoor.PSo
open Go Go.RowKit
open Go.Proofs.YtjedbamcjgabpaaDoorW.PrintWords
open Go.Proofs.YtjedbamcjgabpaaDoor.Src

def sepR (x : Nat) : Bool := x == 32 || x == 9
theorem sep_calls (x : Nat) (w : World) : Calls Tryd.prog 46 #[.int .i32 x] w fun e w' => e = .returned (.bool (sepR x)) ∧ w = w' := by
  obtain ⟨b, hb⟩ : ∃ b, sepR x = b := ⟨_, rfl⟩
  rw [hb]
  have HB := Aside0.mk hb
  clear hb
  by_cases h1 : x = 32
  · subst h1
    obtain rfl : b = true := by rw [← HB.out]; rfl
    go_enter Tryd.func46, Tryd.ntmps46
    go_wp2
    go_ret
    exact ⟨rfl, rfl⟩
  · have t1 : ((x : Int) == 32) = false := beq_eq_false_iff_ne.2 (by omega)
    by_cases h2 : x = 9
    · subst h2
      obtain rfl : b = true := by rw [← HB.out]; rfl
      clear h1 t1
      go_enter Tryd.func46, Tryd.ntmps46
      go_wp2
      go_ret
      exact ⟨rfl, rfl⟩
    · have t2 : ((x : Int) == 9) = false := beq_eq_false_iff_ne.2 (by omega)
      obtain rfl : b = false := by
        rw [← HB.out]; unfold sepR
        rw [show (x == 32) = false from beq_eq_false_iff_ne.2 h1, show (x == 9) = false from beq_eq_false_iff_ne.2 h2]; rfl
      clear h1 h2
      go_enter Tryd.func46, Tryd.ntmps46
      go_wp2
      go_ret
      exact ⟨rfl, rfl⟩
theorem sep_at (w : World) : PredAt Tryd.prog 46 #[] encR sepR w := fun W x _ => by
  refine (sep_calls x W).mono ?_
  rintro e w' ⟨he, rfl⟩
  exact ⟨he, 0, rfl⟩
/-- A line's words. -/
def wordsB (a : ByteArray) : List ByteArray := Lib.goFieldsP sepR ⟨(Lib.cut a.data.toList [59]).1.toArray⟩
def source_words.f (a0 : ByteArray) : Option (List ByteArray) := if a0.size ≤ 1000000 then some (wordsB a0) else none

set_option maxRecDepth 100000 in
set_option maxHeartbeats 2000000 in
theorem source_words.calls (a0 : ByteArray) (r : List ByteArray) (w : World) (h : source_words.f a0 = some r)
    (hG : GOk w := by first | exact HG.out | exact GOk.below HG.out HB.out | exact GOk.below HG.out (by repeat (first | (with_reducible first | exact HB.out | apply below_alloc | apply pw_below_drewN | apply below_drew1 | refine below_set ?_ (Aside0.out (by assumption))) | exact HB.out))) :
    Calls Tryd.prog 30 #[.string a0] w fun e w' => ∃ v0_ : Value, e = .returned v0_ ∧ Kd.R Kd.string 9 w' w.heap.size (fun _ => True) v0_ r ∧ Below w.heap.size w w' := by
  unfold source_words.f at h
  by_cases hs : a0.size ≤ 1000000
  · rw [if_pos hs] at h
    obtain rfl := Option.some.inj h
    obtain ⟨m, hm⟩ := hG.max
    have hc := Tryd.strings_Cut a0 ⟨#[59]⟩ m w (by omega) hm
    have eg : ∀ (args : Array Value) (w : World), (callFunc 46 args).run Tryd.prog w = .ok (.enter 46 args) w := fun args w => rfl
    have hsz : (⟨(Lib.cut a0.data.toList [59]).1.toArray⟩ : ByteArray).size ≤ 4294967296 := by
      rw [cut_one]
      have := cut1_size 59 a0.data.toList
      have e : a0.data.toList.length = a0.size := by simp
      show (cut1 59 a0.data.toList).1.toArray.size ≤ _
      simp only [List.size_toArray]
      omega
    have hf := fun (w' : World) => Tryd.strings_FieldsFunc 46 #[] eg sepR ⟨(Lib.cut a0.data.toList [59]).1.toArray⟩ w' hsz (sep_at w')
    have HC := Aside0.mk hc
    have HF := Aside0.mk hf
    clear hc hf hm h
    go_enter Tryd.func30, Tryd.ntmps30
    go_wp2_with fail
    (with_reducible refine HC.out.mono ?_)
    rintro e w1 ⟨rfl, n, rfl⟩
    go_wp2_with fail
    (with_reducible refine (HF.out _).mono ?_)
    rintro e w2 ⟨A, rfl, hA, ho, hb⟩
    have HO := Aside0.mk ho
    have HB := Aside0.mk hb
    clear ho hb
    go_wp2
    go_ret
    exact ⟨_, rfl, Kd.R_of_own HO.out (fun _ _ => trivial), below_step (pw_below_drewN (Below.refl _ _) n) HB.out⟩
  · rw [if_neg hs] at h; cases h
end Go.Proofs.YtjedbamcjgabpaaDoor.PSo
