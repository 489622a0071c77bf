/- source.name: a label's name. -/
import Derived.Test.YtjedbamcjgabpaaDoorShelf
import Derived.Test.YtjedbamcjgabpaaDoorSrcG
import Derived.Laws.BitsLemmas
import Derived.Shelf.Strings.SlTrimAscii
import Derived.Test.YtjedbamcjgabpaaDoorPSox0
set_option linter.unusedVariables false
set_option linter.unusedSimpArgs false
namespace Go.Proofs.YtjedbamcjgabpaaDoor.Src
open Go Go.RowKit
open Go.Proofs.YtjedbamcjgabpaaDoorW.PrintWords

def smallL : List UInt8 := [97, 98, 99, 100, 101, 102, 103, 104, 105, 106, 107, 108, 109, 110, 111, 112, 113, 114, 115, 116, 117, 118, 119, 120, 121, 122]
def othersL : List UInt8 := smallL ++ [48, 49, 50, 51, 52, 53, 54, 55, 56, 57, 45]
/-- Is a text a label's? -/
def nameB (s : ByteArray) : Bool := match s.data.toList with
 | [] => false
 | c :: r => decide (r.length < 16) && smallL.contains c && r.all othersL.contains

abbrev smallA : ByteArray := ⟨#[97, 98, 99, 100, 101, 102, 103, 104, 105, 106, 107, 108, 109, 110, 111, 112, 113, 114, 115, 116, 117, 118, 119, 120, 121, 122]⟩
abbrev othersA : ByteArray := ⟨#[97, 98, 99, 100, 101, 102, 103, 104, 105, 106, 107, 108, 109, 110, 111, 112, 113, 114, 115, 116, 117, 118, 119, 120, 121, 122, 48, 49, 50, 51, 52, 53, 54, 55, 56, 57, 45]⟩

theorem trimC (s : ByteArray) (w : World) (hs : s.size ≤ 100) : Calls Tryd.prog 58 #[.string s, .string othersA] w fun e w' => e = .returned (.string ⟨(Lib.trimS s.data.toList othersL).toArray⟩) ∧ Below w.heap.size w w' :=
 Any.strings_Trim_laid Tryd.lays160 (by kernel_rfl) s othersA w (by omega) (by decide) (ascii_of_all (by decide))


theorem containsC (c : UInt8) (w : World) : Calls Tryd.prog 57 #[.string smallA, .string ⟨#[c]⟩] w fun e w' => e = .returned (.bool (smallL.contains c)) ∧ w' = w := by
 refine (Tryd.strings_Contains_one smallA c w).mono fun e w' ⟨h1, h2⟩ => ⟨?_, h2⟩
 rw [h1, Lib.contains_iff_indexByte]
 rfl

theorem all_drop {α : Type} (p : α → Bool) : ∀ m : List α, (m.dropWhile p).all p = m.all p
 | [] => rfl
 | x :: m => by
  rw [List.dropWhile_cons]
  cases h : p x with
  | true => simp [h, all_drop p m]
  | false => simp [h]
theorem empty_drop {α : Type} (p : α → Bool) : ∀ m : List α, (m.dropWhile p).isEmpty = m.all p
 | [] => rfl
 | x :: m => by
  rw [List.dropWhile_cons]
  cases h : p x with
  | true => simp [h, ← empty_drop p m]
  | false => simp [h]
theorem trim_empty (l cs : List UInt8) : (Lib.trimS l cs).isEmpty = l.all cs.contains := by
 unfold Lib.trimS Lib.trimLeftS Lib.trimRightS
 rw [empty_drop, List.all_reverse, all_drop, List.all_reverse]
theorem small_others (c : UInt8) (h : smallL.contains c = true) : othersL.contains c = true := by
 have h2 : c ∈ smallL := by simpa using h
 have h3 : c ∈ othersL := List.mem_append_left _ h2
 simpa using h3

set_option maxRecDepth 100000 in
set_option maxHeartbeats 4000000 in
theorem lname_calls (s : ByteArray) (w : World) : Calls Tryd.prog 37 #[.string s] w fun e w' => e = .returned (.bool (nameB s)) ∧ Below w.heap.size w w' := by
 have HB := Aside0.mk (Below.refl w.heap.size w)
 cases hd : s.data.toList with
 | nil => 
  obtain rfl : s = ⟨#[]⟩ := by rw [← Lib.mk_data s, hd]
  go_enter Tryd.func37, Tryd.ntmps37
  go_wp2
  go_ret
  exact ⟨rfl, HB.out⟩
 | cons c r =>
  have hn : nameB s = (decide (r.length < 16) && smallL.contains c && r.all othersL.contains) := by unfold nameB; rw [hd]
  have HN := Aside0.mk hn
  have hsz : s.size = r.length + 1 := by rw [Lib.size_eq, hd]; rfl
  have hne : s.toList.isEmpty = false := by rw [Lib.toList_data, hd]; rfl
  have hx : s.extract 0 1 = ⟨#[c]⟩ := by
   rw [← Lib.mk_data (s.extract 0 1)]
   simp [hd]
  clear hn
  have h4 : (1 : Int) ≤ s.size := by omega
  by_cases h1 : r.length < 16
  ·have h2 : (s.size : Int) ≤ 16 := by omega
   have h3 : s.size ≤ 100 := by omega
   have HT := Aside0.mk (trimC s w h3)
   have HC := Aside0.mk (containsC c w)
   have HD := Aside0.mk (decide_eq_true h1)
   cases hc : smallL.contains c with
   | false =>
    rw [hc] at HC
    have HE := Aside0.mk hc
    clear hc
    go_enter Tryd.func37, Tryd.ntmps37
    go_wp2_with (first | (go_at_call 57; (with_reducible refine HC.out.mono ?_); rintro e w1 ⟨rfl, rfl⟩))
    go_ret
    exact ⟨by rw [HN.out, HE.out, Bool.and_false, Bool.false_and]; rfl, HB.out⟩
   | true =>
    rw [hc] at HC
    have HE := Aside0.mk hc
    clear hc
    go_enter Tryd.func37, Tryd.ntmps37
    go_wp2_with (first | (go_at_call 57; (with_reducible refine HC.out.mono ?_); rintro e w1 ⟨rfl, rfl⟩) | (go_at_call 58; (with_reducible refine HT.out.mono ?_); rintro e w1 ⟨rfl, hb⟩))
    go_ret
    exact ⟨by rw [HN.out, HD.out, HE.out, Bool.true_and, Bool.true_and, show r.all othersL.contains = (Lib.trimS (c :: r) othersL).isEmpty from by rw [trim_empty, List.all_cons, small_others c HE.out, Bool.true_and]]; rfl, hb⟩
  have h2 : ¬ (s.size : Int) ≤ 16 := by omega
  have HD := Aside0.mk (decide_eq_false h1)
  go_enter Tryd.func37, Tryd.ntmps37
  go_wp2
  go_ret
  exact ⟨by rw [HN.out, HD.out, Bool.false_and, Bool.false_and]; rfl, HB.out⟩

def partsT : List ByteArray := [⟨#[]⟩, ⟨#[116, 111]⟩, ⟨#[104, 105, 103, 104]⟩, ⟨#[108, 111, 119]⟩]
theorem and3 (x : Int) (h0 : 0 ≤ x) (h1 : x < 256) : Go.bits .and .u8 x 3 = x % 4 := bits_mask .u8 8 (by decide) (fun n a b => by rw [IntKind.wrap_u8]; omega) 2 (by decide) x h0 (by omega)
end Go.Proofs.YtjedbamcjgabpaaDoor.Src
namespace Go.Proofs.YtjedbamcjgabpaaDoor.PSo
open Go Go.RowKit
open Go.Proofs.YtjedbamcjgabpaaDoorW.PrintWords
open Go.Proofs.YtjedbamcjgabpaaDoor.Src
def source_name.f (a0 : ByteArray) : Option Bool := some (nameB a0)
theorem source_name.calls (a0 : ByteArray) (r : Bool) (w : World) (h : source_name.f a0 = some r) :
    Calls Tryd.prog 37 #[.string a0] w fun e w' => e = .returned (.bool r) ∧ Below w.heap.size w w' := by
  obtain rfl := Option.some.inj h
  exact lname_calls a0 w
def strings_Cut.f (a0 a1 : ByteArray) : Option (ByteArray × ByteArray × Bool) := if a0.size < 4294967281 then some (⟨(Lib.cut a0.data.toList a1.data.toList).1.toArray⟩, ⟨(Lib.cut a0.data.toList a1.data.toList).2.1.toArray⟩, (Lib.cut a0.data.toList a1.data.toList).2.2) else none
theorem strings_Cut.calls (a0 a1 : ByteArray) (r1 r2 : ByteArray) (r3 : Bool) (w : World) (h : strings_Cut.f a0 a1 = some (r1, r2, r3))
    (hG : GOk w := by first | exact HG.out | exact GOk.below HG.out HB.out | exact GOk.below HG.out (by repeat (first | (with_reducible first | exact HB.out | apply below_alloc | apply pw_below_drewN | apply below_drew1 | refine below_set ?_ (Aside0.out (by assumption))) | exact HB.out))) :
    Calls Tryd.prog 29 #[.string a0, .string a1] w fun e w' => e = .returned (.tuple #[.string r1, .string r2, .bool r3]) ∧ Below w.heap.size w w' := by
  unfold strings_Cut.f at h
  by_cases h0 : a0.size < 4294967281
  · rw [if_pos h0] at h
    obtain ⟨m, hm⟩ := hG.max
    have e := Option.some.inj h
    simp only [Prod.mk.injEq] at e
    obtain ⟨e1, e2, e3⟩ := e
    subst e1 e2 e3
    refine (Tryd.strings_Cut a0 a1 m w h0 hm).mono fun e w' hh => ?_
    obtain ⟨h1, n, h2⟩ := hh
    exact ⟨h1, by rw [h2]; exact pw_below_drewN (Below.refl _ _) n⟩
  · rw [if_neg h0] at h; cases h
def source_parts.f (a0 : Int) : Option ByteArray := if 0 ≤ a0 then (if a0 < 256 then some (partsT.getD (a0 % 4).toNat ⟨#[]⟩) else none) else none
set_option maxRecDepth 100000 in
theorem source_parts.calls (a0 : Int) (r : ByteArray) (w : World) (h : source_parts.f a0 = some r) :
    Calls Tryd.prog 42 #[.int .u8 a0] w fun e w' => e = .returned (.string r) ∧ Below w.heap.size w w' := by
  unfold source_parts.f at h
  by_cases h0 : 0 ≤ a0
  · rw [if_pos h0] at h
    by_cases h1 : a0 < 256
    · rw [if_pos h1] at h
      have e1 := and3 a0 h0 h1
      have hc : a0 % 4 = 0 ∨ a0 % 4 = 1 ∨ a0 % 4 = 2 ∨ a0 % 4 = 3 := by omega
      rcases hc with e2 | e2 | e2 | e2 <;> rw [e2] at e1 h
      all_goals
        obtain rfl := Option.some.inj h
        clear h e2
        have hb : ∀ w : World, (Instr.build 105 #[(0, Value.string ⟨#[]⟩), (1, Value.string ⟨#[116, 111]⟩), (2, Value.string ⟨#[104, 105, 103, 104]⟩), (3, Value.string ⟨#[108, 111, 119]⟩)]).run Tryd.prog w = .ok (.agg #[.string ⟨#[]⟩, .string ⟨#[116, 111]⟩, .string ⟨#[104, 105, 103, 104]⟩, .string ⟨#[108, 111, 119]⟩]) w := fun _ => by kernel_rfl
        have i0 : ∀ w : World, (Instr.index 105 (.agg #[.string ⟨#[]⟩, .string ⟨#[116, 111]⟩, .string ⟨#[104, 105, 103, 104]⟩, .string ⟨#[108, 111, 119]⟩]) (.int .u8 0)).run Tryd.prog w = .ok (.string ⟨#[]⟩) w := fun _ => by kernel_rfl
        have i1 : ∀ w : World, (Instr.index 105 (.agg #[.string ⟨#[]⟩, .string ⟨#[116, 111]⟩, .string ⟨#[104, 105, 103, 104]⟩, .string ⟨#[108, 111, 119]⟩]) (.int .u8 1)).run Tryd.prog w = .ok (.string ⟨#[116, 111]⟩) w := fun _ => by kernel_rfl
        have i2 : ∀ w : World, (Instr.index 105 (.agg #[.string ⟨#[]⟩, .string ⟨#[116, 111]⟩, .string ⟨#[104, 105, 103, 104]⟩, .string ⟨#[108, 111, 119]⟩]) (.int .u8 2)).run Tryd.prog w = .ok (.string ⟨#[104, 105, 103, 104]⟩) w := fun _ => by kernel_rfl
        have i3 : ∀ w : World, (Instr.index 105 (.agg #[.string ⟨#[]⟩, .string ⟨#[116, 111]⟩, .string ⟨#[104, 105, 103, 104]⟩, .string ⟨#[108, 111, 119]⟩]) (.int .u8 3)).run Tryd.prog w = .ok (.string ⟨#[108, 111, 119]⟩) w := fun _ => by kernel_rfl
        go_enter Tryd.func42, Tryd.ntmps42
        go_wp2
        go_ret
        exact ⟨rfl, Below.refl _ _⟩
    · rw [if_neg h1] at h; cases h
  · rw [if_neg h0] at h; cases h
end Go.Proofs.YtjedbamcjgabpaaDoor.PSo
