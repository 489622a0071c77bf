/- A text cut at its first byte of a kind, plain. -/
import Derived.Lib.SplitLaws
import Derived.Test.YtjedbamcjgabpaaDoorPSox0
import Derived.Laws.RangeAny
import Derived.Laws.RangeString
import Derived.Laws.BitsLemmas
import Derived.Test.YtjedbamcjgabpaaDoorShelf
import Derived.Test.YtjedbamcjgabpaaDoorSrcG
import Derived.Shelf.Strings.SlTrimAscii
import Derived.WalkLawsBesides
import Derived.Deep.QuietTactic
import Derived.BigQuiet
import Derived.Shelf.Strings.FieldsFuncAny
set_option linter.unusedVariables false
set_option linter.unusedSimpArgs false
namespace Go.Proofs.YtjedbamcjgabpaaDoor.Src
open Go Go.RowKit

/-- What stands ahead of the first d, what stands behind it, and whether there is one. -/
def cut1 (d : UInt8) : List UInt8 → List UInt8 × List UInt8 × Bool
 | [] => ([], [], false)
 | c :: l => if c = d then ([], l, true) else (c :: (cut1 d l).1, (cut1 d l).2.1, (cut1 d l).2.2)
theorem cut_one (d : UInt8) : ∀ l : List UInt8, Lib.cut l [d] = cut1 d l
 | [] => by simp [Lib.cut, Lib.index, cut1]
 | c :: l => by
  have ih := cut_one d l
  unfold cut1
  by_cases h : c = d
  ·subst h
   rw [if_pos rfl]
   have hp : ([c] : List UInt8).isPrefixOf (c :: l) = true := by simp [List.isPrefixOf]
   have hix : Lib.index (c :: l) [c] = 0 := by rw [Lib.index, if_pos hp]
   unfold Lib.cut
   rw [hix]
   simp
  ·rw [if_neg h, ← ih]
   have hp : ([d] : List UInt8).isPrefixOf (c :: l) = false := by simp [List.isPrefixOf]; exact fun e => h e.symm
   have hix : Lib.index (c :: l) [d] = if Lib.index l [d] == -1 then -1 else Lib.index l [d] + 1 := by rw [Lib.index, hp]; simp
   have hge := Lib.index_ge l [d]
   unfold Lib.cut
   rw [hix]
   by_cases hm : Lib.index l [d] = -1
   ·rw [hm]; simp
   ·rw [if_neg (fun e => hm (beq_iff_eq.1 e)), if_pos (by omega), if_pos (by omega)]
    obtain ⟨j, hj⟩ : ∃ j : Nat, Lib.index l [d] = j := ⟨(Lib.index l [d]).toNat, by omega⟩
    rw [hj]
    have e1 : ((j : Int) + 1).toNat = j + 1 := by omega
    rw [e1, Int.toNat_natCast]
    simp
theorem cut1_size (d : UInt8) : ∀ l : List UInt8, (cut1 d l).1.length ≤ l.length
 | [] => Nat.le_refl _
 | c :: l => by
  have := cut1_size d l
  unfold cut1
  split
  ·simp
  ·simp only [List.length_cons]; omega
end Go.Proofs.YtjedbamcjgabpaaDoor.Src
/- bits.Number: digits to the base sixteen. -/
set_option linter.unusedVariables false
set_option linter.unusedSimpArgs false
namespace Go.Proofs.YtjedbamcjgabpaaDoor.Src
open Go Go.RowKit
open Go.Proofs.YtjedbamcjgabpaaDoorW.PrintWords

def numL : List UInt8 → Int → Option Int
 | [], n => some n
 | c :: r, n => if 48 ≤ c.toNat ∧ c.toNat ≤ 57 then numL r (n * 16 + ((c.toNat : Int) - 48)) else if 97 ≤ c.toNat ∧ c.toNat ≤ 102 then numL r (n * 16 + ((c.toNat : Int) - 87)) else none
/-- What bits.Number tells: the number, and whether it is one. -/
def numR (s : ByteArray) : Int × Int := if s.size < 1 then (0, 1) else if 8 < s.size then (0, 1) else match numL s.data.toList 0 with
 | some n => (n, 0)
 | none => (0, 1)

theorem below_iter (w : World) (s : ByteArray) (pos : Nat) : Below w.heap.size w (w.iter s pos) := by
 have h := below_alloc (Below.refl w.heap.size w) (.stringIter s pos)
 exact h

theorem or_join (n d : Int) (h0 : 0 ≤ n) (h1 : n < 4294967296) (d0 : 0 ≤ d) (d1 : d < 16) : Go.bits .or .i64 (n * 16) d = n * 16 + d :=
 bits_join .i64 40 (by decide) (fun n a b => by rw [IntKind.wrap_i64]; omega) 4 (n * 16) d (by omega) (by omega) (by omega) d0 (by omega) (by omega)

set_option maxRecDepth 100000 in
set_option maxHeartbeats 4000000 in
theorem number_calls (s : ByteArray) (w : World) : Calls Tryd.prog 90 #[.string s] w fun e w' => e = .returned (.tuple #[.int .i64 (numR s).1, .int .i64 (numR s).2]) ∧ Below w.heap.size w w' := by
 obtain ⟨r, hr⟩ : ∃ r, r = numR s := ⟨_, rfl⟩
 rw [← hr]
 have HR := Aside0.mk hr
 clear hr
 by_cases c1 : s.size < 1
 ·have hx : r = (0, 1) := by rw [HR.out]; unfold numR; rw [if_pos c1]
  subst hx
  go_enter Tryd.func90, Tryd.ntmps90
  go_wp2
  go_ret2
  exact ⟨rfl, Below.refl _ _⟩
 by_cases c2 : 8 < s.size
 ·have hx : r = (0, 1) := by rw [HR.out]; unfold numR; rw [if_neg c1, if_pos c2]
  subst hx
  go_enter Tryd.func90, Tryd.ntmps90
  go_wp2
  go_ret2
  exact ⟨rfl, Below.refl _ _⟩
 have hx : r = match numL s.data.toList 0 with
  | some n => (n, 0)
  | none => (0, 1) := by rw [HR.out]; unfold numR; rw [if_neg c1, if_neg c2]
 have HX := Aside0.mk hx
 clear hx HR
 have c1' : 1 ≤ s.size := by omega
 have c2' : s.size ≤ 8 := by omega
 go_enter Tryd.func90, Tryd.ntmps90
 go_wp2
 have H0 : Aside0 (numL (s.data.toList.drop 0) 0 = numL s.data.toList 0) := ⟨rfl⟩
 go_loopw [4] (fun n w' => ∃ (pos : Nat) (acc : Int), w' = w.iter s pos ∧ n = .int .i64 acc ∧ Aside0 (numL (s.data.toList.drop pos) acc = numL s.data.toList 0) ∧ 0 ≤ acc ∧ acc < (16 ^ pos : Nat) ∧ pos ≤ s.size) (fun _ w' => s.size - w'.iterPos w.heap.size)
 case atStart => exact ⟨0, 0, rfl, rfl, H0, by omega, by decide, Nat.zero_le _⟩
 case round =>
  clear H0
  obtain ⟨pos, acc, rfl, rfl, HI, a0, a1, hp⟩ := hrel
  by_cases hlt : pos < s.size
  ·have ab : acc < 268435456 := by
    have : (16 ^ pos : Nat) ≤ 16 ^ 7 := Nat.pow_le_pow_right (by decide) (by omega)
    have e : (16 ^ 7 : Nat) = 268435456 := by decide
    omega
   have hdrop : s.data.toList.drop pos = s[pos] :: s.data.toList.drop (pos + 1) := by
    rw [List.drop_eq_getElem_cons (by simpa using hlt)]; rfl
   have hpow : (16 ^ (pos + 1) : Nat) = 16 ^ pos * 16 := Nat.pow_succ ..
   by_cases hasc : (s[pos]).toNat < 128
   ·have hnx : ∀ ty, (Instr.next (.pointer (some ⟨w.heap.size, 0, none⟩)) true ty).run Tryd.prog (w.iter s pos) = _ := fun ty => run_next_ascii w s pos ty hlt hasc
    obtain ⟨d, hd⟩ : ∃ d : Nat, (s[pos]).toNat = d := ⟨_, rfl⟩
    have HD := Aside0.mk hd
    have hit := HI.out
    rw [hdrop, numL, hd] at hit
    rw [hd] at hasc
    simp only [hd] at hnx
    clear hdrop hd HI
    by_cases d1 : 48 ≤ d ∧ d ≤ 57
    ·rw [if_pos d1] at hit
     have HIT := Aside0.mk hit
     have HP := Aside0.mk hpow
     have A1 := Aside0.mk a1
     clear hit hpow a1
     obtain ⟨d1, d2⟩ := d1
     have oj := or_join acc ((d : Int) - 48) a0 (by omega) (by omega) (by omega)
     go_wp2
     go_roundw
     case rel => exact ⟨pos + 1, _, rfl, rfl, HIT, by omega, by have := A1.out; rw [HP.out]; omega, by omega⟩
     case measure => simp; omega
    ·rw [if_neg d1] at hit
     by_cases d2 : 97 ≤ d ∧ d ≤ 102
     ·rw [if_pos d2] at hit
      have HIT := Aside0.mk hit
      have HP := Aside0.mk hpow
      have A1 := Aside0.mk a1
      clear hit hpow a1
      obtain ⟨d2, d3⟩ := d2
      have d4 : ¬ d ≤ 57 := by omega
      have oj := or_join acc ((d : Int) - 97 + 10) a0 (by omega) (by omega) (by omega)
      go_wp2
      go_roundw
      case rel => exact ⟨pos + 1, _, rfl, rfl, by rw [show (d : Int) - 97 + 10 = (d : Int) - 87 by omega]; exact HIT, by omega, by have := A1.out; rw [HP.out]; omega, by omega⟩
      case measure => simp; omega
     ·rw [if_neg d2] at hit
      have hx := HX.out
      rw [← hit] at hx
      subst hx
      clear hit HX hpow
      by_cases e1 : d < 48
      ·go_wp2
       go_ret2
       exact ⟨rfl, below_iter w s _⟩
      ·by_cases e2 : d < 97
       ·have e3 : ¬ d ≤ 57 := by omega
        go_wp2
        go_ret2
        exact ⟨rfl, below_iter w s _⟩
       ·have e3 : ¬ d ≤ 57 := by omega
        have e4 : ¬ d ≤ 102 := by omega
        go_wp2
        go_ret2
        exact ⟨rfl, below_iter w s _⟩
   ·have hnx : ∀ ty, (Instr.next (.pointer (some ⟨w.heap.size, 0, none⟩)) true ty).run Tryd.prog (w.iter s pos) = _ := fun ty => run_next_any w s pos ty hlt
    have hh := (decode_high s pos hlt (by omega)).1
    have hit := HI.out
    rw [hdrop, numL, if_neg (by omega), if_neg (by omega)] at hit
    have hx := HX.out
    rw [← hit] at hx
    subst hx
    clear hit HX hpow hdrop HI hasc
    generalize (Utf8.decode s pos).1 = rn at hnx hh
    generalize (Utf8.decode s pos).2 = rw_ at hnx
    have e0 : (48 : Int) ≤ rn := by omega
    have e1 : ¬ rn ≤ 57 := by omega
    have e2 : (97 : Int) ≤ rn := by omega
    have e3 : ¬ rn ≤ 102 := by omega
    go_wp2
    go_ret2
    exact ⟨rfl, below_iter w s _⟩
  ·have hnx : ∀ ty, (Instr.next (.pointer (some ⟨w.heap.size, 0, none⟩)) true ty).run Tryd.prog (w.iter s pos) = _ := fun ty => run_next_end w s pos ty hlt
   have hit := HI.out
   rw [List.drop_of_length_le (by have : s.data.toList.length = s.size := (by simp); omega), numL] at hit
   have hx := HX.out
   rw [← hit] at hx
   subst hx
   clear hit HX HI
   go_wp2
   go_ret2
   exact ⟨rfl, below_iter w s _⟩
end Go.Proofs.YtjedbamcjgabpaaDoor.Src
/- source.name: a label's name. -/
set_option linter.unusedVariables false
set_option linter.unusedSimpArgs false
namespace Go.Proofs.YtjedbamcjgabpaaDoor.Src
open Go Go.RowKit
open Go.Proofs.YtjedbamcjgabpaaDoorW.PrintWords

def smallL : List UInt8 := [97, 98, 99, 100, 101, 102, 103, 104, 105, 106, 107, 108, 109, 110, 111, 112, 113, 114, 115, 116, 117, 118, 119, 120, 121, 122]
def othersL : List UInt8 := smallL ++ [48, 49, 50, 51, 52, 53, 54, 55, 56, 57, 45]
/-- Is a text a label's? -/
def nameB (s : ByteArray) : Bool := match s.data.toList with
 | [] => false
 | c :: r => decide (r.length < 16) && smallL.contains c && r.all othersL.contains

abbrev smallA : ByteArray := ⟨#[97, 98, 99, 100, 101, 102, 103, 104, 105, 106, 107, 108, 109, 110, 111, 112, 113, 114, 115, 116, 117, 118, 119, 120, 121, 122]⟩
abbrev othersA : ByteArray := ⟨#[97, 98, 99, 100, 101, 102, 103, 104, 105, 106, 107, 108, 109, 110, 111, 112, 113, 114, 115, 116, 117, 118, 119, 120, 121, 122, 48, 49, 50, 51, 52, 53, 54, 55, 56, 57, 45]⟩

theorem trimC (s : ByteArray) (w : World) (hs : s.size ≤ 100) : Calls Tryd.prog 58 #[.string s, .string othersA] w fun e w' => e = .returned (.string ⟨(Lib.trimS s.data.toList othersL).toArray⟩) ∧ Below w.heap.size w w' :=
 Any.strings_Trim_laid Tryd.lays160 (by kernel_rfl) s othersA w (by omega) (by decide) (ascii_of_all (by decide))


theorem containsC (c : UInt8) (w : World) : Calls Tryd.prog 57 #[.string smallA, .string ⟨#[c]⟩] w fun e w' => e = .returned (.bool (smallL.contains c)) ∧ w' = w := by
 refine (Tryd.strings_Contains_one smallA c w).mono fun e w' ⟨h1, h2⟩ => ⟨?_, h2⟩
 rw [h1, Lib.contains_iff_indexByte]
 rfl

theorem all_drop {α : Type} (p : α → Bool) : ∀ m : List α, (m.dropWhile p).all p = m.all p
 | [] => rfl
 | x :: m => by
  rw [List.dropWhile_cons]
  cases h : p x with
  | true => simp [h, all_drop p m]
  | false => simp [h]
theorem empty_drop {α : Type} (p : α → Bool) : ∀ m : List α, (m.dropWhile p).isEmpty = m.all p
 | [] => rfl
 | x :: m => by
  rw [List.dropWhile_cons]
  cases h : p x with
  | true => simp [h, ← empty_drop p m]
  | false => simp [h]
theorem trim_empty (l cs : List UInt8) : (Lib.trimS l cs).isEmpty = l.all cs.contains := by
 unfold Lib.trimS Lib.trimLeftS Lib.trimRightS
 rw [empty_drop, List.all_reverse, all_drop, List.all_reverse]
theorem small_others (c : UInt8) (h : smallL.contains c = true) : othersL.contains c = true := by
 have h2 : c ∈ smallL := by simpa using h
 have h3 : c ∈ othersL := List.mem_append_left _ h2
 simpa using h3

set_option maxRecDepth 100000 in
set_option maxHeartbeats 4000000 in
theorem lname_calls (s : ByteArray) (w : World) : Calls Tryd.prog 37 #[.string s] w fun e w' => e = .returned (.bool (nameB s)) ∧ Below w.heap.size w w' := by
 have HB := Aside0.mk (Below.refl w.heap.size w)
 cases hd : s.data.toList with
 | nil => 
  obtain rfl : s = ⟨#[]⟩ := by rw [← Lib.mk_data s, hd]
  go_enter Tryd.func37, Tryd.ntmps37
  go_wp2
  go_ret
  exact ⟨rfl, HB.out⟩
 | cons c r =>
  have hn : nameB s = (decide (r.length < 16) && smallL.contains c && r.all othersL.contains) := by unfold nameB; rw [hd]
  have HN := Aside0.mk hn
  have hsz : s.size = r.length + 1 := by rw [Lib.size_eq, hd]; rfl
  have hne : s.toList.isEmpty = false := by rw [Lib.toList_data, hd]; rfl
  have hx : s.extract 0 1 = ⟨#[c]⟩ := by
   rw [← Lib.mk_data (s.extract 0 1)]
   simp [hd]
  clear hn
  have h4 : (1 : Int) ≤ s.size := by omega
  by_cases h1 : r.length < 16
  ·have h2 : (s.size : Int) ≤ 16 := by omega
   have h3 : s.size ≤ 100 := by omega
   have HT := Aside0.mk (trimC s w h3)
   have HC := Aside0.mk (containsC c w)
   have HD := Aside0.mk (decide_eq_true h1)
   cases hc : smallL.contains c with
   | false =>
    rw [hc] at HC
    have HE := Aside0.mk hc
    clear hc
    go_enter Tryd.func37, Tryd.ntmps37
    go_wp2_with (first | (go_at_call 57; (with_reducible refine HC.out.mono ?_); rintro e w1 ⟨rfl, rfl⟩))
    go_ret
    exact ⟨by rw [HN.out, HE.out, Bool.and_false, Bool.false_and]; rfl, HB.out⟩
   | true =>
    rw [hc] at HC
    have HE := Aside0.mk hc
    clear hc
    go_enter Tryd.func37, Tryd.ntmps37
    go_wp2_with (first | (go_at_call 57; (with_reducible refine HC.out.mono ?_); rintro e w1 ⟨rfl, rfl⟩) | (go_at_call 58; (with_reducible refine HT.out.mono ?_); rintro e w1 ⟨rfl, hb⟩))
    go_ret
    exact ⟨by rw [HN.out, HD.out, HE.out, Bool.true_and, Bool.true_and, show r.all othersL.contains = (Lib.trimS (c :: r) othersL).isEmpty from by rw [trim_empty, List.all_cons, small_others c HE.out, Bool.true_and]]; rfl, hb⟩
  have h2 : ¬ (s.size : Int) ≤ 16 := by omega
  have HD := Aside0.mk (decide_eq_false h1)
  go_enter Tryd.func37, Tryd.ntmps37
  go_wp2
  go_ret
  exact ⟨by rw [HN.out, HD.out, Bool.false_and, Bool.false_and]; rfl, HB.out⟩

def partsT : List ByteArray := [⟨#[]⟩, ⟨#[116, 111]⟩, ⟨#[104, 105, 103, 104]⟩, ⟨#[108, 111, 119]⟩]
theorem and3 (x : Int) (h0 : 0 ≤ x) (h1 : x < 256) : Go.bits .and .u8 x 3 = x % 4 := bits_mask .u8 8 (by decide) (fun n a b => by rw [IntKind.wrap_u8]; omega) 2 (by decide) x h0 (by omega)
end Go.Proofs.YtjedbamcjgabpaaDoor.Src
namespace Go.Proofs.YtjedbamcjgabpaaDoor.PSo
open Go Go.RowKit
open Go.Proofs.YtjedbamcjgabpaaDoorW.PrintWords
open Go.Proofs.YtjedbamcjgabpaaDoor.Src
def source_name.f (a0 : ByteArray) : Option Bool := some (nameB a0)
theorem source_name.calls (a0 : ByteArray) (r : Bool) (w : World) (h : source_name.f a0 = some r) :
 Calls Tryd.prog 37 #[.string a0] w fun e w' => e = .returned (.bool r) ∧ Below w.heap.size w w' := by
 obtain rfl := Option.some.inj h
 exact lname_calls a0 w
def strings_Cut.f (a0 a1 : ByteArray) : Option (ByteArray × ByteArray × Bool) := if a0.size < 4294967281 then some (⟨(Lib.cut a0.data.toList a1.data.toList).1.toArray⟩, ⟨(Lib.cut a0.data.toList a1.data.toList).2.1.toArray⟩, (Lib.cut a0.data.toList a1.data.toList).2.2) else none
theorem strings_Cut.calls (a0 a1 : ByteArray) (r1 r2 : ByteArray) (r3 : Bool) (w : World) (h : strings_Cut.f a0 a1 = some (r1, r2, r3))
 (hG : GOk w := by first | exact HG.out | exact GOk.below HG.out HB.out | exact GOk.below HG.out (by repeat (first | (with_reducible first | exact HB.out | apply below_alloc | apply pw_below_drewN | apply below_drew1 | refine below_set ?_ (Aside0.out (by assumption))) | exact HB.out))) :
 Calls Tryd.prog 29 #[.string a0, .string a1] w fun e w' => e = .returned (.tuple #[.string r1, .string r2, .bool r3]) ∧ Below w.heap.size w w' := by
 unfold strings_Cut.f at h
 by_cases h0 : a0.size < 4294967281
 ·rw [if_pos h0] at h
  obtain ⟨m, hm⟩ := hG.max
  have e := Option.some.inj h
  simp only [Prod.mk.injEq] at e
  obtain ⟨e1, e2, e3⟩ := e
  subst e1 e2 e3
  refine (Tryd.strings_Cut a0 a1 m w h0 hm).mono fun e w' hh => ?_
  obtain ⟨h1, n, h2⟩ := hh
  exact ⟨h1, by rw [h2]; exact pw_below_drewN (Below.refl _ _) n⟩
 ·rw [if_neg h0] at h; cases h
def source_parts.f (a0 : Int) : Option ByteArray := if 0 ≤ a0 then (if a0 < 256 then some (partsT.getD (a0 % 4).toNat ⟨#[]⟩) else none) else none
set_option maxRecDepth 100000 in
theorem source_parts.calls (a0 : Int) (r : ByteArray) (w : World) (h : source_parts.f a0 = some r) :
 Calls Tryd.prog 42 #[.int .u8 a0] w fun e w' => e = .returned (.string r) ∧ Below w.heap.size w w' := by
 unfold source_parts.f at h
 by_cases h0 : 0 ≤ a0
 ·rw [if_pos h0] at h
  by_cases h1 : a0 < 256
  ·rw [if_pos h1] at h
   have e1 := and3 a0 h0 h1
   have hc : a0 % 4 = 0 ∨ a0 % 4 = 1 ∨ a0 % 4 = 2 ∨ a0 % 4 = 3 := by omega
   rcases hc with e2 | e2 | e2 | e2 <;> rw [e2] at e1 h
   all_goals
    obtain rfl := Option.some.inj h
    clear h e2
    have hb : ∀ w : World, (Instr.build 105 #[(0, Value.string ⟨#[]⟩), (1, Value.string ⟨#[116, 111]⟩), (2, Value.string ⟨#[104, 105, 103, 104]⟩), (3, Value.string ⟨#[108, 111, 119]⟩)]).run Tryd.prog w = .ok (.agg #[.string ⟨#[]⟩, .string ⟨#[116, 111]⟩, .string ⟨#[104, 105, 103, 104]⟩, .string ⟨#[108, 111, 119]⟩]) w := fun _ => by kernel_rfl
    have i0 : ∀ w : World, (Instr.index 105 (.agg #[.string ⟨#[]⟩, .string ⟨#[116, 111]⟩, .string ⟨#[104, 105, 103, 104]⟩, .string ⟨#[108, 111, 119]⟩]) (.int .u8 0)).run Tryd.prog w = .ok (.string ⟨#[]⟩) w := fun _ => by kernel_rfl
    have i1 : ∀ w : World, (Instr.index 105 (.agg #[.string ⟨#[]⟩, .string ⟨#[116, 111]⟩, .string ⟨#[104, 105, 103, 104]⟩, .string ⟨#[108, 111, 119]⟩]) (.int .u8 1)).run Tryd.prog w = .ok (.string ⟨#[116, 111]⟩) w := fun _ => by kernel_rfl
    have i2 : ∀ w : World, (Instr.index 105 (.agg #[.string ⟨#[]⟩, .string ⟨#[116, 111]⟩, .string ⟨#[104, 105, 103, 104]⟩, .string ⟨#[108, 111, 119]⟩]) (.int .u8 2)).run Tryd.prog w = .ok (.string ⟨#[104, 105, 103, 104]⟩) w := fun _ => by kernel_rfl
    have i3 : ∀ w : World, (Instr.index 105 (.agg #[.string ⟨#[]⟩, .string ⟨#[116, 111]⟩, .string ⟨#[104, 105, 103, 104]⟩, .string ⟨#[108, 111, 119]⟩]) (.int .u8 3)).run Tryd.prog w = .ok (.string ⟨#[108, 111, 119]⟩) w := fun _ => by kernel_rfl
    go_enter Tryd.func42, Tryd.ntmps42
    go_wp2
    go_ret
    exact ⟨rfl, Below.refl _ _⟩
  ·rw [if_neg h1] at h; cases h
 ·rw [if_neg h0] at h; cases h
end Go.Proofs.YtjedbamcjgabpaaDoor.PSo
/- source.must and source.number, walked: what holds goes on, what does not panics with the package's own value. -/
set_option linter.unusedVariables false
set_option linter.unusedSimpArgs false
namespace Go.Proofs.YtjedbamcjgabpaaDoor.PSo
open Go Go.RowKit
open Go.Proofs.YtjedbamcjgabpaaDoorW.PrintWords
open Go.Proofs.YtjedbamcjgabpaaDoor.Src

/-- The package's own panic. -/
def PN : List PanicEntry := [{ v := Value.iface 85 (Value.agg #[]), recovered := false }]
theorem bodyPost_panic {P : Program} {fn : Func} {post : Ending → World → Prop} {c : List PanicEntry} {a : Act} {w : World} (hd : a.defers = []) (h : post (.panicked c) w) : bodyPost P fn post (Exit.panic c) a w := by
 simp [bodyPost, hd, h]
theorem must_yes (w : World) : Calls Tryd.prog 50 #[.bool true] w fun e w' => e = .returned (.tuple #[]) ∧ w = w' := by
 go_enter Tryd.func50, Tryd.ntmps50
 go_wp2
 go_end0
 exact ⟨rfl, rfl⟩
theorem must_no (w : World) : Calls Tryd.prog 50 #[.bool false] w fun e w' => e = .panicked PN ∧ w = w' := by
 go_enter Tryd.func50, Tryd.ntmps50
 go_wp2
 exact bodyPost_panic rfl ⟨rfl, rfl⟩
set_option maxRecDepth 100000 in
theorem num_yes (s : ByteArray) (many : Int) (w : World) (h : (numR s).2 = 0) (hl : (s.size : Int) = many) : Calls Tryd.prog 63 #[.string s, .int .i64 many] w fun e w' => e = .returned (.int .i64 (numR s).1) ∧ Below w.heap.size w w' := by
 obtain ⟨v, hv⟩ : ∃ v, (numR s).1 = v := ⟨_, rfl⟩
 have HV := Aside0.mk (And.intro hv h)
 rw [hv]
 clear hv h
 subst hl
 go_enter Tryd.func63, Tryd.ntmps63
 go_wp2_with fail
 (with_reducible refine (number_calls s w).mono ?_)
 rintro e w1 ⟨rfl, hb⟩
 rw [HV.out.1, HV.out.2]
 have HB := Aside0.mk hb
 clear hb
 go_wp2_with fail
 (with_reducible refine (must_yes _).mono ?_)
 rintro e w2 ⟨rfl, rfl⟩
 go_wp2
 go_ret
 exact ⟨rfl, HB.out⟩
set_option maxRecDepth 100000 in
theorem num_no (s : ByteArray) (many : Int) (w : World) (h : ¬ ((numR s).2 = 0 ∧ (s.size : Int) = many)) : Calls Tryd.prog 63 #[.string s, .int .i64 many] w fun e w' => e = .panicked PN ∧ Below w.heap.size w w' := by
 obtain ⟨v, hv⟩ : ∃ v, (numR s).1 = v := ⟨_, rfl⟩
 obtain ⟨ve, hve⟩ : ∃ ve, (numR s).2 = ve := ⟨_, rfl⟩
 have HV := Aside0.mk (And.intro hv hve)
 rw [hve] at h
 clear hv hve
 by_cases h1 : ve = 0
 ·subst h1
  have t1 : ((s.size : Int) == many) = false := beq_eq_false_iff_ne.2 (fun e => h ⟨rfl, e⟩)
  clear h
  go_enter Tryd.func63, Tryd.ntmps63
  go_wp2_with fail
  (with_reducible refine (number_calls s w).mono ?_)
  rintro e w1 ⟨rfl, hb⟩
  rw [HV.out.1, HV.out.2]
  have HB := Aside0.mk hb
  clear hb
  go_wp2_with fail
  (with_reducible refine (must_no _).mono ?_)
  rintro e w2 ⟨rfl, rfl⟩
  exact bodyPost_panic rfl ⟨rfl, HB.out⟩
 ·have t1 : (ve == 0) = false := beq_eq_false_iff_ne.2 h1
  clear h h1
  go_enter Tryd.func63, Tryd.ntmps63
  go_wp2_with fail
  (with_reducible refine (number_calls s w).mono ?_)
  rintro e w1 ⟨rfl, hb⟩
  rw [HV.out.1, HV.out.2]
  have HB := Aside0.mk hb
  clear hb
  go_wp2_with fail
  (with_reducible refine (must_no _).mono ?_)
  rintro e w2 ⟨rfl, rfl⟩
  exact bodyPost_panic rfl ⟨rfl, HB.out⟩
def source_number.f (s : ByteArray) (many : Int) : Option Int := if (numR s).2 = 0 ∧ (s.size : Int) = many then some (numR s).1 else none
theorem source_number.calls (a0 : ByteArray) (a1 : Int) (r : Int) (w : World) (h : source_number.f a0 a1 = some r) : Calls Tryd.prog 63 #[.string a0, .int .i64 a1] w fun e w' => e = .returned (.int .i64 r) ∧ Below w.heap.size w w' := by
 unfold source_number.f at h
 by_cases c : (numR a0).2 = 0 ∧ (a0.size : Int) = a1
 ·rw [if_pos c] at h
  obtain rfl := Option.some.inj h
  exact num_yes a0 a1 w c.1 c.2
 ·rw [if_neg c] at h; cases h
theorem source_number.none_ (a0 : ByteArray) (a1 : Int) (w : World) (h : source_number.f a0 a1 = none) : Calls Tryd.prog 63 #[.string a0, .int .i64 a1] w fun e w' => e = .panicked PN ∧ Below w.heap.size w w' := by
 unfold source_number.f at h
 by_cases c : (numR a0).2 = 0 ∧ (a0.size : Int) = a1
 ·rw [if_pos c] at h; cases h
 ·exact num_no a0 a1 w c
end Go.Proofs.YtjedbamcjgabpaaDoor.PSo
/- source.readers' second and third closure, walked: an item that says where, and one that is an address. -/
set_option linter.unusedVariables false
set_option linter.unusedSimpArgs false
namespace Go.Proofs.YtjedbamcjgabpaaDoor.PSo
open Go Go.RowKit
open Go.Proofs.YtjedbamcjgabpaaDoorW.PrintWords
open Go.Proofs.YtjedbamcjgabpaaDoor.Src

def zcells : Array Value := #[.int .u8 0, .string ⟨#[]⟩, .int .i64 0, .string ⟨#[]⟩, .int .u8 0, .slice none 0 0]
theorem two_cell {w : World} {A : Option Addr} {x0 x1 : ByteArray} (hr : Kd.C Kd.string w A 2 [x0, x1]) : ∃ ad, A = some ad ∧ w.cell? ⟨ad.block, ad.off + 1, none⟩ = some (.string x1) := by
 obtain ⟨ad, e, h⟩ := Kd.at_string hr 1 (by decide) (by decide)
 exact ⟨ad, e, h⟩
set_option maxRecDepth 100000 in
set_option maxHeartbeats 2000000 in
theorem rd3_yes (A : Option Addr) (c : Nat) (x0 x1 : ByteArray) (w : World) (hr : Kd.C Kd.string w A 2 [x0, x1]) :
 Calls Tryd.prog 65 #[.slice A 2 c] w fun e w' => e = .returned (.agg #[.int .u8 5, .string ⟨#[]⟩, .int .i64 0, .string x1, .int .u8 0, .slice none 0 0]) ∧ Below w.heap.size w w' := by
 obtain ⟨ad, rfl, hq⟩ := two_cell hr
 have HB := Aside0.mk (below_alloc (Below.refl w.heap.size w) (.cells zcells 43))
 have HR := Aside0.mk (blk_new w (.cells zcells 43))
 unfold zcells at HB HR
 have hq2 := (HB.out.cell (World.block_lt_of_cell? w _ hq)).trans hq
 clear hr hq
 go_enter Tryd.func65, Tryd.ntmps65
 go_wp2_with fail
 (with_reducible refine (must_yes _).mono ?_)
 rintro e w2 ⟨rfl, rfl⟩
 generalize w.alloc (.cells #[.int .u8 0, .string ⟨#[]⟩, .int .i64 0, .string ⟨#[]⟩, .int .u8 0, .slice none 0 0] 43) = W at HB HR hq2 ⊢
 have z0 := (blk_cell HR.out 0).trans (rfl : _ = some (Value.int .u8 0))
 have z1 := (blk_cell HR.out 1).trans (rfl : _ = some (Value.string ⟨#[]⟩))
 have z2 := (blk_cell HR.out 2).trans (rfl : _ = some (Value.int .i64 0))
 have z3 := (blk_cell HR.out 3).trans (rfl : _ = some (Value.string ⟨#[]⟩))
 have z4 := (blk_cell HR.out 4).trans (rfl : _ = some (Value.int .u8 0))
 have z5 := (blk_cell HR.out 5).trans (rfl : _ = some (Value.slice none 0 0))
 have f0 := blk_frozen HR.out 0
 have f1 := blk_frozen HR.out 1
 have f2 := blk_frozen HR.out 2
 have f3 := blk_frozen HR.out 3
 have f4 := blk_frozen HR.out 4
 have f5 := blk_frozen HR.out 5
 go_wp2
 refine bodyPost_ret (results_cell_row rfl _ _ w.heap.size 43 #[.int .u8 5, .string ⟨#[]⟩, .int .i64 0, .string x1, .int .u8 0, .slice none 0 0] (0, 0) _ rfl (blk_put (blk_put (blk_put (blk_put (blk_put (blk_put HR.out 0 _ rfl) 1 _ rfl) 2 _ rfl) 3 _ rfl) 4 _ rfl) 5 _ rfl) Tryd.underlying43 rfl (by kernel_rfl)) rfl ?_
 exact ⟨rfl, below_set (below_set (below_set (below_set (below_set (below_set HB.out (Nat.le_refl _)) (Nat.le_refl _)) (Nat.le_refl _)) (Nat.le_refl _)) (Nat.le_refl _)) (Nat.le_refl _)⟩
set_option maxRecDepth 100000 in
theorem rd3_no (A : Option Addr) (c n : Nat) (hn : n ≠ 2) (w : World) :
 Calls Tryd.prog 65 #[.slice A n c] w fun e w' => e = .panicked PN ∧ Below w.heap.size w w' := by
 have HB := Aside0.mk (below_alloc (Below.refl w.heap.size w) (.cells zcells 43))
 unfold zcells at HB
 have t1 : ((n : Int) == 2) = false := beq_eq_false_iff_ne.2 (by omega)
 clear hn
 go_enter Tryd.func65, Tryd.ntmps65
 go_wp2_with fail
 (with_reducible refine (must_no _).mono ?_)
 rintro e w2 ⟨rfl, rfl⟩
 exact bodyPost_panic rfl ⟨rfl, HB.out⟩
set_option maxRecDepth 100000 in
theorem rd2_no (A : Option Addr) (c n : Nat) (hn : n ≠ 2) (w : World) :
 Calls Tryd.prog 64 #[.slice A n c] w fun e w' => e = .panicked PN ∧ Below w.heap.size w w' := by
 have HB := Aside0.mk (below_alloc (Below.refl w.heap.size w) (.cells zcells 43))
 unfold zcells at HB
 have t1 : ((n : Int) == 2) = false := beq_eq_false_iff_ne.2 (by omega)
 clear hn
 go_enter Tryd.func64, Tryd.ntmps64
 go_wp2_with fail
 (with_reducible refine (must_no _).mono ?_)
 rintro e w2 ⟨rfl, rfl⟩
 exact bodyPost_panic rfl ⟨rfl, HB.out⟩
set_option maxRecDepth 100000 in
set_option maxHeartbeats 2000000 in
theorem rd2_num (A : Option Addr) (c : Nat) (x0 x1 : ByteArray) (w : World) (hr : Kd.C Kd.string w A 2 [x0, x1]) (h : source_number.f x1 4 = none) :
 Calls Tryd.prog 64 #[.slice A 2 c] w fun e w' => e = .panicked PN ∧ Below w.heap.size w w' := by
 obtain ⟨ad, rfl, hq⟩ := two_cell hr
 have HB := Aside0.mk (below_alloc (Below.refl w.heap.size w) (.cells zcells 43))
 unfold zcells at HB
 have hq2 := (HB.out.cell (World.block_lt_of_cell? w _ hq)).trans hq
 have HN := Aside0.mk h
 clear hr hq h
 go_enter Tryd.func64, Tryd.ntmps64
 go_wp2_with fail
 (with_reducible refine (must_yes _).mono ?_)
 rintro e w2 ⟨rfl, rfl⟩
 go_wp2_with fail
 (with_reducible refine (source_number.none_ x1 4 _ HN.out).mono ?_)
 rintro e w3 ⟨rfl, hb⟩
 exact bodyPost_panic rfl ⟨rfl, below_step HB.out hb⟩
set_option maxRecDepth 100000 in
set_option maxHeartbeats 2000000 in
theorem rd2_yes (A : Option Addr) (c : Nat) (x0 x1 : ByteArray) (v : Int) (w : World) (hr : Kd.C Kd.string w A 2 [x0, x1]) (h : source_number.f x1 4 = some v) :
 Calls Tryd.prog 64 #[.slice A 2 c] w fun e w' => e = .returned (.agg #[.int .u8 4, .string ⟨#[]⟩, .int .i64 v, .string ⟨#[]⟩, .int .u8 0, .slice none 0 0]) ∧ Below w.heap.size w w' := by
 obtain ⟨ad, rfl, hq⟩ := two_cell hr
 have HB := Aside0.mk (below_alloc (Below.refl w.heap.size w) (.cells zcells 43))
 have HR := Aside0.mk (blk_new w (.cells zcells 43))
 unfold zcells at HB HR
 have hq2 := (HB.out.cell (World.block_lt_of_cell? w _ hq)).trans hq
 have HN := Aside0.mk h
 clear hr hq h
 go_enter Tryd.func64, Tryd.ntmps64
 go_wp2_with fail
 (with_reducible refine (must_yes _).mono ?_)
 rintro e w2 ⟨rfl, rfl⟩
 go_wp2_with fail
 (with_reducible refine (source_number.calls x1 4 v _ HN.out).mono ?_)
 rintro e w3 ⟨rfl, hb⟩
 have HB3 := Aside0.mk (below_step HB.out hb)
 have HR3 := Aside0.mk (blk_below HR.out hb)
 clear hb HB HR hq2
 have z0 := (blk_cell HR3.out 0).trans (rfl : _ = some (Value.int .u8 0))
 have z1 := (blk_cell HR3.out 1).trans (rfl : _ = some (Value.string ⟨#[]⟩))
 have z2 := (blk_cell HR3.out 2).trans (rfl : _ = some (Value.int .i64 0))
 have z3 := (blk_cell HR3.out 3).trans (rfl : _ = some (Value.string ⟨#[]⟩))
 have z4 := (blk_cell HR3.out 4).trans (rfl : _ = some (Value.int .u8 0))
 have z5 := (blk_cell HR3.out 5).trans (rfl : _ = some (Value.slice none 0 0))
 have f0 := blk_frozen HR3.out 0
 have f1 := blk_frozen HR3.out 1
 have f2 := blk_frozen HR3.out 2
 have f3 := blk_frozen HR3.out 3
 have f4 := blk_frozen HR3.out 4
 have f5 := blk_frozen HR3.out 5
 go_wp2
 refine bodyPost_ret (results_cell_row rfl _ _ w.heap.size 43 #[.int .u8 4, .string ⟨#[]⟩, .int .i64 v, .string ⟨#[]⟩, .int .u8 0, .slice none 0 0] (0, 0) _ rfl (blk_put (blk_put (blk_put (blk_put (blk_put (blk_put HR3.out 0 _ rfl) 1 _ rfl) 2 _ rfl) 3 _ rfl) 4 _ rfl) 5 _ rfl) Tryd.underlying43 rfl (by kernel_rfl)) rfl ?_
 exact ⟨rfl, below_set (below_set (below_set (below_set (below_set (below_set HB3.out (Nat.le_refl _)) (Nat.le_refl _)) (Nat.le_refl _)) (Nat.le_refl _)) (Nat.le_refl _)) (Nat.le_refl _)⟩
end Go.Proofs.YtjedbamcjgabpaaDoor.PSo
/- source.words, walked: a line's words, without its remark. -/
set_option linter.unusedVariables false
set_option linter.unusedSimpArgs false
namespace Go.Proofs.YtjedbamcjgabpaaDoor.PSo
open Go Go.RowKit
open Go.Proofs.YtjedbamcjgabpaaDoorW.PrintWords
open Go.Proofs.YtjedbamcjgabpaaDoor.Src

def sepR (x : Nat) : Bool := x == 32 || x == 9
theorem sep_calls (x : Nat) (w : World) : Calls Tryd.prog 46 #[.int .i32 x] w fun e w' => e = .returned (.bool (sepR x)) ∧ w = w' := by
 obtain ⟨b, hb⟩ : ∃ b, sepR x = b := ⟨_, rfl⟩
 rw [hb]
 have HB := Aside0.mk hb
 clear hb
 by_cases h1 : x = 32
 ·subst h1
  obtain rfl : b = true := by rw [← HB.out]; rfl
  go_enter Tryd.func46, Tryd.ntmps46
  go_wp2
  go_ret
  exact ⟨rfl, rfl⟩
 ·have t1 : ((x : Int) == 32) = false := beq_eq_false_iff_ne.2 (by omega)
  by_cases h2 : x = 9
  ·subst h2
   obtain rfl : b = true := by rw [← HB.out]; rfl
   clear h1 t1
   go_enter Tryd.func46, Tryd.ntmps46
   go_wp2
   go_ret
   exact ⟨rfl, rfl⟩
  ·have t2 : ((x : Int) == 9) = false := beq_eq_false_iff_ne.2 (by omega)
   obtain rfl : b = false := by
    rw [← HB.out]; unfold sepR
    rw [show (x == 32) = false from beq_eq_false_iff_ne.2 h1, show (x == 9) = false from beq_eq_false_iff_ne.2 h2]; rfl
   clear h1 h2
   go_enter Tryd.func46, Tryd.ntmps46
   go_wp2
   go_ret
   exact ⟨rfl, rfl⟩
theorem sep_at (w : World) : PredAt Tryd.prog 46 #[] encR sepR w := fun W x _ => by
 refine (sep_calls x W).mono ?_
 rintro e w' ⟨he, rfl⟩
 exact ⟨he, 0, rfl⟩
/-- A line's words. -/
def wordsB (a : ByteArray) : List ByteArray := Lib.goFieldsP sepR ⟨(Lib.cut a.data.toList [59]).1.toArray⟩
def source_words.f (a0 : ByteArray) : Option (List ByteArray) := if a0.size ≤ 1000000 then some (wordsB a0) else none

set_option maxRecDepth 100000 in
set_option maxHeartbeats 2000000 in
theorem source_words.calls (a0 : ByteArray) (r : List ByteArray) (w : World) (h : source_words.f a0 = some r)
 (hG : GOk w := by first | exact HG.out | exact GOk.below HG.out HB.out | exact GOk.below HG.out (by repeat (first | (with_reducible first | exact HB.out | apply below_alloc | apply pw_below_drewN | apply below_drew1 | refine below_set ?_ (Aside0.out (by assumption))) | exact HB.out))) :
 Calls Tryd.prog 30 #[.string a0] w fun e w' => ∃ v0_ : Value, e = .returned v0_ ∧ Kd.R Kd.string 9 w' w.heap.size (fun _ => True) v0_ r ∧ Below w.heap.size w w' := by
 unfold source_words.f at h
 by_cases hs : a0.size ≤ 1000000
 ·rw [if_pos hs] at h
  obtain rfl := Option.some.inj h
  obtain ⟨m, hm⟩ := hG.max
  have hc := Tryd.strings_Cut a0 ⟨#[59]⟩ m w (by omega) hm
  have eg : ∀ (args : Array Value) (w : World), (callFunc 46 args).run Tryd.prog w = .ok (.enter 46 args) w := fun args w => rfl
  have hsz : (⟨(Lib.cut a0.data.toList [59]).1.toArray⟩ : ByteArray).size ≤ 4294967296 := by
   rw [cut_one]
   have := cut1_size 59 a0.data.toList
   have e : a0.data.toList.length = a0.size := by simp
   show (cut1 59 a0.data.toList).1.toArray.size ≤ _
   simp only [List.size_toArray]
   omega
  have hf := fun (w' : World) => Tryd.strings_FieldsFunc 46 #[] eg sepR ⟨(Lib.cut a0.data.toList [59]).1.toArray⟩ w' hsz (sep_at w')
  have HC := Aside0.mk hc
  have HF := Aside0.mk hf
  clear hc hf hm h
  go_enter Tryd.func30, Tryd.ntmps30
  go_wp2_with fail
  (with_reducible refine HC.out.mono ?_)
  rintro e w1 ⟨rfl, n, rfl⟩
  go_wp2_with fail
  (with_reducible refine (HF.out _).mono ?_)
  rintro e w2 ⟨A, rfl, hA, ho, hb⟩
  have HO := Aside0.mk ho
  have HB := Aside0.mk hb
  clear ho hb
  go_wp2
  go_ret
  exact ⟨_, rfl, Kd.R_of_own HO.out (fun _ _ => trivial), below_step (pw_below_drewN (Below.refl _ _) n) HB.out⟩
 ·rw [if_neg hs] at h; cases h
end Go.Proofs.YtjedbamcjgabpaaDoor.PSo
