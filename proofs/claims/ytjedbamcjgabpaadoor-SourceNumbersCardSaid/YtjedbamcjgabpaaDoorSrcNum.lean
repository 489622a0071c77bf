/- bits.Number: digits to the base sixteen. -/
import Derived.Test.YtjedbamcjgabpaaDoorPSox0
import Derived.Laws.RangeAny
import Derived.Laws.RangeString
import Derived.Laws.BitsLemmas
set_option linter.unusedVariables false
set_option linter.unusedSimpArgs false
namespace Go.Proofs.YtjedbamcjgabpaaDoor.Src
open Go Go.RowKit
open Go.Proofs.YtjedbamcjgabpaaDoorW.PrintWords

def numL : List UInt8 → Int → Option Int
  | [], n => some n
  | c :: r, n => if 48 ≤ c.toNat ∧ c.toNat ≤ 57 then numL r (n * 16 + ((c.toNat : Int) - 48)) else if 97 ≤ c.toNat ∧ c.toNat ≤ 102 then numL r (n * 16 + ((c.toNat : Int) - 87)) else none
/-- What bits.Number tells: the number, and whether it is one. -/
def numR (s : ByteArray) : Int × Int := if s.size < 1 then (0, 1) else if 8 < s.size then (0, 1) else match numL s.data.toList 0 with
  | some n => (n, 0)
  | none => (0, 1)

theorem below_iter (w : World) (s : ByteArray) (pos : Nat) : Below w.heap.size w (w.iter s pos) := by
  have h := below_alloc (Below.refl w.heap.size w) (.stringIter s pos)
  exact h

theorem or_join (n d : Int) (h0 : 0 ≤ n) (h1 : n < 4294967296) (d0 : 0 ≤ d) (d1 : d < 16) : Go.bits .or .i64 (n * 16) d = n * 16 + d :=
  bits_join .i64 40 (by decide) (fun n a b => by rw [IntKind.wrap_i64]; omega) 4 (n * 16) d (by omega) (by omega) (by omega) d0 (by omega) (by omega)

set_option maxRecDepth 100000 in
set_option maxHeartbeats 4000000 in
theorem number_calls (s : ByteArray) (w : World) : Calls Tryd.prog 90 #[.string s] w fun e w' => e = .returned (.tuple #[.int .i64 (numR s).1, .int .i64 (numR s).2]) ∧ Below w.heap.size w w' := by
  obtain ⟨r, hr⟩ : ∃ r, r = numR s := ⟨_, rfl⟩
  rw [← hr]
  have HR := Aside0.mk hr
  clear hr
  by_cases c1 : s.size < 1
  · have hx : r = (0, 1) := by rw [HR.out]; unfold numR; rw [if_pos c1]
    subst hx
    go_enter Tryd.func90, Tryd.ntmps90
    go_wp2
    go_ret2
    exact ⟨rfl, Below.refl _ _⟩
  by_cases c2 : 8 < s.size
  · have hx : r = (0, 1) := by rw [HR.out]; unfold numR; rw [if_neg c1, if_pos c2]
    subst hx
    go_enter Tryd.func90, Tryd.ntmps90
    go_wp2
    go_ret2
    exact ⟨rfl, Below.refl _ _⟩
  have hx : r = match numL s.data.toList 0 with
    | some n => (n, 0)
    | none => (0, 1) := by rw [HR.out]; unfold numR; rw [if_neg c1, if_neg c2]
  have HX := Aside0.mk hx
  clear hx HR
  have c1' : 1 ≤ s.size := by omega
  have c2' : s.size ≤ 8 := by omega
  go_enter Tryd.func90, Tryd.ntmps90
  go_wp2
  have H0 : Aside0 (numL (s.data.toList.drop 0) 0 = numL s.data.toList 0) := ⟨rfl⟩
  go_loopw [4] (fun n w' => ∃ (pos : Nat) (acc : Int), w' = w.iter s pos ∧ n = .int .i64 acc ∧ Aside0 (numL (s.data.toList.drop pos) acc = numL s.data.toList 0) ∧ 0 ≤ acc ∧ acc < (16 ^ pos : Nat) ∧ pos ≤ s.size) (fun _ w' => s.size - w'.iterPos w.heap.size)
  case atStart => exact ⟨0, 0, rfl, rfl, H0, by omega, by decide, Nat.zero_le _⟩
  case round =>
    clear H0
    obtain ⟨pos, acc, rfl, rfl, HI, a0, a1, hp⟩ := hrel
    by_cases hlt : pos < s.size
    · have ab : acc < 268435456 := by
        have : (16 ^ pos : Nat) ≤ 16 ^ 7 := Nat.pow_le_pow_right (by decide) (by omega)
        have e : (16 ^ 7 : Nat) = 268435456 := by decide
        omega
      have hdrop : s.data.toList.drop pos = s[pos] :: s.data.toList.drop (pos + 1) := by
        rw [List.drop_eq_getElem_cons (by simpa using hlt)]; rfl
      have hpow : (16 ^ (pos + 1) : Nat) = 16 ^ pos * 16 := Nat.pow_succ ..
      by_cases hasc : (s[pos]).toNat < 128
      · have hnx : ∀ ty, (Instr.next (.pointer (some ⟨w.heap.size, 0, none⟩)) true ty).run Tryd.prog (w.iter s pos) = _ := fun ty => run_next_ascii w s pos ty hlt hasc
        obtain ⟨d, hd⟩ : ∃ d : Nat, (s[pos]).toNat = d := ⟨_, rfl⟩
        have HD := Aside0.mk hd
        have hit := HI.out
        rw [hdrop, numL, hd] at hit
        rw [hd] at hasc
        simp only [hd] at hnx
        clear hdrop hd HI
        by_cases d1 : 48 ≤ d ∧ d ≤ 57
        · rw [if_pos d1] at hit
          have HIT := Aside0.mk hit
          have HP := Aside0.mk hpow
          have A1 := Aside0.mk a1
          clear hit hpow a1
          obtain ⟨d1, d2⟩ := d1
          have oj := or_join acc ((d : Int) - 48) a0 (by omega) (by omega) (by omega)
          go_wp2
          go_roundw
          case rel => exact ⟨pos + 1, _, rfl, rfl, HIT, by omega, by have := A1.out; rw [HP.out]; omega, by omega⟩
          case measure => simp; omega
        · rw [if_neg d1] at hit
          by_cases d2 : 97 ≤ d ∧ d ≤ 102
          · rw [if_pos d2] at hit
            have HIT := Aside0.mk hit
            have HP := Aside0.mk hpow
            have A1 := Aside0.mk a1
            clear hit hpow a1
            obtain ⟨d2, d3⟩ := d2
            have d4 : ¬ d ≤ 57 := by omega
            have oj := or_join acc ((d : Int) - 97 + 10) a0 (by omega) (by omega) (by omega)
            go_wp2
            go_roundw
            case rel => exact ⟨pos + 1, _, rfl, rfl, by rw [show (d : Int) - 97 + 10 = (d : Int) - 87 by omega]; exact HIT, by omega, by have := A1.out; rw [HP.out]; omega, by omega⟩
            case measure => simp; omega
          · rw [if_neg d2] at hit
            have hx := HX.out
            rw [← hit] at hx
            subst hx
            clear hit HX hpow
            by_cases e1 : d < 48
            · go_wp2
              go_ret2
              exact ⟨rfl, below_iter w s _⟩
            · by_cases e2 : d < 97
              · have e3 : ¬ d ≤ 57 := by omega
                go_wp2
                go_ret2
                exact ⟨rfl, below_iter w s _⟩
              · have e3 : ¬ d ≤ 57 := by omega
                have e4 : ¬ d ≤ 102 := by omega
                go_wp2
                go_ret2
                exact ⟨rfl, below_iter w s _⟩
      · have hnx : ∀ ty, (Instr.next (.pointer (some ⟨w.heap.size, 0, none⟩)) true ty).run Tryd.prog (w.iter s pos) = _ := fun ty => run_next_any w s pos ty hlt
        have hh := (decode_high s pos hlt (by omega)).1
        have hit := HI.out
        rw [hdrop, numL, if_neg (by omega), if_neg (by omega)] at hit
        have hx := HX.out
        rw [← hit] at hx
        subst hx
        clear hit HX hpow hdrop HI hasc
        generalize (Utf8.decode s pos).1 = rn at hnx hh
        generalize (Utf8.decode s pos).2 = rw_ at hnx
        have e0 : (48 : Int) ≤ rn := by omega
        have e1 : ¬ rn ≤ 57 := by omega
        have e2 : (97 : Int) ≤ rn := by omega
        have e3 : ¬ rn ≤ 102 := by omega
        go_wp2
        go_ret2
        exact ⟨rfl, below_iter w s _⟩
    · have hnx : ∀ ty, (Instr.next (.pointer (some ⟨w.heap.size, 0, none⟩)) true ty).run Tryd.prog (w.iter s pos) = _ := fun ty => run_next_end w s pos ty hlt
      have hit := HI.out
      rw [List.drop_of_length_le (by have : s.data.toList.length = s.size := by simp
                                     omega), numL] at hit
      have hx := HX.out
      rw [← hit] at hx
      subst hx
      clear hit HX HI
      go_wp2
      go_ret2
      exact ⟨rfl, below_iter w s _⟩
end Go.Proofs.YtjedbamcjgabpaaDoor.Src
