/- (*tape.reader).byte: one byte, read: it, or what is wrong and where. -/
import Derived.Test.YtdibgdiiamcmfaaDoorTapeBit
import Derived.WideLaws
set_option linter.unusedVariables false
set_option linter.unusedSimpArgs false
namespace Go.Proofs.YtdibgdiiamcmfaaDoor.Reader
open Go.RowKit
open Go.Proofs.YtdibgdiiamcmfaaDoorW.PrintWords Go.Proofs.YtdibgdiiamcmfaaDoor.PTape

/-- What the next wave is: an error's number, or a bit. -/
def bitAt (r : List S37) : Except Int Bool := match r with
  | [] => .error 122
  | x :: _ => match bitVal x with
    | none => .error 120
    | some b => .ok b

def BitPost (A : Option Addr) (c : Nat) (l : List S37) (g i : Nat) (n0 : Nat) (w : World) (b : Except Int Bool) (e : Ending) (w' : World) : Prop :=
  Keeps n0 g w w' ∧ match b with
    | .error k => ∃ v, e = .returned (.tuple #[.bool false, v]) ∧ Fault k i v w'
    | .ok b => e = .returned (.tuple #[.bool b, .nilIface]) ∧ At A c l g ((i + 1 : Nat) : Int) w'

theorem bit_calls (A : Option Addr) (c : Nat) (l : List S37) (g : Nat) (i : Nat) (w0 w : World) (hr0 : Kd.C k37 w0 A l.length l) (hc0 : l.length ≤ c) (hB : Below w0.heap.size w0 w) (hn : w0.heap.size ≤ g) (hr : At A c l g i w) (hi : i ≤ l.length) :
    Calls Tryd.prog 33 #[.pointer (some ⟨g, 0, none⟩)] w (BitPost A c l g i w0.heap.size w (bitAt (l.drop i))) := by
  rcases Nat.lt_or_ge i l.length with h | h
  · have hx : l[i]? = some l[i] := List.getElem?_eq_getElem h
    rw [List.drop_eq_getElem_cons h]
    refine (bit_one A c l g i w0 w hr0 hc0 hB hn hr h _ hx).mono ?_
    rintro e w' ⟨hk, hm⟩
    refine ⟨hk, ?_⟩
    simp only [bitAt]
    cases hv : bitVal l[i] with
    | none => rw [hv] at hm; exact hm
    | some b => rw [hv] at hm; exact hm
  · obtain rfl : i = l.length := by omega
    rw [List.drop_length]
    refine (bit_end A c l g w0.heap.size w hr hn).mono ?_
    rintro e w' ⟨v, rfl, hf, hk⟩
    exact ⟨hk, v, rfl, hf⟩

/-- Ahead of a byte: the waves that are 0 are passed over. -/
def lead : List S37 → Nat → Except (Int × Int) Nat
  | [], i => .error (122, i)
  | x :: r, i => match bitVal x with
    | none => .error (120, i)
    | some true => .ok (i + 1)
    | some false => lead r (i + 1)

def put (b : Int) (k : Nat) : Int := bits BinOp.or IntKind.u8 b (2 ^ k % 256)
/-- A byte's nine bits. -/
def nine : Nat → List S37 → Nat → Int → Bool → Except (Int × Int) (Int × Nat)
  | 0, _, i, b, odd => if odd then .ok (b, i) else .error (121, (i : Int) - 1)
  | _ + 1, [], i, _, _ => .error (122, i)
  | n + 1, x :: r, i, b, odd => match bitVal x with
    | none => .error (120, i)
    | some true => nine n r (i + 1) (if 8 - n < 8 then put b (8 - n) else b) (!odd)
    | some false => nine n r (i + 1) b odd

def byteM (l : List S37) (i : Nat) : Except (Int × Int) (Int × Nat) := match lead (l.drop i) i with
  | .error e => .error e
  | .ok j => nine 9 (l.drop j) j 0 false

theorem lead_err {r : List S37} {k : Int} (h : bitAt r = .error k) (j : Nat) : lead r j = .error (k, j) := by
  cases r with
  | nil => simp only [bitAt] at h; cases h; rfl
  | cons x r => simp only [bitAt] at h; simp only [lead]; cases hv : bitVal x <;> rw [hv] at h <;> cases h; rfl
theorem lead_ok {r : List S37} {b : Bool} (h : bitAt r = .ok b) (j : Nat) : lead r j = if b then .ok (j + 1) else lead r.tail (j + 1) := by
  cases r with
  | nil => simp only [bitAt] at h; cases h
  | cons x r => simp only [bitAt] at h; simp only [lead]; cases hv : bitVal x <;> rw [hv] at h <;> cases h; cases b <;> rfl
theorem nine_err {r : List S37} {k : Int} (h : bitAt r = .error k) (n i : Nat) (b : Int) (o : Bool) : nine (n + 1) r i b o = .error (k, i) := by
  cases r with
  | nil => simp only [bitAt] at h; cases h; rfl
  | cons x r => simp only [bitAt] at h; simp only [nine]; cases hv : bitVal x <;> rw [hv] at h <;> cases h; rfl
theorem nine_ok {r : List S37} {y : Bool} (h : bitAt r = .ok y) (n i : Nat) (b : Int) (o : Bool) :
    nine (n + 1) r i b o = if y then nine n r.tail (i + 1) (if 8 - n < 8 then put b (8 - n) else b) (!o) else nine n r.tail (i + 1) b o := by
  cases r with
  | nil => simp only [bitAt] at h; cases h
  | cons x r => simp only [bitAt] at h; simp only [nine]; cases hv : bitVal x <;> rw [hv] at h <;> cases h; cases y <;> rfl
theorem tail_drop' (l : List S37) (j : Nat) : (l.drop j).tail = l.drop (j + 1) := by rw [List.tail_drop]
theorem bit_lt {l : List S37} {j : Nat} {b : Bool} (h : bitAt (l.drop j) = .ok b) : j < l.length := by
  rcases Nat.lt_or_ge j l.length with h2 | h2
  · exact h2
  · rw [List.drop_eq_nil_of_le h2] at h; cases h

def BytePost (A : Option Addr) (c : Nat) (l : List S37) (g : Nat) (n0 : Nat) (w : World) (b : Except (Int × Int) (Int × Nat)) (e : Ending) (w' : World) : Prop :=
  Keeps n0 g w w' ∧ match b with
    | .error (k, i) => ∃ v, e = .returned (.tuple #[.int .u8 0, v]) ∧ Fault k i v w'
    | .ok (x, j) => e = .returned (.tuple #[.int .u8 x, .nilIface]) ∧ At A c l g j w' ∧ j ≤ l.length

set_option maxRecDepth 100000 in
set_option maxHeartbeats 4000000 in
theorem byte_calls (A : Option Addr) (c : Nat) (l : List S37) (g : Nat) (i : Nat) (w0 w : World) (hr0 : Kd.C k37 w0 A l.length l) (hc0 : l.length ≤ c) (hB : Below w0.heap.size w0 w) (hn : w0.heap.size ≤ g) (hr : At A c l g i w) (hi : i ≤ l.length) (R : Except (Int × Int) (Int × Nat)) (hR : byteM l i = R) :
    Calls Tryd.prog 27 #[.pointer (some ⟨g, 0, none⟩)] w (BytePost A c l g w0.heap.size w R) := by
  have HR0 := Lib.hid hr0
  have HB := Lib.hid hB
  have HR := Lib.hid hr
  have HF := Lib.hid hR
  have hb0 := hB.size
  clear hr0 hB hr hR
  go_enter Tryd.func27, Tryd.ntmps27
  go_wp2
  go_loopg [4, 5] (l.length - i) (fun gk v4 v5 wr => ∃ j : Nat, j + gk = l.length ∧ Aside0 (Keeps w0.heap.size g w wr) ∧ Aside0 (At A c l g j wr) ∧ Aside0 (lead (l.drop i) i = lead (l.drop j) j))
  case atStart => exact ⟨i, by omega, ⟨Keeps.refl _ hb0⟩, ⟨HR.out⟩, ⟨rfl⟩⟩
  case round =>
    obtain ⟨j, hj, HK, HA, HL⟩ := hrel
    have HC := Lib.hid (bit_calls A c l g j w0 wr HR0.out hc0 (HB.out.trans HK.out.2.1) hn HA.out (by omega))
    have HJ := Lib.hid hj
    have hjl : j ≤ l.length := by omega
    clear hj
    cases hx : bitAt (l.drop j) with
    | error k =>
      rw [hx] at HC
      have HX := Lib.hid hx
      clear hx
      go_wp2_with (go_at_call 33; refine HC.out.mono ?_; rintro e w' ⟨hK2, v, rfl, q, rfl, hq⟩; have HK2 := Lib.hid hK2; have HQ := Lib.hid hq; clear hK2 hq)
      go_ret2
      have hfin : R = .error (k, (j : Int)) := by
        rw [← HF.out, byteM, HL.out, lead_err HX.out]
      rw [hfin]
      exact ⟨HK.out.trans HK2.out, _, rfl, q, rfl, HQ.out⟩
    | ok b =>
      rw [hx] at HC
      have HX := Lib.hid hx
      clear hx
      cases b with
      | false =>
        have hlt := bit_lt HX.out
        go_wp2_with (go_at_call 33; refine HC.out.mono ?_; rintro e w' ⟨hK2, rfl, hA2⟩; have HK2 := Lib.hid hK2; have HA2 := Lib.hid hA2; clear hK2 hA2)
        obtain ⟨gk, rfl⟩ : ∃ m, gk = m + 1 := ⟨gk - 1, by have := HJ.out; omega⟩
        go_roundg gk
        case measure => omega
        case rel => exact ⟨j + 1, by have := HJ.out; omega, ⟨HK.out.trans HK2.out⟩, ⟨HA2.out⟩, ⟨by rw [HL.out, lead_ok HX.out, tail_drop']; rfl⟩⟩
      | true =>
        go_wp2_with (go_at_call 33; refine HC.out.mono ?_; rintro e w' ⟨hK2, rfl, hA2⟩; have HK2 := Lib.hid hK2; have HA2 := Lib.hid hA2; clear hK2 hA2)
        have hjl2 : j + 1 ≤ l.length := by
          rcases Nat.lt_or_ge j l.length with h | h
          · omega
          · exfalso; have h2 := HX.out; rw [List.drop_eq_nil_of_le h] at h2; cases h2
        have HLJ : Hid (lead (l.drop j) j = .ok (j + 1)) := Lib.hid (lead_ok HX.out j)
        clear HC HX
        go_loopg [6, 7, 8, 9, 10, 20] 9 (fun gk v6 v7 v8 v9 v10 v20 wr2 => ∃ (m : Nat) (b : Int) (odd : Bool), gk ≤ 9 ∧ m ≤ l.length ∧ v20 = .int .i64 ((9 - gk : Nat) : Int) ∧ v6 = .int .u8 b ∧ v7 = .bool odd ∧ Aside0 (Keeps w0.heap.size g w wr2) ∧ Aside0 (At A c l g m wr2) ∧ Aside0 (nine gk (l.drop m) m b odd = nine 9 (l.drop (j + 1)) (j + 1) 0 false))
        case atStart => exact ⟨j + 1, 0, false, by omega, by omega, rfl, rfl, rfl, ⟨HK.out.trans HK2.out⟩, ⟨HA2.out⟩, ⟨rfl⟩⟩
        case round =>
          obtain ⟨m, b, odd, hg9, hml, rfl, rfl, rfl, HK3, HA3, HN3⟩ := hrel
          have HC := Lib.hid (bit_calls A c l g m w0 wr HR0.out hc0 (HB.out.trans HK3.out.2.1) hn HA3.out (by omega))
          have HLL : Hid (byteM l i = nine gk (l.drop m) m b odd) := Lib.hid (by
            rw [byteM, HL.out, HLJ.out]; exact HN3.out.symm)
          cases gk with
          | zero =>
            clear HC
            have hA3 := HA3.out
            have hg0 : wr.cell? ⟨g, 0, none⟩ = some (.slice A l.length c) := (blk_cell hA3 0).trans rfl
            have hg1 : wr.cell? ⟨g, 1, none⟩ = some (.int .i64 m) := (blk_cell hA3 1).trans rfl
            have hgl := blk_lt hA3
            have hm1 : l.length ≤ 9223372036854775807 := HR0.out.2.1
            have hk9 : ((9 - 0 : Nat) : Int) = 9 := rfl
            rw [hk9]
            clear hk9 hA3
            cases odd with
            | true =>
              have hfin : R = .ok (b, m) := by rw [← HF.out, HLL.out]; rfl
              have HFIN := Lib.hid hfin
              clear hfin
              go_wp2
              go_ret2
              rw [HFIN.out]
              exact ⟨HK3.out, rfl, HA3.out, hml⟩
            | false =>
              have hfin : R = .error (121, (m : Int) - 1) := by rw [← HF.out, HLL.out]; rfl
              have HFIN := Lib.hid hfin
              clear hfin
              go_wp2
              go_region
              all_goals
                go_wp2
                go_ret2
                rw [HFIN.out]
                refine ⟨HK3.out.trans ?_, _, rfl, _, rfl, ?_⟩
                · (repeat (first | exact Keeps.refl _ (by omega) | apply Keeps.drew | apply Keeps.alloc))
                · exact World.alloc_heap_new wr _
          | succ gk =>
            obtain ⟨k, hk⟩ : ∃ k : Nat, k = 8 - gk := ⟨_, rfl⟩
            have hk2 : ((9 - (gk + 1) : Nat) : Int) = (k : Int) := by omega
            have hk4 : ((9 - gk : Nat) : Int) = (k : Int) + 1 := by omega
            rw [hk2]
            have hk3 : k ≤ 8 := by omega
            have HKK := Lib.hid hk
            have HK4 := Lib.hid hk4
            clear hk hk2 hk4
            cases hx : bitAt (l.drop m) with
            | error kk =>
              rw [hx] at HC
              have HX := Lib.hid hx
              clear hx
              go_wp2_with (go_at_call 33; refine HC.out.mono ?_; rintro e w' ⟨hK2, v, rfl, q, rfl, hq⟩; have HK2 := Lib.hid hK2; have HQ := Lib.hid hq; clear hK2 hq)
              go_ret2
              have hfin : R = .error (kk, (m : Int)) := by
                rw [← HF.out, HLL.out, nine_err HX.out]
              rw [hfin]
              exact ⟨HK3.out.trans HK2.out, _, rfl, q, rfl, HQ.out⟩
            | ok bb =>
              rw [hx] at HC
              have HX := Lib.hid hx
              have hml2 := bit_lt hx
              clear hx
              cases bb with
              | false =>
                go_wp2_with (go_at_call 33; refine HC.out.mono ?_; rintro e w' ⟨hK2, rfl, hA2⟩; have HK2 := Lib.hid hK2; have HA2 := Lib.hid hA2; clear hK2 hA2)
                go_roundg gk
                case measure => omega
                case rel => exact ⟨m + 1, b, odd, by omega, by omega, by rw [HK4.out], rfl, rfl, ⟨HK3.out.trans HK2.out⟩, ⟨HA2.out⟩, ⟨by rw [← HN3.out, nine_ok HX.out, tail_drop']; rfl⟩⟩
              | true =>
                by_cases h8 : k < 8
                · go_wp2_with (go_at_call 33; refine HC.out.mono ?_; rintro e w' ⟨hK2, rfl, hA2⟩; have HK2 := Lib.hid hK2; have HA2 := Lib.hid hA2; clear hK2 hA2)
                  go_roundg gk
                  case measure => omega
                  case rel => exact ⟨m + 1, put b k, !odd, by omega, by omega, by rw [HK4.out], rfl, rfl, ⟨HK3.out.trans HK2.out⟩, ⟨HA2.out⟩, ⟨by rw [← HN3.out, nine_ok HX.out, tail_drop', ← HKK.out, if_pos h8]; rfl⟩⟩
                · go_wp2_with (go_at_call 33; refine HC.out.mono ?_; rintro e w' ⟨hK2, rfl, hA2⟩; have HK2 := Lib.hid hK2; have HA2 := Lib.hid hA2; clear hK2 hA2)
                  go_roundg gk
                  case measure => omega
                  case rel => exact ⟨m + 1, b, !odd, by omega, by omega, by rw [HK4.out], rfl, rfl, ⟨HK3.out.trans HK2.out⟩, ⟨HA2.out⟩, ⟨by rw [← HN3.out, nine_ok HX.out, tail_drop', ← HKK.out, if_neg h8]; rfl⟩⟩
end Go.Proofs.YtdibgdiiamcmfaaDoor.Reader
