/- bits.Hex at one, two and four digits. Printed by a program of this session. -/
import Derived.Test.YtjedbamcjgabpaaDoorPSox0
import Derived.Laws.MakeOwn
import Derived.Laws.BitsLemmas
import Derived.WalkKit
set_option linter.unusedVariables false
set_option linter.unusedSimpArgs false
namespace Go.Proofs.YtjedbamcjgabpaaDoor.Src
open Go Go.RowKit
open Go.Proofs.YtjedbamcjgabpaaDoorW.PrintWords

def hexD (d : Int) : Int := if d < 10 then 48 + d else 87 + d
theorem digit_fin : ∀ i : Fin 16, ((#[48, 49, 50, 51, 52, 53, 54, 55, 56, 57, 97, 98, 99, 100, 101, 102] : Array UInt8)[i.val]'(i.isLt)).toNat = hexD (i.val : Int) := by decide +kernel
theorem digit_of (x : Int) : ∀ (h : (x % 16).toNat < (⟨#[48, 49, 50, 51, 52, 53, 54, 55, 56, 57, 97, 98, 99, 100, 101, 102]⟩ : ByteArray).size), (((⟨#[48, 49, 50, 51, 52, 53, 54, 55, 56, 57, 97, 98, 99, 100, 101, 102]⟩ : ByteArray)[(x % 16).toNat]).toNat : Int) = hexD (x % 16) := by
 intro h
 have h16 : (⟨#[48, 49, 50, 51, 52, 53, 54, 55, 56, 57, 97, 98, 99, 100, 101, 102]⟩ : ByteArray).size = 16 := rfl
 obtain ⟨d, hd⟩ : ∃ d : Nat, x % 16 = d := ⟨(x % 16).toNat, by omega⟩
 simp only [hd, Int.toNat_natCast] at h ⊢
 exact digit_fin ⟨d, by omega⟩
theorem and15 (x : Int) (h0 : 0 ≤ x) (h1 : x < 65536) : Go.bits .and .i64 x 15 = x % 16 := bits_mask .i64 20 (by decide) (fun n a b => by rw [IntKind.wrap_i64]; omega) 4 (by decide) x h0 (by omega)

theorem info5 : (Tryd.prog.info? 5).map (fun i => (i.zero, i.size, i.bytes)) = some (some (.int .u8 0), 1, 1) := by kernel_rfl
def R8 (w : World) (b : Nat) (v : Value) (l : List Int) : Prop := (Kd.int .u8).R 5 w b (fun _ => True) v l

theorem elem8 {w : World} {b0 g cap : Nat} {l : List Int} (h : R8 w b0 (.slice (some ⟨g, 0, none⟩) l.length cap) l) (i : Nat) (hi : i < l.length) (p : Int) :
 (∃ u, w.cell? ⟨g, i, none⟩ = some (.int .u8 u)) ∧ w.frozen? ⟨g, i, none⟩ = false ∧
 R8 (w.setCell ⟨g, i, none⟩ (.int .u8 p)) b0 (.slice (some ⟨g, 0, none⟩) l.length cap) (l.set i p) ∧ w.grownBy (w.setCell ⟨g, i, none⟩ (.int .u8 p)) (some g) := by
 obtain ⟨q0, f0⟩ := Kd.R_cell (0 : Int) h (i : Int) (by omega) (by omega)
 obtain ⟨hS, hG⟩ := Kd.R_put h (i : Int) p
 simp only [Int.toNat_natCast] at q0 f0 hS hG
 exact ⟨⟨_, q0⟩, f0, hS, hG⟩

theorem make_u8 (w : World) (n : Nat) (hn : n ≤ 1000000000000) : (Instr.makeSlice 41 (.int .i64 (n : Int)) (.int .i64 (n : Int))).run Tryd.prog w = .ok (.slice (some ⟨w.heap.size, 0, none⟩) n n) (w.alloc (.cells (madeCells (Value.int .u8 0).cells (n * 1)) 5)) := by
 obtain ⟨i0, hi, hzz⟩ := Option.map_eq_some_iff.1 info5
 simp only [Prod.mk.injEq] at hzz
 obtain ⟨hz0, hz1, hz2⟩ := hzz
 have h := run_make (P := Tryd.prog) (w := w) 41 5 i0 _ Tryd.underlying41 hi hz0 .i64 .i64 (n : Int) (n : Int) (by omega) (Int.le_refl _) (by rw [hz2]; omega) (by omega)
 rw [hz1, Int.toNat_natCast] at h
 exact h

theorem made_row (w : World) (n : Nat) (hn : n ≤ 1000000000000) : R8 (w.alloc (.cells (madeCells (Value.int .u8 0).cells (n * 1)) 5)) w.heap.size (.slice (some ⟨w.heap.size, 0, none⟩) n n) (List.replicate n 0) := by
 refine ⟨fun _ _ => trivial, (madeCells (Value.int .u8 0).cells (n * 1)).toList, ⟨by simp [size_madeCells, Kd.int, Kd.scalar], .inr ⟨w.heap.size, n, _, by simp, Nat.le_refl _, heap_alloc_new w _, by simp, by simp only [maxLen]; omega, by simp [size_madeCells, Kd.int, Kd.scalar], ?_⟩⟩, ?_⟩
 ·rw [List.take_of_length_le (by simp [size_madeCells, Kd.int, Kd.scalar])]
 ·exact Kd.reps_made (R := fun (x : Int) (cs : List Value) => cs = [Value.int .u8 x]) (z := .int .u8 0) (size := 1) (z0 := 0) rfl (Nat.lt_succ_self 0) rfl n

def hexS1 (n : Int) : ByteArray := strOfNums [hexD ((n) % 16)]
def HexRel1 (n : Int) (w : World) (s0 s28 : Value) (wr : World) : Prop := (s0 = .int .i64 (n) ∧ s28 = .int .i64 0 ∧ Aside0 (R8 wr w.heap.size (.slice (some ⟨w.heap.size, 0, none⟩) 1 1) [0] ∧ Below w.heap.size w wr)) ∨ (s0 = .int .i64 (n / 16) ∧ s28 = .int .i64 1 ∧ Aside0 (R8 wr w.heap.size (.slice (some ⟨w.heap.size, 0, none⟩) 1 1) [hexD ((n) % 16)] ∧ Below w.heap.size w wr))
set_option maxRecDepth 100000 in
set_option maxHeartbeats 4000000 in
theorem hex1 (n : Int) (h0 : 0 ≤ n) (hn : n < 16) (w : World) : Calls Tryd.prog 41 #[.int .i64 n, .int .i64 1] w fun e w' => e = .returned (.string (hexS1 n)) ∧ Below w.heap.size w w' := by
 have hm : (Instr.makeSlice 41 (.int .i64 1) (.int .i64 1)).run Tryd.prog w = .ok (.slice (some ⟨w.heap.size, 0, none⟩) 1 1) (w.alloc (.cells (madeCells (Value.int .u8 0).cells (1 * 1)) 5)) := make_u8 w 1 (by omega)
 have HR : Aside0 (R8 (w.alloc (.cells (madeCells (Value.int .u8 0).cells (1 * 1)) 5)) w.heap.size (.slice (some ⟨w.heap.size, 0, none⟩) 1 1) [0] ∧ Below w.heap.size w (w.alloc (.cells (madeCells (Value.int .u8 0).cells (1 * 1)) 5))) := ⟨made_row w 1 (by omega), below_alloc (Below.refl w.heap.size w) _⟩
 generalize w.alloc (.cells (madeCells (Value.int .u8 0).cells (1 * 1)) 5) = W at hm HR
 go_enter Tryd.func41, Tryd.ntmps41
 go_wp2
 clear hm
 go_loopw [0, 6, 28] (fun s0 _ s28 wr => HexRel1 n w s0 s28 wr) (fun _ _ s28 _ => 1 - (RowKit.intOf s28).toNat)
 case atStart => exact .inl ⟨rfl, rfl, HR⟩
 case round =>
  clear HR
  rcases hrel with ⟨rfl, rfl, HP⟩ | ⟨rfl, rfl, HP⟩
  ·obtain ⟨⟨u, q⟩, f, hS, hG⟩ := elem8 HP.out.1 0 (by simp) (hexD ((n) % 16))
   have HN : Aside0 (R8 (wr.setCell ⟨w.heap.size, 0, none⟩ (.int .u8 (hexD ((n) % 16)))) w.heap.size (.slice (some ⟨w.heap.size, 0, none⟩) 1 1) [hexD ((n) % 16)] ∧ Below w.heap.size w (wr.setCell ⟨w.heap.size, 0, none⟩ (.int .u8 (hexD ((n) % 16))))) := ⟨hS, HP.out.2.grown hG HP.out.2.size (fun k hk => by cases hk; exact Nat.le_refl _)⟩
   clear hS hG HP
   have y0 : 0 ≤ n := by omega
   have y1 : n < 65536 := by omega
   have a0 := and15 (n) y0 y1
   have z0 : 0 ≤ (n) % 16 := by omega
   have z1 : (n) % 16 < 16 := by omega
   have dg := digit_of (n)
   go_wp2
   go_roundw
   case rel => exact .inr (⟨rfl, rfl, HN⟩)
   case measure => simp [RowKit.intOf]
  ·have e1 := own_string (P := Tryd.prog) Tryd.underlying41 Tryd.underlying5 Tryd.underlying9 (Kd.own_of_R HP.out.1)
   go_wp2
   go_ret
   exact ⟨rfl, HP.out.2⟩

def hexS2 (n : Int) : ByteArray := strOfNums [hexD ((n / 16) % 16), hexD ((n) % 16)]
def HexRel2 (n : Int) (w : World) (s0 s28 : Value) (wr : World) : Prop := (s0 = .int .i64 (n) ∧ s28 = .int .i64 0 ∧ Aside0 (R8 wr w.heap.size (.slice (some ⟨w.heap.size, 0, none⟩) 2 2) [0, 0] ∧ Below w.heap.size w wr)) ∨ (s0 = .int .i64 (n / 16) ∧ s28 = .int .i64 1 ∧ Aside0 (R8 wr w.heap.size (.slice (some ⟨w.heap.size, 0, none⟩) 2 2) [0, hexD ((n) % 16)] ∧ Below w.heap.size w wr)) ∨ (s0 = .int .i64 (n / 16 / 16) ∧ s28 = .int .i64 2 ∧ Aside0 (R8 wr w.heap.size (.slice (some ⟨w.heap.size, 0, none⟩) 2 2) [hexD ((n / 16) % 16), hexD ((n) % 16)] ∧ Below w.heap.size w wr))
set_option maxRecDepth 100000 in
set_option maxHeartbeats 4000000 in
theorem hex2 (n : Int) (h0 : 0 ≤ n) (hn : n < 256) (w : World) : Calls Tryd.prog 41 #[.int .i64 n, .int .i64 2] w fun e w' => e = .returned (.string (hexS2 n)) ∧ Below w.heap.size w w' := by
 have hm : (Instr.makeSlice 41 (.int .i64 2) (.int .i64 2)).run Tryd.prog w = .ok (.slice (some ⟨w.heap.size, 0, none⟩) 2 2) (w.alloc (.cells (madeCells (Value.int .u8 0).cells (2 * 1)) 5)) := make_u8 w 2 (by omega)
 have HR : Aside0 (R8 (w.alloc (.cells (madeCells (Value.int .u8 0).cells (2 * 1)) 5)) w.heap.size (.slice (some ⟨w.heap.size, 0, none⟩) 2 2) [0, 0] ∧ Below w.heap.size w (w.alloc (.cells (madeCells (Value.int .u8 0).cells (2 * 1)) 5))) := ⟨made_row w 2 (by omega), below_alloc (Below.refl w.heap.size w) _⟩
 generalize w.alloc (.cells (madeCells (Value.int .u8 0).cells (2 * 1)) 5) = W at hm HR
 go_enter Tryd.func41, Tryd.ntmps41
 go_wp2
 clear hm
 go_loopw [0, 6, 28] (fun s0 _ s28 wr => HexRel2 n w s0 s28 wr) (fun _ _ s28 _ => 2 - (RowKit.intOf s28).toNat)
 case atStart => exact .inl ⟨rfl, rfl, HR⟩
 case round =>
  clear HR
  rcases hrel with ⟨rfl, rfl, HP⟩ | ⟨rfl, rfl, HP⟩ | ⟨rfl, rfl, HP⟩
  ·obtain ⟨⟨u, q⟩, f, hS, hG⟩ := elem8 HP.out.1 1 (by simp) (hexD ((n) % 16))
   have HN : Aside0 (R8 (wr.setCell ⟨w.heap.size, 1, none⟩ (.int .u8 (hexD ((n) % 16)))) w.heap.size (.slice (some ⟨w.heap.size, 0, none⟩) 2 2) [0, hexD ((n) % 16)] ∧ Below w.heap.size w (wr.setCell ⟨w.heap.size, 1, none⟩ (.int .u8 (hexD ((n) % 16))))) := ⟨hS, HP.out.2.grown hG HP.out.2.size (fun k hk => by cases hk; exact Nat.le_refl _)⟩
   clear hS hG HP
   have y0 : 0 ≤ n := by omega
   have y1 : n < 65536 := by omega
   have a0 := and15 (n) y0 y1
   have z0 : 0 ≤ (n) % 16 := by omega
   have z1 : (n) % 16 < 16 := by omega
   have dg := digit_of (n)
   go_wp2
   go_roundw
   case rel => exact .inr (.inl ⟨rfl, rfl, HN⟩)
   case measure => simp [RowKit.intOf]
  ·obtain ⟨⟨u, q⟩, f, hS, hG⟩ := elem8 HP.out.1 0 (by simp) (hexD ((n / 16) % 16))
   have HN : Aside0 (R8 (wr.setCell ⟨w.heap.size, 0, none⟩ (.int .u8 (hexD ((n / 16) % 16)))) w.heap.size (.slice (some ⟨w.heap.size, 0, none⟩) 2 2) [hexD ((n / 16) % 16), hexD ((n) % 16)] ∧ Below w.heap.size w (wr.setCell ⟨w.heap.size, 0, none⟩ (.int .u8 (hexD ((n / 16) % 16))))) := ⟨hS, HP.out.2.grown hG HP.out.2.size (fun k hk => by cases hk; exact Nat.le_refl _)⟩
   clear hS hG HP
   have y0 : 0 ≤ n / 16 := by omega
   have y1 : n / 16 < 65536 := by omega
   have a0 := and15 (n / 16) y0 y1
   have z0 : 0 ≤ (n / 16) % 16 := by omega
   have z1 : (n / 16) % 16 < 16 := by omega
   have dg := digit_of (n / 16)
   go_wp2
   go_roundw
   case rel => exact .inr (.inr (⟨rfl, rfl, HN⟩))
   case measure => simp [RowKit.intOf]
  ·have e1 := own_string (P := Tryd.prog) Tryd.underlying41 Tryd.underlying5 Tryd.underlying9 (Kd.own_of_R HP.out.1)
   go_wp2
   go_ret
   exact ⟨rfl, HP.out.2⟩

def hexS4 (n : Int) : ByteArray := strOfNums [hexD ((n / 16 / 16 / 16) % 16), hexD ((n / 16 / 16) % 16), hexD ((n / 16) % 16), hexD ((n) % 16)]
def HexRel4 (n : Int) (w : World) (s0 s28 : Value) (wr : World) : Prop := (s0 = .int .i64 (n) ∧ s28 = .int .i64 0 ∧ Aside0 (R8 wr w.heap.size (.slice (some ⟨w.heap.size, 0, none⟩) 4 4) [0, 0, 0, 0] ∧ Below w.heap.size w wr)) ∨ (s0 = .int .i64 (n / 16) ∧ s28 = .int .i64 1 ∧ Aside0 (R8 wr w.heap.size (.slice (some ⟨w.heap.size, 0, none⟩) 4 4) [0, 0, 0, hexD ((n) % 16)] ∧ Below w.heap.size w wr)) ∨ (s0 = .int .i64 (n / 16 / 16) ∧ s28 = .int .i64 2 ∧ Aside0 (R8 wr w.heap.size (.slice (some ⟨w.heap.size, 0, none⟩) 4 4) [0, 0, hexD ((n / 16) % 16), hexD ((n) % 16)] ∧ Below w.heap.size w wr)) ∨ (s0 = .int .i64 (n / 16 / 16 / 16) ∧ s28 = .int .i64 3 ∧ Aside0 (R8 wr w.heap.size (.slice (some ⟨w.heap.size, 0, none⟩) 4 4) [0, hexD ((n / 16 / 16) % 16), hexD ((n / 16) % 16), hexD ((n) % 16)] ∧ Below w.heap.size w wr)) ∨ (s0 = .int .i64 (n / 16 / 16 / 16 / 16) ∧ s28 = .int .i64 4 ∧ Aside0 (R8 wr w.heap.size (.slice (some ⟨w.heap.size, 0, none⟩) 4 4) [hexD ((n / 16 / 16 / 16) % 16), hexD ((n / 16 / 16) % 16), hexD ((n / 16) % 16), hexD ((n) % 16)] ∧ Below w.heap.size w wr))
set_option maxRecDepth 100000 in
set_option maxHeartbeats 4000000 in
theorem hex4 (n : Int) (h0 : 0 ≤ n) (hn : n < 65536) (w : World) : Calls Tryd.prog 41 #[.int .i64 n, .int .i64 4] w fun e w' => e = .returned (.string (hexS4 n)) ∧ Below w.heap.size w w' := by
 have hm : (Instr.makeSlice 41 (.int .i64 4) (.int .i64 4)).run Tryd.prog w = .ok (.slice (some ⟨w.heap.size, 0, none⟩) 4 4) (w.alloc (.cells (madeCells (Value.int .u8 0).cells (4 * 1)) 5)) := make_u8 w 4 (by omega)
 have HR : Aside0 (R8 (w.alloc (.cells (madeCells (Value.int .u8 0).cells (4 * 1)) 5)) w.heap.size (.slice (some ⟨w.heap.size, 0, none⟩) 4 4) [0, 0, 0, 0] ∧ Below w.heap.size w (w.alloc (.cells (madeCells (Value.int .u8 0).cells (4 * 1)) 5))) := ⟨made_row w 4 (by omega), below_alloc (Below.refl w.heap.size w) _⟩
 generalize w.alloc (.cells (madeCells (Value.int .u8 0).cells (4 * 1)) 5) = W at hm HR
 go_enter Tryd.func41, Tryd.ntmps41
 go_wp2
 clear hm
 go_loopw [0, 6, 28] (fun s0 _ s28 wr => HexRel4 n w s0 s28 wr) (fun _ _ s28 _ => 4 - (RowKit.intOf s28).toNat)
 case atStart => exact .inl ⟨rfl, rfl, HR⟩
 case round =>
  clear HR
  rcases hrel with ⟨rfl, rfl, HP⟩ | ⟨rfl, rfl, HP⟩ | ⟨rfl, rfl, HP⟩ | ⟨rfl, rfl, HP⟩ | ⟨rfl, rfl, HP⟩
  ·obtain ⟨⟨u, q⟩, f, hS, hG⟩ := elem8 HP.out.1 3 (by simp) (hexD ((n) % 16))
   have HN : Aside0 (R8 (wr.setCell ⟨w.heap.size, 3, none⟩ (.int .u8 (hexD ((n) % 16)))) w.heap.size (.slice (some ⟨w.heap.size, 0, none⟩) 4 4) [0, 0, 0, hexD ((n) % 16)] ∧ Below w.heap.size w (wr.setCell ⟨w.heap.size, 3, none⟩ (.int .u8 (hexD ((n) % 16))))) := ⟨hS, HP.out.2.grown hG HP.out.2.size (fun k hk => by cases hk; exact Nat.le_refl _)⟩
   clear hS hG HP
   have y0 : 0 ≤ n := by omega
   have y1 : n < 65536 := by omega
   have a0 := and15 (n) y0 y1
   have z0 : 0 ≤ (n) % 16 := by omega
   have z1 : (n) % 16 < 16 := by omega
   have dg := digit_of (n)
   go_wp2
   go_roundw
   case rel => exact .inr (.inl ⟨rfl, rfl, HN⟩)
   case measure => simp [RowKit.intOf]
  ·obtain ⟨⟨u, q⟩, f, hS, hG⟩ := elem8 HP.out.1 2 (by simp) (hexD ((n / 16) % 16))
   have HN : Aside0 (R8 (wr.setCell ⟨w.heap.size, 2, none⟩ (.int .u8 (hexD ((n / 16) % 16)))) w.heap.size (.slice (some ⟨w.heap.size, 0, none⟩) 4 4) [0, 0, hexD ((n / 16) % 16), hexD ((n) % 16)] ∧ Below w.heap.size w (wr.setCell ⟨w.heap.size, 2, none⟩ (.int .u8 (hexD ((n / 16) % 16))))) := ⟨hS, HP.out.2.grown hG HP.out.2.size (fun k hk => by cases hk; exact Nat.le_refl _)⟩
   clear hS hG HP
   have y0 : 0 ≤ n / 16 := by omega
   have y1 : n / 16 < 65536 := by omega
   have a0 := and15 (n / 16) y0 y1
   have z0 : 0 ≤ (n / 16) % 16 := by omega
   have z1 : (n / 16) % 16 < 16 := by omega
   have dg := digit_of (n / 16)
   go_wp2
   go_roundw
   case rel => exact .inr (.inr (.inl ⟨rfl, rfl, HN⟩))
   case measure => simp [RowKit.intOf]
  ·obtain ⟨⟨u, q⟩, f, hS, hG⟩ := elem8 HP.out.1 1 (by simp) (hexD ((n / 16 / 16) % 16))
   have HN : Aside0 (R8 (wr.setCell ⟨w.heap.size, 1, none⟩ (.int .u8 (hexD ((n / 16 / 16) % 16)))) w.heap.size (.slice (some ⟨w.heap.size, 0, none⟩) 4 4) [0, hexD ((n / 16 / 16) % 16), hexD ((n / 16) % 16), hexD ((n) % 16)] ∧ Below w.heap.size w (wr.setCell ⟨w.heap.size, 1, none⟩ (.int .u8 (hexD ((n / 16 / 16) % 16))))) := ⟨hS, HP.out.2.grown hG HP.out.2.size (fun k hk => by cases hk; exact Nat.le_refl _)⟩
   clear hS hG HP
   have y0 : 0 ≤ n / 16 / 16 := by omega
   have y1 : n / 16 / 16 < 65536 := by omega
   have a0 := and15 (n / 16 / 16) y0 y1
   have z0 : 0 ≤ (n / 16 / 16) % 16 := by omega
   have z1 : (n / 16 / 16) % 16 < 16 := by omega
   have dg := digit_of (n / 16 / 16)
   go_wp2
   go_roundw
   case rel => exact .inr (.inr (.inr (.inl ⟨rfl, rfl, HN⟩)))
   case measure => simp [RowKit.intOf]
  ·obtain ⟨⟨u, q⟩, f, hS, hG⟩ := elem8 HP.out.1 0 (by simp) (hexD ((n / 16 / 16 / 16) % 16))
   have HN : Aside0 (R8 (wr.setCell ⟨w.heap.size, 0, none⟩ (.int .u8 (hexD ((n / 16 / 16 / 16) % 16)))) w.heap.size (.slice (some ⟨w.heap.size, 0, none⟩) 4 4) [hexD ((n / 16 / 16 / 16) % 16), hexD ((n / 16 / 16) % 16), hexD ((n / 16) % 16), hexD ((n) % 16)] ∧ Below w.heap.size w (wr.setCell ⟨w.heap.size, 0, none⟩ (.int .u8 (hexD ((n / 16 / 16 / 16) % 16))))) := ⟨hS, HP.out.2.grown hG HP.out.2.size (fun k hk => by cases hk; exact Nat.le_refl _)⟩
   clear hS hG HP
   have y0 : 0 ≤ n / 16 / 16 / 16 := by omega
   have y1 : n / 16 / 16 / 16 < 65536 := by omega
   have a0 := and15 (n / 16 / 16 / 16) y0 y1
   have z0 : 0 ≤ (n / 16 / 16 / 16) % 16 := by omega
   have z1 : (n / 16 / 16 / 16) % 16 < 16 := by omega
   have dg := digit_of (n / 16 / 16 / 16)
   go_wp2
   go_roundw
   case rel => exact .inr (.inr (.inr (.inr (⟨rfl, rfl, HN⟩))))
   case measure => simp [RowKit.intOf]
  ·have e1 := own_string (P := Tryd.prog) Tryd.underlying41 Tryd.underlying5 Tryd.underlying9 (Kd.own_of_R HP.out.1)
   go_wp2
   go_ret
   exact ⟨rfl, HP.out.2⟩

end Go.Proofs.YtjedbamcjgabpaaDoor.Src
namespace Go.Proofs.YtjedbamcjgabpaaDoor.PSo
open Go Go.RowKit
open Go.Proofs.YtjedbamcjgabpaaDoorW.PrintWords
open Go.Proofs.YtjedbamcjgabpaaDoor.Src
def bits_Hex.f (a0 a1 : Int) : Option ByteArray := if 0 ≤ a0 then (if a1 = 2 then (if a0 < 256 then some (hexS2 a0) else none) else if a1 = 4 then (if a0 < 65536 then some (hexS4 a0) else none) else if a1 = 1 then (if a0 < 16 then some (hexS1 a0) else none) else none) else none
theorem bits_Hex.calls (a0 a1 : Int) (r : ByteArray) (w : World) (h : bits_Hex.f a0 a1 = some r) :
 Calls Tryd.prog 41 #[.int .i64 a0, .int .i64 a1] w fun e w' => e = .returned (.string r) ∧ Below w.heap.size w w' := by
 unfold bits_Hex.f at h
 by_cases h0 : 0 ≤ a0
 ·rw [if_pos h0] at h
  by_cases h1 : a1 = 2
  ·rw [if_pos h1] at h
   by_cases h2 : a0 < 256
   ·rw [if_pos h2] at h; subst h1; obtain rfl := Option.some.inj h; exact hex2 a0 h0 h2 w
   ·rw [if_neg h2] at h; cases h
  ·rw [if_neg h1] at h
   by_cases h3 : a1 = 4
   ·rw [if_pos h3] at h
    by_cases h2 : a0 < 65536
    ·rw [if_pos h2] at h; subst h3; obtain rfl := Option.some.inj h; exact hex4 a0 h0 h2 w
    ·rw [if_neg h2] at h; cases h
   ·rw [if_neg h3] at h
    by_cases h4 : a1 = 1
    ·rw [if_pos h4] at h
     by_cases h2 : a0 < 16
     ·rw [if_pos h2] at h; subst h4; obtain rfl := Option.some.inj h; exact hex1 a0 h0 h2 w
     ·rw [if_neg h2] at h; cases h
    ·rw [if_neg h4] at h; cases h
 ·rw [if_neg h0] at h; cases h
end Go.Proofs.YtjedbamcjgabpaaDoor.PSo
