/- script.line: a span's line, without its end. -/
import Derived.Test.YtdjffafcmomalaaDoorScrG
import Derived.Test.YtdjffafcmomalaaDoorScrHex
import Derived.Test.YtdjffafcmomalaaDoorScrFlags
import Derived.Lib.ItoaLen
set_option linter.unusedVariables false
set_option linter.unusedSimpArgs false
namespace Go.Proofs.YtdjffafcmomalaaDoor.Scr
open Go Go.RowKit
open Go.Proofs.YtdjffafcmomalaaDoorW.PrintWords Go.Proofs.YtdjffafcmomalaaDoor.PScr

def word (b : Bool) (t x : ByteArray) : ByteArray := if b then t ++ ((⟨#[32]⟩ : ByteArray) ++ x) else t
/-- The words of a span's line, as far as k of the seven flags. -/
def lineK (s : S34) : ByteArray := if s.f1 = 0 then ⟨(Lib.itoa s.f0).toArray⟩ else (⟨(Lib.itoa s.f0).toArray⟩ : ByteArray) ++ ((⟨#[32, 107, 101, 121, 115, 32]⟩ : ByteArray) ++ hexS4 s.f1)
def line1 (s : S34) : ByteArray := word s.f2 (lineK s) ⟨#[116, 97, 112, 101]⟩
def line2 (s : S34) : ByteArray := word s.f3 (line1 s) ⟨#[102, 108, 97, 103]⟩
def line3 (s : S34) : ByteArray := word s.f4 (line2 s) ⟨#[105, 110]⟩
def line4 (s : S34) : ByteArray := word s.f5 (line3 s) ⟨#[111, 117, 116]⟩
def line5 (s : S34) : ByteArray := word s.f6 (line4 s) ⟨#[105, 110, 116]⟩
def line6 (s : S34) : ByteArray := word s.f7 (line5 s) ⟨#[99, 108, 101, 97, 114]⟩
def line7 (s : S34) : ByteArray := word s.f8 (line6 s) ⟨#[119, 97, 105, 116]⟩
def lineB (s : S34) : ByteArray := if s.f9 = 0 then line7 s else line7 s ++ ((⟨#[32, 98, 117, 115, 32]⟩ : ByteArray) ++ hexS2 s.f9)

def cells34 (s : S34) : Array Value := #[.int .i64 s.f0, .int .u16 s.f1, .bool s.f2, .bool s.f3, .bool s.f4, .bool s.f5, .bool s.f6, .bool s.f7, .bool s.f8, .int .u8 s.f9]
def Bx (s : S34) (b : Nat) (w : World) : Prop := w.heap[b]? = some (.cells #[.int .i64 s.f0, .int .u16 s.f1, .bool s.f2, .bool s.f3, .bool s.f4, .bool s.f5, .bool s.f6, .bool s.f7, .bool s.f8, .int .u8 s.f9] 34 (0, 0))
theorem Bx.below {s : S34} {b : Nat} {w w1 : World} (h : Bx s b w) (hb : Below w.heap.size w w1) : Bx s b w1 := (hb.block b (Array.getElem?_eq_some_iff.1 h).1).trans h
def Fx (g b : Nat) (w : World) : Prop := w.heap[b]? = some (.cells (flagCells g) 86 (0, 0))
theorem Fx.below {g b : Nat} {w w1 : World} (h : Fx g b w) (hb : Below w.heap.size w w1) : Fx g b w1 := (hb.block b (Array.getElem?_eq_some_iff.1 h).1).trans h
theorem itoa_len (n : Int) (h0 : -9223372036854775808 ≤ n) (h1 : n ≤ 9223372036854775807) : (⟨(Lib.itoa n).toArray⟩ : ByteArray).size ≤ 30 := by
  have := Lib.itoa_length_le n h0 h1
  show (Lib.itoa n).toArray.size ≤ 30
  simp; omega
theorem hexS4_size (n : Int) : (hexS4 n).size = 4 := rfl
theorem hexS2_size (n : Int) : (hexS2 n).size = 2 := rfl

def LineRel (s : S34) (v3 v21 : Value) : Prop := (v3 = .string (lineK s) ∧ v21 = .int .i64 0) ∨ (v3 = .string (line1 s) ∧ v21 = .int .i64 1) ∨ (v3 = .string (line2 s) ∧ v21 = .int .i64 2) ∨ (v3 = .string (line3 s) ∧ v21 = .int .i64 3) ∨ (v3 = .string (line4 s) ∧ v21 = .int .i64 4) ∨ (v3 = .string (line5 s) ∧ v21 = .int .i64 5) ∨ (v3 = .string (line6 s) ∧ v21 = .int .i64 6) ∨ (v3 = .string (line7 s) ∧ v21 = .int .i64 7)
theorem word_size (b : Bool) (t x : ByteArray) (n : Nat) (h : t.size ≤ n) (hx : x.size ≤ 5) : (word b t x).size ≤ n + 6 := by
  unfold word
  split
  · simp only [ByteArray.size_append]
    have : (⟨#[32]⟩ : ByteArray).size = 1 := rfl
    omega
  · omega
theorem lineK_size (s : S34) (h : (⟨(Lib.itoa s.f0).toArray⟩ : ByteArray).size ≤ 30) : (lineK s).size ≤ 40 := by
  unfold lineK
  split
  · omega
  · simp only [ByteArray.size_append, hexS4_size]
    have : (⟨#[32, 107, 101, 121, 115, 32]⟩ : ByteArray).size = 6 := rfl
    omega
theorem line_sizes (s : S34) (h : (⟨(Lib.itoa s.f0).toArray⟩ : ByteArray).size ≤ 30) : (lineK s).size ≤ 40 ∧ (line1 s).size ≤ 46 ∧ (line2 s).size ≤ 52 ∧ (line3 s).size ≤ 58 ∧ (line4 s).size ≤ 64 ∧ (line5 s).size ≤ 70 ∧ (line6 s).size ≤ 76 ∧ (line7 s).size ≤ 82 := by
  have k0 := lineK_size s h
  have k1 := word_size s.f2 (lineK s) ⟨#[116, 97, 112, 101]⟩ 40 k0 (by decide)
  have k2 := word_size s.f3 (line1 s) ⟨#[102, 108, 97, 103]⟩ 46 k1 (by decide)
  have k3 := word_size s.f4 (line2 s) ⟨#[105, 110]⟩ 52 k2 (by decide)
  have k4 := word_size s.f5 (line3 s) ⟨#[111, 117, 116]⟩ 58 k3 (by decide)
  have k5 := word_size s.f6 (line4 s) ⟨#[105, 110, 116]⟩ 64 k4 (by decide)
  have k6 := word_size s.f7 (line5 s) ⟨#[99, 108, 101, 97, 114]⟩ 70 k5 (by decide)
  have k7 := word_size s.f8 (line6 s) ⟨#[119, 97, 105, 116]⟩ 76 k6 (by decide)
  exact ⟨k0, k1, k2, k3, k4, k5, k6, k7⟩

set_option maxRecDepth 100000 in
set_option maxHeartbeats 4000000 in
theorem line_calls (s : S34) (w0 : World) (h0 : -9223372036854775808 ≤ s.f0) (h1 : s.f0 ≤ 9223372036854775807) (h2 : 0 ≤ s.f1) (h3 : s.f1 < 65536) (h4 : 0 ≤ s.f9) (h5 : s.f9 < 256) (hG : GOk w0) :
    Calls Tryd.prog 36 #[.agg #[.int .i64 s.f0, .int .u16 s.f1, .bool s.f2, .bool s.f3, .bool s.f4, .bool s.f5, .bool s.f6, .bool s.f7, .bool s.f8, .int .u8 s.f9]] w0 fun e w' => e = .returned (.string (lineB s)) ∧ Below w0.heap.size w0 w' := by
  have HG := Aside0.mk hG
  clear hG
  have hit : strconv_Itoa_52.f s.f0 = some ⟨(Lib.itoa s.f0).toArray⟩ := by unfold strconv_Itoa_52.f; rw [if_pos h0, if_pos h1]
  have HI := Aside0.mk hit
  clear hit
  obtain ⟨t0, ht0⟩ : ∃ t0 : ByteArray, t0 = ⟨(Lib.itoa s.f0).toArray⟩ := ⟨_, rfl⟩
  have hsz : t0.size ≤ 30 := by rw [ht0]; exact itoa_len _ h0 h1
  rw [← ht0] at HI
  have T0 := Aside0.mk ht0
  clear ht0
  have b4 := hexS4_size s.f1
  have HBX : Aside0 (Bx s w0.heap.size (w0.alloc (.cells #[.int .i64 s.f0, .int .u16 s.f1, .bool s.f2, .bool s.f3, .bool s.f4, .bool s.f5, .bool s.f6, .bool s.f7, .bool s.f8, .int .u8 s.f9] 34))) := ⟨heap_alloc_new w0 _⟩
  have HB := Aside0.mk (below_alloc (Below.refl w0.heap.size w0) (.cells #[.int .i64 s.f0, .int .u16 s.f1, .bool s.f2, .bool s.f3, .bool s.f4, .bool s.f5, .bool s.f6, .bool s.f7, .bool s.f8, .int .u8 s.f9] 34))
  go_enter Tryd.func36, Tryd.ntmps36
  go_wp2_with fail
  generalize w0.alloc (.cells #[.int .i64 s.f0, .int .u16 s.f1, .bool s.f2, .bool s.f3, .bool s.f4, .bool s.f5, .bool s.f6, .bool s.f7, .bool s.f8, .int .u8 s.f9] 34) = w at HBX HB ⊢
  (with_reducible refine (strconv_Itoa_52.calls s.f0 t0 w HI.out (GOk.below HG.out HB.out)).mono ?_)
  rintro e w1 ⟨rfl, hb⟩
  have BX1 := Aside0.mk (HBX.out.below hb)
  have B1 := Aside0.mk (below_step HB.out hb)
  clear hb HBX HB
  have c1 : w1.cell? ⟨w0.heap.size, 1, none⟩ = some (.int .u16 s.f1) := (blk_cell BX1.out 1).trans rfl
  go_upto_if 11 with (fail)
  go_cut [3] (fun v3 wc => v3 = .string (lineK s) ∧ Aside0 (Bx s w0.heap.size wc) ∧ Aside0 (Below w0.heap.size w0 wc))
  case first =>
    by_cases hk : s.f1 = 0
    · have k0 : (s.f1 == 0) = true := beq_iff_eq.mpr hk
      have k1 : (s.f1 != 0) = false := bne_eq_false_iff_eq.mpr hk
      have e : lineK s = t0 := by unfold lineK; rw [if_pos hk, T0.out]
      have E := Aside0.mk e
      clear hk e
      go_wp2
      go_meet
      case rel => exact ⟨by rw [E.out], BX1, B1⟩
    · have k0 : (s.f1 == 0) = false := beq_eq_false_iff_ne.mpr hk
      have k1 : (s.f1 != 0) = true := bne_iff_ne.mpr hk
      have e : lineK s = t0 ++ ((⟨#[32, 107, 101, 121, 115, 32]⟩ : ByteArray) ++ hexS4 s.f1) := by unfold lineK; rw [if_neg hk, T0.out]
      have E := Aside0.mk e
      clear hk e
      go_wp2_with fail
      (with_reducible refine (hex4 s.f1 h2 h3 _).mono ?_)
      rintro e w2 ⟨rfl, hb⟩
      have BX2 := Aside0.mk (BX1.out.below hb)
      have B2 := Aside0.mk (below_step B1.out hb)
      clear hb
      go_wp2
      go_meet
      case rel => exact ⟨by rw [E.out], BX2, B2⟩
  case rest =>
    clear BX1 B1 c1 HI b4 hsz
    obtain ⟨rfl, BX1, B1⟩ := hcut
    have HSZ := Aside0.mk (line_sizes s (itoa_len _ h0 h1))
    go_wp2_with fail
    (with_reducible refine (flags_calls w0.heap.size _).mono ?_)
    rintro e w2 ⟨rfl, n2, rfl⟩
    have FX2 : Aside0 (Fx w0.heap.size wc.heap.size ((wc.drewN n2).alloc (.cells (flagCells w0.heap.size) 86))) := ⟨heap_alloc_new (wc.drewN n2) _⟩
    have BX2 : Aside0 (Bx s w0.heap.size ((wc.drewN n2).alloc (.cells (flagCells w0.heap.size) 86))) := ⟨BX1.out.below (below_alloc (pw_below_drewN (Below.refl _ _) n2) _)⟩
    have B2 : Aside0 (Below w0.heap.size w0 ((wc.drewN n2).alloc (.cells (flagCells w0.heap.size) 86))) := ⟨below_alloc (pw_below_drewN B1.out n2) _⟩
    clear BX1 B1
    generalize (wc.drewN n2).alloc (.cells (flagCells w0.heap.size) 86) = w2 at FX2 BX2 B2 ⊢
    generalize wc.heap.size = fb at FX2 ⊢
    go_wp2
    go_loopw [3, 21] (fun v3 v21 wr => LineRel s v3 v21 ∧ Aside0 (Bx s w0.heap.size wr) ∧ Aside0 (Fx w0.heap.size fb wr) ∧ Aside0 (Below w0.heap.size w0 wr)) (fun _ v21 _ => 7 - (RowKit.intOf v21).toNat)
    case atStart => exact ⟨.inl ⟨rfl, rfl⟩, BX2, FX2, B2⟩
    case round =>
      clear BX2 FX2 B2
      obtain ⟨hr, BX, FX, HB⟩ := hrel
      have hsz := HSZ.out
      rcases hr with ⟨rfl, rfl⟩ | ⟨rfl, rfl⟩ | ⟨rfl, rfl⟩ | ⟨rfl, rfl⟩ | ⟨rfl, rfl⟩ | ⟨rfl, rfl⟩ | ⟨rfl, rfl⟩ | ⟨rfl, rfl⟩
      · have q0 : wr.cell? ⟨fb, 0, none⟩ = some (.string ⟨#[116, 97, 112, 101]⟩) := (blk_cell FX.out 0).trans rfl
        have q1 : wr.cell? ⟨fb, 1, none⟩ = some (.pointer (some ⟨w0.heap.size, 2, none⟩)) := (blk_cell FX.out 1).trans rfl
        have q2 : wr.cell? ⟨w0.heap.size, 2, none⟩ = some (.bool s.f2) := (blk_cell BX.out 2).trans rfl
        have z : (lineK s).size ≤ 100 := by omega
        have n0 : w0.heap.size < wr.heap.size := World.block_lt_of_cell? _ _ q2
        have n1 : fb < wr.heap.size := World.block_lt_of_cell? _ _ q1
        have n2 : wr.heap.size ≠ w0.heap.size := by omega
        have n3 : w0.heap.size ≠ wr.heap.size := by omega
        have NB : Aside0 (∀ o, Bx s w0.heap.size (wr.alloc o) ∧ Fx w0.heap.size fb (wr.alloc o) ∧ Below w0.heap.size w0 (wr.alloc o)) := ⟨fun o => ⟨BX.out.below (below_alloc (Below.refl _ _) o), FX.out.below (below_alloc (Below.refl _ _) o), below_alloc HB.out o⟩⟩
        clear BX FX HB hsz
        have HE : Aside0 (line1 s = word s.f2 (lineK s) ⟨#[116, 97, 112, 101]⟩) := ⟨rfl⟩
        obtain ⟨fb_, hfb⟩ : ∃ x, s.f2 = x := ⟨_, rfl⟩
        rw [hfb] at q2 HE
        clear hfb
        cases fb_
        · go_wp2
          go_roundw
          case rel => exact ⟨.inr (.inl ⟨by rw [HE.out]; rfl, rfl⟩), ⟨(NB.out _).1⟩, ⟨(NB.out _).2.1⟩, ⟨(NB.out _).2.2⟩⟩
          case measure => simp [RowKit.intOf]
        · go_wp2
          go_roundw
          case rel => exact ⟨.inr (.inl ⟨by rw [HE.out]; rfl, rfl⟩), ⟨(NB.out _).1⟩, ⟨(NB.out _).2.1⟩, ⟨(NB.out _).2.2⟩⟩
          case measure => simp [RowKit.intOf]
      · have q0 : wr.cell? ⟨fb, 2, none⟩ = some (.string ⟨#[102, 108, 97, 103]⟩) := (blk_cell FX.out 2).trans rfl
        have q1 : wr.cell? ⟨fb, 3, none⟩ = some (.pointer (some ⟨w0.heap.size, 3, none⟩)) := (blk_cell FX.out 3).trans rfl
        have q2 : wr.cell? ⟨w0.heap.size, 3, none⟩ = some (.bool s.f3) := (blk_cell BX.out 3).trans rfl
        have z : (line1 s).size ≤ 100 := by omega
        have n0 : w0.heap.size < wr.heap.size := World.block_lt_of_cell? _ _ q2
        have n1 : fb < wr.heap.size := World.block_lt_of_cell? _ _ q1
        have n2 : wr.heap.size ≠ w0.heap.size := by omega
        have n3 : w0.heap.size ≠ wr.heap.size := by omega
        have NB : Aside0 (∀ o, Bx s w0.heap.size (wr.alloc o) ∧ Fx w0.heap.size fb (wr.alloc o) ∧ Below w0.heap.size w0 (wr.alloc o)) := ⟨fun o => ⟨BX.out.below (below_alloc (Below.refl _ _) o), FX.out.below (below_alloc (Below.refl _ _) o), below_alloc HB.out o⟩⟩
        clear BX FX HB hsz
        have HE : Aside0 (line2 s = word s.f3 (line1 s) ⟨#[102, 108, 97, 103]⟩) := ⟨rfl⟩
        obtain ⟨fb_, hfb⟩ : ∃ x, s.f3 = x := ⟨_, rfl⟩
        rw [hfb] at q2 HE
        clear hfb
        cases fb_
        · go_wp2
          go_roundw
          case rel => exact ⟨.inr (.inr (.inl ⟨by rw [HE.out]; rfl, rfl⟩)), ⟨(NB.out _).1⟩, ⟨(NB.out _).2.1⟩, ⟨(NB.out _).2.2⟩⟩
          case measure => simp [RowKit.intOf]
        · go_wp2
          go_roundw
          case rel => exact ⟨.inr (.inr (.inl ⟨by rw [HE.out]; rfl, rfl⟩)), ⟨(NB.out _).1⟩, ⟨(NB.out _).2.1⟩, ⟨(NB.out _).2.2⟩⟩
          case measure => simp [RowKit.intOf]
      · have q0 : wr.cell? ⟨fb, 4, none⟩ = some (.string ⟨#[105, 110]⟩) := (blk_cell FX.out 4).trans rfl
        have q1 : wr.cell? ⟨fb, 5, none⟩ = some (.pointer (some ⟨w0.heap.size, 4, none⟩)) := (blk_cell FX.out 5).trans rfl
        have q2 : wr.cell? ⟨w0.heap.size, 4, none⟩ = some (.bool s.f4) := (blk_cell BX.out 4).trans rfl
        have z : (line2 s).size ≤ 100 := by omega
        have n0 : w0.heap.size < wr.heap.size := World.block_lt_of_cell? _ _ q2
        have n1 : fb < wr.heap.size := World.block_lt_of_cell? _ _ q1
        have n2 : wr.heap.size ≠ w0.heap.size := by omega
        have n3 : w0.heap.size ≠ wr.heap.size := by omega
        have NB : Aside0 (∀ o, Bx s w0.heap.size (wr.alloc o) ∧ Fx w0.heap.size fb (wr.alloc o) ∧ Below w0.heap.size w0 (wr.alloc o)) := ⟨fun o => ⟨BX.out.below (below_alloc (Below.refl _ _) o), FX.out.below (below_alloc (Below.refl _ _) o), below_alloc HB.out o⟩⟩
        clear BX FX HB hsz
        have HE : Aside0 (line3 s = word s.f4 (line2 s) ⟨#[105, 110]⟩) := ⟨rfl⟩
        obtain ⟨fb_, hfb⟩ : ∃ x, s.f4 = x := ⟨_, rfl⟩
        rw [hfb] at q2 HE
        clear hfb
        cases fb_
        · go_wp2
          go_roundw
          case rel => exact ⟨.inr (.inr (.inr (.inl ⟨by rw [HE.out]; rfl, rfl⟩))), ⟨(NB.out _).1⟩, ⟨(NB.out _).2.1⟩, ⟨(NB.out _).2.2⟩⟩
          case measure => simp [RowKit.intOf]
        · go_wp2
          go_roundw
          case rel => exact ⟨.inr (.inr (.inr (.inl ⟨by rw [HE.out]; rfl, rfl⟩))), ⟨(NB.out _).1⟩, ⟨(NB.out _).2.1⟩, ⟨(NB.out _).2.2⟩⟩
          case measure => simp [RowKit.intOf]
      · have q0 : wr.cell? ⟨fb, 6, none⟩ = some (.string ⟨#[111, 117, 116]⟩) := (blk_cell FX.out 6).trans rfl
        have q1 : wr.cell? ⟨fb, 7, none⟩ = some (.pointer (some ⟨w0.heap.size, 5, none⟩)) := (blk_cell FX.out 7).trans rfl
        have q2 : wr.cell? ⟨w0.heap.size, 5, none⟩ = some (.bool s.f5) := (blk_cell BX.out 5).trans rfl
        have z : (line3 s).size ≤ 100 := by omega
        have n0 : w0.heap.size < wr.heap.size := World.block_lt_of_cell? _ _ q2
        have n1 : fb < wr.heap.size := World.block_lt_of_cell? _ _ q1
        have n2 : wr.heap.size ≠ w0.heap.size := by omega
        have n3 : w0.heap.size ≠ wr.heap.size := by omega
        have NB : Aside0 (∀ o, Bx s w0.heap.size (wr.alloc o) ∧ Fx w0.heap.size fb (wr.alloc o) ∧ Below w0.heap.size w0 (wr.alloc o)) := ⟨fun o => ⟨BX.out.below (below_alloc (Below.refl _ _) o), FX.out.below (below_alloc (Below.refl _ _) o), below_alloc HB.out o⟩⟩
        clear BX FX HB hsz
        have HE : Aside0 (line4 s = word s.f5 (line3 s) ⟨#[111, 117, 116]⟩) := ⟨rfl⟩
        obtain ⟨fb_, hfb⟩ : ∃ x, s.f5 = x := ⟨_, rfl⟩
        rw [hfb] at q2 HE
        clear hfb
        cases fb_
        · go_wp2
          go_roundw
          case rel => exact ⟨.inr (.inr (.inr (.inr (.inl ⟨by rw [HE.out]; rfl, rfl⟩)))), ⟨(NB.out _).1⟩, ⟨(NB.out _).2.1⟩, ⟨(NB.out _).2.2⟩⟩
          case measure => simp [RowKit.intOf]
        · go_wp2
          go_roundw
          case rel => exact ⟨.inr (.inr (.inr (.inr (.inl ⟨by rw [HE.out]; rfl, rfl⟩)))), ⟨(NB.out _).1⟩, ⟨(NB.out _).2.1⟩, ⟨(NB.out _).2.2⟩⟩
          case measure => simp [RowKit.intOf]
      · have q0 : wr.cell? ⟨fb, 8, none⟩ = some (.string ⟨#[105, 110, 116]⟩) := (blk_cell FX.out 8).trans rfl
        have q1 : wr.cell? ⟨fb, 9, none⟩ = some (.pointer (some ⟨w0.heap.size, 6, none⟩)) := (blk_cell FX.out 9).trans rfl
        have q2 : wr.cell? ⟨w0.heap.size, 6, none⟩ = some (.bool s.f6) := (blk_cell BX.out 6).trans rfl
        have z : (line4 s).size ≤ 100 := by omega
        have n0 : w0.heap.size < wr.heap.size := World.block_lt_of_cell? _ _ q2
        have n1 : fb < wr.heap.size := World.block_lt_of_cell? _ _ q1
        have n2 : wr.heap.size ≠ w0.heap.size := by omega
        have n3 : w0.heap.size ≠ wr.heap.size := by omega
        have NB : Aside0 (∀ o, Bx s w0.heap.size (wr.alloc o) ∧ Fx w0.heap.size fb (wr.alloc o) ∧ Below w0.heap.size w0 (wr.alloc o)) := ⟨fun o => ⟨BX.out.below (below_alloc (Below.refl _ _) o), FX.out.below (below_alloc (Below.refl _ _) o), below_alloc HB.out o⟩⟩
        clear BX FX HB hsz
        have HE : Aside0 (line5 s = word s.f6 (line4 s) ⟨#[105, 110, 116]⟩) := ⟨rfl⟩
        obtain ⟨fb_, hfb⟩ : ∃ x, s.f6 = x := ⟨_, rfl⟩
        rw [hfb] at q2 HE
        clear hfb
        cases fb_
        · go_wp2
          go_roundw
          case rel => exact ⟨.inr (.inr (.inr (.inr (.inr (.inl ⟨by rw [HE.out]; rfl, rfl⟩))))), ⟨(NB.out _).1⟩, ⟨(NB.out _).2.1⟩, ⟨(NB.out _).2.2⟩⟩
          case measure => simp [RowKit.intOf]
        · go_wp2
          go_roundw
          case rel => exact ⟨.inr (.inr (.inr (.inr (.inr (.inl ⟨by rw [HE.out]; rfl, rfl⟩))))), ⟨(NB.out _).1⟩, ⟨(NB.out _).2.1⟩, ⟨(NB.out _).2.2⟩⟩
          case measure => simp [RowKit.intOf]
      · have q0 : wr.cell? ⟨fb, 10, none⟩ = some (.string ⟨#[99, 108, 101, 97, 114]⟩) := (blk_cell FX.out 10).trans rfl
        have q1 : wr.cell? ⟨fb, 11, none⟩ = some (.pointer (some ⟨w0.heap.size, 7, none⟩)) := (blk_cell FX.out 11).trans rfl
        have q2 : wr.cell? ⟨w0.heap.size, 7, none⟩ = some (.bool s.f7) := (blk_cell BX.out 7).trans rfl
        have z : (line5 s).size ≤ 100 := by omega
        have n0 : w0.heap.size < wr.heap.size := World.block_lt_of_cell? _ _ q2
        have n1 : fb < wr.heap.size := World.block_lt_of_cell? _ _ q1
        have n2 : wr.heap.size ≠ w0.heap.size := by omega
        have n3 : w0.heap.size ≠ wr.heap.size := by omega
        have NB : Aside0 (∀ o, Bx s w0.heap.size (wr.alloc o) ∧ Fx w0.heap.size fb (wr.alloc o) ∧ Below w0.heap.size w0 (wr.alloc o)) := ⟨fun o => ⟨BX.out.below (below_alloc (Below.refl _ _) o), FX.out.below (below_alloc (Below.refl _ _) o), below_alloc HB.out o⟩⟩
        clear BX FX HB hsz
        have HE : Aside0 (line6 s = word s.f7 (line5 s) ⟨#[99, 108, 101, 97, 114]⟩) := ⟨rfl⟩
        obtain ⟨fb_, hfb⟩ : ∃ x, s.f7 = x := ⟨_, rfl⟩
        rw [hfb] at q2 HE
        clear hfb
        cases fb_
        · go_wp2
          go_roundw
          case rel => exact ⟨.inr (.inr (.inr (.inr (.inr (.inr (.inl ⟨by rw [HE.out]; rfl, rfl⟩)))))), ⟨(NB.out _).1⟩, ⟨(NB.out _).2.1⟩, ⟨(NB.out _).2.2⟩⟩
          case measure => simp [RowKit.intOf]
        · go_wp2
          go_roundw
          case rel => exact ⟨.inr (.inr (.inr (.inr (.inr (.inr (.inl ⟨by rw [HE.out]; rfl, rfl⟩)))))), ⟨(NB.out _).1⟩, ⟨(NB.out _).2.1⟩, ⟨(NB.out _).2.2⟩⟩
          case measure => simp [RowKit.intOf]
      · have q0 : wr.cell? ⟨fb, 12, none⟩ = some (.string ⟨#[119, 97, 105, 116]⟩) := (blk_cell FX.out 12).trans rfl
        have q1 : wr.cell? ⟨fb, 13, none⟩ = some (.pointer (some ⟨w0.heap.size, 8, none⟩)) := (blk_cell FX.out 13).trans rfl
        have q2 : wr.cell? ⟨w0.heap.size, 8, none⟩ = some (.bool s.f8) := (blk_cell BX.out 8).trans rfl
        have z : (line6 s).size ≤ 100 := by omega
        have n0 : w0.heap.size < wr.heap.size := World.block_lt_of_cell? _ _ q2
        have n1 : fb < wr.heap.size := World.block_lt_of_cell? _ _ q1
        have n2 : wr.heap.size ≠ w0.heap.size := by omega
        have n3 : w0.heap.size ≠ wr.heap.size := by omega
        have NB : Aside0 (∀ o, Bx s w0.heap.size (wr.alloc o) ∧ Fx w0.heap.size fb (wr.alloc o) ∧ Below w0.heap.size w0 (wr.alloc o)) := ⟨fun o => ⟨BX.out.below (below_alloc (Below.refl _ _) o), FX.out.below (below_alloc (Below.refl _ _) o), below_alloc HB.out o⟩⟩
        clear BX FX HB hsz
        have HE : Aside0 (line7 s = word s.f8 (line6 s) ⟨#[119, 97, 105, 116]⟩) := ⟨rfl⟩
        obtain ⟨fb_, hfb⟩ : ∃ x, s.f8 = x := ⟨_, rfl⟩
        rw [hfb] at q2 HE
        clear hfb
        cases fb_
        · go_wp2
          go_roundw
          case rel => exact ⟨.inr (.inr (.inr (.inr (.inr (.inr (.inr (⟨by rw [HE.out]; rfl, rfl⟩))))))), ⟨(NB.out _).1⟩, ⟨(NB.out _).2.1⟩, ⟨(NB.out _).2.2⟩⟩
          case measure => simp [RowKit.intOf]
        · go_wp2
          go_roundw
          case rel => exact ⟨.inr (.inr (.inr (.inr (.inr (.inr (.inr (⟨by rw [HE.out]; rfl, rfl⟩))))))), ⟨(NB.out _).1⟩, ⟨(NB.out _).2.1⟩, ⟨(NB.out _).2.2⟩⟩
          case measure => simp [RowKit.intOf]
      · have c9 : wr.cell? ⟨w0.heap.size, 9, none⟩ = some (.int .u8 s.f9) := (blk_cell BX.out 9).trans rfl
        have z : (line7 s).size ≤ 100 := by omega
        clear hsz BX FX
        by_cases hk : s.f9 = 0
        · have k0 : (s.f9 == 0) = true := beq_iff_eq.mpr hk
          have k1 : (s.f9 != 0) = false := bne_eq_false_iff_eq.mpr hk
          have E := Aside0.mk (show lineB s = line7 s by unfold lineB; rw [if_pos hk])
          clear hk
          go_wp2
          go_ret
          exact ⟨by rw [E.out]; rfl, HB.out⟩
        · have k0 : (s.f9 == 0) = false := beq_eq_false_iff_ne.mpr hk
          have k1 : (s.f9 != 0) = true := bne_iff_ne.mpr hk
          have E := Aside0.mk (show lineB s = line7 s ++ ((⟨#[32, 98, 117, 115, 32]⟩ : ByteArray) ++ hexS2 s.f9) by unfold lineB; rw [if_neg hk])
          have b2 := hexS2_size s.f9
          clear hk
          go_wp2_with fail
          (with_reducible refine (hex2 s.f9 h4 h5 _).mono ?_)
          rintro e w2 ⟨rfl, hb⟩
          have B2 := Aside0.mk (below_step HB.out hb)
          clear hb
          go_wp2
          go_ret
          exact ⟨by rw [E.out]; rfl, B2.out⟩
end Go.Proofs.YtdjffafcmomalaaDoor.Scr
