/- Texts of the Script seat, one behind another: ScrNum, ScrReadL, ScrReadI, ScrWords, ScrRead, ScrReadO, ScrReadC, ScrWordsR. -/
import Derived.Test.YtdjffafcmomalaaDoorPScrx0
import Derived.Laws.RangeAny
import Derived.Laws.RangeString
import Derived.Laws.BitsLemmas
import Derived.Test.YtdjffafcmomalaaDoorScrM1
import Derived.Lib.SplitLaws
import Derived.Lib.IndexBytes
import Derived.Deep.RegionHeld3
import Derived.Lib.SlicesS
import Derived.MapKept
import Derived.Lib.ItoaLen
/- bits.Number: digits to the base sixteen. -/
set_option linter.unusedVariables false
set_option linter.unusedSimpArgs false
namespace Go.Proofs.YtdjffafcmomalaaDoor.Scr
open Go Go.RowKit
open Go.Proofs.YtdjffafcmomalaaDoorW.PrintWords Go.Proofs.YtdjffafcmomalaaDoor.PScr

def numL : List UInt8 → Int → Option Int
  | [], n => some n
  | c :: r, n => if 48 ≤ c.toNat ∧ c.toNat ≤ 57 then numL r (n * 16 + ((c.toNat : Int) - 48)) else if 97 ≤ c.toNat ∧ c.toNat ≤ 102 then numL r (n * 16 + ((c.toNat : Int) - 87)) else none
/-- What bits.Number tells: the number, and whether it is one. -/
def numR (s : ByteArray) : Int × Int := if s.size < 1 then (0, 1) else if 8 < s.size then (0, 1) else match numL s.data.toList 0 with
  | some n => (n, 0)
  | none => (0, 1)

theorem below_iter (w : World) (s : ByteArray) (pos : Nat) : Below w.heap.size w (w.iter s pos) := by
  have h := below_alloc (Below.refl w.heap.size w) (.stringIter s pos)
  exact h

theorem or_join (n d : Int) (h0 : 0 ≤ n) (h1 : n < 4294967296) (d0 : 0 ≤ d) (d1 : d < 16) : Go.bits .or .i64 (n * 16) d = n * 16 + d :=
  bits_join .i64 40 (by decide) (fun n a b => by rw [IntKind.wrap_i64]; omega) 4 (n * 16) d (by omega) (by omega) (by omega) d0 (by omega) (by omega)

set_option maxRecDepth 100000 in
set_option maxHeartbeats 4000000 in
theorem number_calls (s : ByteArray) (w : World) : Calls Tryd.prog 64 #[.string s] w fun e w' => e = .returned (.tuple #[.int .i64 (numR s).1, .int .i64 (numR s).2]) ∧ Below w.heap.size w w' := by
  obtain ⟨r, hr⟩ : ∃ r, r = numR s := ⟨_, rfl⟩
  rw [← hr]
  have HR := Aside0.mk hr
  clear hr
  by_cases c1 : s.size < 1
  · have hx : r = (0, 1) := by rw [HR.out]; unfold numR; rw [if_pos c1]
    subst hx
    go_enter Tryd.func64, Tryd.ntmps64
    go_wp2
    go_ret2
    exact ⟨rfl, Below.refl _ _⟩
  by_cases c2 : 8 < s.size
  · have hx : r = (0, 1) := by rw [HR.out]; unfold numR; rw [if_neg c1, if_pos c2]
    subst hx
    go_enter Tryd.func64, Tryd.ntmps64
    go_wp2
    go_ret2
    exact ⟨rfl, Below.refl _ _⟩
  have hx : r = match numL s.data.toList 0 with
    | some n => (n, 0)
    | none => (0, 1) := by rw [HR.out]; unfold numR; rw [if_neg c1, if_neg c2]
  have HX := Aside0.mk hx
  clear hx HR
  have c1' : 1 ≤ s.size := by omega
  have c2' : s.size ≤ 8 := by omega
  go_enter Tryd.func64, Tryd.ntmps64
  go_wp2
  have H0 : Aside0 (numL (s.data.toList.drop 0) 0 = numL s.data.toList 0) := ⟨rfl⟩
  go_loopw [4] (fun n w' => ∃ (pos : Nat) (acc : Int), w' = w.iter s pos ∧ n = .int .i64 acc ∧ Aside0 (numL (s.data.toList.drop pos) acc = numL s.data.toList 0) ∧ 0 ≤ acc ∧ acc < (16 ^ pos : Nat) ∧ pos ≤ s.size) (fun _ w' => s.size - w'.iterPos w.heap.size)
  case atStart => exact ⟨0, 0, rfl, rfl, H0, by omega, by decide, Nat.zero_le _⟩
  case round =>
    clear H0
    obtain ⟨pos, acc, rfl, rfl, HI, a0, a1, hp⟩ := hrel
    by_cases hlt : pos < s.size
    · have ab : acc < 268435456 := by
        have : (16 ^ pos : Nat) ≤ 16 ^ 7 := Nat.pow_le_pow_right (by decide) (by omega)
        have e : (16 ^ 7 : Nat) = 268435456 := by decide
        omega
      have hdrop : s.data.toList.drop pos = s[pos] :: s.data.toList.drop (pos + 1) := by
        rw [List.drop_eq_getElem_cons (by simpa using hlt)]; rfl
      have hpow : (16 ^ (pos + 1) : Nat) = 16 ^ pos * 16 := Nat.pow_succ ..
      by_cases hasc : (s[pos]).toNat < 128
      · have hnx : ∀ ty, (Instr.next (.pointer (some ⟨w.heap.size, 0, none⟩)) true ty).run Tryd.prog (w.iter s pos) = _ := fun ty => run_next_ascii w s pos ty hlt hasc
        obtain ⟨d, hd⟩ : ∃ d : Nat, (s[pos]).toNat = d := ⟨_, rfl⟩
        have HD := Aside0.mk hd
        have hit := HI.out
        rw [hdrop, numL, hd] at hit
        rw [hd] at hasc
        simp only [hd] at hnx
        clear hdrop hd HI
        by_cases d1 : 48 ≤ d ∧ d ≤ 57
        · rw [if_pos d1] at hit
          have HIT := Aside0.mk hit
          have HP := Aside0.mk hpow
          have A1 := Aside0.mk a1
          clear hit hpow a1
          obtain ⟨d1, d2⟩ := d1
          have oj := or_join acc ((d : Int) - 48) a0 (by omega) (by omega) (by omega)
          go_wp2
          go_roundw
          case rel => exact ⟨pos + 1, _, rfl, rfl, HIT, by omega, by have := A1.out; rw [HP.out]; omega, by omega⟩
          case measure => simp; omega
        · rw [if_neg d1] at hit
          by_cases d2 : 97 ≤ d ∧ d ≤ 102
          · rw [if_pos d2] at hit
            have HIT := Aside0.mk hit
            have HP := Aside0.mk hpow
            have A1 := Aside0.mk a1
            clear hit hpow a1
            obtain ⟨d2, d3⟩ := d2
            have d4 : ¬ d ≤ 57 := by omega
            have oj := or_join acc ((d : Int) - 97 + 10) a0 (by omega) (by omega) (by omega)
            go_wp2
            go_roundw
            case rel => exact ⟨pos + 1, _, rfl, rfl, by rw [show (d : Int) - 97 + 10 = (d : Int) - 87 by omega]; exact HIT, by omega, by have := A1.out; rw [HP.out]; omega, by omega⟩
            case measure => simp; omega
          · rw [if_neg d2] at hit
            have hx := HX.out
            rw [← hit] at hx
            subst hx
            clear hit HX hpow
            by_cases e1 : d < 48
            · go_wp2
              go_ret2
              exact ⟨rfl, below_iter w s _⟩
            · by_cases e2 : d < 97
              · have e3 : ¬ d ≤ 57 := by omega
                go_wp2
                go_ret2
                exact ⟨rfl, below_iter w s _⟩
              · have e3 : ¬ d ≤ 57 := by omega
                have e4 : ¬ d ≤ 102 := by omega
                go_wp2
                go_ret2
                exact ⟨rfl, below_iter w s _⟩
      · have hnx : ∀ ty, (Instr.next (.pointer (some ⟨w.heap.size, 0, none⟩)) true ty).run Tryd.prog (w.iter s pos) = _ := fun ty => run_next_any w s pos ty hlt
        have hh := (decode_high s pos hlt (by omega)).1
        have hit := HI.out
        rw [hdrop, numL, if_neg (by omega), if_neg (by omega)] at hit
        have hx := HX.out
        rw [← hit] at hx
        subst hx
        clear hit HX hpow hdrop HI hasc
        generalize (Utf8.decode s pos).1 = rn at hnx hh
        generalize (Utf8.decode s pos).2 = rw_ at hnx
        have e0 : (48 : Int) ≤ rn := by omega
        have e1 : ¬ rn ≤ 57 := by omega
        have e2 : (97 : Int) ≤ rn := by omega
        have e3 : ¬ rn ≤ 102 := by omega
        go_wp2
        go_ret2
        exact ⟨rfl, below_iter w s _⟩
    · have hnx : ∀ ty, (Instr.next (.pointer (some ⟨w.heap.size, 0, none⟩)) true ty).run Tryd.prog (w.iter s pos) = _ := fun ty => run_next_end w s pos ty hlt
      have hit := HI.out
      rw [List.drop_of_length_le (by have : s.data.toList.length = s.size := by simp
                                     omega), numL] at hit
      have hx := HX.out
      rw [← hit] at hx
      subst hx
      clear hit HX HI
      go_wp2
      go_ret2
      exact ⟨rfl, below_iter w s _⟩
end Go.Proofs.YtdjffafcmomalaaDoor.Scr
/- script.read: what it tells of a line, plain; strconv.Atoi in two contracts. -/
set_option linter.unusedVariables false
set_option linter.unusedSimpArgs false
namespace Go.Proofs.YtdjffafcmomalaaDoor.Scr
open Go Go.RowKit
open Go.Proofs.YtdjffafcmomalaaDoorW.PrintWords Go.Proofs.YtdjffafcmomalaaDoor.PScr

abbrev blank : ByteArray := ⟨#[32]⟩
abbrev tkeys : ByteArray := ⟨#[107, 101, 121, 115]⟩
abbrev tbus : ByteArray := ⟨#[98, 117, 115]⟩
abbrev ttape : ByteArray := ⟨#[116, 97, 112, 101]⟩
abbrev tflag : ByteArray := ⟨#[102, 108, 97, 103]⟩
abbrev tin : ByteArray := ⟨#[105, 110]⟩
abbrev tout : ByteArray := ⟨#[111, 117, 116]⟩
abbrev tint : ByteArray := ⟨#[105, 110, 116]⟩
abbrev tclear : ByteArray := ⟨#[99, 108, 101, 97, 114]⟩
abbrev twait : ByteArray := ⟨#[119, 97, 105, 116]⟩
/-- A line's words. -/
def wordsOf (l : ByteArray) : List ByteArray := Lib.splitB blank 0 (Lib.countB l blank) l
def sf (k : Nat) (s : S34) (x : ByteArray) : S34 := match k with
  | 0 => if x = ttape then { s with f2 := true } else s
  | 1 => if x = tflag then { s with f3 := true } else s
  | 2 => if x = tin then { s with f4 := true } else s
  | 3 => if x = tout then { s with f5 := true } else s
  | 4 => if x = tint then { s with f6 := true } else s
  | 5 => if x = tclear then { s with f7 := true } else s
  | _ => if x = twait then { s with f8 := true } else s
def setF (s : S34) (x : ByteArray) : S34 := sf 6 (sf 5 (sf 4 (sf 3 (sf 2 (sf 1 (sf 0 s x) x) x) x) x) x) x
def loopW : S34 → List ByteArray → S34 × Bool
  | s, [] => (s, true)
  | s, [x] => if x = tkeys then (s, false) else if x = tbus then (s, false) else (setF s x, true)
  | s, x :: y :: r => if x = tkeys then loopW { s with f1 := (numR y).1 % 65536 } r else if x = tbus then loopW { s with f9 := (numR y).1 % 256 } r else loopW (setF s x) (y :: r)
def zero34 (n : Int) : S34 := ⟨n, 0, false, false, false, false, false, false, false, 0⟩
def readR (l : ByteArray) : S34 × Bool := match Lib.atoiAll ((wordsOf l).headD ⟨#[]⟩).data.toList with
  | .ok v => if v < 1 then (zero34 v, false) else if 1048576 < v then (zero34 v, false) else match loopW (zero34 v) (wordsOf l).tail with
    | (s, false) => (s, false)
    | (s, true) => (s, lineB s == l)
  | .syntax => (zero34 0, false)
  | .range => (zero34 (Lib.atoiSat ((wordsOf l).headD ⟨#[]⟩).data.toList), false)

theorem atoi_ok (x : ByteArray) (hx : x.size ≤ 1000000) (v : Int) (h : Lib.atoiAll x.data.toList = .ok v) (w : World) :
    Calls Tryd.prog 63 #[.string x] w fun e w' => e = .returned (.tuple #[.int .i64 v, .nilIface]) ∧ Below w.heap.size w w' := by
  refine (Tryd.strconv_Atoi_ok x (by omega) v h w).mono ?_
  rintro e w' ⟨rfl, rfl | ⟨t, rfl⟩⟩
  · exact ⟨rfl, Below.refl _ _⟩
  · exact ⟨rfl, Lib.bytesWorld_below _ _ _⟩
theorem atoi_no (x : ByteArray) (hx : x.size ≤ 1000000) (v : Int) (h : Lib.atoiAll x.data.toList = .syntax ∧ v = 0 ∨ Lib.atoiAll x.data.toList = .range ∧ v = Lib.atoiSat x.data.toList) (w : World) (hG : GOk w) :
    Calls Tryd.prog 63 #[.string x] w fun e w' => ∃ N, e = .returned (.tuple #[.int .i64 v, .iface 109 (.pointer (some ⟨N, 0, none⟩))]) ∧ Below w.heap.size w w' := by
  rcases h with ⟨h, rfl⟩ | ⟨h, rfl⟩
  · obtain ⟨tp, p, hv⟩ := hG.syn
    refine (Tryd.strconv_Atoi_syntax_var x (by omega) h tp p w hv).mono ?_
    rintro e w' ⟨N, rfl, _, _, hb⟩
    exact ⟨N, rfl, hb⟩
  · obtain ⟨tp, p, hv⟩ := hG.rng
    refine (Tryd.strconv_Atoi_range_var x (by omega) h tp p w hv).mono ?_
    rintro e w' ⟨N, rfl, _, _, hb⟩
    exact ⟨N, rfl, hb⟩

/-- The words in their block. -/
def Wd (W : List ByteArray) (b : Nat) (w : World) : Prop := w.heap[b]? = some (.cells (W.map Value.string).toArray 9 (0, 0))
theorem Wd.keep {W : List ByteArray} {b : Nat} {w w1 : World} (h : Wd W b w) (hb : ∀ k, k < w.heap.size → w1.heap[k]? = w.heap[k]?) : Wd W b w1 := (hb b (Array.getElem?_eq_some_iff.1 h).1).trans h
theorem Wd.cell {W : List ByteArray} {b : Nat} {w : World} (h : Wd W b w) (k : Nat) (hk : k < W.length) : w.cell? ⟨b, k, none⟩ = some (.string W[k]) := by
  refine (blk_cell h k).trans ?_
  simp [hk]
theorem Wd.head {W : List ByteArray} {b : Nat} {w : World} (h : Wd W b w) (h0 : 0 < W.length) : w.cell? ⟨b, 0, none⟩ = some (.string (W.headD ⟨#[]⟩)) := by
  rw [h.cell 0 h0]
  cases W with
  | nil => cases h0
  | cons y r => rfl
theorem Bx.keep {s : S34} {b : Nat} {w w1 : World} (h : Bx s b w) (hb : ∀ k, k < w.heap.size → w1.heap[k]? = w.heap[k]?) : Bx s b w1 := (hb b (Array.getElem?_eq_some_iff.1 h).1).trans h

/-- The world behind a store of a whole span. -/
def put34 (w : World) (b : Nat) (s : S34) : World := ((((((((((w.setCell ⟨b, 0, none⟩ (.int .i64 s.f0)).setCell ⟨b, 1, none⟩ (.int .u16 s.f1)).setCell ⟨b, 2, none⟩ (.bool s.f2)).setCell ⟨b, 3, none⟩ (.bool s.f3)).setCell ⟨b, 4, none⟩ (.bool s.f4)).setCell ⟨b, 5, none⟩ (.bool s.f5)).setCell ⟨b, 6, none⟩ (.bool s.f6)).setCell ⟨b, 7, none⟩ (.bool s.f7)).setCell ⟨b, 8, none⟩ (.bool s.f8)).setCell ⟨b, 9, none⟩ (.int .u8 s.f9))
theorem put34_bx {s0 : S34} {b : Nat} {w : World} (h : Bx s0 b w) (s : S34) : Bx s b (put34 w b s) := by
  have h0 := blk_put h 0 (.int .i64 s.f0) (cs' := #[.int .i64 s.f0, .int .u16 s0.f1, .bool s0.f2, .bool s0.f3, .bool s0.f4, .bool s0.f5, .bool s0.f6, .bool s0.f7, .bool s0.f8, .int .u8 s0.f9]) rfl
  have h1 := blk_put h0 1 (.int .u16 s.f1) (cs' := #[.int .i64 s.f0, .int .u16 s.f1, .bool s0.f2, .bool s0.f3, .bool s0.f4, .bool s0.f5, .bool s0.f6, .bool s0.f7, .bool s0.f8, .int .u8 s0.f9]) rfl
  have h2 := blk_put h1 2 (.bool s.f2) (cs' := #[.int .i64 s.f0, .int .u16 s.f1, .bool s.f2, .bool s0.f3, .bool s0.f4, .bool s0.f5, .bool s0.f6, .bool s0.f7, .bool s0.f8, .int .u8 s0.f9]) rfl
  have h3 := blk_put h2 3 (.bool s.f3) (cs' := #[.int .i64 s.f0, .int .u16 s.f1, .bool s.f2, .bool s.f3, .bool s0.f4, .bool s0.f5, .bool s0.f6, .bool s0.f7, .bool s0.f8, .int .u8 s0.f9]) rfl
  have h4 := blk_put h3 4 (.bool s.f4) (cs' := #[.int .i64 s.f0, .int .u16 s.f1, .bool s.f2, .bool s.f3, .bool s.f4, .bool s0.f5, .bool s0.f6, .bool s0.f7, .bool s0.f8, .int .u8 s0.f9]) rfl
  have h5 := blk_put h4 5 (.bool s.f5) (cs' := #[.int .i64 s.f0, .int .u16 s.f1, .bool s.f2, .bool s.f3, .bool s.f4, .bool s.f5, .bool s0.f6, .bool s0.f7, .bool s0.f8, .int .u8 s0.f9]) rfl
  have h6 := blk_put h5 6 (.bool s.f6) (cs' := #[.int .i64 s.f0, .int .u16 s.f1, .bool s.f2, .bool s.f3, .bool s.f4, .bool s.f5, .bool s.f6, .bool s0.f7, .bool s0.f8, .int .u8 s0.f9]) rfl
  have h7 := blk_put h6 7 (.bool s.f7) (cs' := #[.int .i64 s.f0, .int .u16 s.f1, .bool s.f2, .bool s.f3, .bool s.f4, .bool s.f5, .bool s.f6, .bool s.f7, .bool s0.f8, .int .u8 s0.f9]) rfl
  have h8 := blk_put h7 8 (.bool s.f8) (cs' := #[.int .i64 s.f0, .int .u16 s.f1, .bool s.f2, .bool s.f3, .bool s.f4, .bool s.f5, .bool s.f6, .bool s.f7, .bool s.f8, .int .u8 s0.f9]) rfl
  have h9 := blk_put h8 9 (.int .u8 s.f9) (cs' := #[.int .i64 s.f0, .int .u16 s.f1, .bool s.f2, .bool s.f3, .bool s.f4, .bool s.f5, .bool s.f6, .bool s.f7, .bool s.f8, .int .u8 s.f9]) rfl
  exact h9
theorem put34_heap (w : World) (b : Nat) (s : S34) (k : Nat) (hk : k ≠ b) : (put34 w b s).heap[k]? = w.heap[k]? := by
  unfold put34
  simp only [heap_setCell_other _ ⟨b, _, none⟩ k _ hk]
theorem put34_below {B : Nat} {w0 w : World} (b : Nat) (hb : Below B w0 w) (hB : B ≤ b) (s : S34) : Below B w0 (put34 w b s) := by
  unfold put34
  repeat refine Below.setCell ?_ hB _
  exact hb
theorem put34_size (w : World) (b : Nat) (s : S34) : (put34 w b s).heap.size = w.heap.size := by unfold put34; simp
end Go.Proofs.YtdjffafcmomalaaDoor.Scr
/- What the rounds of script.read keep. -/
set_option linter.unusedVariables false
set_option linter.unusedSimpArgs false
namespace Go.Proofs.YtdjffafcmomalaaDoor.Scr
open Go Go.RowKit
open Go.Proofs.YtdjffafcmomalaaDoorW.PrintWords Go.Proofs.YtdjffafcmomalaaDoor.PScr

theorem loopW_other (s : S34) (x : ByteArray) (r : List ByteArray) (h1 : x ≠ tkeys) (h2 : x ≠ tbus) : loopW s (x :: r) = loopW (setF s x) r := by
  cases r with
  | nil => simp [loopW, h1, h2]
  | cons y r => simp [loopW, h1, h2]
theorem loopW_keys_end (s : S34) : loopW s [tkeys] = (s, false) := by simp [loopW]
theorem loopW_bus_end (s : S34) : loopW s [tbus] = (s, false) := by
  have : ¬ (tbus = tkeys) := by decide
  simp [loopW]
theorem loopW_keys (s : S34) (y : ByteArray) (r : List ByteArray) : loopW s (tkeys :: y :: r) = loopW { s with f1 := (numR y).1 % 65536 } r := by simp [loopW]
theorem loopW_bus (s : S34) (y : ByteArray) (r : List ByteArray) : loopW s (tbus :: y :: r) = loopW { s with f9 := (numR y).1 % 256 } r := by
  have : ¬ (tbus = tkeys) := by decide
  simp [loopW, this]

structure Inv (w0 : World) (W : List ByteArray) (g wb : Nat) (s : S34) (w : World) : Prop where
  bx : Bx s g w
  zb : Bx (zero34 0) w0.heap.size w
  wd : Wd W wb w
  bel : Below w0.heap.size w0 w
  ne : w0.heap.size < g
theorem Inv.below {w0 : World} {W : List ByteArray} {g wb : Nat} {s : S34} {w w1 : World} (h : Inv w0 W g wb s w) (hb : Below w.heap.size w w1) : Inv w0 W g wb s w1 :=
  ⟨h.bx.below hb, h.zb.below hb, h.wd.keep (fun k hk => hb.block k hk), below_step h.bel hb, h.ne⟩
theorem Inv.apart {w0 : World} {W : List ByteArray} {g wb : Nat} {s : S34} {w : World} (h : Inv w0 W g wb s w) : wb ≠ g := blk_ne h.wd h.bx (by decide)
theorem Inv.put {w0 : World} {W : List ByteArray} {g wb : Nat} {s s' : S34} {w : World} (h : Inv w0 W g wb s w) (i : Nat) (u : Value) (e : (cells34 s).setIfInBounds i u = cells34 s') : Inv w0 W g wb s' (w.setCell ⟨g, i, none⟩ u) :=
  ⟨blk_put h.bx i u e, blk_far h.zb (Nat.ne_of_lt h.ne) u, by
    have hk : wb ≠ (⟨g, i, none⟩ : Addr).block := h.apart
    show (w.setCell ⟨g, i, none⟩ u).heap[wb]? = _
    rw [heap_setCell_other _ _ _ _ hk]; exact h.wd, h.bel.setCell (Nat.le_of_lt h.ne) _, h.ne⟩
theorem Fx.put {g fb : Nat} {s : S34} {w : World} (h : Fx g fb w) (hs : Bx s g w) (i : Nat) (u : Value) : Fx g fb (w.setCell ⟨g, i, none⟩ u) := by
  have hne : fb ≠ g := blk_ne h hs (by decide)
  show (w.setCell ⟨g, i, none⟩ u).heap[fb]? = _
  rw [heap_setCell_other _ ⟨g, i, none⟩ _ _ hne]; exact h

def sfs : Nat → S34 → ByteArray → S34
  | 0, s, _ => s
  | k + 1, s, x => sf k (sfs k s x) x
theorem sfs_all (s : S34) (x : ByteArray) : sfs 7 s x = setF s x := rfl
theorem okS_sf (k : Nat) (s : S34) (x : ByteArray) (h : okS s = true) : okS (sf k s x) = true := by
  unfold sf
  split <;> (split <;> exact h)
theorem okS_setF (s : S34) (x : ByteArray) (h : okS s = true) : okS (setF s x) = true := by
  unfold setF
  exact okS_sf _ _ _ (okS_sf _ _ _ (okS_sf _ _ _ (okS_sf _ _ _ (okS_sf _ _ _ (okS_sf _ _ _ (okS_sf _ _ _ h))))))

theorem numL_bd : ∀ (l : List UInt8) (n r : Int) (m : Nat), 0 ≤ n → n < (16 ^ m : Nat) → numL l n = some r → 0 ≤ r ∧ r < (16 ^ (m + l.length) : Nat)
  | [], n, r, m, h0, h1, h => by
    simp only [numL, Option.some.injEq] at h
    subst h
    exact ⟨h0, by simpa using h1⟩
  | c :: l, n, r, m, h0, h1, h => by
    have e : (16 ^ (m + 1) : Nat) = 16 ^ m * 16 := Nat.pow_succ ..
    have e2 : m + (c :: l).length = (m + 1) + l.length := by simp; omega
    rw [numL] at h
    by_cases d1 : 48 ≤ c.toNat ∧ c.toNat ≤ 57
    · rw [if_pos d1] at h
      have := numL_bd l _ r (m + 1) (by omega) (by rw [e]; omega) h
      rw [e2]; exact this
    · rw [if_neg d1] at h
      by_cases d2 : 97 ≤ c.toNat ∧ c.toNat ≤ 102
      · rw [if_pos d2] at h
        have := numL_bd l _ r (m + 1) (by omega) (by rw [e]; omega) h
        rw [e2]; exact this
      · rw [if_neg d2] at h; cases h
theorem numR_bd (y : ByteArray) : 0 ≤ (numR y).1 ∧ (numR y).1 < 4294967296 := by
  unfold numR
  split
  · exact ⟨by decide, by decide⟩
  · split
    · exact ⟨by decide, by decide⟩
    · rename_i h8
      cases hn : numL y.data.toList 0 with
      | none => exact ⟨by decide, by decide⟩
      | some n =>
        have := numL_bd y.data.toList 0 n 0 (by decide) (by decide) hn
        have hl : y.data.toList.length ≤ 8 := by simp; exact Nat.le_of_not_lt h8
        have hp : (16 ^ (0 + y.data.toList.length) : Nat) ≤ 16 ^ 8 := Nat.pow_le_pow_right (by decide) (by omega)
        have e : (16 ^ 8 : Nat) = 4294967296 := by decide
        simp only
        omega
end Go.Proofs.YtdjffafcmomalaaDoor.Scr
/- The words of a line that is put together of words. -/
set_option linter.unusedVariables false
set_option linter.unusedSimpArgs false
namespace Go.Proofs.YtdjffafcmomalaaDoor.Scr
open Go Go.RowKit

theorem index_here (a b : List UInt8) (h : ∀ x ∈ a, x ≠ 32) : Lib.index (a ++ 32 :: b) [32] = a.length := by
  induction a with
  | nil => simp [Lib.index, List.isPrefixOf]
  | cons c a ih =>
    have hc : c ≠ 32 := h c List.mem_cons_self
    have hp : ([32] : List UInt8).isPrefixOf (c :: (a ++ 32 :: b)) = false := by simp [List.isPrefixOf]; exact fun e => hc e.symm
    rw [List.cons_append, Lib.index, hp, ih (fun x hx => h x (List.mem_cons_of_mem _ hx))]
    simp
theorem index_none (a : List UInt8) (h : ∀ x ∈ a, x ≠ 32) : Lib.index a [32] = -1 := by
  induction a with
  | nil => simp [Lib.index]
  | cons c a ih =>
    have hc : c ≠ 32 := h c List.mem_cons_self
    have hp : ([32] : List UInt8).isPrefixOf (c :: a) = false := by simp [List.isPrefixOf]; exact fun e => hc e.symm
    rw [Lib.index, hp, ih (fun x hx => h x (List.mem_cons_of_mem _ hx))]
    simp
theorem split_here (k : Nat) (a b : List UInt8) (h : ∀ x ∈ a, x ≠ 32) : Lib.splitK [32] 0 (k + 1) (a ++ 32 :: b) = a :: Lib.splitK [32] 0 k b := by
  have hi := index_here a b h
  rw [Lib.splitK, hi]
  simp
theorem count_here (a b : List UInt8) (h : ∀ x ∈ a, x ≠ 32) : (a ++ 32 :: b).count 32 = b.count 32 + 1 := by
  rw [List.count_append, List.count_cons_self, List.count_eq_zero.2 (fun hm => h 32 hm rfl)]
  omega
def joinL : List (List UInt8) → List UInt8
  | [] => []
  | [a] => a
  | a :: b :: r => a ++ 32 :: joinL (b :: r)
theorem split_join : ∀ (ws : List (List UInt8)), ws ≠ [] → (∀ a ∈ ws, ∀ x ∈ a, x ≠ 32) → Lib.splitK [32] 0 ((joinL ws).count 32) (joinL ws) = ws
  | [], h, _ => (h rfl).elim
  | [a], _, h => by
    have h1 := h a List.mem_cons_self
    show Lib.splitK [32] 0 (a.count 32) a = [a]
    rw [List.count_eq_zero.2 (fun hm => h1 32 hm rfl)]
    rfl
  | a :: b :: r, _, h => by
    have h1 := h a List.mem_cons_self
    show Lib.splitK [32] 0 ((a ++ 32 :: joinL (b :: r)).count 32) (a ++ 32 :: joinL (b :: r)) = _
    rw [count_here _ _ h1, split_here _ _ _ h1, split_join (b :: r) (by simp) (fun x hx => h x (List.mem_cons_of_mem _ hx))]
theorem words_join (l : ByteArray) (ws : List (List UInt8)) (hne : ws ≠ []) (hw : ∀ a ∈ ws, ∀ x ∈ a, x ≠ 32) (hl : l.data.toList = joinL ws) : wordsOf l = ws.map fun a => ⟨a.toArray⟩ := by
  have hc : Lib.countB l blank = (joinL ws).count 32 := by
    show Lib.count l.data.toList [32] = _
    rw [Lib.count_one, hl]
  have hd := Lib.splitB_data blank 0 (Lib.countB l blank) l
  have hs : Lib.splitK blank.data.toList 0 (Lib.countB l blank) l.data.toList = ws := by
    rw [hc, hl]
    exact split_join ws hne hw
  rw [hs] at hd
  have : (wordsOf l).map (fun b => (⟨b.data.toList.toArray⟩ : ByteArray)) = ws.map fun a => ⟨a.toArray⟩ := by
    rw [← hd, List.map_map]
    rfl
  rw [← this]
  simp
end Go.Proofs.YtdjffafcmomalaaDoor.Scr
/- script.read: a line whose first word is no number, or one that no span has. -/
set_option linter.unusedVariables false
set_option linter.unusedSimpArgs false
namespace Go.Proofs.YtdjffafcmomalaaDoor.Scr
open Go Go.RowKit
open Go.Proofs.YtdjffafcmomalaaDoorW.PrintWords Go.Proofs.YtdjffafcmomalaaDoor.PScr

theorem words_len (l : ByteArray) : (wordsOf l).length = Lib.countB l blank + 1 := Lib.splitB_all blank (by decide) 0 _ l rfl
set_option maxRecDepth 100000 in
set_option maxHeartbeats 4000000 in
theorem read_bad (l : ByteArray) (w0 : World) (hl : l.size ≤ 70000) (hG : GOk w0) (x : ByteArray) (hx : (wordsOf l).headD ⟨#[]⟩ = x) (hxs : x.size ≤ 1000000) (v : Int) (h : Lib.atoiAll x.data.toList = .syntax ∧ v = 0 ∨ Lib.atoiAll x.data.toList = .range ∧ v = Lib.atoiSat x.data.toList) :
    Calls Tryd.prog 43 #[.string l] w0 fun e w' => e = .returned (.tuple #[.agg #[.int .i64 v, .int .u16 0, .bool false, .bool false, .bool false, .bool false, .bool false, .bool false, .bool false, .int .u8 0], .bool false]) ∧ Below w0.heap.size w0 w' := by
  have HG := Aside0.mk hG
  have HX := Aside0.mk hx
  have HA := Aside0.mk h
  clear hG hx h
  have HWL : Aside0 ((wordsOf l).length = Lib.countB l blank + 1) := ⟨words_len l⟩
  have ZB0 : Aside0 (Bx (zero34 0) w0.heap.size (w0.alloc (.cells #[.int .i64 0, .int .u16 0, .bool false, .bool false, .bool false, .bool false, .bool false, .bool false, .bool false, .int .u8 0] 34))) := ⟨heap_alloc_new w0 _⟩
  have B0 := Aside0.mk (below_alloc (Below.refl w0.heap.size w0) (.cells #[.int .i64 0, .int .u16 0, .bool false, .bool false, .bool false, .bool false, .bool false, .bool false, .bool false, .int .u8 0] 34))
  go_enter Tryd.func43, Tryd.ntmps43
  go_wp2_with fail
  generalize w0.alloc (.cells #[.int .i64 0, .int .u16 0, .bool false, .bool false, .bool false, .bool false, .bool false, .bool false, .bool false, .int .u8 0] 34) = w at ZB0 B0 ⊢
  obtain ⟨m, hm⟩ := (GOk.below HG.out B0.out).max
  (with_reducible refine (Tryd.strings_Split l blank m w (by omega) hm (by decide)).mono ?_)
  rintro e w1 ⟨rfl, hw1⟩
  have W1 : Aside0 (Wd (wordsOf l) w.heap.size w1) := ⟨by rw [hw1]; exact heap_alloc_new w _⟩
  have hb1 : Below w.heap.size w w1 := by rw [hw1]; exact below_alloc (Below.refl _ _) _
  have Z1 := Aside0.mk (ZB0.out.below hb1)
  have B1 := Aside0.mk (below_step B0.out hb1)
  have NE := Aside0.mk (show w0.heap.size < w.heap.size from World.block_lt_of_cell? _ _ ((blk_cell ZB0.out 0).trans rfl))
  clear hm hw1 hb1 ZB0 B0
  generalize w.heap.size = wb at W1 NE ⊢
  have k0 : 0 < (wordsOf l).length := by rw [HWL.out]; omega
  have q0 : w1.cell? ⟨wb, 0, none⟩ = some (.string x) := by
    rw [W1.out.head k0, HX.out]
  clear k0
  generalize Lib.countB l blank = nw at HWL ⊢
  go_wp2_with fail
  (with_reducible refine (atoi_no x hxs v HA.out w1 (GOk.below HG.out B1.out)).mono ?_)
  rintro e w2 ⟨N, rfl, hb⟩
  have Z2 := Aside0.mk (Z1.out.below hb)
  have B2 := Aside0.mk (below_step B1.out hb)
  clear hb q0 Z1 B1 W1
  have n2 : w0.heap.size < w2.heap.size := World.block_lt_of_cell? _ _ ((blk_cell Z2.out 0).trans rfl)
  have n3 : w2.heap.size ≠ w0.heap.size := by omega
  have n4 : w0.heap.size ≠ w2.heap.size := by omega
  have z0 : w2.cell? ⟨w0.heap.size, 0, none⟩ = some (.int .i64 0) := (blk_cell Z2.out 0).trans rfl
  have y0 := blk_frozen Z2.out 0
  have z1 : w2.cell? ⟨w0.heap.size, 1, none⟩ = some (.int .u16 0) := (blk_cell Z2.out 1).trans rfl
  have y1 := blk_frozen Z2.out 1
  have z2 : w2.cell? ⟨w0.heap.size, 2, none⟩ = some (.bool false) := (blk_cell Z2.out 2).trans rfl
  have y2 := blk_frozen Z2.out 2
  have z3 : w2.cell? ⟨w0.heap.size, 3, none⟩ = some (.bool false) := (blk_cell Z2.out 3).trans rfl
  have y3 := blk_frozen Z2.out 3
  have z4 : w2.cell? ⟨w0.heap.size, 4, none⟩ = some (.bool false) := (blk_cell Z2.out 4).trans rfl
  have y4 := blk_frozen Z2.out 4
  have z5 : w2.cell? ⟨w0.heap.size, 5, none⟩ = some (.bool false) := (blk_cell Z2.out 5).trans rfl
  have y5 := blk_frozen Z2.out 5
  have z6 : w2.cell? ⟨w0.heap.size, 6, none⟩ = some (.bool false) := (blk_cell Z2.out 6).trans rfl
  have y6 := blk_frozen Z2.out 6
  have z7 : w2.cell? ⟨w0.heap.size, 7, none⟩ = some (.bool false) := (blk_cell Z2.out 7).trans rfl
  have y7 := blk_frozen Z2.out 7
  have z8 : w2.cell? ⟨w0.heap.size, 8, none⟩ = some (.bool false) := (blk_cell Z2.out 8).trans rfl
  have y8 := blk_frozen Z2.out 8
  have z9 : w2.cell? ⟨w0.heap.size, 9, none⟩ = some (.int .u8 0) := (blk_cell Z2.out 9).trans rfl
  have y9 := blk_frozen Z2.out 9
  have P3 : Aside0 (Bx (zero34 v) w0.heap.size (put34 w2 w0.heap.size (zero34 v))) := ⟨put34_bx Z2.out _⟩
  have B3 : Aside0 (Below w0.heap.size w0 (put34 w2 w0.heap.size (zero34 v))) := ⟨put34_below _ B2.out (Nat.le_refl _) _⟩
  unfold put34 at P3 B3
  simp only [zero34] at P3 B3
  go_wp2
  generalize ((((((((((w2.setCell ⟨w0.heap.size, 0, none⟩ (.int .i64 v)).setCell ⟨w0.heap.size, 1, none⟩ (.int .u16 0)).setCell ⟨w0.heap.size, 2, none⟩ (.bool false)).setCell ⟨w0.heap.size, 3, none⟩ (.bool false)).setCell ⟨w0.heap.size, 4, none⟩ (.bool false)).setCell ⟨w0.heap.size, 5, none⟩ (.bool false)).setCell ⟨w0.heap.size, 6, none⟩ (.bool false)).setCell ⟨w0.heap.size, 7, none⟩ (.bool false)).setCell ⟨w0.heap.size, 8, none⟩ (.bool false)).setCell ⟨w0.heap.size, 9, none⟩ (.int .u8 0)) = w3 at P3 B3 ⊢
  have FIN : Aside0 (Bx (zero34 v) w0.heap.size (w3.alloc (.cells #[.int .i64 v, .int .u16 0, .bool false, .bool false, .bool false, .bool false, .bool false, .bool false, .bool false, .int .u8 0] 34))) := ⟨P3.out.below (below_alloc (Below.refl _ _) _)⟩
  have BF := Aside0.mk (below_alloc B3.out (.cells #[.int .i64 v, .int .u16 0, .bool false, .bool false, .bool false, .bool false, .bool false, .bool false, .bool false, .int .u8 0] 34))
  generalize w3.alloc (.cells #[.int .i64 v, .int .u16 0, .bool false, .bool false, .bool false, .bool false, .bool false, .bool false, .bool false, .int .u8 0] 34) = w4 at FIN BF ⊢
  have c0 : w4.cell? ⟨w0.heap.size, 0, none⟩ = some (.int .i64 v) := (blk_cell FIN.out 0).trans rfl
  have c1 : w4.cell? ⟨w0.heap.size, 1, none⟩ = some (.int .u16 0) := (blk_cell FIN.out 1).trans rfl
  have c2 : w4.cell? ⟨w0.heap.size, 2, none⟩ = some (.bool false) := (blk_cell FIN.out 2).trans rfl
  have c3 : w4.cell? ⟨w0.heap.size, 3, none⟩ = some (.bool false) := (blk_cell FIN.out 3).trans rfl
  have c4 : w4.cell? ⟨w0.heap.size, 4, none⟩ = some (.bool false) := (blk_cell FIN.out 4).trans rfl
  have c5 : w4.cell? ⟨w0.heap.size, 5, none⟩ = some (.bool false) := (blk_cell FIN.out 5).trans rfl
  have c6 : w4.cell? ⟨w0.heap.size, 6, none⟩ = some (.bool false) := (blk_cell FIN.out 6).trans rfl
  have c7 : w4.cell? ⟨w0.heap.size, 7, none⟩ = some (.bool false) := (blk_cell FIN.out 7).trans rfl
  have c8 : w4.cell? ⟨w0.heap.size, 8, none⟩ = some (.bool false) := (blk_cell FIN.out 8).trans rfl
  have c9 : w4.cell? ⟨w0.heap.size, 9, none⟩ = some (.int .u8 0) := (blk_cell FIN.out 9).trans rfl
  refine bodyPost_ret (v := .tuple #[.agg #[.int .i64 v, .int .u16 0, .bool false, .bool false, .bool false, .bool false, .bool false, .bool false, .bool false, .int .u8 0], .bool false]) (by simp [results, Tryd.results43, go_sem, c0, c1, c2, c3, c4, c5, c6, c7, c8, c9]) rfl ⟨rfl, BF.out⟩

set_option maxRecDepth 100000 in
set_option maxHeartbeats 4000000 in
theorem read_low (l : ByteArray) (w0 : World) (hl : l.size ≤ 70000) (hG : GOk w0) (x : ByteArray) (hx : (wordsOf l).headD ⟨#[]⟩ = x) (hxs : x.size ≤ 1000000) (v : Int) (h : Lib.atoiAll x.data.toList = .ok v) (hv : v < 1) :
    Calls Tryd.prog 43 #[.string l] w0 fun e w' => e = .returned (.tuple #[.agg #[.int .i64 v, .int .u16 0, .bool false, .bool false, .bool false, .bool false, .bool false, .bool false, .bool false, .int .u8 0], .bool false]) ∧ Below w0.heap.size w0 w' := by
  have HG := Aside0.mk hG
  have HX := Aside0.mk hx
  have HA := Aside0.mk h
  clear hG hx h
  have HWL : Aside0 ((wordsOf l).length = Lib.countB l blank + 1) := ⟨words_len l⟩
  have ZB0 : Aside0 (Bx (zero34 0) w0.heap.size (w0.alloc (.cells #[.int .i64 0, .int .u16 0, .bool false, .bool false, .bool false, .bool false, .bool false, .bool false, .bool false, .int .u8 0] 34))) := ⟨heap_alloc_new w0 _⟩
  have B0 := Aside0.mk (below_alloc (Below.refl w0.heap.size w0) (.cells #[.int .i64 0, .int .u16 0, .bool false, .bool false, .bool false, .bool false, .bool false, .bool false, .bool false, .int .u8 0] 34))
  go_enter Tryd.func43, Tryd.ntmps43
  go_wp2_with fail
  generalize w0.alloc (.cells #[.int .i64 0, .int .u16 0, .bool false, .bool false, .bool false, .bool false, .bool false, .bool false, .bool false, .int .u8 0] 34) = w at ZB0 B0 ⊢
  obtain ⟨m, hm⟩ := (GOk.below HG.out B0.out).max
  (with_reducible refine (Tryd.strings_Split l blank m w (by omega) hm (by decide)).mono ?_)
  rintro e w1 ⟨rfl, hw1⟩
  have W1 : Aside0 (Wd (wordsOf l) w.heap.size w1) := ⟨by rw [hw1]; exact heap_alloc_new w _⟩
  have hb1 : Below w.heap.size w w1 := by rw [hw1]; exact below_alloc (Below.refl _ _) _
  have Z1 := Aside0.mk (ZB0.out.below hb1)
  have B1 := Aside0.mk (below_step B0.out hb1)
  have NE := Aside0.mk (show w0.heap.size < w.heap.size from World.block_lt_of_cell? _ _ ((blk_cell ZB0.out 0).trans rfl))
  clear hm hw1 hb1 ZB0 B0
  generalize w.heap.size = wb at W1 NE ⊢
  have k0 : 0 < (wordsOf l).length := by rw [HWL.out]; omega
  have q0 : w1.cell? ⟨wb, 0, none⟩ = some (.string x) := by
    rw [W1.out.head k0, HX.out]
  clear k0
  generalize Lib.countB l blank = nw at HWL ⊢
  go_wp2_with fail
  (with_reducible refine (atoi_ok x hxs v HA.out w1).mono ?_)
  rintro e w2 ⟨rfl, hb⟩
  have Z2 := Aside0.mk (Z1.out.below hb)
  have B2 := Aside0.mk (below_step B1.out hb)
  clear hb q0 Z1 B1 W1
  have n2 : w0.heap.size < w2.heap.size := World.block_lt_of_cell? _ _ ((blk_cell Z2.out 0).trans rfl)
  have n3 : w2.heap.size ≠ w0.heap.size := by omega
  have n4 : w0.heap.size ≠ w2.heap.size := by omega
  have z0 : w2.cell? ⟨w0.heap.size, 0, none⟩ = some (.int .i64 0) := (blk_cell Z2.out 0).trans rfl
  have y0 := blk_frozen Z2.out 0
  have z1 : w2.cell? ⟨w0.heap.size, 1, none⟩ = some (.int .u16 0) := (blk_cell Z2.out 1).trans rfl
  have y1 := blk_frozen Z2.out 1
  have z2 : w2.cell? ⟨w0.heap.size, 2, none⟩ = some (.bool false) := (blk_cell Z2.out 2).trans rfl
  have y2 := blk_frozen Z2.out 2
  have z3 : w2.cell? ⟨w0.heap.size, 3, none⟩ = some (.bool false) := (blk_cell Z2.out 3).trans rfl
  have y3 := blk_frozen Z2.out 3
  have z4 : w2.cell? ⟨w0.heap.size, 4, none⟩ = some (.bool false) := (blk_cell Z2.out 4).trans rfl
  have y4 := blk_frozen Z2.out 4
  have z5 : w2.cell? ⟨w0.heap.size, 5, none⟩ = some (.bool false) := (blk_cell Z2.out 5).trans rfl
  have y5 := blk_frozen Z2.out 5
  have z6 : w2.cell? ⟨w0.heap.size, 6, none⟩ = some (.bool false) := (blk_cell Z2.out 6).trans rfl
  have y6 := blk_frozen Z2.out 6
  have z7 : w2.cell? ⟨w0.heap.size, 7, none⟩ = some (.bool false) := (blk_cell Z2.out 7).trans rfl
  have y7 := blk_frozen Z2.out 7
  have z8 : w2.cell? ⟨w0.heap.size, 8, none⟩ = some (.bool false) := (blk_cell Z2.out 8).trans rfl
  have y8 := blk_frozen Z2.out 8
  have z9 : w2.cell? ⟨w0.heap.size, 9, none⟩ = some (.int .u8 0) := (blk_cell Z2.out 9).trans rfl
  have y9 := blk_frozen Z2.out 9
  have P3 : Aside0 (Bx (zero34 v) w0.heap.size (put34 w2 w0.heap.size (zero34 v))) := ⟨put34_bx Z2.out _⟩
  have B3 : Aside0 (Below w0.heap.size w0 (put34 w2 w0.heap.size (zero34 v))) := ⟨put34_below _ B2.out (Nat.le_refl _) _⟩
  unfold put34 at P3 B3
  simp only [zero34] at P3 B3
  go_wp2
  generalize ((((((((((w2.setCell ⟨w0.heap.size, 0, none⟩ (.int .i64 v)).setCell ⟨w0.heap.size, 1, none⟩ (.int .u16 0)).setCell ⟨w0.heap.size, 2, none⟩ (.bool false)).setCell ⟨w0.heap.size, 3, none⟩ (.bool false)).setCell ⟨w0.heap.size, 4, none⟩ (.bool false)).setCell ⟨w0.heap.size, 5, none⟩ (.bool false)).setCell ⟨w0.heap.size, 6, none⟩ (.bool false)).setCell ⟨w0.heap.size, 7, none⟩ (.bool false)).setCell ⟨w0.heap.size, 8, none⟩ (.bool false)).setCell ⟨w0.heap.size, 9, none⟩ (.int .u8 0)) = w3 at P3 B3 ⊢
  have FIN : Aside0 (Bx (zero34 v) w0.heap.size (w3.alloc (.cells #[.int .i64 v, .int .u16 0, .bool false, .bool false, .bool false, .bool false, .bool false, .bool false, .bool false, .int .u8 0] 34))) := ⟨P3.out.below (below_alloc (Below.refl _ _) _)⟩
  have BF := Aside0.mk (below_alloc B3.out (.cells #[.int .i64 v, .int .u16 0, .bool false, .bool false, .bool false, .bool false, .bool false, .bool false, .bool false, .int .u8 0] 34))
  generalize w3.alloc (.cells #[.int .i64 v, .int .u16 0, .bool false, .bool false, .bool false, .bool false, .bool false, .bool false, .bool false, .int .u8 0] 34) = w4 at FIN BF ⊢
  have c0 : w4.cell? ⟨w0.heap.size, 0, none⟩ = some (.int .i64 v) := (blk_cell FIN.out 0).trans rfl
  have c1 : w4.cell? ⟨w0.heap.size, 1, none⟩ = some (.int .u16 0) := (blk_cell FIN.out 1).trans rfl
  have c2 : w4.cell? ⟨w0.heap.size, 2, none⟩ = some (.bool false) := (blk_cell FIN.out 2).trans rfl
  have c3 : w4.cell? ⟨w0.heap.size, 3, none⟩ = some (.bool false) := (blk_cell FIN.out 3).trans rfl
  have c4 : w4.cell? ⟨w0.heap.size, 4, none⟩ = some (.bool false) := (blk_cell FIN.out 4).trans rfl
  have c5 : w4.cell? ⟨w0.heap.size, 5, none⟩ = some (.bool false) := (blk_cell FIN.out 5).trans rfl
  have c6 : w4.cell? ⟨w0.heap.size, 6, none⟩ = some (.bool false) := (blk_cell FIN.out 6).trans rfl
  have c7 : w4.cell? ⟨w0.heap.size, 7, none⟩ = some (.bool false) := (blk_cell FIN.out 7).trans rfl
  have c8 : w4.cell? ⟨w0.heap.size, 8, none⟩ = some (.bool false) := (blk_cell FIN.out 8).trans rfl
  have c9 : w4.cell? ⟨w0.heap.size, 9, none⟩ = some (.int .u8 0) := (blk_cell FIN.out 9).trans rfl
  refine bodyPost_ret (v := .tuple #[.agg #[.int .i64 v, .int .u16 0, .bool false, .bool false, .bool false, .bool false, .bool false, .bool false, .bool false, .int .u8 0], .bool false]) (by simp [results, Tryd.results43, go_sem, c0, c1, c2, c3, c4, c5, c6, c7, c8, c9]) rfl ⟨rfl, BF.out⟩

set_option maxRecDepth 100000 in
set_option maxHeartbeats 4000000 in
theorem read_high (l : ByteArray) (w0 : World) (hl : l.size ≤ 70000) (hG : GOk w0) (x : ByteArray) (hx : (wordsOf l).headD ⟨#[]⟩ = x) (hxs : x.size ≤ 1000000) (v : Int) (h : Lib.atoiAll x.data.toList = .ok v) (hv : 1048576 < v) :
    Calls Tryd.prog 43 #[.string l] w0 fun e w' => e = .returned (.tuple #[.agg #[.int .i64 v, .int .u16 0, .bool false, .bool false, .bool false, .bool false, .bool false, .bool false, .bool false, .int .u8 0], .bool false]) ∧ Below w0.heap.size w0 w' := by
  have HG := Aside0.mk hG
  have HX := Aside0.mk hx
  have HA := Aside0.mk h
  clear hG hx h
  have HWL : Aside0 ((wordsOf l).length = Lib.countB l blank + 1) := ⟨words_len l⟩
  have ZB0 : Aside0 (Bx (zero34 0) w0.heap.size (w0.alloc (.cells #[.int .i64 0, .int .u16 0, .bool false, .bool false, .bool false, .bool false, .bool false, .bool false, .bool false, .int .u8 0] 34))) := ⟨heap_alloc_new w0 _⟩
  have B0 := Aside0.mk (below_alloc (Below.refl w0.heap.size w0) (.cells #[.int .i64 0, .int .u16 0, .bool false, .bool false, .bool false, .bool false, .bool false, .bool false, .bool false, .int .u8 0] 34))
  go_enter Tryd.func43, Tryd.ntmps43
  go_wp2_with fail
  generalize w0.alloc (.cells #[.int .i64 0, .int .u16 0, .bool false, .bool false, .bool false, .bool false, .bool false, .bool false, .bool false, .int .u8 0] 34) = w at ZB0 B0 ⊢
  obtain ⟨m, hm⟩ := (GOk.below HG.out B0.out).max
  (with_reducible refine (Tryd.strings_Split l blank m w (by omega) hm (by decide)).mono ?_)
  rintro e w1 ⟨rfl, hw1⟩
  have W1 : Aside0 (Wd (wordsOf l) w.heap.size w1) := ⟨by rw [hw1]; exact heap_alloc_new w _⟩
  have hb1 : Below w.heap.size w w1 := by rw [hw1]; exact below_alloc (Below.refl _ _) _
  have Z1 := Aside0.mk (ZB0.out.below hb1)
  have B1 := Aside0.mk (below_step B0.out hb1)
  have NE := Aside0.mk (show w0.heap.size < w.heap.size from World.block_lt_of_cell? _ _ ((blk_cell ZB0.out 0).trans rfl))
  clear hm hw1 hb1 ZB0 B0
  generalize w.heap.size = wb at W1 NE ⊢
  have k0 : 0 < (wordsOf l).length := by rw [HWL.out]; omega
  have q0 : w1.cell? ⟨wb, 0, none⟩ = some (.string x) := by
    rw [W1.out.head k0, HX.out]
  clear k0
  generalize Lib.countB l blank = nw at HWL ⊢
  go_wp2_with fail
  (with_reducible refine (atoi_ok x hxs v HA.out w1).mono ?_)
  rintro e w2 ⟨rfl, hb⟩
  have v1 : 1 ≤ v := by omega
  have v2 : ¬ v < 1 := by omega
  have Z2 := Aside0.mk (Z1.out.below hb)
  have B2 := Aside0.mk (below_step B1.out hb)
  clear hb q0 Z1 B1 W1
  have n2 : w0.heap.size < w2.heap.size := World.block_lt_of_cell? _ _ ((blk_cell Z2.out 0).trans rfl)
  have n3 : w2.heap.size ≠ w0.heap.size := by omega
  have n4 : w0.heap.size ≠ w2.heap.size := by omega
  have z0 : w2.cell? ⟨w0.heap.size, 0, none⟩ = some (.int .i64 0) := (blk_cell Z2.out 0).trans rfl
  have y0 := blk_frozen Z2.out 0
  have z1 : w2.cell? ⟨w0.heap.size, 1, none⟩ = some (.int .u16 0) := (blk_cell Z2.out 1).trans rfl
  have y1 := blk_frozen Z2.out 1
  have z2 : w2.cell? ⟨w0.heap.size, 2, none⟩ = some (.bool false) := (blk_cell Z2.out 2).trans rfl
  have y2 := blk_frozen Z2.out 2
  have z3 : w2.cell? ⟨w0.heap.size, 3, none⟩ = some (.bool false) := (blk_cell Z2.out 3).trans rfl
  have y3 := blk_frozen Z2.out 3
  have z4 : w2.cell? ⟨w0.heap.size, 4, none⟩ = some (.bool false) := (blk_cell Z2.out 4).trans rfl
  have y4 := blk_frozen Z2.out 4
  have z5 : w2.cell? ⟨w0.heap.size, 5, none⟩ = some (.bool false) := (blk_cell Z2.out 5).trans rfl
  have y5 := blk_frozen Z2.out 5
  have z6 : w2.cell? ⟨w0.heap.size, 6, none⟩ = some (.bool false) := (blk_cell Z2.out 6).trans rfl
  have y6 := blk_frozen Z2.out 6
  have z7 : w2.cell? ⟨w0.heap.size, 7, none⟩ = some (.bool false) := (blk_cell Z2.out 7).trans rfl
  have y7 := blk_frozen Z2.out 7
  have z8 : w2.cell? ⟨w0.heap.size, 8, none⟩ = some (.bool false) := (blk_cell Z2.out 8).trans rfl
  have y8 := blk_frozen Z2.out 8
  have z9 : w2.cell? ⟨w0.heap.size, 9, none⟩ = some (.int .u8 0) := (blk_cell Z2.out 9).trans rfl
  have y9 := blk_frozen Z2.out 9
  have P3 : Aside0 (Bx (zero34 v) w0.heap.size (put34 w2 w0.heap.size (zero34 v))) := ⟨put34_bx Z2.out _⟩
  have B3 : Aside0 (Below w0.heap.size w0 (put34 w2 w0.heap.size (zero34 v))) := ⟨put34_below _ B2.out (Nat.le_refl _) _⟩
  unfold put34 at P3 B3
  simp only [zero34] at P3 B3
  go_wp2
  generalize ((((((((((w2.setCell ⟨w0.heap.size, 0, none⟩ (.int .i64 v)).setCell ⟨w0.heap.size, 1, none⟩ (.int .u16 0)).setCell ⟨w0.heap.size, 2, none⟩ (.bool false)).setCell ⟨w0.heap.size, 3, none⟩ (.bool false)).setCell ⟨w0.heap.size, 4, none⟩ (.bool false)).setCell ⟨w0.heap.size, 5, none⟩ (.bool false)).setCell ⟨w0.heap.size, 6, none⟩ (.bool false)).setCell ⟨w0.heap.size, 7, none⟩ (.bool false)).setCell ⟨w0.heap.size, 8, none⟩ (.bool false)).setCell ⟨w0.heap.size, 9, none⟩ (.int .u8 0)) = w3 at P3 B3 ⊢
  have FIN : Aside0 (Bx (zero34 v) w0.heap.size (w3.alloc (.cells #[.int .i64 v, .int .u16 0, .bool false, .bool false, .bool false, .bool false, .bool false, .bool false, .bool false, .int .u8 0] 34))) := ⟨P3.out.below (below_alloc (Below.refl _ _) _)⟩
  have BF := Aside0.mk (below_alloc B3.out (.cells #[.int .i64 v, .int .u16 0, .bool false, .bool false, .bool false, .bool false, .bool false, .bool false, .bool false, .int .u8 0] 34))
  generalize w3.alloc (.cells #[.int .i64 v, .int .u16 0, .bool false, .bool false, .bool false, .bool false, .bool false, .bool false, .bool false, .int .u8 0] 34) = w4 at FIN BF ⊢
  have c0 : w4.cell? ⟨w0.heap.size, 0, none⟩ = some (.int .i64 v) := (blk_cell FIN.out 0).trans rfl
  have c1 : w4.cell? ⟨w0.heap.size, 1, none⟩ = some (.int .u16 0) := (blk_cell FIN.out 1).trans rfl
  have c2 : w4.cell? ⟨w0.heap.size, 2, none⟩ = some (.bool false) := (blk_cell FIN.out 2).trans rfl
  have c3 : w4.cell? ⟨w0.heap.size, 3, none⟩ = some (.bool false) := (blk_cell FIN.out 3).trans rfl
  have c4 : w4.cell? ⟨w0.heap.size, 4, none⟩ = some (.bool false) := (blk_cell FIN.out 4).trans rfl
  have c5 : w4.cell? ⟨w0.heap.size, 5, none⟩ = some (.bool false) := (blk_cell FIN.out 5).trans rfl
  have c6 : w4.cell? ⟨w0.heap.size, 6, none⟩ = some (.bool false) := (blk_cell FIN.out 6).trans rfl
  have c7 : w4.cell? ⟨w0.heap.size, 7, none⟩ = some (.bool false) := (blk_cell FIN.out 7).trans rfl
  have c8 : w4.cell? ⟨w0.heap.size, 8, none⟩ = some (.bool false) := (blk_cell FIN.out 8).trans rfl
  have c9 : w4.cell? ⟨w0.heap.size, 9, none⟩ = some (.int .u8 0) := (blk_cell FIN.out 9).trans rfl
  refine bodyPost_ret (v := .tuple #[.agg #[.int .i64 v, .int .u16 0, .bool false, .bool false, .bool false, .bool false, .bool false, .bool false, .bool false, .int .u8 0], .bool false]) (by simp [results, Tryd.results43, go_sem, c0, c1, c2, c3, c4, c5, c6, c7, c8, c9]) rfl ⟨rfl, BF.out⟩
end Go.Proofs.YtdjffafcmomalaaDoor.Scr
/- script.read: a line whose first word is a number that a span may have. -/
set_option linter.unusedVariables false
set_option linter.unusedSimpArgs false
namespace Go.Proofs.YtdjffafcmomalaaDoor.Scr
open Go Go.RowKit
open Go.Proofs.YtdjffafcmomalaaDoorW.PrintWords Go.Proofs.YtdjffafcmomalaaDoor.PScr

theorem str_ne (x : ByteArray) (l : List UInt8) (h : x ≠ ⟨l.toArray⟩) : (x.toList == l) = false := by
  have e : (⟨l.toArray⟩ : ByteArray).toList = l := by rw [ByteArray.toList_eq]
  rw [← e]
  exact (Lib.bytes_beq_false_iff x ⟨l.toArray⟩).2 h
theorem str_ne' (x : ByteArray) (l : List UInt8) (h : x ≠ ⟨l.toArray⟩) : (l == x.toList) = false := by
  have e : (⟨l.toArray⟩ : ByteArray).toList = l := by rw [ByteArray.toList_eq]
  rw [← e]
  exact (Lib.bytes_beq_false_iff ⟨l.toArray⟩ x).2 (fun h2 => h h2.symm)
theorem beq_list (a b : ByteArray) : (a.toList == b.toList) = (a == b) := by
  rw [Bool.eq_iff_iff, Lib.bytes_beq_iff, MapKept.bytes_beq]
theorem count_le (l : ByteArray) : Lib.countB l blank ≤ l.size := Lib.countB_le blank (by decide) l.size l (Nat.le_refl _)
theorem split_words (l : ByteArray) (W : List ByteArray) (hW : wordsOf l = W) (m : Int) (w : World) (hl : l.size ≤ 70000) (hm : w.cell? ⟨0, 0, none⟩ = some (.int .i64 m)) :
    Calls Tryd.prog 62 #[.string l, .string ⟨#[32]⟩] w fun e w' => e = .returned (.slice (some ⟨w.heap.size, 0, none⟩) W.length W.length) ∧ w' = w.alloc (.cells (W.map Value.string).toArray 9) := by
  subst hW
  refine (Tryd.strings_Split l blank m w (by omega) hm (by decide)).mono ?_
  rintro e w' ⟨rfl, rfl⟩
  exact ⟨by rw [words_len], rfl⟩

set_option maxRecDepth 100000 in
set_option maxHeartbeats 16000000 in
theorem read_ok (l : ByteArray) (w0 : World) (hl : l.size ≤ 70000) (hG : GOk w0) (x0 : ByteArray) (W : List ByteArray) (hW : wordsOf l = W) (hx : W.headD ⟨#[]⟩ = x0) (hxs : x0.size ≤ 1000000) (v : Int) (h : Lib.atoiAll x0.data.toList = .ok v) (v1 : 1 ≤ v) (v2 : v ≤ 1048576) (R : S34 × Bool)
    (hR : R = ((loopW (zero34 v) W.tail).1, (loopW (zero34 v) W.tail).2 && (lineB (loopW (zero34 v) W.tail).1 == l))) :
    Calls Tryd.prog 43 #[.string l] w0 fun e w' => e = .returned (.tuple #[.agg #[.int .i64 R.1.f0, .int .u16 R.1.f1, .bool R.1.f2, .bool R.1.f3, .bool R.1.f4, .bool R.1.f5, .bool R.1.f6, .bool R.1.f7, .bool R.1.f8, .int .u8 R.1.f9], .bool R.2]) ∧ Below w0.heap.size w0 w' := by
  have HG := Aside0.mk hG
  have HX := Aside0.mk hx
  have HA := Aside0.mk h
  have HRR := Aside0.mk hR
  have HW := Aside0.mk hW
  have WL : Aside0 (0 < W.length) := ⟨by rw [← hW, words_len]; omega⟩
  have wl : W.length ≤ 100000 := by rw [← hW, words_len]; have := count_le l; omega
  clear hG hx h hR hW
  have ZB0 : Aside0 (Bx (zero34 0) w0.heap.size (w0.alloc (.cells #[.int .i64 0, .int .u16 0, .bool false, .bool false, .bool false, .bool false, .bool false, .bool false, .bool false, .int .u8 0] 34))) := ⟨heap_alloc_new w0 _⟩
  have B0 := Aside0.mk (below_alloc (Below.refl w0.heap.size w0) (.cells #[.int .i64 0, .int .u16 0, .bool false, .bool false, .bool false, .bool false, .bool false, .bool false, .bool false, .int .u8 0] 34))
  go_enter Tryd.func43, Tryd.ntmps43
  go_wp2_with fail
  generalize w0.alloc (.cells #[.int .i64 0, .int .u16 0, .bool false, .bool false, .bool false, .bool false, .bool false, .bool false, .bool false, .int .u8 0] 34) = w at ZB0 B0 ⊢
  obtain ⟨m, hm⟩ := (GOk.below HG.out B0.out).max
  (with_reducible refine (split_words l W HW.out m w hl hm).mono ?_)
  rintro e w1 ⟨rfl, hw1⟩
  have W1 : Aside0 (Wd W w.heap.size w1) := ⟨by rw [hw1]; exact heap_alloc_new w _⟩
  have hb1 : Below w.heap.size w w1 := by rw [hw1]; exact below_alloc (Below.refl _ _) _
  have Z1 := Aside0.mk (ZB0.out.below hb1)
  have B1 := Aside0.mk (below_step B0.out hb1)
  clear hm hw1 hb1 ZB0 B0
  generalize w.heap.size = wb at W1 ⊢
  have k0 := WL.out
  have q0 : w1.cell? ⟨wb, 0, none⟩ = some (.string x0) := by rw [W1.out.head k0, HX.out]
  go_wp2_with fail
  clear q0
  (with_reducible refine (atoi_ok x0 hxs v HA.out w1).mono ?_)
  rintro e w2 ⟨rfl, hb⟩
  have Z2 := Aside0.mk (Z1.out.below hb)
  have I0 : Aside0 (Inv w0 W w2.heap.size wb (zero34 v) (w2.alloc (.cells #[.int .i64 v, .int .u16 0, .bool false, .bool false, .bool false, .bool false, .bool false, .bool false, .bool false, .int .u8 0] 34))) := ⟨⟨heap_alloc_new w2 _, Z2.out.below (below_alloc (Below.refl _ _) _), (W1.out.keep (fun k hk => hb.block k hk)).keep (fun k hk => (below_alloc (Below.refl w2.heap.size w2) _).block k hk), below_alloc (below_step B1.out hb) _, blk_lt Z2.out⟩⟩
  clear hb Z1 B1 W1 Z2
  have nv : ¬ v < 1 := by omega
  have nv2 : ¬ 1048576 < v := by omega
  go_wp2
  generalize w2.alloc (.cells #[.int .i64 v, .int .u16 0, .bool false, .bool false, .bool false, .bool false, .bool false, .bool false, .bool false, .int .u8 0] 34) = w3 at I0 ⊢
  generalize w2.heap.size = g at I0 ⊢
  have L0 : Aside0 (loopW (zero34 v) (W.drop 1) = loopW (zero34 v) W.tail ∧ okS (zero34 v) = true) := ⟨by rw [List.drop_one], by unfold okS zero34; simp only [Bool.and_eq_true, decide_eq_true_eq]; omega⟩
  clear k0
  go_loopw [8] (fun i wr => ∃ (k : Nat) (s : S34), k ≤ W.length ∧ i = .int .i64 k ∧ Aside0 (Inv w0 W g wb s wr) ∧ Aside0 (loopW s (W.drop k) = loopW (zero34 v) W.tail ∧ okS s = true)) (fun i _ => W.length - (RowKit.intOf i).toNat)
  case atStart => exact ⟨1, zero34 v, WL.out, rfl, I0, L0⟩
  case round =>
    clear I0 L0
    obtain ⟨k, s, hk, rfl, HI, HL⟩ := hrel
    by_cases hlt : k < W.length
    · obtain ⟨x, hx⟩ : ∃ x, W[k] = x := ⟨_, rfl⟩
      have q : wr.cell? ⟨wb, k, none⟩ = some (.string x) := by rw [HI.out.wd.cell k hlt, hx]
      have hd : W.drop k = x :: W.drop (k + 1) := by rw [List.drop_eq_getElem_cons hlt, hx]
      have HD := Aside0.mk hd
      have WX := Aside0.mk hx
      clear hx hd
      have i0 : (0 : Int) ≤ (k : Int) := by omega
      have i1 : (k : Int) < (W.length : Int) := by omega
      by_cases hkeys : x = (⟨#[107, 101, 121, 115]⟩ : ByteArray)
      · subst hkeys
        by_cases hend : k + 1 = W.length
        · have e0 : ((k : Int) + 1 == (W.length : Int)) = true := by rw [beq_iff_eq]; omega
          have e1 : (k + 1 == W.length) = true := by rw [beq_iff_eq]; omega
          have e2 : decide (k + 1 = W.length) = true := decide_eq_true hend
          have e3 : decide ((k : Int) + 1 = (W.length : Int)) = true := decide_eq_true (by omega)
          have hloop : loopW (zero34 v) W.tail = (s, false) := by rw [← HL.out.1, HD.out, List.drop_of_length_le (by omega), loopW_keys_end]
          have hRR : R = (s, false) := by rw [HRR.out, hloop]; rfl
          subst hRR
          clear HRR hloop HD HL
          have c0 : wr.cell? ⟨g, 0, none⟩ = some (.int .i64 s.f0) := (blk_cell HI.out.bx 0).trans rfl
          have c1 : wr.cell? ⟨g, 1, none⟩ = some (.int .u16 s.f1) := (blk_cell HI.out.bx 1).trans rfl
          have c2 : wr.cell? ⟨g, 2, none⟩ = some (.bool s.f2) := (blk_cell HI.out.bx 2).trans rfl
          have c3 : wr.cell? ⟨g, 3, none⟩ = some (.bool s.f3) := (blk_cell HI.out.bx 3).trans rfl
          have c4 : wr.cell? ⟨g, 4, none⟩ = some (.bool s.f4) := (blk_cell HI.out.bx 4).trans rfl
          have c5 : wr.cell? ⟨g, 5, none⟩ = some (.bool s.f5) := (blk_cell HI.out.bx 5).trans rfl
          have c6 : wr.cell? ⟨g, 6, none⟩ = some (.bool s.f6) := (blk_cell HI.out.bx 6).trans rfl
          have c7 : wr.cell? ⟨g, 7, none⟩ = some (.bool s.f7) := (blk_cell HI.out.bx 7).trans rfl
          have c8 : wr.cell? ⟨g, 8, none⟩ = some (.bool s.f8) := (blk_cell HI.out.bx 8).trans rfl
          have c9 : wr.cell? ⟨g, 9, none⟩ = some (.int .u8 s.f9) := (blk_cell HI.out.bx 9).trans rfl
          have z0 : wr.cell? ⟨w0.heap.size, 0, none⟩ = some (.int .i64 0) := (blk_cell HI.out.zb 0).trans rfl
          have y0 := blk_frozen HI.out.zb 0
          have z1 : wr.cell? ⟨w0.heap.size, 1, none⟩ = some (.int .u16 0) := (blk_cell HI.out.zb 1).trans rfl
          have y1 := blk_frozen HI.out.zb 1
          have z2 : wr.cell? ⟨w0.heap.size, 2, none⟩ = some (.bool false) := (blk_cell HI.out.zb 2).trans rfl
          have y2 := blk_frozen HI.out.zb 2
          have z3 : wr.cell? ⟨w0.heap.size, 3, none⟩ = some (.bool false) := (blk_cell HI.out.zb 3).trans rfl
          have y3 := blk_frozen HI.out.zb 3
          have z4 : wr.cell? ⟨w0.heap.size, 4, none⟩ = some (.bool false) := (blk_cell HI.out.zb 4).trans rfl
          have y4 := blk_frozen HI.out.zb 4
          have z5 : wr.cell? ⟨w0.heap.size, 5, none⟩ = some (.bool false) := (blk_cell HI.out.zb 5).trans rfl
          have y5 := blk_frozen HI.out.zb 5
          have z6 : wr.cell? ⟨w0.heap.size, 6, none⟩ = some (.bool false) := (blk_cell HI.out.zb 6).trans rfl
          have y6 := blk_frozen HI.out.zb 6
          have z7 : wr.cell? ⟨w0.heap.size, 7, none⟩ = some (.bool false) := (blk_cell HI.out.zb 7).trans rfl
          have y7 := blk_frozen HI.out.zb 7
          have z8 : wr.cell? ⟨w0.heap.size, 8, none⟩ = some (.bool false) := (blk_cell HI.out.zb 8).trans rfl
          have y8 := blk_frozen HI.out.zb 8
          have z9 : wr.cell? ⟨w0.heap.size, 9, none⟩ = some (.int .u8 0) := (blk_cell HI.out.zb 9).trans rfl
          have y9 := blk_frozen HI.out.zb 9
          have P3 : Aside0 (Bx s w0.heap.size (put34 wr w0.heap.size s)) := ⟨put34_bx HI.out.zb _⟩
          have B3 : Aside0 (Below w0.heap.size w0 (put34 wr w0.heap.size s)) := ⟨put34_below _ HI.out.bel (Nat.le_refl _) _⟩
          unfold put34 at P3 B3
          clear HI
          go_wp2
          generalize ((((((((((wr.setCell ⟨w0.heap.size, 0, none⟩ (.int .i64 s.f0)).setCell ⟨w0.heap.size, 1, none⟩ (.int .u16 s.f1)).setCell ⟨w0.heap.size, 2, none⟩ (.bool s.f2)).setCell ⟨w0.heap.size, 3, none⟩ (.bool s.f3)).setCell ⟨w0.heap.size, 4, none⟩ (.bool s.f4)).setCell ⟨w0.heap.size, 5, none⟩ (.bool s.f5)).setCell ⟨w0.heap.size, 6, none⟩ (.bool s.f6)).setCell ⟨w0.heap.size, 7, none⟩ (.bool s.f7)).setCell ⟨w0.heap.size, 8, none⟩ (.bool s.f8)).setCell ⟨w0.heap.size, 9, none⟩ (.int .u8 s.f9)) = w4 at P3 B3 ⊢
          have d0 : w4.cell? ⟨w0.heap.size, 0, none⟩ = some (.int .i64 s.f0) := (blk_cell P3.out 0).trans rfl
          have d1 : w4.cell? ⟨w0.heap.size, 1, none⟩ = some (.int .u16 s.f1) := (blk_cell P3.out 1).trans rfl
          have d2 : w4.cell? ⟨w0.heap.size, 2, none⟩ = some (.bool s.f2) := (blk_cell P3.out 2).trans rfl
          have d3 : w4.cell? ⟨w0.heap.size, 3, none⟩ = some (.bool s.f3) := (blk_cell P3.out 3).trans rfl
          have d4 : w4.cell? ⟨w0.heap.size, 4, none⟩ = some (.bool s.f4) := (blk_cell P3.out 4).trans rfl
          have d5 : w4.cell? ⟨w0.heap.size, 5, none⟩ = some (.bool s.f5) := (blk_cell P3.out 5).trans rfl
          have d6 : w4.cell? ⟨w0.heap.size, 6, none⟩ = some (.bool s.f6) := (blk_cell P3.out 6).trans rfl
          have d7 : w4.cell? ⟨w0.heap.size, 7, none⟩ = some (.bool s.f7) := (blk_cell P3.out 7).trans rfl
          have d8 : w4.cell? ⟨w0.heap.size, 8, none⟩ = some (.bool s.f8) := (blk_cell P3.out 8).trans rfl
          have d9 : w4.cell? ⟨w0.heap.size, 9, none⟩ = some (.int .u8 s.f9) := (blk_cell P3.out 9).trans rfl
          refine bodyPost_ret (v := .tuple #[.agg #[.int .i64 s.f0, .int .u16 s.f1, .bool s.f2, .bool s.f3, .bool s.f4, .bool s.f5, .bool s.f6, .bool s.f7, .bool s.f8, .int .u8 s.f9], .bool false]) (by simp [results, Tryd.results43, go_sem, d0, d1, d2, d3, d4, d5, d6, d7, d8, d9]) rfl ⟨rfl, B3.out⟩
        · have hend' : ¬ k + 1 = W.length := hend
          have e0 : ((k : Int) + 1 == (W.length : Int)) = false := by rw [beq_eq_false_iff_ne]; omega
          have e1 : (k + 1 == W.length) = false := by rw [beq_eq_false_iff_ne]; omega
          have hk1 : k + 1 < W.length := by omega
          obtain ⟨y, hy⟩ : ∃ y, W[k + 1] = y := ⟨_, rfl⟩
          have q2 : wr.cell? ⟨wb, k + 1, none⟩ = some (.string y) := by rw [HI.out.wd.cell (k + 1) hk1, hy]
          have hd2 : W.drop (k + 1) = y :: W.drop (k + 2) := by rw [List.drop_eq_getElem_cons hk1, hy]
          have HD2 := Aside0.mk hd2
          clear hd2 hy
          go_wp2_with fail
          (with_reducible refine (number_calls y _).mono ?_)
          rintro e w4 ⟨rfl, hb⟩
          have I4 := Aside0.mk (HI.out.below hb)
          clear hb HI q q2
          have q : w4.cell? ⟨wb, k, none⟩ = some (.string ⟨#[107, 101, 121, 115]⟩) := by rw [I4.out.wd.cell k hlt, WX.out]
          have nb := numR_bd y
          have HN : Aside0 (loopW { s with f1 := (numR y).1 % 65536 } (W.drop (k + 2)) = loopW (zero34 v) W.tail ∧ okS { s with f1 := (numR y).1 % 65536 } = true) := ⟨by rw [← HL.out.1, HD.out, HD2.out, loopW_keys], by have h := HL.out.2; simp only [okS, Bool.and_eq_true, decide_eq_true_eq] at h ⊢; omega⟩
          obtain ⟨nv1, hnv1⟩ : ∃ n, (numR y).1 = n := ⟨_, rfl⟩
          rw [hnv1] at nb HN
          obtain ⟨nv3, hnv3⟩ : ∃ n, (numR y).2 = n := ⟨_, rfl⟩
          simp only [hnv1, hnv3]
          clear hnv1 hnv3
          have c1 : w4.cell? ⟨g, 1, none⟩ = some (.int .u16 s.f1) := (blk_cell I4.out.bx 1).trans rfl
          have y1 := blk_frozen I4.out.bx 1
          have IN : Aside0 (Inv w0 W g wb { s with f1 := nv1 % 65536 } (w4.setCell ⟨g, 1, none⟩ (.int .u16 (nv1 % 65536)))) := ⟨I4.out.put 1 (.int .u16 (nv1 % 65536)) rfl⟩
          clear I4 HL HD HD2
          go_wp2
          go_roundw
          case rel => exact ⟨k + 2, { s with f1 := nv1 % 65536 }, by omega, by go_num, IN, HN⟩
          case measure => simp [RowKit.intOf]; omega
      · by_cases hbus : x = (⟨#[98, 117, 115]⟩ : ByteArray)
        · subst hbus
          have x0_ : ((⟨#[98, 117, 115]⟩ : ByteArray) == (⟨#[107, 101, 121, 115]⟩ : ByteArray)) = false := by decide
          have x1_ : ((⟨#[98, 117, 115]⟩ : ByteArray) == (⟨#[98, 117, 115]⟩ : ByteArray)) = true := by decide
          clear hkeys
          by_cases hend : k + 1 = W.length
          · have e0 : ((k : Int) + 1 == (W.length : Int)) = true := by rw [beq_iff_eq]; omega
            have e1 : (k + 1 == W.length) = true := by rw [beq_iff_eq]; omega
            have e2 : decide (k + 1 = W.length) = true := decide_eq_true hend
            have e3 : decide ((k : Int) + 1 = (W.length : Int)) = true := decide_eq_true (by omega)
            have hloop : loopW (zero34 v) W.tail = (s, false) := by rw [← HL.out.1, HD.out, List.drop_of_length_le (by omega), loopW_bus_end]
            have hRR : R = (s, false) := by rw [HRR.out, hloop]; rfl
            subst hRR
            clear HRR hloop HD HL
            have c0 : wr.cell? ⟨g, 0, none⟩ = some (.int .i64 s.f0) := (blk_cell HI.out.bx 0).trans rfl
            have c1 : wr.cell? ⟨g, 1, none⟩ = some (.int .u16 s.f1) := (blk_cell HI.out.bx 1).trans rfl
            have c2 : wr.cell? ⟨g, 2, none⟩ = some (.bool s.f2) := (blk_cell HI.out.bx 2).trans rfl
            have c3 : wr.cell? ⟨g, 3, none⟩ = some (.bool s.f3) := (blk_cell HI.out.bx 3).trans rfl
            have c4 : wr.cell? ⟨g, 4, none⟩ = some (.bool s.f4) := (blk_cell HI.out.bx 4).trans rfl
            have c5 : wr.cell? ⟨g, 5, none⟩ = some (.bool s.f5) := (blk_cell HI.out.bx 5).trans rfl
            have c6 : wr.cell? ⟨g, 6, none⟩ = some (.bool s.f6) := (blk_cell HI.out.bx 6).trans rfl
            have c7 : wr.cell? ⟨g, 7, none⟩ = some (.bool s.f7) := (blk_cell HI.out.bx 7).trans rfl
            have c8 : wr.cell? ⟨g, 8, none⟩ = some (.bool s.f8) := (blk_cell HI.out.bx 8).trans rfl
            have c9 : wr.cell? ⟨g, 9, none⟩ = some (.int .u8 s.f9) := (blk_cell HI.out.bx 9).trans rfl
            have z0 : wr.cell? ⟨w0.heap.size, 0, none⟩ = some (.int .i64 0) := (blk_cell HI.out.zb 0).trans rfl
            have y0 := blk_frozen HI.out.zb 0
            have z1 : wr.cell? ⟨w0.heap.size, 1, none⟩ = some (.int .u16 0) := (blk_cell HI.out.zb 1).trans rfl
            have y1 := blk_frozen HI.out.zb 1
            have z2 : wr.cell? ⟨w0.heap.size, 2, none⟩ = some (.bool false) := (blk_cell HI.out.zb 2).trans rfl
            have y2 := blk_frozen HI.out.zb 2
            have z3 : wr.cell? ⟨w0.heap.size, 3, none⟩ = some (.bool false) := (blk_cell HI.out.zb 3).trans rfl
            have y3 := blk_frozen HI.out.zb 3
            have z4 : wr.cell? ⟨w0.heap.size, 4, none⟩ = some (.bool false) := (blk_cell HI.out.zb 4).trans rfl
            have y4 := blk_frozen HI.out.zb 4
            have z5 : wr.cell? ⟨w0.heap.size, 5, none⟩ = some (.bool false) := (blk_cell HI.out.zb 5).trans rfl
            have y5 := blk_frozen HI.out.zb 5
            have z6 : wr.cell? ⟨w0.heap.size, 6, none⟩ = some (.bool false) := (blk_cell HI.out.zb 6).trans rfl
            have y6 := blk_frozen HI.out.zb 6
            have z7 : wr.cell? ⟨w0.heap.size, 7, none⟩ = some (.bool false) := (blk_cell HI.out.zb 7).trans rfl
            have y7 := blk_frozen HI.out.zb 7
            have z8 : wr.cell? ⟨w0.heap.size, 8, none⟩ = some (.bool false) := (blk_cell HI.out.zb 8).trans rfl
            have y8 := blk_frozen HI.out.zb 8
            have z9 : wr.cell? ⟨w0.heap.size, 9, none⟩ = some (.int .u8 0) := (blk_cell HI.out.zb 9).trans rfl
            have y9 := blk_frozen HI.out.zb 9
            have P3 : Aside0 (Bx s w0.heap.size (put34 wr w0.heap.size s)) := ⟨put34_bx HI.out.zb _⟩
            have B3 : Aside0 (Below w0.heap.size w0 (put34 wr w0.heap.size s)) := ⟨put34_below _ HI.out.bel (Nat.le_refl _) _⟩
            unfold put34 at P3 B3
            clear HI
            go_wp2
            generalize ((((((((((wr.setCell ⟨w0.heap.size, 0, none⟩ (.int .i64 s.f0)).setCell ⟨w0.heap.size, 1, none⟩ (.int .u16 s.f1)).setCell ⟨w0.heap.size, 2, none⟩ (.bool s.f2)).setCell ⟨w0.heap.size, 3, none⟩ (.bool s.f3)).setCell ⟨w0.heap.size, 4, none⟩ (.bool s.f4)).setCell ⟨w0.heap.size, 5, none⟩ (.bool s.f5)).setCell ⟨w0.heap.size, 6, none⟩ (.bool s.f6)).setCell ⟨w0.heap.size, 7, none⟩ (.bool s.f7)).setCell ⟨w0.heap.size, 8, none⟩ (.bool s.f8)).setCell ⟨w0.heap.size, 9, none⟩ (.int .u8 s.f9)) = w4 at P3 B3 ⊢
            have d0 : w4.cell? ⟨w0.heap.size, 0, none⟩ = some (.int .i64 s.f0) := (blk_cell P3.out 0).trans rfl
            have d1 : w4.cell? ⟨w0.heap.size, 1, none⟩ = some (.int .u16 s.f1) := (blk_cell P3.out 1).trans rfl
            have d2 : w4.cell? ⟨w0.heap.size, 2, none⟩ = some (.bool s.f2) := (blk_cell P3.out 2).trans rfl
            have d3 : w4.cell? ⟨w0.heap.size, 3, none⟩ = some (.bool s.f3) := (blk_cell P3.out 3).trans rfl
            have d4 : w4.cell? ⟨w0.heap.size, 4, none⟩ = some (.bool s.f4) := (blk_cell P3.out 4).trans rfl
            have d5 : w4.cell? ⟨w0.heap.size, 5, none⟩ = some (.bool s.f5) := (blk_cell P3.out 5).trans rfl
            have d6 : w4.cell? ⟨w0.heap.size, 6, none⟩ = some (.bool s.f6) := (blk_cell P3.out 6).trans rfl
            have d7 : w4.cell? ⟨w0.heap.size, 7, none⟩ = some (.bool s.f7) := (blk_cell P3.out 7).trans rfl
            have d8 : w4.cell? ⟨w0.heap.size, 8, none⟩ = some (.bool s.f8) := (blk_cell P3.out 8).trans rfl
            have d9 : w4.cell? ⟨w0.heap.size, 9, none⟩ = some (.int .u8 s.f9) := (blk_cell P3.out 9).trans rfl
            refine bodyPost_ret (v := .tuple #[.agg #[.int .i64 s.f0, .int .u16 s.f1, .bool s.f2, .bool s.f3, .bool s.f4, .bool s.f5, .bool s.f6, .bool s.f7, .bool s.f8, .int .u8 s.f9], .bool false]) (by simp [results, Tryd.results43, go_sem, d0, d1, d2, d3, d4, d5, d6, d7, d8, d9]) rfl ⟨rfl, B3.out⟩
          · have hend' : ¬ k + 1 = W.length := hend
            have e0 : ((k : Int) + 1 == (W.length : Int)) = false := by rw [beq_eq_false_iff_ne]; omega
            have e1 : (k + 1 == W.length) = false := by rw [beq_eq_false_iff_ne]; omega
            have hk1 : k + 1 < W.length := by omega
            obtain ⟨y, hy⟩ : ∃ y, W[k + 1] = y := ⟨_, rfl⟩
            have q2 : wr.cell? ⟨wb, k + 1, none⟩ = some (.string y) := by rw [HI.out.wd.cell (k + 1) hk1, hy]
            have hd2 : W.drop (k + 1) = y :: W.drop (k + 2) := by rw [List.drop_eq_getElem_cons hk1, hy]
            have HD2 := Aside0.mk hd2
            clear hd2 hy
            go_wp2_with fail
            (with_reducible refine (number_calls y _).mono ?_)
            rintro e w4 ⟨rfl, hb⟩
            have I4 := Aside0.mk (HI.out.below hb)
            clear hb HI q q2
            have q : w4.cell? ⟨wb, k, none⟩ = some (.string ⟨#[98, 117, 115]⟩) := by rw [I4.out.wd.cell k hlt, WX.out]
            have nb := numR_bd y
            have HN : Aside0 (loopW { s with f9 := (numR y).1 % 256 } (W.drop (k + 2)) = loopW (zero34 v) W.tail ∧ okS { s with f9 := (numR y).1 % 256 } = true) := ⟨by rw [← HL.out.1, HD.out, HD2.out, loopW_bus], by have h := HL.out.2; simp only [okS, Bool.and_eq_true, decide_eq_true_eq] at h ⊢; omega⟩
            obtain ⟨nv1, hnv1⟩ : ∃ n, (numR y).1 = n := ⟨_, rfl⟩
            rw [hnv1] at nb HN
            obtain ⟨nv3, hnv3⟩ : ∃ n, (numR y).2 = n := ⟨_, rfl⟩
            simp only [hnv1, hnv3]
            clear hnv1 hnv3
            have c1 : w4.cell? ⟨g, 9, none⟩ = some (.int .u8 s.f9) := (blk_cell I4.out.bx 9).trans rfl
            have y1 := blk_frozen I4.out.bx 9
            have IN : Aside0 (Inv w0 W g wb { s with f9 := nv1 % 256 } (w4.setCell ⟨g, 9, none⟩ (.int .u8 (nv1 % 256)))) := ⟨I4.out.put 9 (.int .u8 (nv1 % 256)) rfl⟩
            clear I4 HL HD HD2
            go_wp2
            go_roundw
            case rel => exact ⟨k + 2, { s with f9 := nv1 % 256 }, by omega, by go_num, IN, HN⟩
            case measure => simp [RowKit.intOf]; omega
        · have x0_ : (x.toList == [107, 101, 121, 115]) = false := str_ne x _ hkeys
          have x1_ : (x.toList == [98, 117, 115]) = false := str_ne x _ hbus
          have HK := Aside0.mk hkeys
          have HB := Aside0.mk hbus
          clear hkeys hbus
          go_wp2_with fail
          (with_reducible refine (flags_calls g _).mono ?_)
          rintro e w4 ⟨rfl, n2, rfl⟩
          have F4 : Aside0 (Fx g wr.heap.size ((wr.drewN n2).alloc (.cells (flagCells g) 86))) := ⟨heap_alloc_new (wr.drewN n2) _⟩
          have I4 : Aside0 (Inv w0 W g wb s ((wr.drewN n2).alloc (.cells (flagCells g) 86))) := ⟨HI.out.below (below_alloc (pw_below_drewN (Below.refl _ _) n2) _)⟩
          have HS : Aside0 (loopW (setF s x) (W.drop (k + 1)) = loopW (zero34 v) W.tail ∧ okS (setF s x) = true) := ⟨by rw [← HL.out.1, HD.out, loopW_other _ _ _ HK.out HB.out], okS_setF _ _ HL.out.2⟩
          clear HI HL HD q
          generalize (wr.drewN n2).alloc (.cells (flagCells g) 86) = w5 at F4 I4 ⊢
          generalize wr.heap.size = fb at F4 ⊢
          go_wp2
          go_loopw [47] (fun i wr => ∃ j : Nat, j ≤ 7 ∧ i = .int .i64 j ∧ Aside0 (Inv w0 W g wb (sfs j s x) wr) ∧ Aside0 (Fx g fb wr)) (fun i _ => 7 - (RowKit.intOf i).toNat)
          case atStart => exact ⟨0, by omega, rfl, I4, F4⟩
          case round =>
            clear I4 F4
            obtain ⟨j, hj, rfl, IJ, FJ⟩ := hrel
            have q : _ := IJ.out.wd.cell k hlt
            rw [WX.out] at q
            rcases (show j = 0 ∨ j = 1 ∨ j = 2 ∨ j = 3 ∨ j = 4 ∨ j = 5 ∨ j = 6 ∨ j = 7 by omega) with rfl | rfl | rfl | rfl | rfl | rfl | rfl | rfl
            · have q0 := (blk_cell FJ.out 0).trans (show _ = some (.string ⟨#[116, 97, 112, 101]⟩) from rfl)
              have q1 := (blk_cell FJ.out 1).trans (show _ = some (.pointer (some ⟨g, 2, none⟩)) from rfl)
              obtain ⟨t, ht⟩ : ∃ t, sfs 0 s x = t := ⟨_, rfl⟩
              have SN : Aside0 (sfs (0 + 1) s x = sf 0 t x) := ⟨by rw [← ht]; rfl⟩
              rw [ht] at IJ
              clear ht
              have q2 : wr.cell? ⟨g, 2, none⟩ = some (.bool t.f2) := (blk_cell IJ.out.bx 2).trans rfl
              have y2 := blk_frozen IJ.out.bx 2
              have n0 : wb < wr.heap.size := World.block_lt_of_cell? _ _ q
              have n4 : g < wr.heap.size := World.block_lt_of_cell? _ _ q2
              have n6 : g ≠ wr.heap.size := by omega
              have n7 : wr.heap.size ≠ g := by omega
              have qn : ∀ n, ((wr.alloc (.cells #[.string ⟨#[116, 97, 112, 101]⟩, .pointer (some ⟨g, 2, none⟩)] 86)).drewN n).cell? ⟨wb, k, none⟩ = some (.string x) := fun n => (World.cell?_alloc_some _ _ _ (by rw [q]; rfl)).trans q
              have I6 : Aside0 (∀ o n, Inv w0 W g wb t ((wr.alloc o).drewN n)) := ⟨fun o n => IJ.out.below (pw_below_drewN (below_alloc (Below.refl _ _) o) n)⟩
              have F6 : Aside0 (∀ o n, Fx g fb ((wr.alloc o).drewN n)) := ⟨fun o n => FJ.out.below (pw_below_drewN (below_alloc (Below.refl _ _) o) n)⟩
              clear IJ FJ
              by_cases hw : x = (⟨#[116, 97, 112, 101]⟩ : ByteArray)
              · have SN2 : Aside0 (sfs (0 + 1) s x = { t with f2 := true }) := ⟨by rw [SN.out]; unfold sf; simp only [hw, if_true]⟩
                subst hw
                clear WX HK HB HS SN
                go_wp2
                go_quiet (fail)
                have c2 := (blk_cell (I6.out (.cells #[.string ⟨#[116, 97, 112, 101]⟩, .pointer (some ⟨g, 2, none⟩)] 86) nq).bx 2).trans (show _ = some (.bool t.f2) from rfl)
                go_wp2
                go_roundw
                case rel => exact ⟨0 + 1, by omega, rfl, ⟨by rw [SN2.out]; exact (I6.out _ _).put 2 (.bool true) rfl⟩, ⟨(F6.out _ _).put (I6.out _ _).bx _ _⟩⟩
                case measure => simp [RowKit.intOf]
              · have w0_ := str_ne' x _ hw
                have SN2 : Aside0 (sfs (0 + 1) s x = t) := ⟨by rw [SN.out]; unfold sf; simp only [hw, if_false]⟩
                clear hw SN
                go_wp2
                go_quiet (fail)
                go_wp2
                go_roundw
                case rel => exact ⟨0 + 1, by omega, rfl, ⟨by rw [SN2.out]; exact I6.out _ _⟩, ⟨F6.out _ _⟩⟩
                case measure => simp [RowKit.intOf]
            · have q0 := (blk_cell FJ.out 2).trans (show _ = some (.string ⟨#[102, 108, 97, 103]⟩) from rfl)
              have q1 := (blk_cell FJ.out 3).trans (show _ = some (.pointer (some ⟨g, 3, none⟩)) from rfl)
              obtain ⟨t, ht⟩ : ∃ t, sfs 1 s x = t := ⟨_, rfl⟩
              have SN : Aside0 (sfs (1 + 1) s x = sf 1 t x) := ⟨by rw [← ht]; rfl⟩
              rw [ht] at IJ
              clear ht
              have q2 : wr.cell? ⟨g, 3, none⟩ = some (.bool t.f3) := (blk_cell IJ.out.bx 3).trans rfl
              have y2 := blk_frozen IJ.out.bx 3
              have n0 : wb < wr.heap.size := World.block_lt_of_cell? _ _ q
              have n4 : g < wr.heap.size := World.block_lt_of_cell? _ _ q2
              have n6 : g ≠ wr.heap.size := by omega
              have n7 : wr.heap.size ≠ g := by omega
              have qn : ∀ n, ((wr.alloc (.cells #[.string ⟨#[102, 108, 97, 103]⟩, .pointer (some ⟨g, 3, none⟩)] 86)).drewN n).cell? ⟨wb, k, none⟩ = some (.string x) := fun n => (World.cell?_alloc_some _ _ _ (by rw [q]; rfl)).trans q
              have I6 : Aside0 (∀ o n, Inv w0 W g wb t ((wr.alloc o).drewN n)) := ⟨fun o n => IJ.out.below (pw_below_drewN (below_alloc (Below.refl _ _) o) n)⟩
              have F6 : Aside0 (∀ o n, Fx g fb ((wr.alloc o).drewN n)) := ⟨fun o n => FJ.out.below (pw_below_drewN (below_alloc (Below.refl _ _) o) n)⟩
              clear IJ FJ
              by_cases hw : x = (⟨#[102, 108, 97, 103]⟩ : ByteArray)
              · have SN2 : Aside0 (sfs (1 + 1) s x = { t with f3 := true }) := ⟨by rw [SN.out]; unfold sf; simp only [hw, if_true]⟩
                subst hw
                clear WX HK HB HS SN
                go_wp2
                go_quiet (fail)
                have c2 := (blk_cell (I6.out (.cells #[.string ⟨#[102, 108, 97, 103]⟩, .pointer (some ⟨g, 3, none⟩)] 86) nq).bx 3).trans (show _ = some (.bool t.f3) from rfl)
                go_wp2
                go_roundw
                case rel => exact ⟨1 + 1, by omega, rfl, ⟨by rw [SN2.out]; exact (I6.out _ _).put 3 (.bool true) rfl⟩, ⟨(F6.out _ _).put (I6.out _ _).bx _ _⟩⟩
                case measure => simp [RowKit.intOf]
              · have w0_ := str_ne' x _ hw
                have SN2 : Aside0 (sfs (1 + 1) s x = t) := ⟨by rw [SN.out]; unfold sf; simp only [hw, if_false]⟩
                clear hw SN
                go_wp2
                go_quiet (fail)
                go_wp2
                go_roundw
                case rel => exact ⟨1 + 1, by omega, rfl, ⟨by rw [SN2.out]; exact I6.out _ _⟩, ⟨F6.out _ _⟩⟩
                case measure => simp [RowKit.intOf]
            · have q0 := (blk_cell FJ.out 4).trans (show _ = some (.string ⟨#[105, 110]⟩) from rfl)
              have q1 := (blk_cell FJ.out 5).trans (show _ = some (.pointer (some ⟨g, 4, none⟩)) from rfl)
              obtain ⟨t, ht⟩ : ∃ t, sfs 2 s x = t := ⟨_, rfl⟩
              have SN : Aside0 (sfs (2 + 1) s x = sf 2 t x) := ⟨by rw [← ht]; rfl⟩
              rw [ht] at IJ
              clear ht
              have q2 : wr.cell? ⟨g, 4, none⟩ = some (.bool t.f4) := (blk_cell IJ.out.bx 4).trans rfl
              have y2 := blk_frozen IJ.out.bx 4
              have n0 : wb < wr.heap.size := World.block_lt_of_cell? _ _ q
              have n4 : g < wr.heap.size := World.block_lt_of_cell? _ _ q2
              have n6 : g ≠ wr.heap.size := by omega
              have n7 : wr.heap.size ≠ g := by omega
              have qn : ∀ n, ((wr.alloc (.cells #[.string ⟨#[105, 110]⟩, .pointer (some ⟨g, 4, none⟩)] 86)).drewN n).cell? ⟨wb, k, none⟩ = some (.string x) := fun n => (World.cell?_alloc_some _ _ _ (by rw [q]; rfl)).trans q
              have I6 : Aside0 (∀ o n, Inv w0 W g wb t ((wr.alloc o).drewN n)) := ⟨fun o n => IJ.out.below (pw_below_drewN (below_alloc (Below.refl _ _) o) n)⟩
              have F6 : Aside0 (∀ o n, Fx g fb ((wr.alloc o).drewN n)) := ⟨fun o n => FJ.out.below (pw_below_drewN (below_alloc (Below.refl _ _) o) n)⟩
              clear IJ FJ
              by_cases hw : x = (⟨#[105, 110]⟩ : ByteArray)
              · have SN2 : Aside0 (sfs (2 + 1) s x = { t with f4 := true }) := ⟨by rw [SN.out]; unfold sf; simp only [hw, if_true]⟩
                subst hw
                clear WX HK HB HS SN
                go_wp2
                go_quiet (fail)
                have c2 := (blk_cell (I6.out (.cells #[.string ⟨#[105, 110]⟩, .pointer (some ⟨g, 4, none⟩)] 86) nq).bx 4).trans (show _ = some (.bool t.f4) from rfl)
                go_wp2
                go_roundw
                case rel => exact ⟨2 + 1, by omega, rfl, ⟨by rw [SN2.out]; exact (I6.out _ _).put 4 (.bool true) rfl⟩, ⟨(F6.out _ _).put (I6.out _ _).bx _ _⟩⟩
                case measure => simp [RowKit.intOf]
              · have w0_ := str_ne' x _ hw
                have SN2 : Aside0 (sfs (2 + 1) s x = t) := ⟨by rw [SN.out]; unfold sf; simp only [hw, if_false]⟩
                clear hw SN
                go_wp2
                go_quiet (fail)
                go_wp2
                go_roundw
                case rel => exact ⟨2 + 1, by omega, rfl, ⟨by rw [SN2.out]; exact I6.out _ _⟩, ⟨F6.out _ _⟩⟩
                case measure => simp [RowKit.intOf]
            · have q0 := (blk_cell FJ.out 6).trans (show _ = some (.string ⟨#[111, 117, 116]⟩) from rfl)
              have q1 := (blk_cell FJ.out 7).trans (show _ = some (.pointer (some ⟨g, 5, none⟩)) from rfl)
              obtain ⟨t, ht⟩ : ∃ t, sfs 3 s x = t := ⟨_, rfl⟩
              have SN : Aside0 (sfs (3 + 1) s x = sf 3 t x) := ⟨by rw [← ht]; rfl⟩
              rw [ht] at IJ
              clear ht
              have q2 : wr.cell? ⟨g, 5, none⟩ = some (.bool t.f5) := (blk_cell IJ.out.bx 5).trans rfl
              have y2 := blk_frozen IJ.out.bx 5
              have n0 : wb < wr.heap.size := World.block_lt_of_cell? _ _ q
              have n4 : g < wr.heap.size := World.block_lt_of_cell? _ _ q2
              have n6 : g ≠ wr.heap.size := by omega
              have n7 : wr.heap.size ≠ g := by omega
              have qn : ∀ n, ((wr.alloc (.cells #[.string ⟨#[111, 117, 116]⟩, .pointer (some ⟨g, 5, none⟩)] 86)).drewN n).cell? ⟨wb, k, none⟩ = some (.string x) := fun n => (World.cell?_alloc_some _ _ _ (by rw [q]; rfl)).trans q
              have I6 : Aside0 (∀ o n, Inv w0 W g wb t ((wr.alloc o).drewN n)) := ⟨fun o n => IJ.out.below (pw_below_drewN (below_alloc (Below.refl _ _) o) n)⟩
              have F6 : Aside0 (∀ o n, Fx g fb ((wr.alloc o).drewN n)) := ⟨fun o n => FJ.out.below (pw_below_drewN (below_alloc (Below.refl _ _) o) n)⟩
              clear IJ FJ
              by_cases hw : x = (⟨#[111, 117, 116]⟩ : ByteArray)
              · have SN2 : Aside0 (sfs (3 + 1) s x = { t with f5 := true }) := ⟨by rw [SN.out]; unfold sf; simp only [hw, if_true]⟩
                subst hw
                clear WX HK HB HS SN
                go_wp2
                go_quiet (fail)
                have c2 := (blk_cell (I6.out (.cells #[.string ⟨#[111, 117, 116]⟩, .pointer (some ⟨g, 5, none⟩)] 86) nq).bx 5).trans (show _ = some (.bool t.f5) from rfl)
                go_wp2
                go_roundw
                case rel => exact ⟨3 + 1, by omega, rfl, ⟨by rw [SN2.out]; exact (I6.out _ _).put 5 (.bool true) rfl⟩, ⟨(F6.out _ _).put (I6.out _ _).bx _ _⟩⟩
                case measure => simp [RowKit.intOf]
              · have w0_ := str_ne' x _ hw
                have SN2 : Aside0 (sfs (3 + 1) s x = t) := ⟨by rw [SN.out]; unfold sf; simp only [hw, if_false]⟩
                clear hw SN
                go_wp2
                go_quiet (fail)
                go_wp2
                go_roundw
                case rel => exact ⟨3 + 1, by omega, rfl, ⟨by rw [SN2.out]; exact I6.out _ _⟩, ⟨F6.out _ _⟩⟩
                case measure => simp [RowKit.intOf]
            · have q0 := (blk_cell FJ.out 8).trans (show _ = some (.string ⟨#[105, 110, 116]⟩) from rfl)
              have q1 := (blk_cell FJ.out 9).trans (show _ = some (.pointer (some ⟨g, 6, none⟩)) from rfl)
              obtain ⟨t, ht⟩ : ∃ t, sfs 4 s x = t := ⟨_, rfl⟩
              have SN : Aside0 (sfs (4 + 1) s x = sf 4 t x) := ⟨by rw [← ht]; rfl⟩
              rw [ht] at IJ
              clear ht
              have q2 : wr.cell? ⟨g, 6, none⟩ = some (.bool t.f6) := (blk_cell IJ.out.bx 6).trans rfl
              have y2 := blk_frozen IJ.out.bx 6
              have n0 : wb < wr.heap.size := World.block_lt_of_cell? _ _ q
              have n4 : g < wr.heap.size := World.block_lt_of_cell? _ _ q2
              have n6 : g ≠ wr.heap.size := by omega
              have n7 : wr.heap.size ≠ g := by omega
              have qn : ∀ n, ((wr.alloc (.cells #[.string ⟨#[105, 110, 116]⟩, .pointer (some ⟨g, 6, none⟩)] 86)).drewN n).cell? ⟨wb, k, none⟩ = some (.string x) := fun n => (World.cell?_alloc_some _ _ _ (by rw [q]; rfl)).trans q
              have I6 : Aside0 (∀ o n, Inv w0 W g wb t ((wr.alloc o).drewN n)) := ⟨fun o n => IJ.out.below (pw_below_drewN (below_alloc (Below.refl _ _) o) n)⟩
              have F6 : Aside0 (∀ o n, Fx g fb ((wr.alloc o).drewN n)) := ⟨fun o n => FJ.out.below (pw_below_drewN (below_alloc (Below.refl _ _) o) n)⟩
              clear IJ FJ
              by_cases hw : x = (⟨#[105, 110, 116]⟩ : ByteArray)
              · have SN2 : Aside0 (sfs (4 + 1) s x = { t with f6 := true }) := ⟨by rw [SN.out]; unfold sf; simp only [hw, if_true]⟩
                subst hw
                clear WX HK HB HS SN
                go_wp2
                go_quiet (fail)
                have c2 := (blk_cell (I6.out (.cells #[.string ⟨#[105, 110, 116]⟩, .pointer (some ⟨g, 6, none⟩)] 86) nq).bx 6).trans (show _ = some (.bool t.f6) from rfl)
                go_wp2
                go_roundw
                case rel => exact ⟨4 + 1, by omega, rfl, ⟨by rw [SN2.out]; exact (I6.out _ _).put 6 (.bool true) rfl⟩, ⟨(F6.out _ _).put (I6.out _ _).bx _ _⟩⟩
                case measure => simp [RowKit.intOf]
              · have w0_ := str_ne' x _ hw
                have SN2 : Aside0 (sfs (4 + 1) s x = t) := ⟨by rw [SN.out]; unfold sf; simp only [hw, if_false]⟩
                clear hw SN
                go_wp2
                go_quiet (fail)
                go_wp2
                go_roundw
                case rel => exact ⟨4 + 1, by omega, rfl, ⟨by rw [SN2.out]; exact I6.out _ _⟩, ⟨F6.out _ _⟩⟩
                case measure => simp [RowKit.intOf]
            · have q0 := (blk_cell FJ.out 10).trans (show _ = some (.string ⟨#[99, 108, 101, 97, 114]⟩) from rfl)
              have q1 := (blk_cell FJ.out 11).trans (show _ = some (.pointer (some ⟨g, 7, none⟩)) from rfl)
              obtain ⟨t, ht⟩ : ∃ t, sfs 5 s x = t := ⟨_, rfl⟩
              have SN : Aside0 (sfs (5 + 1) s x = sf 5 t x) := ⟨by rw [← ht]; rfl⟩
              rw [ht] at IJ
              clear ht
              have q2 : wr.cell? ⟨g, 7, none⟩ = some (.bool t.f7) := (blk_cell IJ.out.bx 7).trans rfl
              have y2 := blk_frozen IJ.out.bx 7
              have n0 : wb < wr.heap.size := World.block_lt_of_cell? _ _ q
              have n4 : g < wr.heap.size := World.block_lt_of_cell? _ _ q2
              have n6 : g ≠ wr.heap.size := by omega
              have n7 : wr.heap.size ≠ g := by omega
              have qn : ∀ n, ((wr.alloc (.cells #[.string ⟨#[99, 108, 101, 97, 114]⟩, .pointer (some ⟨g, 7, none⟩)] 86)).drewN n).cell? ⟨wb, k, none⟩ = some (.string x) := fun n => (World.cell?_alloc_some _ _ _ (by rw [q]; rfl)).trans q
              have I6 : Aside0 (∀ o n, Inv w0 W g wb t ((wr.alloc o).drewN n)) := ⟨fun o n => IJ.out.below (pw_below_drewN (below_alloc (Below.refl _ _) o) n)⟩
              have F6 : Aside0 (∀ o n, Fx g fb ((wr.alloc o).drewN n)) := ⟨fun o n => FJ.out.below (pw_below_drewN (below_alloc (Below.refl _ _) o) n)⟩
              clear IJ FJ
              by_cases hw : x = (⟨#[99, 108, 101, 97, 114]⟩ : ByteArray)
              · have SN2 : Aside0 (sfs (5 + 1) s x = { t with f7 := true }) := ⟨by rw [SN.out]; unfold sf; simp only [hw, if_true]⟩
                subst hw
                clear WX HK HB HS SN
                go_wp2
                go_quiet (fail)
                have c2 := (blk_cell (I6.out (.cells #[.string ⟨#[99, 108, 101, 97, 114]⟩, .pointer (some ⟨g, 7, none⟩)] 86) nq).bx 7).trans (show _ = some (.bool t.f7) from rfl)
                go_wp2
                go_roundw
                case rel => exact ⟨5 + 1, by omega, rfl, ⟨by rw [SN2.out]; exact (I6.out _ _).put 7 (.bool true) rfl⟩, ⟨(F6.out _ _).put (I6.out _ _).bx _ _⟩⟩
                case measure => simp [RowKit.intOf]
              · have w0_ := str_ne' x _ hw
                have SN2 : Aside0 (sfs (5 + 1) s x = t) := ⟨by rw [SN.out]; unfold sf; simp only [hw, if_false]⟩
                clear hw SN
                go_wp2
                go_quiet (fail)
                go_wp2
                go_roundw
                case rel => exact ⟨5 + 1, by omega, rfl, ⟨by rw [SN2.out]; exact I6.out _ _⟩, ⟨F6.out _ _⟩⟩
                case measure => simp [RowKit.intOf]
            · have q0 := (blk_cell FJ.out 12).trans (show _ = some (.string ⟨#[119, 97, 105, 116]⟩) from rfl)
              have q1 := (blk_cell FJ.out 13).trans (show _ = some (.pointer (some ⟨g, 8, none⟩)) from rfl)
              obtain ⟨t, ht⟩ : ∃ t, sfs 6 s x = t := ⟨_, rfl⟩
              have SN : Aside0 (sfs (6 + 1) s x = sf 6 t x) := ⟨by rw [← ht]; rfl⟩
              rw [ht] at IJ
              clear ht
              have q2 : wr.cell? ⟨g, 8, none⟩ = some (.bool t.f8) := (blk_cell IJ.out.bx 8).trans rfl
              have y2 := blk_frozen IJ.out.bx 8
              have n0 : wb < wr.heap.size := World.block_lt_of_cell? _ _ q
              have n4 : g < wr.heap.size := World.block_lt_of_cell? _ _ q2
              have n6 : g ≠ wr.heap.size := by omega
              have n7 : wr.heap.size ≠ g := by omega
              have qn : ∀ n, ((wr.alloc (.cells #[.string ⟨#[119, 97, 105, 116]⟩, .pointer (some ⟨g, 8, none⟩)] 86)).drewN n).cell? ⟨wb, k, none⟩ = some (.string x) := fun n => (World.cell?_alloc_some _ _ _ (by rw [q]; rfl)).trans q
              have I6 : Aside0 (∀ o n, Inv w0 W g wb t ((wr.alloc o).drewN n)) := ⟨fun o n => IJ.out.below (pw_below_drewN (below_alloc (Below.refl _ _) o) n)⟩
              have F6 : Aside0 (∀ o n, Fx g fb ((wr.alloc o).drewN n)) := ⟨fun o n => FJ.out.below (pw_below_drewN (below_alloc (Below.refl _ _) o) n)⟩
              clear IJ FJ
              by_cases hw : x = (⟨#[119, 97, 105, 116]⟩ : ByteArray)
              · have SN2 : Aside0 (sfs (6 + 1) s x = { t with f8 := true }) := ⟨by rw [SN.out]; unfold sf; simp only [hw, if_true]⟩
                subst hw
                clear WX HK HB HS SN
                go_wp2
                go_quiet (fail)
                have c2 := (blk_cell (I6.out (.cells #[.string ⟨#[119, 97, 105, 116]⟩, .pointer (some ⟨g, 8, none⟩)] 86) nq).bx 8).trans (show _ = some (.bool t.f8) from rfl)
                go_wp2
                go_roundw
                case rel => exact ⟨6 + 1, by omega, rfl, ⟨by rw [SN2.out]; exact (I6.out _ _).put 8 (.bool true) rfl⟩, ⟨(F6.out _ _).put (I6.out _ _).bx _ _⟩⟩
                case measure => simp [RowKit.intOf]
              · have w0_ := str_ne' x _ hw
                have SN2 : Aside0 (sfs (6 + 1) s x = t) := ⟨by rw [SN.out]; unfold sf; simp only [hw, if_false]⟩
                clear hw SN
                go_wp2
                go_quiet (fail)
                go_wp2
                go_roundw
                case rel => exact ⟨6 + 1, by omega, rfl, ⟨by rw [SN2.out]; exact I6.out _ _⟩, ⟨F6.out _ _⟩⟩
                case measure => simp [RowKit.intOf]
            · go_wp2
              go_roundw
              case rel => exact ⟨k + 1, setF s x, by omega, by go_num, IJ, HS⟩
              case measure => simp [RowKit.intOf]; omega
    · obtain rfl : k = W.length := by omega
      have hloop : loopW (zero34 v) W.tail = (s, true) := by rw [← HL.out.1, List.drop_of_length_le (Nat.le_refl _)]; rfl
      have hRR : R = (s, lineB s == l) := by rw [HRR.out, hloop]; rfl
      subst hRR
      have hk2 := HL.out.2
      unfold okS at hk2
      simp only [Bool.and_eq_true, decide_eq_true_eq] at hk2
      have HK2 := Aside0.mk hk2
      clear HRR hloop HL hk2
      have c0 : wr.cell? ⟨g, 0, none⟩ = some (.int .i64 s.f0) := (blk_cell HI.out.bx 0).trans rfl
      have c1 : wr.cell? ⟨g, 1, none⟩ = some (.int .u16 s.f1) := (blk_cell HI.out.bx 1).trans rfl
      have c2 : wr.cell? ⟨g, 2, none⟩ = some (.bool s.f2) := (blk_cell HI.out.bx 2).trans rfl
      have c3 : wr.cell? ⟨g, 3, none⟩ = some (.bool s.f3) := (blk_cell HI.out.bx 3).trans rfl
      have c4 : wr.cell? ⟨g, 4, none⟩ = some (.bool s.f4) := (blk_cell HI.out.bx 4).trans rfl
      have c5 : wr.cell? ⟨g, 5, none⟩ = some (.bool s.f5) := (blk_cell HI.out.bx 5).trans rfl
      have c6 : wr.cell? ⟨g, 6, none⟩ = some (.bool s.f6) := (blk_cell HI.out.bx 6).trans rfl
      have c7 : wr.cell? ⟨g, 7, none⟩ = some (.bool s.f7) := (blk_cell HI.out.bx 7).trans rfl
      have c8 : wr.cell? ⟨g, 8, none⟩ = some (.bool s.f8) := (blk_cell HI.out.bx 8).trans rfl
      have c9 : wr.cell? ⟨g, 9, none⟩ = some (.int .u8 s.f9) := (blk_cell HI.out.bx 9).trans rfl
      have z0 : wr.cell? ⟨w0.heap.size, 0, none⟩ = some (.int .i64 0) := (blk_cell HI.out.zb 0).trans rfl
      have y0 := blk_frozen HI.out.zb 0
      have z1 : wr.cell? ⟨w0.heap.size, 1, none⟩ = some (.int .u16 0) := (blk_cell HI.out.zb 1).trans rfl
      have y1 := blk_frozen HI.out.zb 1
      have z2 : wr.cell? ⟨w0.heap.size, 2, none⟩ = some (.bool false) := (blk_cell HI.out.zb 2).trans rfl
      have y2 := blk_frozen HI.out.zb 2
      have z3 : wr.cell? ⟨w0.heap.size, 3, none⟩ = some (.bool false) := (blk_cell HI.out.zb 3).trans rfl
      have y3 := blk_frozen HI.out.zb 3
      have z4 : wr.cell? ⟨w0.heap.size, 4, none⟩ = some (.bool false) := (blk_cell HI.out.zb 4).trans rfl
      have y4 := blk_frozen HI.out.zb 4
      have z5 : wr.cell? ⟨w0.heap.size, 5, none⟩ = some (.bool false) := (blk_cell HI.out.zb 5).trans rfl
      have y5 := blk_frozen HI.out.zb 5
      have z6 : wr.cell? ⟨w0.heap.size, 6, none⟩ = some (.bool false) := (blk_cell HI.out.zb 6).trans rfl
      have y6 := blk_frozen HI.out.zb 6
      have z7 : wr.cell? ⟨w0.heap.size, 7, none⟩ = some (.bool false) := (blk_cell HI.out.zb 7).trans rfl
      have y7 := blk_frozen HI.out.zb 7
      have z8 : wr.cell? ⟨w0.heap.size, 8, none⟩ = some (.bool false) := (blk_cell HI.out.zb 8).trans rfl
      have y8 := blk_frozen HI.out.zb 8
      have z9 : wr.cell? ⟨w0.heap.size, 9, none⟩ = some (.int .u8 0) := (blk_cell HI.out.zb 9).trans rfl
      have y9 := blk_frozen HI.out.zb 9
      go_wp2
      have IB : Aside0 (Inv w0 W g wb s wr.drew) := ⟨HI.out.below (pw_below_drewN (Below.refl wr.heap.size wr) 1)⟩
      clear HI
      go_region_with (first | (go_at_call 36; (with_reducible refine (line_calls s wr.drew (by have := HK2.out; omega) (by have := HK2.out; omega) (by have := HK2.out; omega) (by have := HK2.out; omega) (by have := HK2.out; omega) (by have := HK2.out; omega) (GOk.below HG.out IB.out.bel)).mono ?_); rintro e w4 ⟨rfl, hb⟩; have I4 := Aside0.mk (IB.out.below hb); have cc0 : w4.cell? ⟨g, 0, none⟩ = some (.int .i64 s.f0) := (blk_cell I4.out.bx 0).trans rfl; have cc1 : w4.cell? ⟨g, 1, none⟩ = some (.int .u16 s.f1) := (blk_cell I4.out.bx 1).trans rfl; have cc2 : w4.cell? ⟨g, 2, none⟩ = some (.bool s.f2) := (blk_cell I4.out.bx 2).trans rfl; have cc3 : w4.cell? ⟨g, 3, none⟩ = some (.bool s.f3) := (blk_cell I4.out.bx 3).trans rfl; have cc4 : w4.cell? ⟨g, 4, none⟩ = some (.bool s.f4) := (blk_cell I4.out.bx 4).trans rfl; have cc5 : w4.cell? ⟨g, 5, none⟩ = some (.bool s.f5) := (blk_cell I4.out.bx 5).trans rfl; have cc6 : w4.cell? ⟨g, 6, none⟩ = some (.bool s.f6) := (blk_cell I4.out.bx 6).trans rfl; have cc7 : w4.cell? ⟨g, 7, none⟩ = some (.bool s.f7) := (blk_cell I4.out.bx 7).trans rfl; have cc8 : w4.cell? ⟨g, 8, none⟩ = some (.bool s.f8) := (blk_cell I4.out.bx 8).trans rfl; have cc9 : w4.cell? ⟨g, 9, none⟩ = some (.int .u8 s.f9) := (blk_cell I4.out.bx 9).trans rfl; have zz0 : w4.cell? ⟨w0.heap.size, 0, none⟩ = some (.int .i64 0) := (blk_cell I4.out.zb 0).trans rfl; have yy0 := blk_frozen I4.out.zb 0; have zz1 : w4.cell? ⟨w0.heap.size, 1, none⟩ = some (.int .u16 0) := (blk_cell I4.out.zb 1).trans rfl; have yy1 := blk_frozen I4.out.zb 1; have zz2 : w4.cell? ⟨w0.heap.size, 2, none⟩ = some (.bool false) := (blk_cell I4.out.zb 2).trans rfl; have yy2 := blk_frozen I4.out.zb 2; have zz3 : w4.cell? ⟨w0.heap.size, 3, none⟩ = some (.bool false) := (blk_cell I4.out.zb 3).trans rfl; have yy3 := blk_frozen I4.out.zb 3; have zz4 : w4.cell? ⟨w0.heap.size, 4, none⟩ = some (.bool false) := (blk_cell I4.out.zb 4).trans rfl; have yy4 := blk_frozen I4.out.zb 4; have zz5 : w4.cell? ⟨w0.heap.size, 5, none⟩ = some (.bool false) := (blk_cell I4.out.zb 5).trans rfl; have yy5 := blk_frozen I4.out.zb 5; have zz6 : w4.cell? ⟨w0.heap.size, 6, none⟩ = some (.bool false) := (blk_cell I4.out.zb 6).trans rfl; have yy6 := blk_frozen I4.out.zb 6; have zz7 : w4.cell? ⟨w0.heap.size, 7, none⟩ = some (.bool false) := (blk_cell I4.out.zb 7).trans rfl; have yy7 := blk_frozen I4.out.zb 7; have zz8 : w4.cell? ⟨w0.heap.size, 8, none⟩ = some (.bool false) := (blk_cell I4.out.zb 8).trans rfl; have yy8 := blk_frozen I4.out.zb 8; have zz9 : w4.cell? ⟨w0.heap.size, 9, none⟩ = some (.int .u8 0) := (blk_cell I4.out.zb 9).trans rfl; have yy9 := blk_frozen I4.out.zb 9; clear hb))
      all_goals go_wp2
      all_goals have P3 : Aside0 (Bx s w0.heap.size (put34 w4 w0.heap.size s)) := ⟨put34_bx I4.out.zb _⟩
      all_goals have B3 : Aside0 (Below w0.heap.size w0 (put34 w4 w0.heap.size s)) := ⟨put34_below _ I4.out.bel (Nat.le_refl _) _⟩
      all_goals unfold put34 at P3 B3
      all_goals generalize ((((((((((w4.setCell ⟨w0.heap.size, 0, none⟩ (.int .i64 s.f0)).setCell ⟨w0.heap.size, 1, none⟩ (.int .u16 s.f1)).setCell ⟨w0.heap.size, 2, none⟩ (.bool s.f2)).setCell ⟨w0.heap.size, 3, none⟩ (.bool s.f3)).setCell ⟨w0.heap.size, 4, none⟩ (.bool s.f4)).setCell ⟨w0.heap.size, 5, none⟩ (.bool s.f5)).setCell ⟨w0.heap.size, 6, none⟩ (.bool s.f6)).setCell ⟨w0.heap.size, 7, none⟩ (.bool s.f7)).setCell ⟨w0.heap.size, 8, none⟩ (.bool s.f8)).setCell ⟨w0.heap.size, 9, none⟩ (.int .u8 s.f9)) = w6 at P3 B3 ⊢
      all_goals have d0 : w6.cell? ⟨w0.heap.size, 0, none⟩ = some (.int .i64 s.f0) := (blk_cell P3.out 0).trans rfl
      all_goals have d1 : w6.cell? ⟨w0.heap.size, 1, none⟩ = some (.int .u16 s.f1) := (blk_cell P3.out 1).trans rfl
      all_goals have d2 : w6.cell? ⟨w0.heap.size, 2, none⟩ = some (.bool s.f2) := (blk_cell P3.out 2).trans rfl
      all_goals have d3 : w6.cell? ⟨w0.heap.size, 3, none⟩ = some (.bool s.f3) := (blk_cell P3.out 3).trans rfl
      all_goals have d4 : w6.cell? ⟨w0.heap.size, 4, none⟩ = some (.bool s.f4) := (blk_cell P3.out 4).trans rfl
      all_goals have d5 : w6.cell? ⟨w0.heap.size, 5, none⟩ = some (.bool s.f5) := (blk_cell P3.out 5).trans rfl
      all_goals have d6 : w6.cell? ⟨w0.heap.size, 6, none⟩ = some (.bool s.f6) := (blk_cell P3.out 6).trans rfl
      all_goals have d7 : w6.cell? ⟨w0.heap.size, 7, none⟩ = some (.bool s.f7) := (blk_cell P3.out 7).trans rfl
      all_goals have d8 : w6.cell? ⟨w0.heap.size, 8, none⟩ = some (.bool s.f8) := (blk_cell P3.out 8).trans rfl
      all_goals have d9 : w6.cell? ⟨w0.heap.size, 9, none⟩ = some (.int .u8 s.f9) := (blk_cell P3.out 9).trans rfl
      all_goals refine bodyPost_ret (v := .tuple #[.agg #[.int .i64 s.f0, .int .u16 s.f1, .bool s.f2, .bool s.f3, .bool s.f4, .bool s.f5, .bool s.f6, .bool s.f7, .bool s.f8, .int .u8 s.f9], .bool (lineB s == l)]) (by simp [results, Tryd.results43, go_sem, beq_list, d0, d1, d2, d3, d4, d5, d6, d7, d8, d9]) rfl ⟨rfl, B3.out⟩

end Go.Proofs.YtdjffafcmomalaaDoor.Scr
/- script.read: the whole contract, for every line of at most 70000 bytes. -/
set_option linter.unusedVariables false
set_option linter.unusedSimpArgs false
namespace Go.Proofs.YtdjffafcmomalaaDoor.Scr
open Go Go.RowKit
open Go.Proofs.YtdjffafcmomalaaDoorW.PrintWords Go.Proofs.YtdjffafcmomalaaDoor.PScr

theorem head_size (l : ByteArray) : ((wordsOf l).headD ⟨#[]⟩).size ≤ l.size := by
  unfold wordsOf
  cases Lib.countB l blank with
  | zero => exact Nat.le_refl _
  | succ k =>
    unfold Lib.splitB
    split
    · exact Nat.le_refl _
    · simp only [List.headD_cons, ByteArray.size_extract]
      omega
abbrev agg34 (s : S34) : Value := .agg #[.int .i64 s.f0, .int .u16 s.f1, .bool s.f2, .bool s.f3, .bool s.f4, .bool s.f5, .bool s.f6, .bool s.f7, .bool s.f8, .int .u8 s.f9]

theorem read_calls (l : ByteArray) (w0 : World) (hl : l.size ≤ 70000) (hG : GOk w0) :
    Calls Tryd.prog 43 #[.string l] w0 fun e w' => e = .returned (.tuple #[agg34 (readR l).1, .bool (readR l).2]) ∧ Below w0.heap.size w0 w' := by
  obtain ⟨x, hx⟩ : ∃ x, (wordsOf l).headD ⟨#[]⟩ = x := ⟨_, rfl⟩
  have hxs : x.size ≤ 1000000 := by have := head_size l; rw [hx] at this; omega
  rcases hA : Lib.atoiAll x.data.toList with v | _ | _
  rotate_left
  · have e : readR l = (zero34 0, false) := by unfold readR; rw [hx, hA]
    rw [e]
    exact read_bad l w0 hl hG x hx hxs 0 (.inl ⟨hA, rfl⟩)
  · have e : readR l = (zero34 (Lib.atoiSat x.data.toList), false) := by unfold readR; rw [hx, hA]
    rw [e]
    exact read_bad l w0 hl hG x hx hxs _ (.inr ⟨hA, rfl⟩)
  · by_cases v1 : v < 1
    · have e : readR l = (zero34 v, false) := by unfold readR; rw [hx, hA]; simp only [if_pos v1]
      rw [e]
      exact read_low l w0 hl hG x hx hxs v hA v1
    · by_cases v2 : 1048576 < v
      · have e : readR l = (zero34 v, false) := by unfold readR; rw [hx, hA]; simp only [if_neg v1, if_pos v2]
        rw [e]
        exact read_high l w0 hl hG x hx hxs v hA v2
      · refine read_ok l w0 hl hG x (wordsOf l) rfl hx hxs v hA (by omega) (by omega) (readR l) ?_
        unfold readR
        rw [hx, hA]
        simp only [if_neg v1, if_neg v2]
        obtain ⟨⟨s, b⟩, h⟩ : ∃ q, loopW (zero34 v) (wordsOf l).tail = q := ⟨_, rfl⟩
        rw [h]
        cases b <;> simp
theorem setF_f0 (s : S34) (x : ByteArray) : (setF s x).f0 = s.f0 := by
  have h : ∀ k s, (sf k s x).f0 = s.f0 := fun k s => by unfold sf; split <;> (split <;> rfl)
  unfold setF
  rw [h, h, h, h, h, h, h]
theorem okS_loopW : ∀ (n : Nat) (W : List ByteArray), W.length ≤ n → ∀ s, okS s = true → okS (loopW s W).1 = true ∧ (loopW s W).1.f0 = s.f0
  | 0, [], _, s, h => ⟨h, rfl⟩
  | n + 1, [], _, s, h => ⟨h, rfl⟩
  | n + 1, [x], _, s, h => by
    by_cases h1 : x = tkeys
    · simp [loopW, h1, h]
    · by_cases h2 : x = tbus
      · subst h2
        rw [loopW_bus_end]; exact ⟨h, rfl⟩
      · rw [loopW_other _ _ _ h1 h2]
        exact ⟨okS_setF _ _ h, setF_f0 s x⟩
  | n + 1, x :: y :: r, hn, s, h => by
    have hr : r.length ≤ n := by simp at hn; omega
    by_cases h1 : x = tkeys
    · subst h1
      rw [loopW_keys]
      have nb := numR_bd y
      exact okS_loopW n r hr { s with f1 := (numR y).1 % 65536 } (by simp only [okS, Bool.and_eq_true, decide_eq_true_eq] at h ⊢; omega)
    · by_cases h2 : x = tbus
      · subst h2
        rw [loopW_bus]
        have nb := numR_bd y
        exact okS_loopW n r hr { s with f9 := (numR y).1 % 256 } (by simp only [okS, Bool.and_eq_true, decide_eq_true_eq] at h ⊢; omega)
      · rw [loopW_other _ _ _ h1 h2]
        have := okS_loopW n (y :: r) (by simp at hn ⊢; omega) (setF s x) (okS_setF _ _ h)
        rw [setF_f0 s x] at this
        exact this
theorem readR_ok (l : ByteArray) (h : (readR l).2 = true) : okS (readR l).1 = true ∧ 1 ≤ (readR l).1.f0 ∧ (readR l).1.f0 ≤ 1048576 ∧ lineB (readR l).1 = l := by
  unfold readR at h ⊢
  rcases hA : Lib.atoiAll ((wordsOf l).headD ⟨#[]⟩).data.toList with v | _ | _
  rotate_left
  · rw [hA] at h; cases h
  · rw [hA] at h; cases h
  · rw [hA] at h
    simp only at h ⊢
    by_cases v1 : v < 1
    · rw [if_pos v1] at h; cases h
    · rw [if_neg v1] at h ⊢
      by_cases v2 : 1048576 < v
      · rw [if_pos v2] at h; cases h
      · rw [if_neg v2] at h ⊢
        have hz := okS_loopW _ (wordsOf l).tail (Nat.le_refl _) (zero34 v) (by unfold okS zero34; simp only [Bool.and_eq_true, decide_eq_true_eq]; omega)
        obtain ⟨⟨s, b⟩, hq⟩ : ∃ q, loopW (zero34 v) (wordsOf l).tail = q := ⟨_, rfl⟩
        rw [hq] at h hz ⊢
        cases b
        · cases h
        · have : s.f0 = v := hz.2
          refine ⟨hz.1, by show 1 ≤ s.f0; omega, by show s.f0 ≤ _; omega, (MapKept.bytes_beq _ _).1 h⟩
end Go.Proofs.YtdjffafcmomalaaDoor.Scr
/- What is read of a span's own line is the span: plain. Conditions: the span's numbers are of their kinds and it has 1 to 1048576 cycles. -/
set_option linter.unusedVariables false
set_option linter.unusedSimpArgs false
namespace Go.Proofs.YtdjffafcmomalaaDoor.Scr
open Go Go.RowKit
open Go.Proofs.YtdjffafcmomalaaDoorW.PrintWords Go.Proofs.YtdjffafcmomalaaDoor.PScr

/-! ### Decimal digits -/
theorem dec_digits : ∀ u : Nat, ∀ x ∈ Lib.decDigits u, 48 ≤ x.toNat ∧ x.toNat ≤ 57 := by
  intro u
  induction u using Nat.strongRecOn with
  | _ u ih =>
    intro x hx
    rw [Lib.decDigits] at hx
    by_cases h : u < 10
    · rw [dif_pos h] at hx
      obtain rfl := List.mem_singleton.1 hx
      rw [UInt8.toNat_ofNat_of_lt' (by simp [UInt8.size]; omega)]
      omega
    · rw [dif_neg h] at hx
      rcases List.mem_append.1 hx with hx | hx
      · exact ih (u / 10) (by omega) x hx
      · obtain rfl := List.mem_singleton.1 hx
        rw [UInt8.toNat_ofNat_of_lt' (by simp [UInt8.size]; omega)]
        omega
theorem dec_ne (u : Nat) : Lib.decDigits u ≠ [] := by
  rw [Lib.decDigits]
  split <;> simp
theorem parse_one (acc d : Nat) (r : List UInt8) (ha : acc < 100000000000000000) (hd : d < 10) : Lib.parseUint10 acc (UInt8.ofNat (48 + d) :: r) = Lib.parseUint10 (acc * 10 + d) r := by
  have e : (UInt8.ofNat (48 + d)).toNat = 48 + d := UInt8.toNat_ofNat_of_lt' (by simp [UInt8.size]; omega)
  rw [Lib.parseUint10, e, if_pos (by omega), if_neg (by omega), if_neg (by omega), show 48 + d - 48 = d by omega]
theorem parse_dec (u : Nat) : ∀ r : List UInt8, u < 100000000000000000 → Lib.parseUint10 0 (Lib.decDigits u ++ r) = Lib.parseUint10 u r := by
  induction u using Nat.strongRecOn with
  | _ u ih =>
    intro r hu
    rw [Lib.decDigits]
    by_cases h : u < 10
    · rw [dif_pos h, List.singleton_append, parse_one 0 u r (by omega) h]
      simp
    · rw [dif_neg h, List.append_assoc, ih (u / 10) (by omega) _ (by omega), List.singleton_append, parse_one (u / 10) (u % 10) r (by omega) (by omega)]
      rw [show u / 10 * 10 + u % 10 = u by omega]
theorem atoi_dec (u : Nat) (hu : u < 100000000000000000) : Lib.atoiAll (Lib.decDigits u) = .ok (u : Int) := by
  have hd := dec_digits u
  have hp := parse_dec u [] hu
  rw [List.append_nil] at hp
  cases hl : Lib.decDigits u with
  | nil => exact (dec_ne u hl).elim
  | cons c r =>
    rw [hl] at hp hd
    have hc := hd c List.mem_cons_self
    unfold Lib.atoiAll Lib.parseMag
    have hcc : ¬ (c.toNat = 43 ∨ c.toNat = 45) := by omega
    simp only [if_neg hcc]
    rw [if_neg (by simp), hp]
    simp only [Lib.parseUint10]
    rw [if_neg (by omega), if_neg (by omega), if_neg (by omega)]
theorem atoi_itoa (n : Int) (h0 : 0 ≤ n) (h1 : n < 100000000000000000) : Lib.atoiAll (Lib.itoa n) = .ok n := by
  obtain ⟨u, rfl⟩ : ∃ u : Nat, n = u := ⟨n.toNat, by omega⟩
  rw [Lib.itoa_nonneg, atoi_dec u (by omega)]

/-! ### Hexadecimal digits -/
theorem hexB (d : Int) (h0 : 0 ≤ d) (h1 : d < 16) : ∀ (r : List UInt8) (acc : Int), numL (UInt8.ofNat (hexD d).toNat :: r) acc = numL r (acc * 16 + d) := by
  intro r acc
  have e : (UInt8.ofNat (hexD d).toNat).toNat = (hexD d).toNat := UInt8.toNat_ofNat_of_lt' (by unfold hexD; simp [UInt8.size]; split <;> omega)
  rw [numL, e]
  unfold hexD
  by_cases h : d < 10
  · rw [if_pos h, if_pos (by omega)]
    congr 1; omega
  · rw [if_neg h, if_neg (by omega), if_pos (by omega)]
    congr 1; omega
theorem hexS4_bytes (n : Int) : (hexS4 n).data.toList = [UInt8.ofNat (hexD (n / 16 / 16 / 16 % 16)).toNat, UInt8.ofNat (hexD (n / 16 / 16 % 16)).toNat, UInt8.ofNat (hexD (n / 16 % 16)).toNat, UInt8.ofNat (hexD (n % 16)).toNat] := rfl
theorem hexS2_bytes (n : Int) : (hexS2 n).data.toList = [UInt8.ofNat (hexD (n / 16 % 16)).toNat, UInt8.ofNat (hexD (n % 16)).toNat] := rfl
theorem numR_hex4 (n : Int) (h0 : 0 ≤ n) (h1 : n < 65536) : numR (hexS4 n) = (n, 0) := by
  unfold numR
  rw [hexS4_size, if_neg (by decide), if_neg (by decide), hexS4_bytes, hexB _ (by omega) (by omega), hexB _ (by omega) (by omega), hexB _ (by omega) (by omega), hexB _ (by omega) (by omega)]
  simp only [numL, Prod.mk.injEq, and_true]
  omega
theorem numR_hex2 (n : Int) (h0 : 0 ≤ n) (h1 : n < 256) : numR (hexS2 n) = (n, 0) := by
  unfold numR
  rw [hexS2_size, if_neg (by decide), if_neg (by decide), hexS2_bytes, hexB _ (by omega) (by omega), hexB _ (by omega) (by omega)]
  simp only [numL, Prod.mk.injEq, and_true]
  omega
theorem hexB_big (d : Int) (h0 : 0 ≤ d) (h1 : d < 16) : 48 ≤ (UInt8.ofNat (hexD d).toNat).toNat := by
  have e : (UInt8.ofNat (hexD d).toNat).toNat = (hexD d).toNat := UInt8.toNat_ofNat_of_lt' (by unfold hexD; simp [UInt8.size]; split <;> omega)
  rw [e]; unfold hexD; split <;> omega
theorem hexS4_big (n : Int) : ∀ x ∈ (hexS4 n).data.toList, 48 ≤ x.toNat := by
  intro x hx
  rw [hexS4_bytes] at hx
  simp only [List.mem_cons, List.not_mem_nil, or_false] at hx
  rcases hx with rfl | rfl | rfl | rfl <;> exact hexB_big _ (by omega) (by omega)
theorem hexS2_big (n : Int) : ∀ x ∈ (hexS2 n).data.toList, 48 ≤ x.toNat := by
  intro x hx
  rw [hexS2_bytes] at hx
  simp only [List.mem_cons, List.not_mem_nil, or_false] at hx
  rcases hx with rfl | rfl <;> exact hexB_big _ (by omega) (by omega)

/-! ### A line's words -/
def kwK (s : S34) : List (List UInt8) := if s.f1 = 0 then [] else [tkeys.data.toList, (hexS4 s.f1).data.toList]
def kwF (b : Bool) (x : ByteArray) : List (List UInt8) := if b then [x.data.toList] else []
def kwB (s : S34) : List (List UInt8) := if s.f9 = 0 then [] else [tbus.data.toList, (hexS2 s.f9).data.toList]
def rest (s : S34) : List (List UInt8) := kwK s ++ (kwF s.f2 ttape ++ (kwF s.f3 tflag ++ (kwF s.f4 tin ++ (kwF s.f5 tout ++ (kwF s.f6 tint ++ (kwF s.f7 tclear ++ (kwF s.f8 twait ++ kwB s)))))))
theorem joinL_snoc : ∀ (ws : List (List UInt8)) (x : List UInt8), ws ≠ [] → joinL (ws ++ [x]) = joinL ws ++ 32 :: x
  | [], x, h => (h rfl).elim
  | [a], x, _ => rfl
  | a :: b :: r, x, _ => by
    have := joinL_snoc (b :: r) x (by simp)
    show a ++ 32 :: joinL (b :: r ++ [x]) = (a ++ 32 :: joinL (b :: r)) ++ 32 :: x
    rw [this]; simp
theorem word_join (b : Bool) (t x : ByteArray) (ws : List (List UInt8)) (hne : ws ≠ []) (h : t.data.toList = joinL ws) : (word b t x).data.toList = joinL (ws ++ kwF b x) := by
  unfold word kwF
  cases b
  · simp [h]
  · simp only [if_true]
    rw [joinL_snoc _ _ hne, ← h]
    simp
theorem two_join (t x y : ByteArray) (ws : List (List UInt8)) (hne : ws ≠ []) (h : t.data.toList = joinL ws) : (t ++ (⟨((32 :: x.data.toList) ++ [32]).toArray⟩ ++ y)).data.toList = joinL (ws ++ [x.data.toList, y.data.toList]) := by
  have : ws ++ [x.data.toList, y.data.toList] = (ws ++ [x.data.toList]) ++ [y.data.toList] := by simp
  rw [this, joinL_snoc _ _ (by simp), joinL_snoc _ _ hne, ← h]
  simp
theorem lineB_join (s : S34) : (lineB s).data.toList = joinL (Lib.itoa s.f0 :: rest s) := by
  have hne : ∀ r, Lib.itoa s.f0 :: r ≠ [] := fun r => by simp
  have h0 : (lineK s).data.toList = joinL (Lib.itoa s.f0 :: kwK s) := by
    unfold lineK kwK
    by_cases c : s.f1 = 0
    · rw [if_pos c, if_pos c]; rfl
    · rw [if_neg c, if_neg c]
      exact two_join ⟨(Lib.itoa s.f0).toArray⟩ tkeys (hexS4 s.f1) [Lib.itoa s.f0] (by simp) rfl
  have h7 : (line7 s).data.toList = joinL (Lib.itoa s.f0 :: (((((((kwK s ++ kwF s.f2 ttape) ++ kwF s.f3 tflag) ++ kwF s.f4 tin) ++ kwF s.f5 tout) ++ kwF s.f6 tint) ++ kwF s.f7 tclear) ++ kwF s.f8 twait)) :=
    word_join _ _ _ _ (hne _) (word_join _ _ _ _ (hne _) (word_join _ _ _ _ (hne _) (word_join _ _ _ _ (hne _) (word_join _ _ _ _ (hne _) (word_join _ _ _ _ (hne _) (word_join _ _ _ _ (hne _) h0))))))
  have e : rest s = (((((((kwK s ++ kwF s.f2 ttape) ++ kwF s.f3 tflag) ++ kwF s.f4 tin) ++ kwF s.f5 tout) ++ kwF s.f6 tint) ++ kwF s.f7 tclear) ++ kwF s.f8 twait) ++ kwB s := by simp [rest]
  rw [e]
  unfold lineB kwB
  by_cases c : s.f9 = 0
  · rw [if_pos c, if_pos c, List.append_nil]; exact h7
  · rw [if_neg c, if_neg c]
    exact two_join (line7 s) tbus (hexS2 s.f9) _ (hne _) h7
theorem kwF_big (b : Bool) (x : ByteArray) (hx : ∀ c ∈ x.data.toList, 48 ≤ c.toNat) : ∀ a ∈ kwF b x, ∀ c ∈ a, 48 ≤ c.toNat := by
  intro a ha
  unfold kwF at ha
  cases b
  · simp at ha
  · simp only [if_true, List.mem_singleton] at ha
    subst ha; exact hx
theorem words_big (s : S34) (h0 : 0 ≤ s.f0) : ∀ a ∈ Lib.itoa s.f0 :: rest s, ∀ c ∈ a, 48 ≤ c.toNat := by
  intro a ha
  rcases List.mem_cons.1 ha with rfl | ha
  · intro c hc
    obtain ⟨u, hu⟩ : ∃ u : Nat, s.f0 = u := ⟨s.f0.toNat, by omega⟩
    rw [hu, Lib.itoa_nonneg] at hc
    exact (dec_digits u c hc).1
  unfold rest at ha
  rcases List.mem_append.1 ha with ha | ha
  · unfold kwK at ha
    split at ha
    · simp at ha
    · simp only [List.mem_cons, List.not_mem_nil, or_false] at ha
      rcases ha with rfl | rfl
      · decide
      · exact hexS4_big _
  rcases List.mem_append.1 ha with ha | ha
  · exact kwF_big _ _ (by decide) a ha
  rcases List.mem_append.1 ha with ha | ha
  · exact kwF_big _ _ (by decide) a ha
  rcases List.mem_append.1 ha with ha | ha
  · exact kwF_big _ _ (by decide) a ha
  rcases List.mem_append.1 ha with ha | ha
  · exact kwF_big _ _ (by decide) a ha
  rcases List.mem_append.1 ha with ha | ha
  · exact kwF_big _ _ (by decide) a ha
  rcases List.mem_append.1 ha with ha | ha
  · exact kwF_big _ _ (by decide) a ha
  rcases List.mem_append.1 ha with ha | ha
  · exact kwF_big _ _ (by decide) a ha
  unfold kwB at ha
  split at ha
  · simp at ha
  · simp only [List.mem_cons, List.not_mem_nil, or_false] at ha
    rcases ha with rfl | rfl
    · decide
    · exact hexS2_big _
theorem line_words (s : S34) (h0 : 0 ≤ s.f0) : wordsOf (lineB s) = (Lib.itoa s.f0 :: rest s).map fun a => ⟨a.toArray⟩ :=
  words_join (lineB s) _ (by simp) (fun a ha x hx e => by have := words_big s h0 a ha x hx; subst e; revert this; decide) (lineB_join s)
theorem joinL_no10 : ∀ (ws : List (List UInt8)), (∀ a ∈ ws, ∀ c ∈ a, 48 ≤ c.toNat) → ∀ x ∈ joinL ws, x ≠ 10
  | [], _, x, hx => by cases hx
  | [a], h, x, hx => by
    have := h a List.mem_cons_self x hx
    intro e; subst e; revert this; decide
  | a :: b :: r, h, x, hx => by
    have hx' : x ∈ a ++ 32 :: joinL (b :: r) := hx
    rcases List.mem_append.1 hx' with hx | hx
    · have := h a List.mem_cons_self x hx
      intro e; subst e; revert this; decide
    · rcases List.mem_cons.1 hx with rfl | hx
      · decide
      · exact joinL_no10 (b :: r) (fun a ha => h a (List.mem_cons_of_mem _ ha)) x hx
theorem line_no10 (s : S34) (h0 : 0 ≤ s.f0) : ∀ x ∈ (lineB s).data.toList, x ≠ 10 := by
  rw [lineB_join]
  exact joinL_no10 _ (words_big s h0)

/-! ### The loop over the words -/
abbrev bt (a : List UInt8) : ByteArray := ⟨a.toArray⟩
theorem loop_keys (s : S34) (n : Int) (h0 : 0 ≤ n) (h1 : n < 65536) (r : List ByteArray) : loopW s (bt tkeys.data.toList :: bt (hexS4 n).data.toList :: r) = loopW { s with f1 := n } r := by
  have e : bt (hexS4 n).data.toList = hexS4 n := by simp [bt]
  rw [e]
  refine (loopW_keys s (hexS4 n) r).trans ?_
  rw [numR_hex4 n h0 h1]
  show loopW { s with f1 := n % 65536 } r = _
  rw [show n % 65536 = n by omega]
theorem loop_bus (s : S34) (n : Int) (h0 : 0 ≤ n) (h1 : n < 256) (r : List ByteArray) : loopW s (bt tbus.data.toList :: bt (hexS2 n).data.toList :: r) = loopW { s with f9 := n } r := by
  have e : bt (hexS2 n).data.toList = hexS2 n := by simp [bt]
  rw [e]
  refine (loopW_bus s (hexS2 n) r).trans ?_
  rw [numR_hex2 n h0 h1]
  show loopW { s with f9 := n % 256 } r = _
  rw [show n % 256 = n by omega]
theorem loop_flag (s s' : S34) (b : Bool) (x : ByteArray) (h1 : x ≠ tkeys) (h2 : x ≠ tbus) (hs : (if b then setF s x else s) = s') (r : List ByteArray) : loopW s ((kwF b x).map bt ++ r) = loopW s' r := by
  subst hs
  unfold kwF
  cases b
  · rfl
  · exact loopW_other s x r h1 h2
theorem loop_rest (s : S34) (hk : 0 ≤ s.f1 ∧ s.f1 < 65536) (hb : 0 ≤ s.f9 ∧ s.f9 < 256) : loopW (zero34 s.f0) ((rest s).map bt) = (s, true) := by
  obtain ⟨f0, f1, f2, f3, f4, f5, f6, f7, f8, f9⟩ := s
  unfold rest
  simp only [List.map_append] at *
  have hK : ∀ r, loopW (zero34 f0) ((kwK ⟨f0, f1, f2, f3, f4, f5, f6, f7, f8, f9⟩).map bt ++ r) = loopW ⟨f0, f1, false, false, false, false, false, false, false, 0⟩ r := by
    intro r
    unfold kwK
    by_cases c : f1 = 0
    · rw [if_pos c]; subst c; rfl
    · rw [if_neg c]
      exact loop_keys (zero34 f0) f1 hk.1 hk.2 r
  rw [hK]
  rw [loop_flag _ ⟨f0, f1, f2, false, false, false, false, false, false, 0⟩ f2 ttape (by decide) (by decide) (by cases f2 <;> simp [setF, sf])]
  rw [loop_flag _ ⟨f0, f1, f2, f3, false, false, false, false, false, 0⟩ f3 tflag (by decide) (by decide) (by cases f3 <;> simp [setF, sf])]
  rw [loop_flag _ ⟨f0, f1, f2, f3, f4, false, false, false, false, 0⟩ f4 tin (by decide) (by decide) (by cases f4 <;> simp [setF, sf])]
  rw [loop_flag _ ⟨f0, f1, f2, f3, f4, f5, false, false, false, 0⟩ f5 tout (by decide) (by decide) (by cases f5 <;> simp [setF, sf])]
  rw [loop_flag _ ⟨f0, f1, f2, f3, f4, f5, f6, false, false, 0⟩ f6 tint (by decide) (by decide) (by cases f6 <;> simp [setF, sf])]
  rw [loop_flag _ ⟨f0, f1, f2, f3, f4, f5, f6, f7, false, 0⟩ f7 tclear (by decide) (by decide) (by cases f7 <;> simp [setF, sf])]
  rw [loop_flag _ ⟨f0, f1, f2, f3, f4, f5, f6, f7, f8, 0⟩ f8 twait (by decide) (by decide) (by cases f8 <;> simp [setF, sf])]
  unfold kwB
  by_cases c : f9 = 0
  · rw [if_pos c]; subst c; rfl
  · rw [if_neg c]
    have := loop_bus (⟨f0, f1, f2, f3, f4, f5, f6, f7, f8, 0⟩ : S34) f9 hb.1 hb.2 []
    exact this
/-- What is read of a span's own line is the span. -/
theorem read_line (s : S34) (hk : okS s = true) (h0 : 1 ≤ s.f0) (h1 : s.f0 ≤ 1048576) : readR (lineB s) = (s, true) := by
  simp only [okS, Bool.and_eq_true, decide_eq_true_eq] at hk
  have hw := line_words s (by omega)
  have hl := loop_rest s ⟨hk.1.1.1.2, hk.1.1.2⟩ ⟨hk.1.2, hk.2⟩
  unfold readR
  rw [hw]
  simp only [List.map_cons, List.headD_cons, List.tail_cons]
  rw [atoi_itoa s.f0 (by omega) (by omega)]
  simp only
  rw [if_neg (by omega), if_neg (by omega)]
  have hl' : loopW (zero34 s.f0) ((rest s).map fun a => (⟨a.toArray⟩ : ByteArray)) = (s, true) := hl
  rw [hl']
  exact congrArg (Prod.mk s) ((MapKept.bytes_beq _ _).2 rfl)
end Go.Proofs.YtdjffafcmomalaaDoor.Scr
