/- script.read: what it tells of a line, plain; strconv.Atoi in two contracts. -/
import Derived.Test.YtdjffafcmomalaaDoorScrPrint
import Derived.Test.YtdjffafcmomalaaDoorScrNum
set_option linter.unusedVariables false
set_option linter.unusedSimpArgs false
namespace Go.Proofs.YtdjffafcmomalaaDoor.Scr
open Go Go.RowKit
open Go.Proofs.YtdjffafcmomalaaDoorW.PrintWords Go.Proofs.YtdjffafcmomalaaDoor.PScr

abbrev blank : ByteArray := ⟨#[32]⟩
abbrev tkeys : ByteArray := ⟨#[107, 101, 121, 115]⟩
abbrev tbus : ByteArray := ⟨#[98, 117, 115]⟩
abbrev ttape : ByteArray := ⟨#[116, 97, 112, 101]⟩
abbrev tflag : ByteArray := ⟨#[102, 108, 97, 103]⟩
abbrev tin : ByteArray := ⟨#[105, 110]⟩
abbrev tout : ByteArray := ⟨#[111, 117, 116]⟩
abbrev tint : ByteArray := ⟨#[105, 110, 116]⟩
abbrev tclear : ByteArray := ⟨#[99, 108, 101, 97, 114]⟩
abbrev twait : ByteArray := ⟨#[119, 97, 105, 116]⟩
/-- A line's words. -/
def wordsOf (l : ByteArray) : List ByteArray := Lib.splitB blank 0 (Lib.countB l blank) l
def sf (k : Nat) (s : S34) (x : ByteArray) : S34 := match k with
  | 0 => if x = ttape then { s with f2 := true } else s
  | 1 => if x = tflag then { s with f3 := true } else s
  | 2 => if x = tin then { s with f4 := true } else s
  | 3 => if x = tout then { s with f5 := true } else s
  | 4 => if x = tint then { s with f6 := true } else s
  | 5 => if x = tclear then { s with f7 := true } else s
  | _ => if x = twait then { s with f8 := true } else s
def setF (s : S34) (x : ByteArray) : S34 := sf 6 (sf 5 (sf 4 (sf 3 (sf 2 (sf 1 (sf 0 s x) x) x) x) x) x) x
def loopW : S34 → List ByteArray → S34 × Bool
  | s, [] => (s, true)
  | s, [x] => if x = tkeys then (s, false) else if x = tbus then (s, false) else (setF s x, true)
  | s, x :: y :: r => if x = tkeys then loopW { s with f1 := (numR y).1 % 65536 } r else if x = tbus then loopW { s with f9 := (numR y).1 % 256 } r else loopW (setF s x) (y :: r)
def zero34 (n : Int) : S34 := ⟨n, 0, false, false, false, false, false, false, false, 0⟩
def readR (l : ByteArray) : S34 × Bool := match Lib.atoiAll ((wordsOf l).headD ⟨#[]⟩).data.toList with
  | .ok v => if v < 1 then (zero34 v, false) else if 1048576 < v then (zero34 v, false) else match loopW (zero34 v) (wordsOf l).tail with
    | (s, false) => (s, false)
    | (s, true) => (s, lineB s == l)
  | .syntax => (zero34 0, false)
  | .range => (zero34 (Lib.atoiSat ((wordsOf l).headD ⟨#[]⟩).data.toList), false)

theorem atoi_ok (x : ByteArray) (hx : x.size ≤ 1000000) (v : Int) (h : Lib.atoiAll x.data.toList = .ok v) (w : World) :
    Calls Tryd.prog 63 #[.string x] w fun e w' => e = .returned (.tuple #[.int .i64 v, .nilIface]) ∧ Below w.heap.size w w' := by
  refine (Tryd.strconv_Atoi_ok x (by omega) v h w).mono ?_
  rintro e w' ⟨rfl, rfl | ⟨t, rfl⟩⟩
  · exact ⟨rfl, Below.refl _ _⟩
  · exact ⟨rfl, Lib.bytesWorld_below _ _ _⟩
theorem atoi_no (x : ByteArray) (hx : x.size ≤ 1000000) (v : Int) (h : Lib.atoiAll x.data.toList = .syntax ∧ v = 0 ∨ Lib.atoiAll x.data.toList = .range ∧ v = Lib.atoiSat x.data.toList) (w : World) (hG : GOk w) :
    Calls Tryd.prog 63 #[.string x] w fun e w' => ∃ N, e = .returned (.tuple #[.int .i64 v, .iface 109 (.pointer (some ⟨N, 0, none⟩))]) ∧ Below w.heap.size w w' := by
  rcases h with ⟨h, rfl⟩ | ⟨h, rfl⟩
  · obtain ⟨tp, p, hv⟩ := hG.syn
    refine (Tryd.strconv_Atoi_syntax_var x (by omega) h tp p w hv).mono ?_
    rintro e w' ⟨N, rfl, _, _, hb⟩
    exact ⟨N, rfl, hb⟩
  · obtain ⟨tp, p, hv⟩ := hG.rng
    refine (Tryd.strconv_Atoi_range_var x (by omega) h tp p w hv).mono ?_
    rintro e w' ⟨N, rfl, _, _, hb⟩
    exact ⟨N, rfl, hb⟩

/-- The words in their block. -/
def Wd (W : List ByteArray) (b : Nat) (w : World) : Prop := w.heap[b]? = some (.cells (W.map Value.string).toArray 9 (0, 0))
theorem Wd.keep {W : List ByteArray} {b : Nat} {w w1 : World} (h : Wd W b w) (hb : ∀ k, k < w.heap.size → w1.heap[k]? = w.heap[k]?) : Wd W b w1 := (hb b (Array.getElem?_eq_some_iff.1 h).1).trans h
theorem Wd.cell {W : List ByteArray} {b : Nat} {w : World} (h : Wd W b w) (k : Nat) (hk : k < W.length) : w.cell? ⟨b, k, none⟩ = some (.string W[k]) := by
  refine (blk_cell h k).trans ?_
  simp [hk]
theorem Wd.head {W : List ByteArray} {b : Nat} {w : World} (h : Wd W b w) (h0 : 0 < W.length) : w.cell? ⟨b, 0, none⟩ = some (.string (W.headD ⟨#[]⟩)) := by
  rw [h.cell 0 h0]
  cases W with
  | nil => cases h0
  | cons y r => rfl
theorem Bx.keep {s : S34} {b : Nat} {w w1 : World} (h : Bx s b w) (hb : ∀ k, k < w.heap.size → w1.heap[k]? = w.heap[k]?) : Bx s b w1 := (hb b (Array.getElem?_eq_some_iff.1 h).1).trans h

/-- The world behind a store of a whole span. -/
def put34 (w : World) (b : Nat) (s : S34) : World := ((((((((((w.setCell ⟨b, 0, none⟩ (.int .i64 s.f0)).setCell ⟨b, 1, none⟩ (.int .u16 s.f1)).setCell ⟨b, 2, none⟩ (.bool s.f2)).setCell ⟨b, 3, none⟩ (.bool s.f3)).setCell ⟨b, 4, none⟩ (.bool s.f4)).setCell ⟨b, 5, none⟩ (.bool s.f5)).setCell ⟨b, 6, none⟩ (.bool s.f6)).setCell ⟨b, 7, none⟩ (.bool s.f7)).setCell ⟨b, 8, none⟩ (.bool s.f8)).setCell ⟨b, 9, none⟩ (.int .u8 s.f9))
theorem put34_bx {s0 : S34} {b : Nat} {w : World} (h : Bx s0 b w) (s : S34) : Bx s b (put34 w b s) := by
  have h0 := blk_put h 0 (.int .i64 s.f0) (cs' := #[.int .i64 s.f0, .int .u16 s0.f1, .bool s0.f2, .bool s0.f3, .bool s0.f4, .bool s0.f5, .bool s0.f6, .bool s0.f7, .bool s0.f8, .int .u8 s0.f9]) rfl
  have h1 := blk_put h0 1 (.int .u16 s.f1) (cs' := #[.int .i64 s.f0, .int .u16 s.f1, .bool s0.f2, .bool s0.f3, .bool s0.f4, .bool s0.f5, .bool s0.f6, .bool s0.f7, .bool s0.f8, .int .u8 s0.f9]) rfl
  have h2 := blk_put h1 2 (.bool s.f2) (cs' := #[.int .i64 s.f0, .int .u16 s.f1, .bool s.f2, .bool s0.f3, .bool s0.f4, .bool s0.f5, .bool s0.f6, .bool s0.f7, .bool s0.f8, .int .u8 s0.f9]) rfl
  have h3 := blk_put h2 3 (.bool s.f3) (cs' := #[.int .i64 s.f0, .int .u16 s.f1, .bool s.f2, .bool s.f3, .bool s0.f4, .bool s0.f5, .bool s0.f6, .bool s0.f7, .bool s0.f8, .int .u8 s0.f9]) rfl
  have h4 := blk_put h3 4 (.bool s.f4) (cs' := #[.int .i64 s.f0, .int .u16 s.f1, .bool s.f2, .bool s.f3, .bool s.f4, .bool s0.f5, .bool s0.f6, .bool s0.f7, .bool s0.f8, .int .u8 s0.f9]) rfl
  have h5 := blk_put h4 5 (.bool s.f5) (cs' := #[.int .i64 s.f0, .int .u16 s.f1, .bool s.f2, .bool s.f3, .bool s.f4, .bool s.f5, .bool s0.f6, .bool s0.f7, .bool s0.f8, .int .u8 s0.f9]) rfl
  have h6 := blk_put h5 6 (.bool s.f6) (cs' := #[.int .i64 s.f0, .int .u16 s.f1, .bool s.f2, .bool s.f3, .bool s.f4, .bool s.f5, .bool s.f6, .bool s0.f7, .bool s0.f8, .int .u8 s0.f9]) rfl
  have h7 := blk_put h6 7 (.bool s.f7) (cs' := #[.int .i64 s.f0, .int .u16 s.f1, .bool s.f2, .bool s.f3, .bool s.f4, .bool s.f5, .bool s.f6, .bool s.f7, .bool s0.f8, .int .u8 s0.f9]) rfl
  have h8 := blk_put h7 8 (.bool s.f8) (cs' := #[.int .i64 s.f0, .int .u16 s.f1, .bool s.f2, .bool s.f3, .bool s.f4, .bool s.f5, .bool s.f6, .bool s.f7, .bool s.f8, .int .u8 s0.f9]) rfl
  have h9 := blk_put h8 9 (.int .u8 s.f9) (cs' := #[.int .i64 s.f0, .int .u16 s.f1, .bool s.f2, .bool s.f3, .bool s.f4, .bool s.f5, .bool s.f6, .bool s.f7, .bool s.f8, .int .u8 s.f9]) rfl
  exact h9
theorem put34_heap (w : World) (b : Nat) (s : S34) (k : Nat) (hk : k ≠ b) : (put34 w b s).heap[k]? = w.heap[k]? := by
  unfold put34
  simp only [heap_setCell_other _ ⟨b, _, none⟩ k _ hk]
theorem put34_below {B : Nat} {w0 w : World} (b : Nat) (hb : Below B w0 w) (hB : B ≤ b) (s : S34) : Below B w0 (put34 w b s) := by
  unfold put34
  repeat refine Below.setCell ?_ hB _
  exact hb
theorem put34_size (w : World) (b : Nat) (s : S34) : (put34 w b s).heap.size = w.heap.size := by unfold put34; simp
end Go.Proofs.YtdjffafcmomalaaDoor.Scr
