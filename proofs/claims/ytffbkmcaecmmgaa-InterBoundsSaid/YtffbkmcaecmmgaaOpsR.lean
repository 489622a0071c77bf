/- A row's word, by numbers: what the document's word and order are. -/
import Derived.Test.YtffbkmcaecmmgaaOpsQ
set_option linter.unusedVariables false
set_option linter.unusedSimpArgs false
namespace Go.Proofs.Ytffbkmcaecmmgaa.Ops
open Go Go.RowKit
open Go.Proofs.YtffbkmcaecmmgaaW.PrintWords Go.Proofs.Ytffbkmcaecmmgaa.PInterBounds

theorem keep16 (n : Int) (h0 : 0 ≤ n) (h1 : n < 2 ^ 16) : IntKind.u16.wrap n = n := by rw [wrap_u16]; omega
theorem and_nat (a b : Nat) (ha : a < 65536) (hb : b < 65536) : Go.bits .and .u16 a b = ((a &&& b : Nat) : Int) := (bits_nat .u16 16 (by decide) keep16 a b ha hb).1
theorem or_nat (a b : Nat) (ha : a < 65536) (hb : b < 65536) : Go.bits .or .u16 a b = ((a ||| b : Nat) : Int) := (bits_nat .u16 16 (by decide) keep16 a b ha hb).2
def landB (w : Nat) : Bool := (w &&& 61440) == w / 4096 * 4096 && ((w &&& 61455) == w / 4096 * 4096 + w % 16 && ((w &&& 61695) == w / 4096 * 4096 + w % 256 && (w &&& 65535) == w))
theorem land_all : ((List.range 256).all fun h => (List.range 256).all fun l => landB (256 * h + l)) = true := by decide +kernel
theorem land_of (w : Nat) (h : w < 65536) : (w &&& 61440) = w / 4096 * 4096 ∧ (w &&& 61455) = w / 4096 * 4096 + w % 16 ∧ (w &&& 61695) = w / 4096 * 4096 + w % 256 ∧ (w &&& 65535) = w := by
  have h1 := List.all_eq_true.1 (List.all_eq_true.1 land_all (w / 256) (List.mem_range.2 (by omega))) (w % 256) (List.mem_range.2 (by omega))
  rw [Nat.div_add_mod] at h1
  unfold landB at h1
  simpa using h1
theorem and_int (w : Int) (h0 : 0 ≤ w) (h1 : w < 65536) : Go.bits .and .u16 w 61440 = w / 4096 * 4096 ∧ Go.bits .and .u16 w 61455 = w / 4096 * 4096 + w % 16 ∧ Go.bits .and .u16 w 61695 = w / 4096 * 4096 + w % 256 ∧ Go.bits .and .u16 w 65535 = w := by
  obtain ⟨n, rfl⟩ := Int.eq_ofNat_of_zero_le h0
  have hn : n < 65536 := by omega
  obtain ⟨a, b, c, d⟩ := land_of n hn
  have e1 := and_nat n 61440 hn (by decide)
  have e2 := and_nat n 61455 hn (by decide)
  have e3 := and_nat n 61695 hn (by decide)
  have e4 := and_nat n 65535 hn (by decide)
  rw [a] at e1
  rw [b] at e2
  rw [c] at e3
  rw [d] at e4
  refine ⟨e1.trans (by omega), e2.trans (by omega), e3.trans (by omega), e4⟩
def encR (f : Fd) (o : Ord) : Int := match f with
  | .x => o.x * 256
  | .y => o.y * 16
  | .n => o.n
  | .b => o.b
  | .a => o.a
def sumV (fds : List Fd) (o : Ord) : Int := (fds.map fun f => encR f o).sum
def orOk (r : Rw) : Bool := match r.fds with
  | [] => r.mask == 65535 && (0 ≤ r.word && r.word ≤ 65535)
  | [.x] => r.mask == 61695 && (0 ≤ r.word && r.word ≤ 61695) && (List.range 16).all fun x => (r.word.toNat ||| x * 256) == r.word.toNat + x * 256
  | [.a] => r.mask == 61440 && (0 ≤ r.word && r.word ≤ 61440) && (List.range 4096).all fun a => (r.word.toNat ||| a) == r.word.toNat + a
  | [.x, .b] => r.mask == 61440 && (0 ≤ r.word && r.word ≤ 61440) && (List.range 16).all fun x => (List.range 256).all fun b => ((r.word.toNat ||| x * 256) ||| b) == r.word.toNat + x * 256 + b
  | [.x, .y] => r.mask == 61455 && (0 ≤ r.word && r.word ≤ 61455) && (List.range 16).all fun x => (List.range 16).all fun y => ((r.word.toNat ||| x * 256) ||| y * 16) == r.word.toNat + x * 256 + y * 16
  | [.x, .y, .n] => r.mask == 61440 && (0 ≤ r.word && r.word ≤ 61440) && (List.range 16).all fun x => (List.range 16).all fun y => (List.range 16).all fun n => (((r.word.toNat ||| x * 256) ||| y * 16) ||| n) == r.word.toNat + x * 256 + y * 16 + n
  | _ => false
set_option maxRecDepth 100000 in
theorem or_ok : (tbl.all orOk) = true := by decide +kernel
/-- How a row can be: its fields, its mask, its word's bounds. -/
inductive Form (r : Rw) : Prop where
  | none_ (h : r.fds = []) (m : r.mask = 65535) (w0 : 0 ≤ r.word) (w1 : r.word ≤ 65535)
  | x_ (h : r.fds = [.x]) (m : r.mask = 61695) (w0 : 0 ≤ r.word) (w1 : r.word ≤ 61695) (e : ∀ x, x < 16 → (r.word.toNat ||| x * 256) = r.word.toNat + x * 256)
  | a_ (h : r.fds = [.a]) (m : r.mask = 61440) (w0 : 0 ≤ r.word) (w1 : r.word ≤ 61440) (e : ∀ a, a < 4096 → (r.word.toNat ||| a) = r.word.toNat + a)
  | xb_ (h : r.fds = [.x, .b]) (m : r.mask = 61440) (w0 : 0 ≤ r.word) (w1 : r.word ≤ 61440) (e : ∀ x b, x < 16 → b < 256 → ((r.word.toNat ||| x * 256) ||| b) = r.word.toNat + x * 256 + b)
  | xy_ (h : r.fds = [.x, .y]) (m : r.mask = 61455) (w0 : 0 ≤ r.word) (w1 : r.word ≤ 61455) (e : ∀ x y, x < 16 → y < 16 → ((r.word.toNat ||| x * 256) ||| y * 16) = r.word.toNat + x * 256 + y * 16)
  | xyn_ (h : r.fds = [.x, .y, .n]) (m : r.mask = 61440) (w0 : 0 ≤ r.word) (w1 : r.word ≤ 61440) (e : ∀ x y n, x < 16 → y < 16 → n < 16 → (((r.word.toNat ||| x * 256) ||| y * 16) ||| n) = r.word.toNat + x * 256 + y * 16 + n)
theorem form_of {r : Rw} (hr : r ∈ tbl) : Form r := by
  have h := List.all_eq_true.1 or_ok r hr
  unfold orOk at h
  split at h
  · rename_i e
    simp only [Bool.and_eq_true, beq_iff_eq, decide_eq_true_eq] at h
    exact .none_ e h.1 h.2.1 h.2.2
  · rename_i e
    simp only [Bool.and_eq_true, beq_iff_eq, decide_eq_true_eq, List.all_eq_true, List.mem_range] at h
    exact .x_ e h.1.1 h.1.2.1 h.1.2.2 h.2
  · rename_i e
    simp only [Bool.and_eq_true, beq_iff_eq, decide_eq_true_eq, List.all_eq_true, List.mem_range] at h
    exact .a_ e h.1.1 h.1.2.1 h.1.2.2 h.2
  · rename_i e
    simp only [Bool.and_eq_true, beq_iff_eq, decide_eq_true_eq, List.all_eq_true, List.mem_range] at h
    exact .xb_ e h.1.1 h.1.2.1 h.1.2.2 (fun x b hx hb => h.2 x hx b hb)
  · rename_i e
    simp only [Bool.and_eq_true, beq_iff_eq, decide_eq_true_eq, List.all_eq_true, List.mem_range] at h
    exact .xy_ e h.1.1 h.1.2.1 h.1.2.2 (fun x b hx hb => h.2 x hx b hb)
  · rename_i e
    simp only [Bool.and_eq_true, beq_iff_eq, decide_eq_true_eq, List.all_eq_true, List.mem_range] at h
    exact .xyn_ e h.1.1 h.1.2.1 h.1.2.2 (fun x b n hx hb hn => h.2 x hx b hb n hn)
  · cases h
def dec (r : Rw) (w : Int) : Ord := decF r.fds w ⟨r.op, 0, 0, 0, 0, 0⟩
theorem fits_iff {r : Rw} (hr : r ∈ tbl) (w : Int) (h0 : 0 ≤ w) (h1 : w < 65536) : fitsB w r = true ↔ r.word + sumV r.fds (dec r w) = w := by
  obtain ⟨a, b, c, d⟩ := and_int w h0 h1
  unfold fitsB dec
  rw [beq_iff_eq]
  rcases form_of hr with ⟨h, m, w0, w1⟩ | ⟨h, m, w0, w1, e⟩ | ⟨h, m, w0, w1, e⟩ | ⟨h, m, w0, w1, e⟩ | ⟨h, m, w0, w1, e⟩ | ⟨h, m, w0, w1, e⟩
  · rw [m, d, h]; simp [sumV]; omega
  · rw [m, c, h]; simp [sumV, encR, decF, decV, Fd.put]; omega
  · rw [m, a, h]; simp [sumV, encR, decF, decV, Fd.put]; omega
  · rw [m, a, h]; simp [sumV, encR, decF, decV, Fd.put]; omega
  · rw [m, b, h]; simp [sumV, encR, decF, decV, Fd.put]; omega
  · rw [m, a, h]; simp [sumV, encR, decF, decV, Fd.put]; omega
structure InR (o : Ord) : Prop where
  x0 : 0 ≤ o.x
  x1 : o.x ≤ 15
  y0 : 0 ≤ o.y
  y1 : o.y ≤ 15
  n0 : 0 ≤ o.n
  n1 : o.n ≤ 15
  b0 : 0 ≤ o.b
  b1 : o.b ≤ 255
  a0 : 0 ≤ o.a
  a1 : o.a ≤ 4095
end Go.Proofs.Ytffbkmcaecmmgaa.Ops
