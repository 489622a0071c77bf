/- A row's word and order, as the document's functions reckon them. -/
import Derived.Test.YtffbkmcaecmmgaaOpsR
set_option linter.unusedVariables false
set_option linter.unusedSimpArgs false
namespace Go.Proofs.Ytffbkmcaecmmgaa.Ops
open Go Go.RowKit
open Go.Proofs.YtffbkmcaecmmgaaW.PrintWords Go.Proofs.Ytffbkmcaecmmgaa.PInterBounds

theorem encF_sum {r : Rw} (hr : r ∈ tbl) (o : Ord) (hi : InR o) : encF r.fds r.word o = r.word + sumV r.fds o ∧ 0 ≤ r.word + sumV r.fds o ∧ r.word + sumV r.fds o < 65536 := by
  obtain ⟨x0, x1, y0, y1, n0, n1, b0, b1, a0, a1⟩ := hi
  have ex : o.x % 16 * 256 = ((o.x.toNat * 256 : Nat) : Int) := by omega
  have ey : o.y % 16 * 16 = ((o.y.toNat * 16 : Nat) : Int) := by omega
  have en : o.n % 16 = ((o.n.toNat : Nat) : Int) := by omega
  have eb : o.b % 256 = ((o.b.toNat : Nat) : Int) := by omega
  have ea : o.a % 4096 = ((o.a.toNat : Nat) : Int) := by omega
  rcases form_of hr with ⟨h, m, w0, w1⟩ | ⟨h, m, w0, w1, e⟩ | ⟨h, m, w0, w1, e⟩ | ⟨h, m, w0, w1, e⟩ | ⟨h, m, w0, w1, e⟩ | ⟨h, m, w0, w1, e⟩
  · rw [h]; simp [encF, sumV]; omega
  · rw [h]
    have ew : r.word = ((r.word.toNat : Nat) : Int) := by omega
    have hw : r.word.toNat < 65536 := by omega
    have q := e o.x.toNat (by omega)
    refine ⟨?_, by simp [sumV, encR]; omega, by simp [sumV, encR]; omega⟩
    show Go.bits .or .u16 r.word (o.x % 16 * 256) = _
    rw [ex]
    conv => lhs; rw [ew]
    rw [or_nat _ _ hw (by omega), q]
    simp [sumV, encR]; omega
  · rw [h]
    have ew : r.word = ((r.word.toNat : Nat) : Int) := by omega
    have hw : r.word.toNat < 65536 := by omega
    have q := e o.a.toNat (by omega)
    refine ⟨?_, by simp [sumV, encR]; omega, by simp [sumV, encR]; omega⟩
    show Go.bits .or .u16 r.word (o.a % 4096) = _
    rw [ea]
    conv => lhs; rw [ew]
    rw [or_nat _ _ hw (by omega), q]
    simp [sumV, encR]; omega
  · rw [h]
    have ew : r.word = ((r.word.toNat : Nat) : Int) := by omega
    have hw : r.word.toNat < 65536 := by omega
    have q := e o.x.toNat o.b.toNat (by omega) (by omega)
    refine ⟨?_, by simp [sumV, encR]; omega, by simp [sumV, encR]; omega⟩
    show Go.bits .or .u16 (Go.bits .or .u16 r.word (o.x % 16 * 256)) (o.b % 256) = _
    rw [ex, eb]
    conv => lhs; rw [ew]
    rw [or_nat _ _ hw (by omega), or_nat _ _ (Nat.or_lt_two_pow (n := 16) hw (by omega)) (by omega), q]
    simp [sumV, encR]; omega
  · rw [h]
    have ew : r.word = ((r.word.toNat : Nat) : Int) := by omega
    have hw : r.word.toNat < 65536 := by omega
    have q := e o.x.toNat o.y.toNat (by omega) (by omega)
    refine ⟨?_, by simp [sumV, encR]; omega, by simp [sumV, encR]; omega⟩
    show Go.bits .or .u16 (Go.bits .or .u16 r.word (o.x % 16 * 256)) (o.y % 16 * 16) = _
    rw [ex, ey]
    conv => lhs; rw [ew]
    rw [or_nat _ _ hw (by omega), or_nat _ _ (Nat.or_lt_two_pow (n := 16) hw (by omega)) (by omega), q]
    simp [sumV, encR]; omega
  · rw [h]
    have ew : r.word = ((r.word.toNat : Nat) : Int) := by omega
    have hw : r.word.toNat < 65536 := by omega
    have q := e o.x.toNat o.y.toNat o.n.toNat (by omega) (by omega) (by omega)
    refine ⟨?_, by simp [sumV, encR]; omega, by simp [sumV, encR]; omega⟩
    show Go.bits .or .u16 (Go.bits .or .u16 (Go.bits .or .u16 r.word (o.x % 16 * 256)) (o.y % 16 * 16)) (o.n % 16) = _
    rw [ex, ey, en]
    conv => lhs; rw [ew]
    rw [or_nat _ _ hw (by omega), or_nat _ _ (Nat.or_lt_two_pow (n := 16) hw (by omega)) (by omega), or_nat _ _ (Nat.or_lt_two_pow (n := 16) (Nat.or_lt_two_pow (n := 16) hw (by omega)) (by omega)) (by omega), q]
    simp [sumV, encR]; omega
theorem dec_inR {r : Rw} (hr : r ∈ tbl) (w : Int) : InR (dec r w) := by
  unfold dec
  rcases form_of hr with ⟨h, m, w0, w1⟩ | ⟨h, m, w0, w1, e⟩ | ⟨h, m, w0, w1, e⟩ | ⟨h, m, w0, w1, e⟩ | ⟨h, m, w0, w1, e⟩ | ⟨h, m, w0, w1, e⟩
  all_goals
    rw [h]
    constructor <;> simp [decF, decV, Fd.put] <;> omega
def letter : Fd → UInt8
  | .x => 120
  | .y => 121
  | .n => 110
  | .b => 98
  | .a => 97
def letters (fds : List Fd) : ByteArray := ⟨(fds.map letter).toArray⟩
def toS (r : Rw) : S36 := ⟨r.op, r.word, letters r.fds, r.name⟩
theorem words_eq : vesperref16_Words.f = some (wtbl.map toS) := by kernel_rfl
theorem tm (w k : Int) (h0 : 0 ≤ w) : Int.tmod w k = w % k := Int.tmod_eq_emod_of_nonneg h0
theorem td (w k : Int) (h0 : 0 ≤ w) : Int.tdiv w k = w / k := Int.tdiv_eq_ediv_of_nonneg h0
theorem order_nil (op q : Int) (nm : ByteArray) (w : Int) : vesperref16_Word_order.f 20 op q (⟨#[]⟩ : ByteArray) nm w = some (op, 0, 0, 0, 0, 0) := by kernel_rfl
theorem word_nil (op q : Int) (nm : ByteArray) (p x y n b a : Int) : vesperref16_Word_word.f 20 op q (⟨#[]⟩ : ByteArray) nm p x y n b a = some (q) := by kernel_rfl
theorem order_x (op q : Int) (nm : ByteArray) (w : Int) : vesperref16_Word_order.f 20 op q (⟨#[120]⟩ : ByteArray) nm w = some (op, Int.tmod (IntKind.u16.wrap (Int.tdiv w 256)) 16 % 256, 0, 0, 0, 0) := by kernel_rfl
theorem word_x (op q : Int) (nm : ByteArray) (p x y n b a : Int) : vesperref16_Word_word.f 20 op q (⟨#[120]⟩ : ByteArray) nm p x y n b a = some (IntKind.u16.wrap (q + IntKind.u16.wrap (IntKind.u16.wrap x * 256))) := by kernel_rfl
theorem order_a (op q : Int) (nm : ByteArray) (w : Int) : vesperref16_Word_order.f 20 op q (⟨#[97]⟩ : ByteArray) nm w = some (op, 0, 0, 0, 0, Int.tmod w 4096) := by kernel_rfl
theorem word_a (op q : Int) (nm : ByteArray) (p x y n b a : Int) : vesperref16_Word_word.f 20 op q (⟨#[97]⟩ : ByteArray) nm p x y n b a = some (IntKind.u16.wrap (q + a)) := by kernel_rfl
theorem order_xb (op q : Int) (nm : ByteArray) (w : Int) : vesperref16_Word_order.f 20 op q (⟨#[120, 98]⟩ : ByteArray) nm w = some (op, Int.tmod (IntKind.u16.wrap (Int.tdiv w 256)) 16 % 256, 0, 0, Int.tmod w 256 % 256, 0) := by kernel_rfl
theorem word_xb (op q : Int) (nm : ByteArray) (p x y n b a : Int) : vesperref16_Word_word.f 20 op q (⟨#[120, 98]⟩ : ByteArray) nm p x y n b a = some (IntKind.u16.wrap (IntKind.u16.wrap (q + IntKind.u16.wrap (IntKind.u16.wrap x * 256)) + IntKind.u16.wrap b)) := by kernel_rfl
theorem order_xy (op q : Int) (nm : ByteArray) (w : Int) : vesperref16_Word_order.f 20 op q (⟨#[120, 121]⟩ : ByteArray) nm w = some (op, Int.tmod (IntKind.u16.wrap (Int.tdiv w 256)) 16 % 256, Int.tmod (IntKind.u16.wrap (Int.tdiv w 16)) 16 % 256, 0, 0, 0) := by kernel_rfl
theorem word_xy (op q : Int) (nm : ByteArray) (p x y n b a : Int) : vesperref16_Word_word.f 20 op q (⟨#[120, 121]⟩ : ByteArray) nm p x y n b a = some (IntKind.u16.wrap (IntKind.u16.wrap (q + IntKind.u16.wrap (IntKind.u16.wrap x * 256)) + IntKind.u16.wrap (IntKind.u16.wrap y * 16))) := by kernel_rfl
theorem order_xyn (op q : Int) (nm : ByteArray) (w : Int) : vesperref16_Word_order.f 20 op q (⟨#[120, 121, 110]⟩ : ByteArray) nm w = some (op, Int.tmod (IntKind.u16.wrap (Int.tdiv w 256)) 16 % 256, Int.tmod (IntKind.u16.wrap (Int.tdiv w 16)) 16 % 256, Int.tmod w 16 % 256, 0, 0) := by kernel_rfl
theorem word_xyn (op q : Int) (nm : ByteArray) (p x y n b a : Int) : vesperref16_Word_word.f 20 op q (⟨#[120, 121, 110]⟩ : ByteArray) nm p x y n b a = some (IntKind.u16.wrap (IntKind.u16.wrap (IntKind.u16.wrap (q + IntKind.u16.wrap (IntKind.u16.wrap x * 256)) + IntKind.u16.wrap (IntKind.u16.wrap y * 16)) + IntKind.u16.wrap n)) := by kernel_rfl
theorem order_f {r : Rw} (hr : r ∈ tbl) (w : Int) (h0 : 0 ≤ w) (h1 : w < 65536) (K : Nat) (hK : 20 ≤ K) : vesperref16_Word_order.f K r.op r.word (letters r.fds) r.name w = some ((dec r w).op, (dec r w).x, (dec r w).y, (dec r w).n, (dec r w).b, (dec r w).a) := by
  refine at_rounds (fun k => vesperref16_Word_order.mono _ _ _ _ _ k) hK ?_
  have e1 := td w 256 h0
  have e2 := td w 16 h0
  have e3 := tm w 16 h0
  have e4 := tm w 256 h0
  have e5 := tm w 4096 h0
  have e6 := tm (w / 256 % 65536) 16 (by omega)
  have e7 := tm (w / 16 % 65536) 16 (by omega)
  unfold dec
  rcases form_of hr with ⟨h, m, w0, w1⟩ | ⟨h, m, w0, w1, e⟩ | ⟨h, m, w0, w1, e⟩ | ⟨h, m, w0, w1, e⟩ | ⟨h, m, w0, w1, e⟩ | ⟨h, m, w0, w1, e⟩
  · rw [h]; refine (order_nil _ _ _ _).trans ?_; (try simp only [e1, e2, e3, e4, e5, e6, e7, wrap_u16]); simp [decF, decV, Fd.put] <;> omega
  · rw [h]; refine (order_x _ _ _ _).trans ?_; (try simp only [e1, e2, e3, e4, e5, e6, e7, wrap_u16]); simp [decF, decV, Fd.put] <;> omega
  · rw [h]; refine (order_a _ _ _ _).trans ?_; (try simp only [e1, e2, e3, e4, e5, e6, e7, wrap_u16]); simp [decF, decV, Fd.put] <;> omega
  · rw [h]; refine (order_xb _ _ _ _).trans ?_; (try simp only [e1, e2, e3, e4, e5, e6, e7, wrap_u16]); simp [decF, decV, Fd.put] <;> omega
  · rw [h]; refine (order_xy _ _ _ _).trans ?_; (try simp only [e1, e2, e3, e4, e5, e6, e7, wrap_u16]); simp [decF, decV, Fd.put] <;> omega
  · rw [h]; refine (order_xyn _ _ _ _).trans ?_; (try simp only [e1, e2, e3, e4, e5, e6, e7, wrap_u16]); simp [decF, decV, Fd.put] <;> omega
theorem word_f {r : Rw} (hr : r ∈ tbl) (o : Ord) (hi : InR o) (K : Nat) (hK : 20 ≤ K) : vesperref16_Word_word.f K r.op r.word (letters r.fds) r.name o.op o.x o.y o.n o.b o.a = some (r.word + sumV r.fds o) := by
  refine at_rounds (fun k => vesperref16_Word_word.mono _ _ _ _ _ _ _ _ _ _ k) hK ?_
  obtain ⟨x0, x1, y0, y1, n0, n1, b0, b1, a0, a1⟩ := hi
  rcases form_of hr with ⟨h, m, w0, w1⟩ | ⟨h, m, w0, w1, e⟩ | ⟨h, m, w0, w1, e⟩ | ⟨h, m, w0, w1, e⟩ | ⟨h, m, w0, w1, e⟩ | ⟨h, m, w0, w1, e⟩
  · rw [h]; refine (word_nil _ _ _ _ _ _ _ _ _).trans ?_; (try simp only [wrap_u16]); simp [sumV, encR] <;> omega
  · rw [h]; refine (word_x _ _ _ _ _ _ _ _ _).trans ?_; (try simp only [wrap_u16]); simp [sumV, encR] <;> omega
  · rw [h]; refine (word_a _ _ _ _ _ _ _ _ _).trans ?_; (try simp only [wrap_u16]); simp [sumV, encR] <;> omega
  · rw [h]; refine (word_xb _ _ _ _ _ _ _ _ _).trans ?_; (try simp only [wrap_u16]); simp [sumV, encR] <;> omega
  · rw [h]; refine (word_xy _ _ _ _ _ _ _ _ _).trans ?_; (try simp only [wrap_u16]); simp [sumV, encR] <;> omega
  · rw [h]; refine (word_xyn _ _ _ _ _ _ _ _ _).trans ?_; (try simp only [wrap_u16]); simp [sumV, encR] <;> omega
end Go.Proofs.Ytffbkmcaecmmgaa.Ops
