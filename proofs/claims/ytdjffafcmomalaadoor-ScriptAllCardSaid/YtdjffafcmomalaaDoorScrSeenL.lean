/- vesperlaw07.seen: its yield's invariant. -/
import Derived.Test.YtdjffafcmomalaaDoorScrAllI
set_option linter.unusedVariables false
set_option linter.unusedSimpArgs false
namespace Go.Proofs.YtdjffafcmomalaaDoor.All
open Go Go.RowKit
open Go.Proofs.YtdjffafcmomalaaDoorW.PrintWords Go.Proofs.YtdjffafcmomalaaDoor.PScr Go.Proofs.YtdjffafcmomalaaDoor.Scr Go.Proofs.YtdjffafcmomalaaDoor.Lent Go.Proofs.YtdjffafcmomalaaDoor.Own

/-- seen's six boxes, from block q on: the script, the bound, n, at, used, ok. -/
structure Six (q : Nat) (A : Option Addr) (c : Nat) (l : List S34) (up : Int) (n a u : Int) (ok : Bool) (w : World) : Prop where
  bl : w.heap[q]? = some (.cells #[.slice A l.length c] 23 (0, 0))
  bup : w.heap[q + 1]? = some (.cells #[.int .i64 up] 3 (0, 0))
  bn : w.heap[q + 2]? = some (.cells #[.int .i64 n] 3 (0, 0))
  bat : w.heap[q + 3]? = some (.cells #[.int .i64 a] 3 (0, 0))
  bused : w.heap[q + 4]? = some (.cells #[.int .i64 u] 3 (0, 0))
  bok : w.heap[q + 5]? = some (.cells #[.bool ok] 4 (0, 0))
/-- Where n cycles end: within span a, behind u of its cycles. -/
def Pos (l : List S34) (n a u : Nat) : Prop := a ≤ l.length ∧ (cyc (l.take a)).length + u = n ∧ (∀ s, l[a]? = some s → (u : Int) ≤ s.f0) ∧ (a = l.length → u = 0)
/-- The state behind n cycles. -/
structure SJ (q : Nat) (A : Option Addr) (c : Nat) (l : List S34) (up : Int) (w0 : World) (n : Nat) (w : World) : Prop where
  ex : ∃ a u : Nat, Six q A c l up n a u true w ∧ Pos l n a u
  lt : (n : Int) < up
  bel : Below w0.heap.size w0 w
structure SF (q : Nat) (l : List S34) (up : Int) (w0 : World) (w : World) : Prop where
  bn : w.heap[q + 2]? = some (.cells #[.int .i64 up] 3 (0, 0))
  bok : w.heap[q + 5]? = some (.cells #[.bool true] 4 (0, 0))
  le : up ≤ ((cyc l).length : Int)
  bel : Below w0.heap.size w0 w
theorem Six.below {q : Nat} {A : Option Addr} {c : Nat} {l : List S34} {up n a u : Int} {ok : Bool} {w w1 : World} (h : Six q A c l up n a u ok w) (hb : Below w.heap.size w w1) : Six q A c l up n a u ok w1 := by
  have k : ∀ {i o}, w.heap[i]? = some o → w1.heap[i]? = some o := fun {i o} hi => (hb.block i (Array.getElem?_eq_some_iff.1 hi).1).trans hi
  exact ⟨k h.bl, k h.bup, k h.bn, k h.bat, k h.bused, k h.bok⟩
theorem SJ.below {q : Nat} {A : Option Addr} {c : Nat} {l : List S34} {up : Int} {w0 : World} {n : Nat} {w w1 : World} (h : SJ q A c l up w0 n w) (hb : Below w.heap.size w w1) : SJ q A c l up w0 n w1 := by
  obtain ⟨⟨a, u, hs, hp⟩, h2, h5⟩ := h
  exact ⟨⟨a, u, hs.below hb, hp⟩, h2, h5.trans (hb.mono h5.size)⟩
theorem BoxAt.below {b : Nat} {A : Option Addr} {c : Nat} {m : List S34} {w w1 : World} (h : BoxAt b A c m w) (hb : Below w.heap.size w w1) : BoxAt b A c m w1 := by
  obtain ⟨x1, x2, x3⟩ := h
  exact ⟨(hb.block b (Array.getElem?_eq_some_iff.1 x1).1).trans x1, Kd.C_below x2 hb, x3⟩
/-- A store into one of the boxes. -/
theorem set_other {w : World} {x k : Nat} {v : Value} {o : Obj} (h : w.heap[k]? = some o) (hne : k ≠ x) : (w.setCell ⟨x, 0, none⟩ v).heap[k]? = some o := (Below.heap_setCell w ⟨x, 0, none⟩ v k hne).trans h
theorem Six.setAt {q : Nat} {A : Option Addr} {c : Nat} {l : List S34} {up n a u : Int} {ok : Bool} {w : World} (h : Six q A c l up n a u ok w) (a' : Int) : Six q A c l up n a' u ok (w.setCell ⟨q + 3, 0, none⟩ (.int .i64 a')) :=
  ⟨set_other h.bl (by omega), set_other h.bup (by omega), set_other h.bn (by omega), one_setCell h.bat, set_other h.bused (by omega), set_other h.bok (by omega)⟩
theorem Six.setUsed {q : Nat} {A : Option Addr} {c : Nat} {l : List S34} {up n a u : Int} {ok : Bool} {w : World} (h : Six q A c l up n a u ok w) (u' : Int) : Six q A c l up n a u' ok (w.setCell ⟨q + 4, 0, none⟩ (.int .i64 u')) :=
  ⟨set_other h.bl (by omega), set_other h.bup (by omega), set_other h.bn (by omega), set_other h.bat (by omega), one_setCell h.bused, set_other h.bok (by omega)⟩
theorem Six.setN {q : Nat} {A : Option Addr} {c : Nat} {l : List S34} {up n a u : Int} {ok : Bool} {w : World} (h : Six q A c l up n a u ok w) (n' : Int) : Six q A c l up n' a u ok (w.setCell ⟨q + 2, 0, none⟩ (.int .i64 n')) :=
  ⟨set_other h.bl (by omega), set_other h.bup (by omega), one_setCell h.bn, set_other h.bat (by omega), set_other h.bused (by omega), set_other h.bok (by omega)⟩
theorem Six.setOk {q : Nat} {A : Option Addr} {c : Nat} {l : List S34} {up n a u : Int} {ok : Bool} {w : World} (h : Six q A c l up n a u ok w) (ok' : Bool) : Six q A c l up n a u ok' (w.setCell ⟨q + 5, 0, none⟩ (.bool ok')) :=
  ⟨set_other h.bl (by omega), set_other h.bup (by omega), set_other h.bn (by omega), set_other h.bat (by omega), set_other h.bused (by omega), one_setCell h.bok⟩
theorem Keep.set {b1 : Nat} {w w1 : World} (h : Keep b1 w w1) (x : Nat) (hx : x < b1) (v : Value) : Keep b1 w (w1.setCell ⟨x, 0, none⟩ v) :=
  ⟨by have := h.1; simpa using this, fun k h1 h2 => (Below.heap_setCell w1 ⟨x, 0, none⟩ v k (show k ≠ x by omega)).trans (h.2 k h1 h2)⟩
/-- The loop over the spans that are used up: one on. -/
theorem Pos.next {l : List S34} {n a u : Nat} (h : Pos l n a u) (ha : a < l.length) (hok : l.all okC = true) (hu : l[a].f0 ≤ (u : Int)) : Pos l n (a + 1) 0 := by
  obtain ⟨h1, h2, h3, h4⟩ := h
  have hs := okC_pos (List.all_eq_true.1 hok l[a] (List.getElem_mem ha))
  have hle := h3 l[a] (List.getElem?_eq_getElem ha)
  refine ⟨ha, ?_, fun s hs' => ?_, fun _ => rfl⟩
  · rw [cyc_take l a ha l[a] rfl, List.length_append, List.length_replicate]; omega
  · have := okC_pos (List.all_eq_true.1 hok s (List.mem_of_getElem? hs'))
    omega
/-- The cycle that comes. -/
theorem Pos.here {l : List S34} {n a u : Nat} (h : Pos l n a u) (ha : a < l.length) (hu : (u : Int) < l[a].f0) (s : S34) (hc : (cyc l)[n]? = some (withC s 0)) : withC s 0 = withC l[a] 0 := by
  obtain ⟨h1, h2, h3, h4⟩ := h
  rw [cyc_at l a ha l[a] rfl, List.getElem?_append_right (by omega), List.getElem?_append_left (by simp; omega), List.getElem?_replicate, if_pos (by omega)] at hc
  exact (Option.some.inj hc).symm
theorem Pos.step {l : List S34} {n a u : Nat} (h : Pos l n a u) (ha : a < l.length) (hu : (u : Int) < l[a].f0) : Pos l (n + 1) a (u + 1) := by
  obtain ⟨h1, h2, h3, h4⟩ := h
  refine ⟨h1, by omega, fun s hs => ?_, fun e => by omega⟩
  rw [List.getElem?_eq_getElem ha] at hs
  cases hs
  omega
theorem Pos.in {l : List S34} {n a u : Nat} (h : Pos l n a u) (hn : n < (cyc l).length) : a < l.length := by
  obtain ⟨h1, h2, h3, h4⟩ := h
  rcases Nat.lt_or_ge a l.length with h5 | h5
  · exact h5
  · have e : a = l.length := by omega
    have e0 := h4 e
    rw [e, List.take_length] at h2
    omega
theorem Pos.start (l : List S34) (hok : l.all okC = true) : Pos l 0 0 0 := by
  refine ⟨Nat.zero_le _, rfl, fun s hs => ?_, fun _ => rfl⟩
  have := okC_pos (List.all_eq_true.1 hok s (List.mem_of_getElem? hs))
  omega
end Go.Proofs.YtdjffafcmomalaaDoor.All
