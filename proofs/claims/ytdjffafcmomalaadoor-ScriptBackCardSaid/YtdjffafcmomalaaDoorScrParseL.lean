/- script.Parse: what it tells of a text, plain; and the two steps of a round that write. -/
import Derived.Test.YtdjffafcmomalaaDoorScrRange
set_option linter.unusedVariables false
set_option linter.unusedSimpArgs false
namespace Go.Proofs.YtdjffafcmomalaaDoor.Scr
open Go Go.RowKit
open Go.Proofs.YtdjffafcmomalaaDoorW.PrintWords Go.Proofs.YtdjffafcmomalaaDoor.PScr

/-- The rounds over a text's lines: the spans, the error, the line. -/
def scan : List (ByteArray × Bool) → Int → Int → List S34 → List S34 × Int × Int
  | [], _, _, acc => (acc, 0, 0)
  | x :: r, all, at_, acc => if ((readR x.1).2 && x.2) = false then ([], 71, at_ + 1) else if 4194304 < all + (readR x.1).1.f0 then ([], 70, at_ + 1) else scan r (all + (readR x.1).1.f0) (at_ + 1) (acc ++ [(readR x.1).1])
def countL (l : List UInt8) : Int := (Lib.countByte l 10 : Int) + (if l = [] ∨ Lib.hasSuffix l [10] = true then 0 else 1)
def parseR (l : List UInt8) : List S34 × Int × Int := if (65536 < l.length ∨ 4096 < countL l) then ([], 2, 0) else scan (linesL l) 0 0 []

def spansOf (pre : List (ByteArray × Bool)) : List S34 := pre.map fun x => (readR x.1).1
def sumOf (pre : List (ByteArray × Bool)) : Int := (spansOf pre).foldl (fun n s => n + s.f0) 0
theorem spansOf_snoc (pre : List (ByteArray × Bool)) (x : ByteArray × Bool) : spansOf (pre ++ [x]) = spansOf pre ++ [(readR x.1).1] := by simp [spansOf]
theorem sumOf_snoc (pre : List (ByteArray × Bool)) (x : ByteArray × Bool) : sumOf (pre ++ [x]) = sumOf pre + (readR x.1).1.f0 := by simp [sumOf, spansOf]
/-- The lines pre are all well, and the sum is within the bound. -/
def Well (pre : List (ByteArray × Bool)) : Prop := (∀ r, scan (pre ++ r) 0 0 [] = scan r (sumOf pre) pre.length (spansOf pre)) ∧ 0 ≤ sumOf pre ∧ sumOf pre ≤ 4194304
theorem Well.nil : Well [] := ⟨fun _ => rfl, by decide, by decide⟩
theorem Well.snoc {pre : List (ByteArray × Bool)} (h : Well pre) (x : ByteArray × Bool) (h1 : ((readR x.1).2 && x.2) = true) (h2 : sumOf pre + (readR x.1).1.f0 ≤ 4194304) : Well (pre ++ [x]) := by
  have h3 := (readR_ok x.1 (by simp only [Bool.and_eq_true] at h1; exact h1.1)).2.1
  refine ⟨fun r => ?_, ?_, ?_⟩
  · rw [List.append_assoc, h.1, spansOf_snoc, sumOf_snoc, List.length_append]
    show scan (x :: r) _ _ _ = _
    rw [scan, if_neg (by rw [h1]; decide), if_neg (by omega)]
    rfl
  · rw [sumOf_snoc]; have := h.2.1; omega
  · rw [sumOf_snoc]; exact h2
theorem Well.bad {pre : List (ByteArray × Bool)} (h : Well pre) (x : ByteArray × Bool) (h1 : ((readR x.1).2 && x.2) = false) (r : List (ByteArray × Bool)) : scan ((pre ++ [x]) ++ r) 0 0 [] = ([], 71, (((pre ++ [x]).length : Nat) : Int)) := by
  rw [List.append_assoc, h.1, List.length_append]
  show scan (x :: r) _ _ _ = _
  rw [scan, if_pos h1]; rfl
theorem Well.long {pre : List (ByteArray × Bool)} (h : Well pre) (x : ByteArray × Bool) (h1 : ((readR x.1).2 && x.2) = true) (h2 : 4194304 < sumOf pre + (readR x.1).1.f0) (r : List (ByteArray × Bool)) : scan ((pre ++ [x]) ++ r) 0 0 [] = ([], 70, (((pre ++ [x]).length : Nat) : Int)) := by
  rw [List.append_assoc, h.1, List.length_append]
  show scan (x :: r) _ _ _ = _
  rw [scan, if_neg (by rw [h1]; decide), if_pos h2]; rfl
theorem linesF_len : ∀ (k : Nat) (l : List UInt8), (linesF k l).length ≤ k
  | 0, _ => Nat.le_refl _
  | k + 1, l => by
    unfold linesF
    split
    · simp
    · have := linesF_len k (line1L l).2.1
      simp only [List.length_cons]; omega
theorem linesF_size : ∀ (k : Nat) (l : List UInt8) (m : Nat), l.length ≤ m → ∀ x ∈ linesF k l, x.1.size ≤ m
  | 0, _, _, _, x, hx => by cases hx
  | k + 1, l, m, hm, x, hx => by
    unfold linesF at hx
    split at hx
    · cases hx
    · rename_i hne
      rcases List.mem_cons.1 hx with rfl | hx
      · have := line1_size l
        show (line1L l).1.toArray.size ≤ m
        simp; omega
      · have := line1_rest l hne
        exact linesF_size k _ m (by omega) x hx

def cellsL (s : S34) : List Value := [.int .i64 s.f0, .int .u16 s.f1, .bool s.f2, .bool s.f3, .bool s.f4, .bool s.f5, .bool s.f6, .bool s.f7, .bool s.f8, .int .u8 s.f9]
def rowL (l : List S34) : List Value := l.flatMap cellsL
theorem rowL_snoc (l : List S34) (s : S34) : rowL (l ++ [s]) = rowL l ++ cellsL s := by simp [rowL]
/-- append, kept shut in a walk. -/
def appG (ts : Array TypeId) (t : TypeId) (xs : Array Value) : Sem Value := Builtin.append_ ts t xs
theorem appG_eq (ts : Array TypeId) (t : TypeId) (xs : Array Value) : Builtin.append_ ts t xs = appG ts t xs := rfl

def Out (n₀ B : Nat) (l : List S34) (W : World) : Prop := ∃ v, Boxed W B 23 v ∧ W.ownsRow n₀ 34 10 v l.length (rowL l) ∧ True
/-- One more span: the append, in the world in which it stands. -/
theorem more34 {n₀ B : Nat} {l : List S34} {W : World} {v : Value} (s : S34) (hv : Boxed W B 23 v) (hrow : W.ownsRow n₀ 34 10 v l.length (rowL l)) (hB : n₀ ≤ B) (hl : l.length + 1 ≤ 1000000) :
    ∃ g cap w1, (appG #[23, 23] 23 #[v, .slice (some ⟨W.heap.size, 0, none⟩) 1 1]).run Tryd.prog (W.alloc (.cells #[.int .i64 s.f0, .int .u16 s.f1, .bool s.f2, .bool s.f3, .bool s.f4, .bool s.f5, .bool s.f6, .bool s.f7, .bool s.f8, .int .u8 s.f9] 34)) = .ok (.slice (some ⟨g, 0, none⟩) (l.length + 1) cap) w1 ∧
      w1.cell? ⟨B, 0, none⟩ = some v ∧ w1.frozen? ⟨B, 0, none⟩ = false ∧
      Out n₀ B (l ++ [s]) (w1.setCell ⟨B, 0, none⟩ (.slice (some ⟨g, 0, none⟩) (l.length + 1) cap)) ∧
      KeepsOthers W (w1.setCell ⟨B, 0, none⟩ (.slice (some ⟨g, 0, none⟩) (l.length + 1) cap)) ∧
      Below n₀ W (w1.setCell ⟨B, 0, none⟩ (.slice (some ⟨g, 0, none⟩) (l.length + 1) cap)) ∧
      (∀ (Bn t' : Nat) (u : Value), Boxed W Bn t' u → t' ≠ 34 → Bn ≠ B → Kb Bn W (w1.setCell ⟨B, 0, none⟩ (.slice (some ⟨g, 0, none⟩) (l.length + 1) cap))) := by
  obtain ⟨i0, hi, hz0, hz1, hz2⟩ := info_parts info34
  have hBs : B < W.heap.size := hv.lt
  obtain ⟨tmp, htmp⟩ : ∃ tmp, Obj.cells #[.int .i64 s.f0, .int .u16 s.f1, .bool s.f2, .bool s.f3, .bool s.f4, .bool s.f5, .bool s.f6, .bool s.f7, .bool s.f8, .int .u8 s.f9] 34 = tmp := ⟨_, rfl⟩
  obtain ⟨v', w1, hrun, hown', hgrow, _, _⟩ := run_append_own_at (P := Tryd.prog) (W.alloc tmp) n₀ 23 23 34 i0 _ 10 _ Tryd.underlying23 hi hz0 hz1 hz2 rfl (by decide) v l.length (rowL l) (hrow.alloc _) ⟨W.heap.size, 0, none⟩ 1 1 (cellsL s) rfl
    (by
      intro j u hu
      have hb := World.alloc_heap_new W tmp
      rw [← htmp] at hb ⊢
      have hj : j < 10 := (List.getElem?_eq_some_iff.1 hu).1
      have ha : (⟨W.heap.size, 0, none⟩ : Addr).add j = ⟨W.heap.size, j, none⟩ := by unfold Addr.add; split <;> simp_all
      rw [ha, cell_of_row _ _ _ _ _ _ hb, ← hu]
      simp [cellsL])
    (by simp [Value.oneCell', cellsL]) (by simp only [maxLen]; omega) (by omega) (by rw [World.size_alloc]; omega)
  obtain ⟨g, cap, rfl⟩ := ownsRow_succ hown'
  rw [htmp]
  obtain ⟨h1, h2, h3, h4, h5⟩ := hv.appended (by decide) hrow (by omega) hB hown' hgrow
  refine ⟨g, cap, w1, hrun, h1.cell, h1.frozen, ⟨_, h2, ?_, trivial⟩, h4, h5, ?_⟩
  · rw [rowL_snoc, List.length_append]; exact h3
  · intro Bn t' u hb ht hne
    have hb2 : Boxed w1 Bn t' u := (hb.alloc _).kept hgrow (hb.not_row ht hrow)
    have hb3 : (w1.setCell ⟨B, 0, none⟩ (.slice (some ⟨g, 0, none⟩) (l.length + 1) cap)).heap[Bn]? = w1.heap[Bn]? := Below.heap_setCell w1 ⟨B, 0, none⟩ _ Bn hne
    exact hb3.trans (Eq.trans hb2 (Eq.symm hb))
end Go.Proofs.YtdjffafcmomalaaDoor.Scr
