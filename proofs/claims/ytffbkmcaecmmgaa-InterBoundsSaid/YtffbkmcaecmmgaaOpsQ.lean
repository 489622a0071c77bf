/- The first fitting row from the front is the first from behind. -/
import Derived.Test.YtffbkmcaecmmgaaOpsP
set_option linter.unusedVariables false
set_option linter.unusedSimpArgs false
namespace Go.Proofs.Ytffbkmcaecmmgaa.Ops
open Go Go.RowKit
open Go.Proofs.YtffbkmcaecmmgaaW.PrintWords Go.Proofs.Ytffbkmcaecmmgaa.PInterBounds

theorem find_rev {α : Type} (p : α → Bool) : ∀ (l : List α), l.Pairwise (fun a b => ¬ (p a = true ∧ p b = true)) → l.reverse.find? p = l.find? p
  | [], _ => rfl
  | x :: t, h => by
    rw [List.pairwise_cons] at h
    rw [List.reverse_cons, List.find?_append, find_rev p t h.2, List.find?_cons]
    cases hx : p x
    · simp [hx]
    · have hn : t.find? p = none := by
        rw [List.find?_eq_none]
        intro b hb hpb
        exact h.1 b hb ⟨hx, hpb⟩
      rw [hn]
      simp [hx]
def rowC : Rw := ⟨2, 65535, 224, ⟨#[99, 108, 101, 97, 114]⟩, []⟩
def rowR : Rw := ⟨3, 65535, 238, ⟨#[114, 101, 116, 117, 114, 110]⟩, []⟩
def rowM : Rw := ⟨1, 61440, 0, ⟨#[109, 97, 99, 104, 105, 110, 101]⟩, [.a]⟩
def tbl3 : List Rw := tbl.drop 3
theorem tbl_split : tbl = rowC :: rowR :: rowM :: tbl3 := rfl
def wtbl : List Rw := rowM :: rowC :: rowR :: tbl3
theorem ops3 : (tbl3.all fun a => !(a.op == 1 || (a.op == 2 || a.op == 3))) = true := by decide +kernel
theorem ops_ne : (tbl.map fun a => a.op).Pairwise (fun a b => a ≠ b) := by decide +kernel
theorem mem3 {a : Rw} (h : a ∈ tbl3) : a ∈ tbl ∧ a.op ≠ 1 ∧ a.op ≠ 2 ∧ a.op ≠ 3 := by
  refine ⟨List.mem_of_mem_drop h, ?_⟩
  have := List.all_eq_true.1 ops3 a h
  simpa using this
theorem memC : rowC ∈ tbl := by rw [tbl_split]; simp
theorem memR : rowR ∈ tbl := by rw [tbl_split]; simp
theorem memM : rowM ∈ tbl := by rw [tbl_split]; simp
theorem pair3 (w : Int) : tbl3.Pairwise (fun a b => ¬ (fitsB w a = true ∧ fitsB w b = true)) := by
  have h1 : tbl.Pairwise (fun a b => a.op ≠ b.op) := List.pairwise_map.1 ops_ne
  have h2 : tbl3.Pairwise (fun a b => a.op ≠ b.op) := h1.sublist (List.drop_sublist 3 tbl)
  refine List.Pairwise.imp_of_mem (fun {a b} ha hb hne hf => ?_) h2
  obtain ⟨a0, a1, a2, a3⟩ := mem3 ha
  obtain ⟨b0, b1, b2, b3⟩ := mem3 hb
  rcases pair_of a0 b0 hf.1 hf.2 with h | ⟨h, _⟩ | ⟨h, _⟩
  · exact hne h
  · exact a1 h
  · exact b1 h
theorem find_same (w : Int) : wtbl.reverse.find? (fitsB w) = tbl.find? (fitsB w) := by
  have e : wtbl.reverse = tbl3.reverse ++ [rowR, rowC, rowM] := by unfold wtbl; simp
  rw [e, List.find?_append, find_rev _ _ (pair3 w), tbl_split]
  cases h3 : tbl3.find? (fitsB w) with
  | some a =>
    have ha := List.mem_of_find?_eq_some h3
    have fa : fitsB w a = true := List.find?_some h3
    obtain ⟨a0, a1, a2, a3⟩ := mem3 ha
    have nC : fitsB w rowC = false := by
      cases h : fitsB w rowC
      · rfl
      · rcases pair_of a0 memC fa h with g | ⟨g, _⟩ | ⟨_, g⟩
        · exact absurd g a2
        · exact absurd g a1
        · rcases g with g | g
          · exact absurd g a2
          · exact absurd g a3
    have nR : fitsB w rowR = false := by
      cases h : fitsB w rowR
      · rfl
      · rcases pair_of a0 memR fa h with g | ⟨g, _⟩ | ⟨_, g⟩
        · exact absurd g a3
        · exact absurd g a1
        · rcases g with g | g
          · exact absurd g a2
          · exact absurd g a3
    have nM : fitsB w rowM = false := by
      cases h : fitsB w rowM
      · rfl
      · rcases pair_of a0 memM fa h with g | ⟨g, _⟩ | ⟨_, g⟩
        · exact absurd g a1
        · exact absurd g a1
        · rcases g with g | g
          · exact absurd g a2
          · exact absurd g a3
    simp [List.find?_cons, nC, nR, nM, h3]
  | none =>
    cases hC : fitsB w rowC <;> cases hR : fitsB w rowR <;> cases hM : fitsB w rowM <;> simp [List.find?_cons, hC, hR, hM, h3]
    all_goals
      rcases pair_of memC memR hC hR with g | ⟨g, _⟩ | ⟨g, _⟩ <;> exact absurd g (by decide)
end Go.Proofs.Ytffbkmcaecmmgaa.Ops
