/- The words of a line that is put together of words. -/
import Derived.Test.YtdjffafcmomalaaDoorScrReadL
import Derived.Lib.SplitLaws
import Derived.Lib.IndexBytes
set_option linter.unusedVariables false
set_option linter.unusedSimpArgs false
namespace Go.Proofs.YtdjffafcmomalaaDoor.Scr
open Go Go.RowKit

theorem index_here (a b : List UInt8) (h : ∀ x ∈ a, x ≠ 32) : Lib.index (a ++ 32 :: b) [32] = a.length := by
  induction a with
  | nil => simp [Lib.index, List.isPrefixOf]
  | cons c a ih =>
    have hc : c ≠ 32 := h c List.mem_cons_self
    have hp : ([32] : List UInt8).isPrefixOf (c :: (a ++ 32 :: b)) = false := by simp [List.isPrefixOf]; exact fun e => hc e.symm
    rw [List.cons_append, Lib.index, hp, ih (fun x hx => h x (List.mem_cons_of_mem _ hx))]
    simp
theorem index_none (a : List UInt8) (h : ∀ x ∈ a, x ≠ 32) : Lib.index a [32] = -1 := by
  induction a with
  | nil => simp [Lib.index]
  | cons c a ih =>
    have hc : c ≠ 32 := h c List.mem_cons_self
    have hp : ([32] : List UInt8).isPrefixOf (c :: a) = false := by simp [List.isPrefixOf]; exact fun e => hc e.symm
    rw [Lib.index, hp, ih (fun x hx => h x (List.mem_cons_of_mem _ hx))]
    simp
theorem split_here (k : Nat) (a b : List UInt8) (h : ∀ x ∈ a, x ≠ 32) : Lib.splitK [32] 0 (k + 1) (a ++ 32 :: b) = a :: Lib.splitK [32] 0 k b := by
  have hi := index_here a b h
  rw [Lib.splitK, hi]
  simp
theorem count_here (a b : List UInt8) (h : ∀ x ∈ a, x ≠ 32) : (a ++ 32 :: b).count 32 = b.count 32 + 1 := by
  rw [List.count_append, List.count_cons_self, List.count_eq_zero.2 (fun hm => h 32 hm rfl)]
  omega
def joinL : List (List UInt8) → List UInt8
  | [] => []
  | [a] => a
  | a :: b :: r => a ++ 32 :: joinL (b :: r)
theorem split_join : ∀ (ws : List (List UInt8)), ws ≠ [] → (∀ a ∈ ws, ∀ x ∈ a, x ≠ 32) → Lib.splitK [32] 0 ((joinL ws).count 32) (joinL ws) = ws
  | [], h, _ => (h rfl).elim
  | [a], _, h => by
    have h1 := h a List.mem_cons_self
    show Lib.splitK [32] 0 (a.count 32) a = [a]
    rw [List.count_eq_zero.2 (fun hm => h1 32 hm rfl)]
    rfl
  | a :: b :: r, _, h => by
    have h1 := h a List.mem_cons_self
    show Lib.splitK [32] 0 ((a ++ 32 :: joinL (b :: r)).count 32) (a ++ 32 :: joinL (b :: r)) = _
    rw [count_here _ _ h1, split_here _ _ _ h1, split_join (b :: r) (by simp) (fun x hx => h x (List.mem_cons_of_mem _ hx))]
theorem words_join (l : ByteArray) (ws : List (List UInt8)) (hne : ws ≠ []) (hw : ∀ a ∈ ws, ∀ x ∈ a, x ≠ 32) (hl : l.data.toList = joinL ws) : wordsOf l = ws.map fun a => ⟨a.toArray⟩ := by
  have hc : Lib.countB l blank = (joinL ws).count 32 := by
    show Lib.count l.data.toList [32] = _
    rw [Lib.count_one, hl]
  have hd := Lib.splitB_data blank 0 (Lib.countB l blank) l
  have hs : Lib.splitK blank.data.toList 0 (Lib.countB l blank) l.data.toList = ws := by
    rw [hc, hl]
    exact split_join ws hne hw
  rw [hs] at hd
  have : (wordsOf l).map (fun b => (⟨b.data.toList.toArray⟩ : ByteArray)) = ws.map fun a => ⟨a.toArray⟩ := by
    rw [← hd, List.map_map]
    rfl
  rw [← this]
  simp
end Go.Proofs.YtdjffafcmomalaaDoor.Scr
