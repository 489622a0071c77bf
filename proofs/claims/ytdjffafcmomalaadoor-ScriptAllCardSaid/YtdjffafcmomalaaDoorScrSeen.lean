/- vesperlaw07.seen, walked: how many cycles it sees. -/
import Derived.Test.YtdjffafcmomalaaDoorScrSeenW
set_option linter.unusedVariables false
set_option linter.unusedSimpArgs false
namespace Go.Proofs.YtdjffafcmomalaaDoor.All
open Go Go.RowKit
open Go.Proofs.YtdjffafcmomalaaDoorW.PrintWords Go.Proofs.YtdjffafcmomalaaDoor.PScr Go.Proofs.YtdjffafcmomalaaDoor.Scr Go.Proofs.YtdjffafcmomalaaDoor.Lent Go.Proofs.YtdjffafcmomalaaDoor.Own

theorem six_start (w : World) (A : Option Addr) (c : Nat) (l : List S34) (up : Int) : Six w.heap.size A c l up 0 0 0 true ((((((w.alloc (.cells #[.slice A l.length c] 23)).alloc (.cells #[.int .i64 up] 3)).alloc (.cells #[.int .i64 0] 3)).alloc (.cells #[.int .i64 0] 3)).alloc (.cells #[.int .i64 0] 3)).alloc (.cells #[.bool true] 4)) := by
  have old : ∀ (x : World) (o : Obj) (k : Nat), k < x.heap.size → (x.alloc o).heap[k]? = x.heap[k]? := fun x o k hk => (below_alloc (Below.refl x.heap.size x) o).block k hk
  have new : ∀ (x : World) (cs : Array Value) (t k : Nat), k = x.heap.size → (x.alloc (.cells cs t)).heap[k]? = some (.cells cs t (0, 0)) := fun x cs t k hk => by rw [hk]; exact heap_alloc_new x _
  refine ⟨?_, ?_, ?_, ?_, ?_, ?_⟩
  · rw [old _ _ _ (by simp only [World.size_alloc]; omega), old _ _ _ (by simp only [World.size_alloc]; omega), old _ _ _ (by simp only [World.size_alloc]; omega), old _ _ _ (by simp only [World.size_alloc]; omega), old _ _ _ (by simp)]
    exact new _ _ _ _ rfl
  · rw [old _ _ _ (by simp only [World.size_alloc]; omega), old _ _ _ (by simp only [World.size_alloc]; omega), old _ _ _ (by simp only [World.size_alloc]; omega), old _ _ _ (by simp)]
    exact new _ _ _ _ (by simp)
  · rw [old _ _ _ (by simp only [World.size_alloc]; omega), old _ _ _ (by simp only [World.size_alloc]; omega), old _ _ _ (by simp)]
    exact new _ _ _ _ (by simp)
  · rw [old _ _ _ (by simp only [World.size_alloc]; omega), old _ _ _ (by simp)]
    exact new _ _ _ _ (by simp)
  · rw [old _ _ _ (by simp)]
    exact new _ _ _ _ (by simp)
  · exact new _ _ _ _ (by simp)
theorem start_below (w : World) (A : Option Addr) (c : Nat) (l : List S34) (up : Int) : Below w.heap.size w ((((((w.alloc (.cells #[.slice A l.length c] 23)).alloc (.cells #[.int .i64 up] 3)).alloc (.cells #[.int .i64 0] 3)).alloc (.cells #[.int .i64 0] 3)).alloc (.cells #[.int .i64 0] 3)).alloc (.cells #[.bool true] 4)) :=
  below_alloc (below_alloc (below_alloc (below_alloc (below_alloc (below_alloc (Below.refl _ _) _) _) _) _) _) _
/-- How many cycles All goes through. -/
def allN (l : List S34) : Nat := (cyc (ownL l)).length
structure SE (q : Nat) (l : List S34) (up : Int) (w0 w : World) : Prop where
  ex : ∃ r : Int, r = min up (allN l : Int) ∧ w.heap[q + 2]? = some (.cells #[.int .i64 r] 3 (0, 0)) ∧ w.heap[q + 5]? = some (.cells #[.bool true] 4 (0, 0))
  bel : Below w0.heap.size w0 w

/-- What the iterator does to seen's boxes. -/
theorem seen_iter (A : Option Addr) (c : Nat) (l : List S34) (up : Int) (b : Nat) (Ab : Option Addr) (cb : Nat) (w : World) (hr : Kd.C k34 w A l.length l) (hup : 1 ≤ up) (hbx : BoxAt b Ab cb (ownL l) w) :
    Calls Tryd.prog 49 #[.func (Fn.func 50) #[] #[.pointer (some ⟨w.heap.size + 3, 0, none⟩), .pointer (some ⟨w.heap.size, 0, none⟩), .pointer (some ⟨w.heap.size + 4, 0, none⟩), .pointer (some ⟨w.heap.size + 2, 0, none⟩), .pointer (some ⟨w.heap.size + 5, 0, none⟩), .pointer (some ⟨w.heap.size + 1, 0, none⟩)], .pointer (some ⟨b, 0, none⟩)]
      ((((((w.alloc (.cells #[.slice A l.length c] 23)).alloc (.cells #[.int .i64 up] 3)).alloc (.cells #[.int .i64 0] 3)).alloc (.cells #[.int .i64 0] 3)).alloc (.cells #[.int .i64 0] 3)).alloc (.cells #[.bool true] 4)) fun e w' => e = .returned (.tuple #[]) ∧ SE w.heap.size l up w w' := by
  have hs := six_start w A c l up
  have hb := start_below w A c l up
  have hsz : w.heap.size + 6 ≤ ((((((w.alloc (.cells #[.slice A l.length c] 23)).alloc (.cells #[.int .i64 up] 3)).alloc (.cells #[.int .i64 0] 3)).alloc (.cells #[.int .i64 0] 3)).alloc (.cells #[.int .i64 0] 3)).alloc (.cells #[.bool true] 4)).heap.size := by simp
  generalize ((((((w.alloc (.cells #[.slice A l.length c] 23)).alloc (.cells #[.int .i64 up] 3)).alloc (.cells #[.int .i64 0] 3)).alloc (.cells #[.int .i64 0] 3)).alloc (.cells #[.int .i64 0] 3)).alloc (.cells #[.bool true] 4)) = w6 at hs hb hsz ⊢
  by_cases hok0 : (cyclesR l).2 = 0 ∧ ∃ ad, A = some ad
  · obtain ⟨hok, ad, rfl⟩ := hok0
    obtain ⟨g1, g2, g3, g4⟩ := cyclesR_ok hok
    have hown : ownL l = l := by unfold ownL; rw [if_pos hok]
    have hN : allN l = (cyc l).length := by unfold allN; rw [hown]
    rw [hown] at hbx
    refine (iter50 _ _ _ _ _ _ b (w.heap.size + 6) Ab cb l (SJ w.heap.size (some ad) c l up w) (SF w.heap.size l up w) w6 g2 g1 ⟨⟨0, 0, hs, Pos.start l g2⟩, by omega, hb⟩ (fun n w w' h hb => h.below hb) (fun n w' h => BoxAt.below hbx h.bel) hsz (fun n w' s hj hc => seen_step w.heap.size ad c l up w n w' s (Nat.le_refl _) g2 g1 hr hj hc)).mono ?_
    rintro e w' ⟨rfl, hjf, _⟩
    refine ⟨rfl, ?_⟩
    rcases hjf with hj | hf
    · obtain ⟨⟨a, u, h1, _⟩, h2, h3⟩ := hj
      exact ⟨⟨_, by rw [hN]; omega, h1.bn, h1.bok⟩, h3⟩
    · exact ⟨⟨up, by rw [hN]; have := hf.le; omega, hf.bn, hf.bok⟩, hf.bel⟩
  · have hown : ownL l = [] := by
      unfold ownL
      split
      · rename_i hok
        cases A with
        | some ad => exact (hok0 ⟨hok, ad, rfl⟩).elim
        | none =>
          cases l with
          | nil => rfl
          | cons x l =>
            obtain ⟨ad, e, _⟩ := hr.2.2 (by simp)
            cases e
      · rfl
    have hN : allN l = 0 := by unfold allN; rw [hown]; rfl
    rw [hown] at hbx
    refine (iter50 _ _ _ _ _ _ b (w.heap.size + 6) Ab cb [] (fun n x => n = 0 ∧ Six w.heap.size A c l up 0 0 0 true x ∧ Below w.heap.size w x) (fun _ => False) w6 rfl (Nat.zero_le _) ⟨rfl, hs, hb⟩ (fun n x x' h hbb => ⟨h.1, h.2.1.below hbb, h.2.2.trans (hbb.mono h.2.2.size)⟩) (fun n x h => BoxAt.below hbx h.2.2) hsz (fun n x s _ hc => by simp [cyc] at hc)).mono ?_
    rintro e w' ⟨rfl, hjf, _⟩
    refine ⟨rfl, ?_⟩
    rcases hjf with hj | hf
    · exact ⟨⟨0, by rw [hN]; omega, hj.2.1.bn, hj.2.1.bok⟩, hj.2.2⟩
    · exact hf.elim

set_option maxRecDepth 100000 in
set_option maxHeartbeats 8000000 in
theorem seen_calls (A : Option Addr) (c : Nat) (l : List S34) (up : Int) (b : Nat) (Ab : Option Addr) (cb : Nat) (w : World) (hr : Kd.C k34 w A l.length l) (hup : 1 ≤ up) (hbx : BoxAt b Ab cb (ownL l) w) :
    Calls Tryd.prog 32 #[.slice A l.length c, .int .i64 up, .func (Fn.func 49) #[] #[.pointer (some ⟨b, 0, none⟩)]] w fun e w' => e = .returned (.int .i64 (min up (allN l : Int))) ∧ Below w.heap.size w w' := by
  have HI := Aside0.mk (seen_iter A c l up b Ab cb w hr hup hbx)
  clear hr hbx hup
  go_enter Tryd.func32, Tryd.ntmps32
  go_wp2_with fail
  (with_reducible refine HI.out.mono ?_)
  rintro e w7 ⟨rfl, hE⟩
  obtain ⟨⟨r, hr, h1, h2⟩, h3⟩ := hE
  have HR := Aside0.mk hr
  have B := Aside0.mk h3
  have q1 := cell_of_one h1
  have q2 := cell_of_one h2
  clear hr h1 h2 h3 HI
  go_wp2
  go_ret
  exact ⟨by rw [HR.out]; rfl, B.out⟩
end Go.Proofs.YtdjffafcmomalaaDoor.All
