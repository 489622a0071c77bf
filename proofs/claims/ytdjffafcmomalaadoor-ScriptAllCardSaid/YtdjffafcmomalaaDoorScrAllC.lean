/- slices.Clone at spans, script.All: a function value whose box holds a row of the call's own. -/
import Derived.Test.YtdjffafcmomalaaDoorScrOwnL
import Derived.Test.YtdjffafcmomalaaDoorPScrxW
import Derived.WalkSpells
set_option linter.unusedVariables false
set_option linter.unusedSimpArgs false
namespace Go.Proofs.YtdjffafcmomalaaDoor.All
open Go Go.RowKit
open Go.Proofs.YtdjffafcmomalaaDoorW.PrintWords Go.Proofs.YtdjffafcmomalaaDoor.PScr Go.Proofs.YtdjffafcmomalaaDoor.Scr Go.Proofs.YtdjffafcmomalaaDoor.Lent Go.Proofs.YtdjffafcmomalaaDoor.Own

theorem empty_row (w : World) (B0 : Nat) (h : B0 ≤ w.heap.size) : RW (w.alloc (.cells #[] 34)) B0 (.slice (some ⟨w.heap.size, 0, none⟩) 0 0) [] := by
  refine ⟨fun _ _ => trivial, [], ⟨rfl, .inr ⟨w.heap.size, 0, #[], rfl, h, heap_alloc_new w _, ?_, ?_, ?_, ?_⟩⟩, Reps.none _ _⟩
  all_goals first | exact Nat.le_refl _ | (simp [maxLen]; done) | rfl

set_option maxRecDepth 100000 in
set_option maxHeartbeats 4000000 in
theorem clone_some (ad : Addr) (c : Nat) (l : List S34) (w : World) (hr : Kd.C k34 w (some ad) l.length l) (hc : l.length ≤ c) (hl : l.length ≤ 1000000000) :
    Calls Tryd.prog 48 #[.slice (some ad) l.length c] w fun e w' => ∃ v, e = .returned v ∧ RW w' w.heap.size v l ∧ Below w.heap.size w w' := by
  have HR := Aside0.mk hr
  have HE := Aside0.mk (empty_row w w.heap.size (Nat.le_refl _))
  have HB := Aside0.mk (below_alloc (Below.refl w.heap.size w) (.cells #[] 34))
  have hq : (binOp .eql 23 (.slice (some ad) l.length c) (.slice none 0 0)).run Tryd.prog w = .ok (.bool false) w := Lib.run_eql_slice_nil w 23 34 (some ad) l.length c 0 0 Tryd.underlying23
  clear hr
  go_enter Tryd.func48, Tryd.ntmps48
  go_wp2_with ((with_reducible refine gate_builtin (b := .append) (xs := #[.tmp 5, .tmp 6]) rfl ?_); at_builtin; refine Kd.R_append_rows k34 (w0 := w) w.heap.size rfl (.tmp 5) (.tmp 6) 23 34 (.agg #[(.int .i64 0), (.int .u16 0), (.bool false), (.bool false), (.bool false), (.bool false), (.bool false), (.bool false), (.bool false), (.int .u8 0)]) 24 rfl Tryd.underlying23 info34 rfl (by decide) (by omega) (.slice (some ⟨w.heap.size, 0, none⟩) 0 0) ([] : List (S34)) l _ _ _ (fun _ => True) (fun _ => False) rfl rfl ?aO ?aR (fun _ _ h => h) (fun _ h => h.elim) ?aF ?aB ?aS ?aL ?_; (case aO => exact HE.out); (case aR => exact Kd.C_below HR.out HB.out); (case aF => exact (fun _ _ => trivial)); (case aB => exact HB.out); (case aS => exact HB.out.size); (case aL => simp; omega); intro v1 w1 ho hb hg hat; have O1 := Aside0.mk ho; have B1 := Aside0.mk hb; clear ho hb hg hat)
  go_ret
  exact ⟨_, rfl, O1.out, B1.out⟩

set_option maxRecDepth 100000 in
theorem clone_nil (w : World) : Calls Tryd.prog 48 #[.slice none 0 0] w fun e w' => e = .returned (.slice none 0 0) ∧ w = w' := by
  have hq : (binOp .eql 23 (.slice none 0 0) (.slice none 0 0)).run Tryd.prog w = .ok (.bool true) w := Lib.run_eql_slice_nil w 23 34 none 0 0 0 0 Tryd.underlying23
  go_enter Tryd.func48, Tryd.ntmps48
  go_wp2
  go_ret
  exact ⟨rfl, rfl⟩

/-- The box of an iterator: it holds a slice that reads as m. -/
def AllBox (b : Nat) (m : List S34) (w : World) : Prop := ∃ A c, w.heap[b]? = some (.cells #[.slice A m.length c] 23 (0, 0)) ∧ Kd.C k34 w A m.length m ∧ m.length ≤ c
theorem AllBox.below {b : Nat} {m : List S34} {w w1 : World} (h : AllBox b m w) (hb : Below w.heap.size w w1) : AllBox b m w1 := by
  obtain ⟨A, c, h1, h2, h3⟩ := h
  exact ⟨A, c, (hb.block b (Array.getElem?_eq_some_iff.1 h1).1).trans h1, Kd.C_below h2 hb, h3⟩
/-- What All's script is: none, if it may not be. -/
def ownL (l : List S34) : List S34 := if (cyclesR l).2 = 0 then l else []
def iterV (b : Nat) : Value := .func (Fn.func 49) #[] #[.pointer (some ⟨b, 0, none⟩)]

set_option maxRecDepth 100000 in
set_option maxHeartbeats 4000000 in
theorem all_calls (ad : Addr) (c : Nat) (l : List S34) (w : World) (hr : Kd.C k34 w (some ad) l.length l) (hc : l.length ≤ c) :
    Calls Tryd.prog 31 #[.slice (some ad) l.length c] w fun e w' => ∃ b, w.heap.size ≤ b ∧ e = .returned (.func (Fn.func 49) #[] #[.pointer (some ⟨b, 0, none⟩)]) ∧ AllBox b (ownL l) w' ∧ Below w.heap.size w w' := by
  have HR := Aside0.mk hr
  have h1 := check_f 5000 l (Nat.le_refl _)
  by_cases hok : (cyclesR l).2 = 0
  · have hown : ownL l = l := by unfold ownL; rw [if_pos hok]
    rw [hok] at h1
    have H1 := Aside0.mk h1
    have HO := Aside0.mk hown
    have hl := (cyclesR_ok hok).1
    clear hr h1 hok hown
    go_enter Tryd.func31, Tryd.ntmps31
    go_wp2_with fail
    (with_reducible refine (script_Check.calls 5000 (some ad) c l 0 _ HR.out hc H1.out).mono ?_)
    rintro e w1 ⟨rfl, hb1⟩
    have B1 := Aside0.mk hb1
    clear hb1
    go_wp2_with fail
    (with_reducible refine (clone_some ad c l _ (Kd.C_below HR.out B1.out) hc (by omega)).mono ?_)
    rintro e w2 ⟨v, rfl, hv, hb2⟩
    have O1 := Aside0.mk hv
    have B2 := Aside0.mk (below_step B1.out hb2)
    clear hv hb2
    obtain ⟨Ao, co, eo⟩ := Own.RW.sl O1.out
    subst eo
    go_wp2
    go_ret
    refine ⟨_, B2.out.size, rfl, ?_, below_alloc B2.out _⟩
    rw [HO.out]
    exact ⟨Ao, co, heap_alloc_new w2 _, Kd.C_below (Own.RW.c O1.out) (below_alloc (Below.refl _ _) _), Own.RW.le O1.out⟩
  · obtain ⟨x, hx⟩ : ∃ x, (cyclesR l).2 = x := ⟨_, rfl⟩
    have hown : ownL l = [] := by unfold ownL; rw [if_neg hok]
    rw [hx] at h1 hok
    have H1 := Aside0.mk h1
    have HO := Aside0.mk hown
    have hxb : (x != 0) = true := bne_iff_ne.mpr hok
    clear hr h1 hok hx hown
    go_enter Tryd.func31, Tryd.ntmps31
    go_wp2_with fail
    (with_reducible refine (script_Check.calls 5000 (some ad) c l x _ HR.out hc H1.out).mono ?_)
    rintro e w1 ⟨rfl, hb1⟩
    have B1 := Aside0.mk hb1
    clear hb1
    go_wp2_with fail
    (with_reducible refine (clone_nil _).mono ?_)
    rintro e w2 ⟨rfl, rfl⟩
    go_wp2
    go_ret
    refine ⟨_, B1.out.size, rfl, ?_, below_alloc B1.out _⟩
    rw [HO.out]
    exact ⟨none, 0, heap_alloc_new w1 _, Kd.C_nil _ _, Nat.le_refl _⟩
end Go.Proofs.YtdjffafcmomalaaDoor.All
