/- lent and back. -/
import Derived.Test.YtdjffafcmomalaaDoorScrM5
import Derived.Laws.CopyRow
import Derived.Laws.CopyOwn
import Derived.Laws.MakeOwn
import Derived.Lib.Hide
/- A row that came in, copied into a row of the call's own that is longer. Over any program and any flat kind. -/
set_option linter.unusedVariables false
set_option linter.unusedSimpArgs false
namespace Go.Proofs.YtdjffafcmomalaaDoor.LentL
open Go Go.RowKit
open Go.Proofs.YtdjffafcmomalaaDoorW.PrintWords

/-- copy, kept shut in a walk. -/
def copyG (ts : Array TypeId) (t : TypeId) (xs : Array Value) : Sem Value := Builtin.copy_ ts t xs
theorem copyG_eq (ts : Array TypeId) (t : TypeId) (xs : Array Value) : Builtin.copy_ ts t xs = copyG ts t xs := rfl

theorem run_copy_wide {P : Program} (w : World) (dT sT ty elem sz : Nat) (g o dLen dCap : Nat) (a : Addr) (sLen sCap : Nat) (cur : Array Value) (t : TypeId) (cs : List Value)
    (hu : P.underlying dT = some (.slice elem)) (hs : (P.info? elem).map (·.size) = some sz)
    (hg : w.heap[g]? = some (.cells cur t (0, 0))) (hn : cs.length = Nat.min sLen dLen * sz)
    (hsrc : ∀ j v, cs[j]? = some v → w.cell? (a.add j) = some v) (hfit : o + cs.length ≤ cur.size) (h1 : ∀ v ∈ cs, v.oneCell' = true) :
    (Builtin.copy_ #[dT, sT] ty #[.slice (some ⟨g, o, none⟩) dLen dCap, .slice (some a) sLen sCap]).run P w =
      .ok (goInt (Nat.min sLen dLen)) (w.setRow g (cur.toList.take o ++ cs ++ cur.toList.drop (o + cs.length)).toArray) := by
  have hl := run_loadCells_list (P := P) w a cs hsrc
  have hst := run_storeCells_at P g o t cs 0 cur w hg (by simpa using hfit) h1
  cases hq : P.info? elem with
  | none => simp [hq] at hs
  | some i =>
    have hi : i.size = sz := by simpa [hq] using hs
    simp [Builtin.copy_, run_underlying hu, Builtin.lenOf, Builtin.firstCells, sizeOf, typeInfo, hq, hi, ← hn, hl, hst]

theorem setRow_block (w : World) (g : Nat) (cs : Array Value) (cur : Array Value) (t : TypeId) (hg : w.heap[g]? = some (.cells cur t (0, 0))) : (w.setRow g cs).heap[g]? = some (.cells cs t (0, 0)) := setRow_heap w g cur cs t (0, 0) hg

theorem made_drop {z : Array Value} {sz : Nat} (hz : z.size = sz) (n m : Nat) : (madeCells z ((n + m) * sz)).toList.drop (n * sz) = (madeCells z (m * sz)).toList := by
  apply List.ext_getElem
  · simp [size_madeCells, Nat.add_mul]
  · intro i h1 h2
    simp [madeCells, hz, Nat.mul_add_mod_self_right]

section
variable {α : Type} (d : Kd α)

/-- What copy leaves: a row of the own, the rest zeros. -/
theorem lent_run {P : Program} (flat : ∀ {w w' : World} {base : Nat} {ok : Nat → Prop} {x : α} {cs : List Value}, d.K w x cs → d.M w' base ok x cs) (t ty e : TypeId) (z : Value) (bytes : Nat)
    (ht : P.underlying t = some (.slice e)) (hinfo : (P.info? e).map (fun i => (i.zero, i.size, i.bytes)) = some (some z, d.sz, bytes)) (hz : z.cells.size = d.sz) (hs0 : 0 < d.sz)
    (z0 : α) {w : World} (hzero : d.K w z0 z.cells.toList) (m : Nat) {A : Option Addr} {l : List α} (c : Nat) (hC : d.C w A l.length l) (hm : l.length + m ≤ maxLen) :
    ∃ W2, (copyG #[t, t] ty #[.slice (some ⟨w.heap.size, 0, none⟩) (l.length + m) (l.length + m), .slice A l.length c]).run P (w.alloc (.cells (madeCells z.cells ((l.length + m) * d.sz)) e)) = .ok (goInt l.length) W2 ∧
      d.R e W2 w.heap.size (fun _ => True) (.slice (some ⟨w.heap.size, 0, none⟩) (l.length + m) (l.length + m)) (l ++ List.replicate m z0) ∧ Below w.heap.size w W2 := by
  have hsz : (P.info? e).map (·.size) = some d.sz := by
    obtain ⟨i0, hi, hzz⟩ := Option.map_eq_some_iff.1 hinfo
    simp only [Prod.mk.injEq] at hzz
    rw [hi]; simp [hzz.2.1]
  have hnew : (w.alloc (.cells (madeCells z.cells ((l.length + m) * d.sz)) e)).heap[w.heap.size]? = some (.cells (madeCells z.cells ((l.length + m) * d.sz)) e (0, 0)) := heap_alloc_new w _
  have hrest : Reps (d.M w w.heap.size (fun k => True ∧ some k ≠ (Value.slice (some ⟨w.heap.size, 0, none⟩) (l.length + m) (l.length + m)).ownBlock)) d.sz (List.replicate m z0) (madeCells z.cells (m * d.sz)).toList := Kd.reps_made hz hs0 (flat hzero) m
  have key : ∀ (cs : List Value), cs.length = l.length * d.sz → Reps (d.K w) d.sz l cs → ∀ W2 : World, W2.heap[w.heap.size]? = some (.cells (cs ++ (madeCells z.cells ((l.length + m) * d.sz)).toList.drop cs.length).toArray e (0, 0)) →
      d.R e W2 w.heap.size (fun _ => True) (.slice (some ⟨w.heap.size, 0, none⟩) (l.length + m) (l.length + m)) (l ++ List.replicate m z0) := by
    intro cs hcs hreps W2 hW2
    have hdrop : (madeCells z.cells ((l.length + m) * d.sz)).toList.drop cs.length = (madeCells z.cells (m * d.sz)).toList := by
      rw [hcs]; exact made_drop hz _ _
    rw [hdrop] at hW2
    refine ⟨fun _ _ => trivial, cs ++ (madeCells z.cells (m * d.sz)).toList, ⟨?_, .inr ⟨w.heap.size, l.length + m, _, by simp, Nat.le_refl _, hW2, Nat.le_of_eq ?_, hm, ?_, ?_⟩⟩, Kd.reps_append (hreps.imp_ (fun _ _ h => flat h)) (Kd.reps_made hz hs0 (flat hzero) m)⟩
    · rw [List.length_append, hcs]; simp [size_madeCells, Nat.add_mul]
    · simp
    · simp [hcs, size_madeCells, Nat.add_mul]
    · rw [List.take_of_length_le]
      simp [hcs, size_madeCells, Nat.add_mul]
  cases A with
  | none =>
    have hl : l = [] := by
      cases l with
      | nil => rfl
      | cons x xs => obtain ⟨ad, e, _⟩ := hC.2.2 (by simp); cases e
    subst hl
    refine ⟨w.alloc (.cells (madeCells z.cells ((([] : List α).length + m) * d.sz)) e), ?_, key [] (by simp) (Reps.none _ _) _ ?_, below_alloc (Below.refl _ _) _⟩
    · unfold copyG
      rw [show (Value.slice none ([] : List α).length c) = .slice none 0 c from rfl]
      cases hq : P.info? e with
      | none => simp [hq] at hsz
      | some i => simp [Builtin.copy_, run_underlying ht, Builtin.lenOf, Builtin.firstCells, sizeOf, typeInfo, hq, storeCells]
    · simpa using hnew
  | some ad =>
    obtain ⟨cs, hreps, hcell⟩ := ReadsRow.inner_ hC
    have hcs := hreps.1
    have hmin : Nat.min l.length (l.length + m) = l.length := Nat.min_eq_left (by omega)
    have hrun := run_copy_wide (P := P) (w.alloc (.cells (madeCells z.cells ((l.length + m) * d.sz)) e)) t t ty e d.sz w.heap.size 0 (l.length + m) (l.length + m) ad l.length c _ e cs ht hsz hnew (by rw [hcs, hmin])
      (fun j v hj => by rw [(below_alloc (Below.refl w.heap.size w) _).cell (World.block_lt_of_cell? w _ (hcell j v hj))]; exact hcell j v hj) (by simp [size_madeCells, hcs, Nat.add_mul]) (fun v hv => Kd.reps_one hreps hs0 (fun _ _ h => d.K_one h) v hv)
    rw [hmin] at hrun
    refine ⟨_, hrun, ?_, ?_⟩
    · exact key cs hcs hreps _ (by simpa using setRow_block _ _ _ _ _ hnew)
    · exact below_setRow (below_alloc (Below.refl w.heap.size w) _) (Nat.le_refl _) _
end
end Go.Proofs.YtdjffafcmomalaaDoor.LentL
/- vesperlaw07.lent and vesperlaw07.back: spans lent with a mark behind them, and taken back. -/
set_option linter.unusedVariables false
set_option linter.unusedSimpArgs false
namespace Go.Proofs.YtdjffafcmomalaaDoor.Lent
open Go Go.RowKit
open Go.Proofs.YtdjffafcmomalaaDoorW.PrintWords Go.Proofs.YtdjffafcmomalaaDoor.PScr Go.Proofs.YtdjffafcmomalaaDoor.Scr Go.Proofs.YtdjffafcmomalaaDoor.LentL
attribute [local go_sem ↓ high] copyG_eq

def RW (w : World) (b : Nat) (v : Value) (l : List S34) : Prop := k34.R 34 w b (fun _ => True) v l
def markS (n : Int) : S34 := ⟨n, 0, false, false, false, false, false, false, false, 0⟩
/-- The list behind i stores of one span. -/
def fill (p : S34) (i : Nat) (l : List S34) : List S34 := List.replicate i p ++ l.drop i
theorem fill_len (p : S34) (i : Nat) (l : List S34) (h : i ≤ l.length) : (fill p i l).length = l.length := by simp [fill]; omega
theorem fill_zero (p : S34) (l : List S34) : fill p 0 l = l := by simp [fill]
theorem fill_all (p : S34) (l : List S34) : fill p l.length l = List.replicate l.length p := by simp [fill]
theorem fill_set (p : S34) (i : Nat) (l : List S34) (h : i < l.length) : (fill p i l).set i p = fill p (i + 1) l := by
  unfold fill
  rw [List.set_append_right _ _ (by simp), List.length_replicate, Nat.sub_self, List.drop_eq_getElem_cons h, List.set_cons_zero, List.replicate_succ', List.append_assoc]
  rfl
/-- One element of a row that is stored anew. -/
theorem elem34 {w : World} {b0 g n cap : Nat} {l : List S34} (h : RW w b0 (.slice (some ⟨g, 0, none⟩) n cap) l) (i : Nat) (hi : i < n) (p : S34) :
    (∃ u, w.cell? ⟨g, i * 10, none⟩ = some (.int .i64 u)) ∧ (∃ u, w.cell? ⟨g, i * 10 + 1, none⟩ = some (.int .u16 u)) ∧ (∃ u, w.cell? ⟨g, i * 10 + 2, none⟩ = some (.bool u)) ∧ (∃ u, w.cell? ⟨g, i * 10 + 3, none⟩ = some (.bool u)) ∧ (∃ u, w.cell? ⟨g, i * 10 + 4, none⟩ = some (.bool u)) ∧ (∃ u, w.cell? ⟨g, i * 10 + 5, none⟩ = some (.bool u)) ∧ (∃ u, w.cell? ⟨g, i * 10 + 6, none⟩ = some (.bool u)) ∧ (∃ u, w.cell? ⟨g, i * 10 + 7, none⟩ = some (.bool u)) ∧ (∃ u, w.cell? ⟨g, i * 10 + 8, none⟩ = some (.bool u)) ∧ (∃ u, w.cell? ⟨g, i * 10 + 9, none⟩ = some (.int .u8 u)) ∧ w.frozen? ⟨g, i * 10, none⟩ = false ∧ w.frozen? ⟨g, i * 10 + 1, none⟩ = false ∧ w.frozen? ⟨g, i * 10 + 2, none⟩ = false ∧ w.frozen? ⟨g, i * 10 + 3, none⟩ = false ∧ w.frozen? ⟨g, i * 10 + 4, none⟩ = false ∧ w.frozen? ⟨g, i * 10 + 5, none⟩ = false ∧ w.frozen? ⟨g, i * 10 + 6, none⟩ = false ∧ w.frozen? ⟨g, i * 10 + 7, none⟩ = false ∧ w.frozen? ⟨g, i * 10 + 8, none⟩ = false ∧ w.frozen? ⟨g, i * 10 + 9, none⟩ = false ∧
    RW ((((((((((w.setCell ⟨g, i * 10, none⟩ (.int .i64 p.f0)).setCell ⟨g, i * 10 + 1, none⟩ (.int .u16 p.f1)).setCell ⟨g, i * 10 + 2, none⟩ (.bool p.f2)).setCell ⟨g, i * 10 + 3, none⟩ (.bool p.f3)).setCell ⟨g, i * 10 + 4, none⟩ (.bool p.f4)).setCell ⟨g, i * 10 + 5, none⟩ (.bool p.f5)).setCell ⟨g, i * 10 + 6, none⟩ (.bool p.f6)).setCell ⟨g, i * 10 + 7, none⟩ (.bool p.f7)).setCell ⟨g, i * 10 + 8, none⟩ (.bool p.f8)).setCell ⟨g, i * 10 + 9, none⟩ (.int .u8 p.f9)) b0 (.slice (some ⟨g, 0, none⟩) n cap) (l.set i p) ∧ w.grownBy ((((((((((w.setCell ⟨g, i * 10, none⟩ (.int .i64 p.f0)).setCell ⟨g, i * 10 + 1, none⟩ (.int .u16 p.f1)).setCell ⟨g, i * 10 + 2, none⟩ (.bool p.f2)).setCell ⟨g, i * 10 + 3, none⟩ (.bool p.f3)).setCell ⟨g, i * 10 + 4, none⟩ (.bool p.f4)).setCell ⟨g, i * 10 + 5, none⟩ (.bool p.f5)).setCell ⟨g, i * 10 + 6, none⟩ (.bool p.f6)).setCell ⟨g, i * 10 + 7, none⟩ (.bool p.f7)).setCell ⟨g, i * 10 + 8, none⟩ (.bool p.f8)).setCell ⟨g, i * 10 + 9, none⟩ (.int .u8 p.f9)) (some g) := by
  obtain ⟨ce, hcl, hM, hcc, hfr⟩ := Kd.R_elem h z34 (i : Int) (by omega) (by omega)
  obtain rfl := k34_openM hM
  have HP := Kd.R_seg h (i : Int) (by omega) (by omega) (seg := [.int .i64 p.f0, .int .u16 p.f1, .bool p.f2, .bool p.f3, .bool p.f4, .bool p.f5, .bool p.f6, .bool p.f7, .bool p.f8, .int .u8 p.f9]) (j := 0) hcl hcc (show 10 ≤ 10 from by decide) (x' := p) (k34_mkM _ _ _ p) (fun _ hk => hk)
  exact ⟨⟨_, hcc 0 _ rfl⟩, ⟨_, hcc 1 _ rfl⟩, ⟨_, hcc 2 _ rfl⟩, ⟨_, hcc 3 _ rfl⟩, ⟨_, hcc 4 _ rfl⟩, ⟨_, hcc 5 _ rfl⟩, ⟨_, hcc 6 _ rfl⟩, ⟨_, hcc 7 _ rfl⟩, ⟨_, hcc 8 _ rfl⟩, ⟨_, hcc 9 _ rfl⟩, hfr 0, hfr 1, hfr 2, hfr 3, hfr 4, hfr 5, hfr 6, hfr 7, hfr 8, hfr 9, HP.1, HP.2⟩

theorem flat34 {w w' : World} {base : Nat} {ok : Nat → Prop} {x : S34} {cs : List Value} (h : k34.K w x cs) : k34.M w' base ok x cs := by
  rw [k34_open h]; exact k34_mkM w' base ok x

abbrev zero34v : Value := .agg #[(.int .i64 0), (.int .u16 0), (.bool false), (.bool false), (.bool false), (.bool false), (.bool false), (.bool false), (.bool false), (.int .u8 0)]
theorem make_eq (w : World) (n : Nat) (hn : n ≤ 1000000000000) : (Instr.makeSlice 23 (.int .i64 ((n : Int) + 1)) (.int .i64 ((n : Int) + 1))).run Tryd.prog w = .ok (.slice (some ⟨w.heap.size, 0, none⟩) (n + 1) (n + 1)) (w.alloc (.cells (madeCells zero34v.cells ((n + 1) * 10)) 34)) := by
  obtain ⟨i0, hi, hzz⟩ := Option.map_eq_some_iff.1 info34
  simp only [Prod.mk.injEq] at hzz
  obtain ⟨hz0, hz1, hz2⟩ := hzz
  have h := run_make (P := Tryd.prog) (w := w) 23 34 i0 _ Tryd.underlying23 hi hz0 .i64 .i64 ((n : Int) + 1) ((n : Int) + 1) (by omega) (Int.le_refl _) (by rw [hz2]; omega) (by omega)
  rw [hz1, show ((n : Int) + 1).toNat = n + 1 by omega] at h
  exact h

set_option maxRecDepth 100000 in
set_option maxHeartbeats 4000000 in
theorem lent_calls (A : Option Addr) (c : Nat) (l : List S34) (w : World) (hr : Kd.C k34 w A l.length l) (hc : l.length ≤ c) (hl : l.length ≤ 100000000000) :
    Calls Tryd.prog 13 #[.slice A l.length c] w fun e w' => ∃ g, w.heap.size ≤ g ∧ e = .returned (.slice (some ⟨g, 0, none⟩) l.length (l.length + 1)) ∧ RW w' w.heap.size (.slice (some ⟨g, 0, none⟩) (l.length + 1) (l.length + 1)) (l ++ [markS (-77)]) ∧ Below w.heap.size w w' := by
  obtain ⟨W2, h2, hR, hB⟩ := lent_run k34 (P := Tryd.prog) flat34 23 3 34 zero34v 24 Tryd.underlying23 info34 rfl (by decide) z34 (w := w) (k34_mk w z34) 1 c hr (by simp only [maxLen]; omega)
  have hm := make_eq w l.length (by omega)
  obtain ⟨⟨u0, c0⟩, ⟨u1, c1⟩, ⟨u2, c2⟩, ⟨u3, c3⟩, ⟨u4, c4⟩, ⟨u5, c5⟩, ⟨u6, c6⟩, ⟨u7, c7⟩, ⟨u8, c8⟩, ⟨u9, c9⟩, f0, f1, f2, f3, f4, f5, f6, f7, f8, f9, hS, hG⟩ := elem34 hR l.length (by omega) (markS (-77))
  have hset : (l ++ List.replicate 1 z34).set l.length (markS (-77)) = l ++ [markS (-77)] := by
    rw [List.set_append_right _ _ (Nat.le_refl _), Nat.sub_self]; rfl
  rw [hset] at hS
  have HS := Aside0.mk hS
  have HB := Aside0.mk (hB.grown hG hB.size (fun k hk => by cases hk; exact Nat.le_refl _))
  clear hS hB hR hG hset
  simp only [goInt] at h2
  rw [show (k34).sz = 10 from rfl] at h2
  generalize Obj.cells (madeCells zero34v.cells ((l.length + 1) * 10)) 34 = O at h2 hm
  go_enter Tryd.func13, Tryd.ntmps13
  go_wp2
  go_ret
  exact ⟨_, Nat.le_refl _, rfl, HS.out, HB.out⟩

theorem grown_drewN (w : World) (n : Nat) (row : Option Nat) : w.grownBy (w.drewN n) row := ⟨rfl, rfl, rfl, Nat.le_refl _, fun _ _ _ => rfl⟩


set_option maxRecDepth 100000 in
set_option maxHeartbeats 4000000 in
theorem back_calls (A : Option Addr) (c : Nat) (l : List S34) (g b0 : Nat) (w : World) (hr : Kd.C k34 w A l.length l) (hc : l.length ≤ c) (hl : l.length ≤ 100000000000) (hx : RW w b0 (.slice (some ⟨g, 0, none⟩) (l.length + 1) (l.length + 1)) (l ++ [markS (-77)])) :
    Calls Tryd.prog 16 #[.slice (some ⟨g, 0, none⟩) l.length (l.length + 1), .slice A l.length c] w fun e w' => e = .returned (.bool true) ∧ w.grownBy w' (some g) := by
  have hC : Kd.C k34 w (some ⟨g, 0, none⟩) l.length l := by
    have := (Kd.R_reads' (Kd.R_take hx (m := l.length) (by simp))).2.2
    simpa using this
  have c77 : w.cell? ⟨g, l.length * 10, none⟩ = some (.int .i64 (-77)) := by
    obtain ⟨ad, e, q, _⟩ := at_T34 (Kd.R_reads' hx).2.2 (l.length : Int) (by omega) (by simp; omega)
    cases e
    have hrd : rd_T34 (l ++ [markS (-77)]) (l.length : Int) = markS (-77) := rd_at l (markS (-77)) []
    rw [hrd] at q
    have q2 : w.cell? ((⟨g, 0, none⟩ : Addr).add ((l.length : Int).toNat * 10)) = some (.int .i64 (-77)) := q
    simpa only [add_plain, Int.toNat_natCast, Nat.zero_add] using q2
  have HX := Aside0.mk hx
  have HC := Aside0.mk hC
  have HR := Aside0.mk hr
  have HS := Aside0.mk (same_self (l.length + 1) l (by omega) (by omega))
  clear hx hC hr
  have e0 : (0 : Int) ≤ (l.length : Int) + 1 := by omega
  have hstart : ∀ n : Nat, Aside0 (RW (w.drewN n) b0 (.slice (some ⟨g, 0, none⟩) (l.length + 1) (l.length + 1)) (fill (markS (-78)) 0 (l ++ [markS (-77)])) ∧ w.grownBy (w.drewN n) (some g)) := fun n => ⟨by rw [fill_zero]; exact Kd.R_drewN HX.out n, grown_drewN w n _⟩
  have HST := Lib.hid hstart
  clear hstart
  go_enter Tryd.func16, Tryd.ntmps16
  go_wp2_with (go_at_call 26; (with_reducible refine (vesperref07_Same.calls (l.length + 1) _ _ l A c l true _ HC.out (Nat.le_succ _) HR.out hc HS.out).mono ?_); rintro e w1 ⟨rfl, ⟨⟨n1, rfl⟩⟩⟩)
  go_loopw [7] (fun i wr => ∃ k : Nat, k ≤ l.length + 1 ∧ i = .int .i64 k ∧ Aside0 (RW wr b0 (.slice (some ⟨g, 0, none⟩) (l.length + 1) (l.length + 1)) (fill (markS (-78)) k (l ++ [markS (-77)])) ∧ w.grownBy wr (some g))) (fun i _ => l.length + 1 - (RowKit.intOf i).toNat)
  case atStart => exact ⟨0, Nat.zero_le _, rfl, HST.out _⟩
  case round =>
    obtain ⟨k, hk, rfl, HP⟩ := hrel
    by_cases hlt : k < l.length + 1
    · obtain ⟨⟨u0, q0⟩, ⟨u1, q1⟩, ⟨u2, q2⟩, ⟨u3, q3⟩, ⟨u4, q4⟩, ⟨u5, q5⟩, ⟨u6, q6⟩, ⟨u7, q7⟩, ⟨u8, q8⟩, ⟨u9, q9⟩, f0, f1, f2, f3, f4, f5, f6, f7, f8, f9, hS, hG⟩ := elem34 HP.out.1 k hlt (markS (-78))
      rw [fill_set _ _ _ (by simp; omega)] at hS
      have HN := Aside0.mk (And.intro hS (HP.out.2.trans hG))
      clear hS hG HP
      have i0 : (k : Int) < ((l.length + 1 : Nat) : Int) := by omega
      go_wp2
      go_roundw
      case rel => exact ⟨k + 1, by omega, by go_num, HN⟩
      case measure => simp [RowKit.intOf]; omega
    · obtain rfl : k = l.length + 1 := by omega
      go_wp2
      go_ret
      exact ⟨rfl, HP.out.2⟩
theorem lent_C {w : World} {b g : Nat} {l : List S34} (h : RW w b (.slice (some ⟨g, 0, none⟩) (l.length + 1) (l.length + 1)) (l ++ [markS (-77)])) : Kd.C k34 w (some ⟨g, 0, none⟩) l.length l := by
  have := (Kd.R_reads' (Kd.R_take h (m := l.length) (by simp))).2.2
  simpa using this

end Go.Proofs.YtdjffafcmomalaaDoor.Lent
