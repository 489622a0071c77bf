/- vesperlaw07.ScriptAll$1: the yield that looks again within itself. -/
import Derived.Test.YtdjffafcmomalaaDoorScrSeen
import Derived.Deep.RegionHeld3
import Derived.Deep.DrawnRows
set_option linter.unusedVariables false
set_option linter.unusedSimpArgs false
namespace Go.Proofs.YtdjffafcmomalaaDoor.All
open Go Go.RowKit
open Go.Proofs.YtdjffafcmomalaaDoorW.PrintWords Go.Proofs.YtdjffafcmomalaaDoor.PScr Go.Proofs.YtdjffafcmomalaaDoor.Scr Go.Proofs.YtdjffafcmomalaaDoor.Lent Go.Proofs.YtdjffafcmomalaaDoor.Own

/-- ScriptAll's seven boxes: c and good are the last that were made. -/
structure Sev (bl bi bm ba bk bc : Nat) (A : Option Addr) (c : Nat) (l : List S34) (inner : Int) (b : Nat) (up : Int) (n : Int) (good : Bool) (w : World) : Prop where
  l_ : w.heap[bl]? = some (.cells #[.slice A l.length c] 23 (0, 0))
  i_ : w.heap[bi]? = some (.cells #[.int .i64 inner] 3 (0, 0))
  m_ : w.heap[bm]? = some (.cells #[.int .i64 (allN l : Int)] 3 (0, 0))
  a_ : w.heap[ba]? = some (.cells #[.func (Fn.func 49) #[] #[.pointer (some ⟨b, 0, none⟩)]] 50 (0, 0))
  k_ : w.heap[bk]? = some (.cells #[.int .i64 up] 3 (0, 0))
  c_ : w.heap[bc]? = some (.cells #[.int .i64 n] 3 (0, 0))
  g_ : w.heap[bc + 1]? = some (.cells #[.bool good] 4 (0, 0))
theorem Sev.below {bl bi bm ba bk bc : Nat} {A : Option Addr} {c : Nat} {l : List S34} {inner : Int} {b : Nat} {up n : Int} {good : Bool} {w w1 : World} (h : Sev bl bi bm ba bk bc A c l inner b up n good w) (hb : Below w.heap.size w w1) : Sev bl bi bm ba bk bc A c l inner b up n good w1 := by
  have k : ∀ {i o}, w.heap[i]? = some o → w1.heap[i]? = some o := fun {i o} hi => (hb.block i (Array.getElem?_eq_some_iff.1 hi).1).trans hi
  exact ⟨k h.l_, k h.i_, k h.m_, k h.a_, k h.k_, k h.c_, k h.g_⟩
structure AJ (bl bi bm ba bk bc : Nat) (A : Option Addr) (c : Nat) (l : List S34) (inner : Int) (b : Nat) (up : Int) (w0 : World) (n : Nat) (w : World) : Prop where
  sev : Sev bl bi bm ba bk bc A c l inner b up n true w
  le : n ≤ 100
  bel : Below w0.heap.size w0 w
structure AF (bl bi bm ba bk bc : Nat) (A : Option Addr) (c : Nat) (l : List S34) (inner : Int) (b : Nat) (up : Int) (w0 : World) (w : World) : Prop where
  sev : Sev bl bi bm ba bk bc A c l inner b up 101 true w
  le : 101 ≤ allN l
  bel : Below w0.heap.size w0 w
theorem AJ.below {bl bi bm ba bk bc : Nat} {A : Option Addr} {c : Nat} {l : List S34} {inner : Int} {b : Nat} {up : Int} {w0 : World} {n : Nat} {w w1 : World} (h : AJ bl bi bm ba bk bc A c l inner b up w0 n w) (hb : Below w.heap.size w w1) : AJ bl bi bm ba bk bc A c l inner b up w0 n w1 :=
  ⟨h.sev.below hb, h.le, h.bel.trans (hb.mono h.bel.size)⟩
theorem Sev.setC {bl bi bm ba bk bc : Nat} {A : Option Addr} {c : Nat} {l : List S34} {inner : Int} {b : Nat} {up n : Int} {good : Bool} {w : World} (h : Sev bl bi bm ba bk bc A c l inner b up n good w) (hlt : bl < bc ∧ bi < bc ∧ bm < bc ∧ ba < bc ∧ bk < bc) (n' : Int) : Sev bl bi bm ba bk bc A c l inner b up n' good (w.setCell ⟨bc, 0, none⟩ (.int .i64 n')) :=
  ⟨set_other h.l_ (by omega), set_other h.i_ (by omega), set_other h.m_ (by omega), set_other h.a_ (by omega), set_other h.k_ (by omega), one_setCell h.c_, set_other h.g_ (by omega)⟩
theorem Sev.setG {bl bi bm ba bk bc : Nat} {A : Option Addr} {c : Nat} {l : List S34} {inner : Int} {b : Nat} {up n : Int} {good : Bool} {w : World} (h : Sev bl bi bm ba bk bc A c l inner b up n good w) (hlt : bl < bc ∧ bi < bc ∧ bm < bc ∧ ba < bc ∧ bk < bc) (g' : Bool) : Sev bl bi bm ba bk bc A c l inner b up n g' (w.setCell ⟨bc + 1, 0, none⟩ (.bool g')) :=
  ⟨set_other h.l_ (by omega), set_other h.i_ (by omega), set_other h.m_ (by omega), set_other h.a_ (by omega), set_other h.k_ (by omega), set_other h.c_ (by omega), one_setCell h.g_⟩

set_option maxRecDepth 100000 in
set_option maxHeartbeats 8000000 in
theorem all_step (bl bi bm ba bk bc : Nat) (A : Option Addr) (c : Nat) (l : List S34) (inner : Int) (b : Nat) (Ab : Option Addr) (cb : Nat) (up : Int) (w0 : World) (n : Nat) (w : World) (s : S34) (hlt : bl < bc ∧ bi < bc ∧ bm < bc ∧ ba < bc ∧ bk < bc) (hw0 : w0.heap.size ≤ bc) (hup : 1 ≤ up ∧ up ≤ 1024) (hr : Kd.C k34 w0 A l.length l) (hbx : BoxAt b Ab cb (ownL l) w0)
    (h : AJ bl bi bm ba bk bc A c l inner b up w0 n w) (hn : n < allN l) :
    Calls Tryd.prog 33 #[.int .i64 (n : Int), .agg #[.int .i64 1, .int .u16 s.f1, .bool s.f2, .bool s.f3, .bool s.f4, .bool s.f5, .bool s.f6, .bool s.f7, .bool s.f8, .int .u8 s.f9], .pointer (some ⟨bc, 0, none⟩), .pointer (some ⟨bi, 0, none⟩), .pointer (some ⟨bl, 0, none⟩), .pointer (some ⟨bk, 0, none⟩), .pointer (some ⟨ba, 0, none⟩), .pointer (some ⟨bm, 0, none⟩), .pointer (some ⟨bc + 1, 0, none⟩)] w
      (YPost (AJ bl bi bm ba bk bc A c l inner b up w0) (AF bl bi bm ba bk bc A c l inner b up w0) (bc + 2) n w) := by
  have HR := Aside0.mk hr
  have HBX := Aside0.mk hbx
  have hnl := h.le
  have hb := below_alloc (Below.refl w.heap.size w) (.cells #[.int .i64 1, .int .u16 s.f1, .bool s.f2, .bool s.f3, .bool s.f4, .bool s.f5, .bool s.f6, .bool s.f7, .bool s.f8, .int .u8 s.f9] 34)
  have h1 := h.below hb
  have K1 := Aside0.mk (Keep.below (bc + 2) hb)
  obtain ⟨W, hW⟩ : ∃ W, w.alloc (.cells #[.int .i64 1, .int .u16 s.f1, .bool s.f2, .bool s.f3, .bool s.f4, .bool s.f5, .bool s.f6, .bool s.f7, .bool s.f8, .int .u8 s.f9] 34) = W := ⟨_, rfl⟩
  have HN := Aside0.mk hn
  go_enter Tryd.func33, Tryd.ntmps33
  go_upto_region 1 with fail
  rw [hW] at h1 K1
  clear hW hb h hr hbx hn
  have q1 := cell_of_one h1.sev.c_
  have y1 := free_of_one h1.sev.c_
  have q2 := cell_of_one h1.sev.i_
  have HS1 := Aside0.mk (h1.sev.setC hlt ((n : Int) + 1))
  have HB1 := Aside0.mk (h1.bel.setCell (p := ⟨bc, 0, none⟩) hw0 (.int .i64 ((n : Int) + 1)))
  have KP1 := Aside0.mk (K1.out.set bc (by omega) (.int .i64 ((n : Int) + 1)))
  obtain ⟨z, hz⟩ : ∃ z, Go.bits .and .i64 inner 63 = z := ⟨_, rfl⟩
  have HZ := Aside0.mk hz
  clear h1 K1
  go_upto_region 2 with fail
  have HUP := Aside0.mk hup
  obtain ⟨V, hV⟩ : ∃ V, W.setCell ⟨bc, 0, none⟩ (.int .i64 ((n : Int) + 1)) = V := ⟨_, rfl⟩
  rw [hV] at HS1 HB1 KP1 ⊢
  clear hV q1 y1 q2
  have q1 := cell_of_one HS1.out.i_
  have q2 := cell_of_one HS1.out.l_
  have q3 := cell_of_one HS1.out.k_
  have q4 := cell_of_one HS1.out.a_
  have q5 := cell_of_one HS1.out.m_
  have hd1 : n < 100 ∨ n = 100 := by omega
  by_cases hnz : (n : Int) = z
  · have hd : decide ((n : Int) = z) = true := decide_eq_true hnz
    go_wp2_with fail
    have n1 : ¬ bl = bc + 1 := by omega
    have n2 : ¬ bk = bc + 1 := by omega
    have n3 : ¬ ba = bc + 1 := by omega
    have n4 : ¬ bm = bc + 1 := by omega
    clear q1
    have HLT := Aside0.mk hlt
    have HW0 : Aside0 (w0.heap.size ≤ bc + 1) := ⟨by omega⟩
    clear hnz hlt
    rcases Decidable.em ((allN l : Int) < up) with hlu | hlu
    · have hm1 : ((allN l : Int) < up) = True := eq_true hlu
      have HMN : Aside0 (min up (allN l : Int) = (allN l : Int)) := ⟨by omega⟩
      clear hlu
      go_region_held3 (fun w' => w'.cell? ⟨bl, 0, none⟩ = some (.slice A l.length c) ∧ w'.cell? ⟨bk, 0, none⟩ = some (.int .i64 up) ∧ w'.cell? ⟨ba, 0, none⟩ = some (.func (Fn.func 49) #[] #[.pointer (some ⟨b, 0, none⟩)]) ∧ w'.cell? ⟨bm, 0, none⟩ = some (.int .i64 (allN l : Int))) (first | go_keep | exact (have h9 := HS5.out.setG HLT.out _; ⟨cell_of_one h9.l_, cell_of_one h9.k_, cell_of_one h9.a_, cell_of_one h9.m_⟩))
        (first | (go_at_call 32; (with_reducible refine (seen_calls A c l up b Ab cb _ (Kd.C_below HR.out ?s1) HUP.out.1 (BoxAt.below HBX.out ?s1)).mono ?_); (case s1 => exact below_step HB1.out (by repeat (first | (with_reducible first | exact Below.refl _ _ | apply below_alloc | apply pw_below_drewN | apply below_drew1) | exact Below.refl _ _))); rintro e w5 ⟨rfl, hb5⟩; rw [HMN.out]; have hbd := Below.trans (show Below V.heap.size V V.drew from below_drew1 (Below.refl _ _)) hb5; have HS5 := Aside0.mk (HS1.out.below hbd); have HB5 := Aside0.mk (below_step HB1.out hbd); have KP5 := Aside0.mk (KP1.out.trans (Keep.below (bc + 2) hbd)); clear hb5 hbd q2 q3 q4 q5; have q2 := cell_of_one HS5.out.l_; have q3 := cell_of_one HS5.out.k_; have q4 := cell_of_one HS5.out.a_; have q5 := cell_of_one HS5.out.m_; have y6 := free_of_one HS5.out.g_; have q6 := cell_of_one HS5.out.g_))
      all_goals
        rcases hd1 with h100 | h100
        · have hdl : decide ((n : Int) < 100) = true := decide_eq_true (by omega)
          go_wp2
          go_ret
          exact ⟨true, rfl, fun _ => ⟨by have h3 := HS5.out.setG HLT.out true; simpa using h3, by omega, HB5.out.setCell (p := ⟨bc + 1, 0, none⟩) HW0.out _⟩, (fun h => by cases h), KP5.out.set (bc + 1) (by omega) _⟩
        · have hdl : decide ((n : Int) < 100) = false := decide_eq_false (by omega)
          have HE := Aside0.mk h100
          go_wp2
          go_ret
          exact ⟨false, rfl, (fun h => by cases h), fun _ => ⟨by have h3 := HS5.out.setG HLT.out true; rw [HE.out] at h3; simpa using h3, by have := HN.out; omega, HB5.out.setCell (p := ⟨bc + 1, 0, none⟩) HW0.out _⟩, KP5.out.set (bc + 1) (by omega) _⟩
    · have hm1 : ((allN l : Int) < up) = False := eq_false hlu
      have HMN : Aside0 (min up (allN l : Int) = up) := ⟨by omega⟩
      clear hlu
      go_region_held3 (fun w' => w'.cell? ⟨bl, 0, none⟩ = some (.slice A l.length c) ∧ w'.cell? ⟨bk, 0, none⟩ = some (.int .i64 up) ∧ w'.cell? ⟨ba, 0, none⟩ = some (.func (Fn.func 49) #[] #[.pointer (some ⟨b, 0, none⟩)]) ∧ w'.cell? ⟨bm, 0, none⟩ = some (.int .i64 (allN l : Int))) (first | go_keep | exact (have h9 := HS5.out.setG HLT.out _; ⟨cell_of_one h9.l_, cell_of_one h9.k_, cell_of_one h9.a_, cell_of_one h9.m_⟩))
        (first | (go_at_call 32; (with_reducible refine (seen_calls A c l up b Ab cb _ (Kd.C_below HR.out ?s1) HUP.out.1 (BoxAt.below HBX.out ?s1)).mono ?_); (case s1 => exact below_step HB1.out (by repeat (first | (with_reducible first | exact Below.refl _ _ | apply below_alloc | apply pw_below_drewN | apply below_drew1) | exact Below.refl _ _))); rintro e w5 ⟨rfl, hb5⟩; rw [HMN.out]; have hbd := Below.trans (show Below V.heap.size V V.drew from below_drew1 (Below.refl _ _)) hb5; have HS5 := Aside0.mk (HS1.out.below hbd); have HB5 := Aside0.mk (below_step HB1.out hbd); have KP5 := Aside0.mk (KP1.out.trans (Keep.below (bc + 2) hbd)); clear hb5 hbd q2 q3 q4 q5; have q2 := cell_of_one HS5.out.l_; have q3 := cell_of_one HS5.out.k_; have q4 := cell_of_one HS5.out.a_; have q5 := cell_of_one HS5.out.m_; have y6 := free_of_one HS5.out.g_; have q6 := cell_of_one HS5.out.g_))
      all_goals
        rcases hd1 with h100 | h100
        · have hdl : decide ((n : Int) < 100) = true := decide_eq_true (by omega)
          go_wp2
          go_ret
          exact ⟨true, rfl, fun _ => ⟨by have h3 := HS5.out.setG HLT.out true; simpa using h3, by omega, HB5.out.setCell (p := ⟨bc + 1, 0, none⟩) HW0.out _⟩, (fun h => by cases h), KP5.out.set (bc + 1) (by omega) _⟩
        · have hdl : decide ((n : Int) < 100) = false := decide_eq_false (by omega)
          have HE := Aside0.mk h100
          go_wp2
          go_ret
          exact ⟨false, rfl, (fun h => by cases h), fun _ => ⟨by have h3 := HS5.out.setG HLT.out true; rw [HE.out] at h3; simpa using h3, by have := HN.out; omega, HB5.out.setCell (p := ⟨bc + 1, 0, none⟩) HW0.out _⟩, KP5.out.set (bc + 1) (by omega) _⟩
  · have hd : decide ((n : Int) = z) = false := decide_eq_false hnz
    rcases hd1 with h100 | h100
    · have hdl : decide ((n : Int) < 100) = true := decide_eq_true (by omega)
      go_wp2
      go_ret
      exact ⟨true, rfl, fun _ => ⟨by have h3 := HS1.out; simpa using h3, by omega, HB1.out⟩, (fun h => by cases h), KP1.out⟩
    · have hdl : decide ((n : Int) < 100) = false := decide_eq_false (by omega)
      have HE := Aside0.mk h100
      go_wp2
      go_ret
      exact ⟨false, rfl, (fun h => by cases h), fun _ => ⟨by have h3 := HS1.out; rw [HE.out] at h3; simpa using h3, by have := HN.out; omega, HB1.out⟩, KP1.out⟩
end Go.Proofs.YtdjffafcmomalaaDoor.All
