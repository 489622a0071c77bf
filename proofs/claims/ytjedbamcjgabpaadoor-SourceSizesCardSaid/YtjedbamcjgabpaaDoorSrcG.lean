/- The names of the instructions: what the tables of package code hold, and its function name. -/
import Derived.Test.YtjedbamcjgabpaaDoorPSox0
set_option linter.unusedVariables false
set_option linter.unusedSimpArgs false
namespace Go.Proofs.YtjedbamcjgabpaaDoor.Src
open Go Go.RowKit
open Go.Proofs.YtjedbamcjgabpaaDoorW.PrintWords

def rowsT : List ByteArray := [(⟨#[]⟩ : ByteArray), (⟨#[73, 78, 67]⟩ : ByteArray), (⟨#[68, 69, 67]⟩ : ByteArray), (⟨#[]⟩ : ByteArray), (⟨#[76, 68, 65]⟩ : ByteArray), (⟨#[83, 84, 82]⟩ : ByteArray), (⟨#[]⟩ : ByteArray), (⟨#[]⟩ : ByteArray), (⟨#[71, 76, 79]⟩ : ByteArray), (⟨#[71, 72, 73]⟩ : ByteArray), (⟨#[80, 76, 79]⟩ : ByteArray), (⟨#[80, 72, 73]⟩ : ByteArray), (⟨#[]⟩ : ByteArray), (⟨#[83, 69, 80]⟩ : ByteArray), (⟨#[83, 69, 88]⟩ : ByteArray), (⟨#[]⟩ : ByteArray)]
def threesT : List ByteArray := [(⟨#[66, 82]⟩ : ByteArray), (⟨#[66, 81]⟩ : ByteArray), (⟨#[66, 90]⟩ : ByteArray), (⟨#[66, 68, 70]⟩ : ByteArray), (⟨#[66, 49]⟩ : ByteArray), (⟨#[66, 50]⟩ : ByteArray), (⟨#[66, 51]⟩ : ByteArray), (⟨#[66, 52]⟩ : ByteArray), (⟨#[83, 75, 80]⟩ : ByteArray), (⟨#[66, 78, 81]⟩ : ByteArray), (⟨#[66, 78, 90]⟩ : ByteArray), (⟨#[66, 78, 70]⟩ : ByteArray), (⟨#[66, 78, 49]⟩ : ByteArray), (⟨#[66, 78, 50]⟩ : ByteArray), (⟨#[66, 78, 51]⟩ : ByteArray), (⟨#[66, 78, 52]⟩ : ByteArray)]
def sevensT : List ByteArray := [(⟨#[82, 69, 84]⟩ : ByteArray), (⟨#[68, 73, 83]⟩ : ByteArray), (⟨#[76, 68, 88, 65]⟩ : ByteArray), (⟨#[83, 84, 88, 68]⟩ : ByteArray), (⟨#[65, 68, 67]⟩ : ByteArray), (⟨#[83, 68, 66]⟩ : ByteArray), (⟨#[83, 72, 82, 67]⟩ : ByteArray), (⟨#[83, 77, 66]⟩ : ByteArray), (⟨#[83, 65, 86]⟩ : ByteArray), (⟨#[77, 65, 82, 75]⟩ : ByteArray), (⟨#[82, 69, 81]⟩ : ByteArray), (⟨#[83, 69, 81]⟩ : ByteArray), (⟨#[65, 68, 67, 73]⟩ : ByteArray), (⟨#[83, 68, 66, 73]⟩ : ByteArray), (⟨#[83, 72, 76, 67]⟩ : ByteArray), (⟨#[83, 77, 66, 73]⟩ : ByteArray)]
def twelvesT : List ByteArray := [(⟨#[76, 66, 82]⟩ : ByteArray), (⟨#[76, 66, 81]⟩ : ByteArray), (⟨#[76, 66, 90]⟩ : ByteArray), (⟨#[76, 66, 68, 70]⟩ : ByteArray), (⟨#[78, 79, 80]⟩ : ByteArray), (⟨#[76, 83, 78, 81]⟩ : ByteArray), (⟨#[76, 83, 78, 90]⟩ : ByteArray), (⟨#[76, 83, 78, 70]⟩ : ByteArray), (⟨#[76, 83, 75, 80]⟩ : ByteArray), (⟨#[76, 66, 78, 81]⟩ : ByteArray), (⟨#[76, 66, 78, 90]⟩ : ByteArray), (⟨#[76, 66, 78, 70]⟩ : ByteArray), (⟨#[76, 83, 73, 69]⟩ : ByteArray), (⟨#[76, 83, 81]⟩ : ByteArray), (⟨#[76, 83, 90]⟩ : ByteArray), (⟨#[76, 83, 68, 70]⟩ : ByteArray)]
def fifteensT : List ByteArray := [(⟨#[76, 68, 88]⟩ : ByteArray), (⟨#[79, 82]⟩ : ByteArray), (⟨#[65, 78, 68]⟩ : ByteArray), (⟨#[88, 79, 82]⟩ : ByteArray), (⟨#[65, 68, 68]⟩ : ByteArray), (⟨#[83, 68]⟩ : ByteArray), (⟨#[83, 72, 82]⟩ : ByteArray), (⟨#[83, 77]⟩ : ByteArray), (⟨#[76, 68, 73]⟩ : ByteArray), (⟨#[79, 82, 73]⟩ : ByteArray), (⟨#[65, 78, 73]⟩ : ByteArray), (⟨#[88, 82, 73]⟩ : ByteArray), (⟨#[65, 68, 73]⟩ : ByteArray), (⟨#[83, 68, 73]⟩ : ByteArray), (⟨#[83, 72, 76]⟩ : ByteArray), (⟨#[83, 77, 73]⟩ : ByteArray)]
def lengthsT : List Int := [0, 1, 1, 1, 2, 2, 3]
def digitsT : List Int := [0, 0, 1, 1, 2, 2, 4]
/-- What is known of the tables. -/
structure GOk (w : World) : Prop where
 len : ∀ i, i < 7 → w.cell? ⟨1, i, none⟩ = some (.int .i64 (lengthsT.getD i 0))
 threes : ∀ i, i < 16 → w.cell? ⟨3, i, none⟩ = some (.string (threesT.getD i ⟨#[]⟩))
 sevens : ∀ i, i < 16 → w.cell? ⟨4, i, none⟩ = some (.string (sevensT.getD i ⟨#[]⟩))
 twelves : ∀ i, i < 16 → w.cell? ⟨5, i, none⟩ = some (.string (twelvesT.getD i ⟨#[]⟩))
 fifteens : ∀ i, i < 16 → w.cell? ⟨6, i, none⟩ = some (.string (fifteensT.getD i ⟨#[]⟩))
 rows : ∀ i, i < 16 → w.cell? ⟨7, i, none⟩ = some (.string (rowsT.getD i ⟨#[]⟩))
 dig : ∀ i, i < 7 → w.cell? ⟨0, i, none⟩ = some (.int .i64 (digitsT.getD i 0))
 max : ∃ m, w.cell? ⟨2, 0, none⟩ = some (.int .i64 m)
theorem GOk.below {w0 w1 : World} (h : GOk w0) (hb : Below w0.heap.size w0 w1) : GOk w1 := by
 have k : ∀ {a : Addr} {v : Value}, w0.cell? a = some v → w1.cell? a = some v := fun {a v} hc => (hb.cell (World.block_lt_of_cell? w0 _ hc)).trans hc
 exact ⟨fun i hi => k (h.len i hi), fun i hi => k (h.threes i hi), fun i hi => k (h.sevens i hi), fun i hi => k (h.twelves i hi), fun i hi => k (h.fifteens i hi), fun i hi => k (h.rows i hi), fun i hi => k (h.dig i hi), by obtain ⟨m, hm⟩ := h.max; exact ⟨m, k hm⟩⟩
def nm (h n : Nat) : ByteArray :=
 if h = 0 then (if n = 0 then ⟨#[73, 68, 76]⟩ else ⟨#[76, 68, 78]⟩)
 else if h = 3 then threesT.getD n ⟨#[]⟩
 else if h = 6 then (if n = 0 then ⟨#[73, 82, 88]⟩ else if n = 8 then ⟨#[78, 85, 76]⟩ else if n < 8 then ⟨#[79, 85, 84]⟩ else ⟨#[73, 78, 80]⟩)
 else if h = 7 then sevensT.getD n ⟨#[]⟩
 else if h = 12 then twelvesT.getD n ⟨#[]⟩
 else if h = 15 then fifteensT.getD n ⟨#[]⟩
 else rowsT.getD h ⟨#[]⟩
def nameOf (op : Nat) : ByteArray := nm (op / 16) (op % 16)
set_option maxRecDepth 100000 in
set_option maxHeartbeats 2000000 in
theorem name_calls (op : Nat) (hop : op < 256) (w : World) (hG : GOk w) : Calls Tryd.prog 69 #[.int .u8 (op : Int)] w fun e w' => e = .returned (.string (nameOf op)) ∧ w = w' := by
 have h0 : 0 ≤ (op : Int) := by omega
 have h1 : (op : Int) < 256 := by omega
 have e1 : Go.bits .and .u8 (op : Int) 15 = (op : Int) % 16 := u8_and15 _ h0 h1
 obtain ⟨n, hn, n16⟩ : ∃ n : Nat, op % 16 = n ∧ n < 16 := ⟨_, rfl, by omega⟩
 obtain ⟨h, hh, h16⟩ : ∃ h : Nat, op / 16 = h ∧ h < 16 := ⟨_, rfl, by omega⟩
 have e2 : (op : Int) / 16 = (h : Int) := by omega
 have e3 : (op : Int) % 16 = (n : Int) := by omega
 have HV : Aside0 (nameOf op = nm h n) := ⟨by unfold nameOf; rw [hn, hh]⟩
 rw [e3] at e1
 have n0 : 0 ≤ (n : Int) := by omega
 have n1 : (n : Int) < 16 := by omega
 have k0 : 0 ≤ (h : Int) := by omega
 have k1 : (h : Int) < 16 := by omega
 clear e3 hn hh
 by_cases c0 : h = 0
 ·subst c0
  by_cases d0 : n = 0
  ·subst d0
   go_enter Tryd.func69, Tryd.ntmps69
   go_wp2
   go_ret
   exact ⟨by rw [HV.out]; rfl, rfl⟩
  have d1 : ((n : Int) == 0) = false := beq_eq_false_iff_ne.2 (by omega)
  have HN := Aside0.mk d0
  clear d0
  go_enter Tryd.func69, Tryd.ntmps69
  go_wp2
  go_ret
  exact ⟨by rw [HV.out]; unfold nm; rw [if_pos rfl, if_neg HN.out]; rfl, rfl⟩
 have b0 : ((h : Int) == 0) = false := beq_eq_false_iff_ne.2 (by omega)
 by_cases c3 : h = 3
 ·subst c3
  have q := hG.threes n n16
  clear hG
  obtain ⟨z, hz⟩ : ∃ z, threesT.getD n ⟨#[]⟩ = z := ⟨_, rfl⟩
  rw [hz] at q
  have HZ := Aside0.mk hz
  clear hz
  go_enter Tryd.func69, Tryd.ntmps69
  go_wp2
  go_ret
  exact ⟨by rw [HV.out, show nm 3 n = threesT.getD n ⟨#[]⟩ from rfl, HZ.out]; rfl, rfl⟩
 have b3 : ((h : Int) == 3) = false := beq_eq_false_iff_ne.2 (by omega)
 by_cases c6 : h = 6
 ·subst c6
  clear hG
  by_cases d0 : n = 0
  ·subst d0
   go_enter Tryd.func69, Tryd.ntmps69
   go_wp2
   go_ret
   exact ⟨by rw [HV.out]; rfl, rfl⟩
  have d1 : ((n : Int) == 0) = false := beq_eq_false_iff_ne.2 (by omega)
  by_cases d8 : n = 8
  ·subst d8
   go_enter Tryd.func69, Tryd.ntmps69
   go_wp2
   go_ret
   exact ⟨by rw [HV.out]; rfl, rfl⟩
  have d2 : ((n : Int) == 8) = false := beq_eq_false_iff_ne.2 (by omega)
  have HN := Aside0.mk (And.intro d0 d8)
  clear d0 d8
  by_cases dl : n < 8
  ·have d3 : decide ((n : Int) < 8) = true := decide_eq_true (by omega)
   have HL := Aside0.mk dl
   clear dl
   go_enter Tryd.func69, Tryd.ntmps69
   go_wp2
   go_ret
   exact ⟨by rw [HV.out]; unfold nm; rw [if_neg (by decide), if_neg (by decide), if_pos rfl, if_neg HN.out.1, if_neg HN.out.2, if_pos HL.out]; rfl, rfl⟩
  have d3 : decide ((n : Int) < 8) = false := decide_eq_false (by omega)
  have HL := Aside0.mk dl
  clear dl
  go_enter Tryd.func69, Tryd.ntmps69
  go_wp2
  go_ret
  exact ⟨by rw [HV.out]; unfold nm; rw [if_neg (by decide), if_neg (by decide), if_pos rfl, if_neg HN.out.1, if_neg HN.out.2, if_neg HL.out]; rfl, rfl⟩
 have b6 : ((h : Int) == 6) = false := beq_eq_false_iff_ne.2 (by omega)
 by_cases c7 : h = 7
 ·subst c7
  have q := hG.sevens n n16
  clear hG
  obtain ⟨z, hz⟩ : ∃ z, sevensT.getD n ⟨#[]⟩ = z := ⟨_, rfl⟩
  rw [hz] at q
  have HZ := Aside0.mk hz
  clear hz
  go_enter Tryd.func69, Tryd.ntmps69
  go_wp2
  go_ret
  exact ⟨by rw [HV.out, show nm 7 n = sevensT.getD n ⟨#[]⟩ from rfl, HZ.out]; rfl, rfl⟩
 have b7 : ((h : Int) == 7) = false := beq_eq_false_iff_ne.2 (by omega)
 by_cases c12 : h = 12
 ·subst c12
  have q := hG.twelves n n16
  clear hG
  obtain ⟨z, hz⟩ : ∃ z, twelvesT.getD n ⟨#[]⟩ = z := ⟨_, rfl⟩
  rw [hz] at q
  have HZ := Aside0.mk hz
  clear hz
  go_enter Tryd.func69, Tryd.ntmps69
  go_wp2
  go_ret
  exact ⟨by rw [HV.out, show nm 12 n = twelvesT.getD n ⟨#[]⟩ from rfl, HZ.out]; rfl, rfl⟩
 have b12 : ((h : Int) == 12) = false := beq_eq_false_iff_ne.2 (by omega)
 by_cases c15 : h = 15
 ·subst c15
  have q := hG.fifteens n n16
  clear hG
  obtain ⟨z, hz⟩ : ∃ z, fifteensT.getD n ⟨#[]⟩ = z := ⟨_, rfl⟩
  rw [hz] at q
  have HZ := Aside0.mk hz
  clear hz
  go_enter Tryd.func69, Tryd.ntmps69
  go_wp2
  go_ret
  exact ⟨by rw [HV.out, show nm 15 n = fifteensT.getD n ⟨#[]⟩ from rfl, HZ.out]; rfl, rfl⟩
 have b15 : ((h : Int) == 15) = false := beq_eq_false_iff_ne.2 (by omega)
 have q := hG.rows h h16
 clear hG
 obtain ⟨z, hz⟩ : ∃ z, rowsT.getD h ⟨#[]⟩ = z := ⟨_, rfl⟩
 rw [hz] at q
 have HZ := Aside0.mk hz
 have HC := Aside0.mk (show ¬ h = 0 ∧ ¬ h = 3 ∧ ¬ h = 6 ∧ ¬ h = 7 ∧ ¬ h = 12 ∧ ¬ h = 15 from ⟨c0, c3, c6, c7, c12, c15⟩)
 clear hz c0 c3 c6 c7 c12 c15
 go_enter Tryd.func69, Tryd.ntmps69
 go_wp2
 go_ret
 exact ⟨by
  obtain ⟨g0, g3, g6, g7, g12, g15⟩ := HC.out
  rw [HV.out]; unfold nm; rw [if_neg g0, if_neg g3, if_neg g6, if_neg g7, if_neg g12, if_neg g15, HZ.out]; rfl, rfl⟩
end Go.Proofs.YtjedbamcjgabpaaDoor.Src
namespace Go.Proofs.YtjedbamcjgabpaaDoor.PSo
open Go Go.RowKit
open Go.Proofs.YtjedbamcjgabpaaDoorW.PrintWords
open Go.Proofs.YtjedbamcjgabpaaDoor.Src
def code_name.f (a0 : Int) : Option ByteArray := if 0 ≤ a0 then (if a0 < 256 then some (nameOf a0.toNat) else none) else none
theorem code_name.calls (a0 : Int) (r : ByteArray) (w : World) (h : code_name.f a0 = some r)
 (hG : GOk w := by first | exact HG.out | exact GOk.below HG.out HB.out | exact GOk.below HG.out (by repeat (first | (with_reducible first | exact HB.out | apply below_alloc | apply pw_below_drewN | apply below_drew1 | refine below_set ?_ (Aside0.out (by assumption))) | exact HB.out))) :
 Calls Tryd.prog 69 #[.int .u8 a0] w fun e w' => e = .returned (.string r) ∧ Below w.heap.size w w' := by
 unfold code_name.f at h
 by_cases h0 : 0 ≤ a0
 ·rw [if_pos h0] at h
  by_cases h1 : a0 < 256
  ·rw [if_pos h1] at h
   obtain ⟨n, rfl⟩ := Int.eq_ofNat_of_zero_le h0
   have e := Option.some.inj h
   simp only [Int.toNat_natCast] at e
   refine (name_calls n (by omega) w hG).mono ?_
   rintro e' w' ⟨he, rfl⟩
   exact ⟨by rw [he, e], Below.refl _ _⟩
  rw [if_neg h1] at h; cases h
 rw [if_neg h0] at h; cases h
end Go.Proofs.YtjedbamcjgabpaaDoor.PSo
