/- The law vesperlaw12.TapeReads, walked: it answers true. -/
import Derived.Test.YtdibgdiiamcmfaaDoorTapeReadsP
import Derived.Test.YtdibgdiiamcmfaaDoorTapeReadsL
import Derived.Test.YtdibgdiiamcmfaaDoorTapeLent
import Derived.Test.YtdibgdiiamcmfaaDoorPTapex3
set_option linter.unusedVariables false
set_option linter.unusedSimpArgs false
namespace Go.Proofs.YtdibgdiiamcmfaaDoor.ReadsW
open Go Go.RowKit
open Go.Proofs.YtdibgdiiamcmfaaDoorW.PrintWords Go.Proofs.YtdibgdiiamcmfaaDoor.PTape Go.Proofs.YtdibgdiiamcmfaaDoor.App
open Go.Proofs.YtdibgdiiamcmfaaDoor.Reader (GOk)
open ReadsL
attribute [local go_sem ↓ high] appG_eq

theorem awake_ok (k : Nat) (h : 30 ≤ k) : vesperlaw12_awake.f k = some true :=
  at_rounds vesperlaw12_awake.mono h (by decide +kernel)

theorem lent_C {w : World} {b g : Nat} {l : List S37} (h : Waves.RW w b (.slice (some ⟨g, 0, none⟩) (l.length + 1) (l.length + 1)) (l ++ [⟨-77, 0⟩])) : Kd.C k37 w (some ⟨g, 0, none⟩) l.length l := by
  have := (Kd.R_reads' (Kd.R_take h (m := l.length) (by simp))).2.2
  simpa using this

set_option maxRecDepth 100000 in
set_option maxHeartbeats 4000000 in
theorem reads_law (A : Option Addr) (c : Nat) (l : List S37) (a : Int) (w : World) (hr : Kd.C k37 w A l.length l) (hc : l.length ≤ c) (hG : GOk w) :
    Calls Tryd.prog 5 #[.slice A l.length c, .int .i64 a] w fun e w' => e = .returned (.bool true) ∧ Below w.heap.size w w' := by
  have HR := Aside0.mk hr
  have HC := Aside0.mk hc
  have HG := Aside0.mk hG
  clear hr hc hG
  by_cases hbig : 2147483647 < l.length
  · go_enter Tryd.func5, Tryd.ntmps5
    go_wp2
    go_ret
    exact ⟨rfl, Below.refl _ _⟩
  · obtain ⟨⟨r, x, y⟩, h1, h2, h3⟩ := ReadsP.read_same l (by omega) a
    have H1 := Aside0.mk h1
    have H2 := Aside0.mk h2
    have H3 := Aside0.mk h3
    have HL := Aside0.mk (show l.length ≤ 100000000000 by omega)
    clear h1 h2 h3
    go_enter Tryd.func5, Tryd.ntmps5
    go_wp2_with fail
    (with_reducible refine (Lent.lent_calls A c l _ HR.out HC.out HL.out).mono ?_)
    rintro e w1 ⟨g, hg, rfl, hx1, hb1⟩
    have X1 := Aside0.mk hx1
    have B1 := Aside0.mk hb1
    have g1 : g < w1.heap.size := Kd.R_lt hx1 g rfl
    have C1 := Aside0.mk (lent_C hx1)
    clear hx1 hb1
    go_wp2_with fail
    (with_reducible refine (tape_Read.calls (some ⟨g, 0, none⟩) (l.length + 1) l a r x y _ C1.out (Nat.le_succ _) H1.out (GOk.below HG.out B1.out)).mono ?_)
    rintro e w2 ⟨v1, rfl, ho2, hb2⟩
    have hap : ∀ k, v1.ownBlock = some k → k ≠ g := fun k hk => by have := Kd.R_base ho2 k hk; omega
    have O2 : Aside0 (R8 w2 w1.heap.size v1 r) := ⟨ho2⟩
    have X2 : Aside0 (Waves.RW w2 w.heap.size (.slice (some ⟨g, 0, none⟩) (l.length + 1) (l.length + 1)) (l ++ [⟨-77, 0⟩])) := ⟨Kd.R_below X1.out hb2⟩
    have B2 := Aside0.mk (below_step B1.out hb2)
    have s1 := Aside0.mk (show w.heap.size ≤ w1.heap.size from B1.out.size)
    have R2 := Aside0.mk (Kd.C_below HR.out B2.out)
    have AP := Aside0.mk hap
    have G1 := Aside0.mk hg
    clear ho2 hb2 hap g1 hg X1 C1
    go_wp2_with fail
    (with_reducible refine (Lent.back_calls A c l g w.heap.size _ R2.out HC.out HL.out X2.out).mono ?_)
    rintro e w3 ⟨rfl, hg3⟩
    have O3 : Aside0 (R8 w3 w.heap.size v1 r) := ⟨R8.keep (Kd.R_lower O2.out s1.out) hg3 (fun k hk => by cases hk; intro e; exact AP.out _ e.symm rfl)⟩
    have B3 := Aside0.mk (B2.out.grown hg3 B2.out.size (fun k hk => by cases hk; exact G1.out))
    have R3 := Aside0.mk (Kd.C_below HR.out B3.out)
    clear hg3 O2 X2
    go_wp2_with fail
    (with_reducible refine (tape_Read.calls A c l a r x y _ R3.out HC.out H1.out (GOk.below HG.out B3.out)).mono ?_)
    rintro e w4 ⟨v2, rfl, ho4, hb4⟩
    have O4 : Aside0 (R8 w4 w3.heap.size v2 r) := ⟨ho4⟩
    have P4 : Aside0 (R8 w4 w.heap.size v1 r) := ⟨Kd.R_below O3.out hb4⟩
    have B4 := Aside0.mk (below_step B3.out hb4)
    have R4 := Aside0.mk (Kd.C_below HR.out B4.out)
    have s3 := Aside0.mk (show w.heap.size ≤ w3.heap.size from B3.out.size)
    clear ho4 hb4
    go_wp2_with fail
    (with_reducible refine (vesperref12_Read.calls (l.length + 20000) A c l a r x y _ R4.out HC.out H2.out).mono ?_)
    rintro e w5 ⟨v3, rfl, ho5, hb5⟩
    have O5 : Aside0 (R8 w5 w4.heap.size v3 r) := ⟨ho5⟩
    have P5 : Aside0 (R8 w5 w.heap.size v1 r) := ⟨Kd.R_below P4.out hb5⟩
    have Q5 : Aside0 (R8 w5 w.heap.size v2 r) := ⟨Kd.R_below (Kd.R_lower O4.out s3.out) hb5⟩
    have U5 : Aside0 (R8 w5 w.heap.size v3 r) := ⟨Kd.R_lower O5.out B4.out.size⟩
    have B5 := Aside0.mk (below_step B4.out hb5)
    have AB := Aside0.mk (apart_old O3.out O4.out)
    have AU := Aside0.mk (apart_old P4.out O5.out)
    clear ho5 hb5
    have e1 := P5.out.str
    have e2 := Q5.out.str
    have e3 := U5.out.str
    go_wp2
    clear e1 e2 e3
    have K0 : Aside0 (Ph1 7 w.heap.size v1 v2 v3 r w 0 w5) := ⟨⟨Nat.zero_le _, by rw [fill_zero]; exact P5.out, Q5.out, U5.out, B5.out⟩⟩
    obtain ⟨A1, c1, ev⟩ := P5.out.reads
    subst ev
    have hl3 : r.length ≤ 16384 := H3.out
    clear P5 Q5 U5 O5 O4 O3 P4
    go_loopw [15] (fun i wr => ∃ k : Nat, k ≤ r.length ∧ i = .int .i64 k ∧ Aside0 (Ph1 7 w.heap.size (.slice A1 r.length c1) v2 v3 r w k wr)) (fun i _ => r.length - (RowKit.intOf i).toNat)
    case atStart => exact ⟨0, Nat.zero_le _, rfl, K0⟩
    case round =>
      obtain ⟨k, hk, rfl, HP⟩ := hrel
      by_cases hlt : k < r.length
      · obtain ⟨g, cap, e, ⟨u0, q0⟩, f0, hn⟩ := HP.out.step AB.out AU.out hlt
        have HN := Aside0.mk hn
        clear hn HP
        cases e
        have i0 : (k : Int) < (r.length : Int) := by omega
        go_wp2
        go_roundw
        case rel => exact ⟨k + 1, by omega, by go_num, HN⟩
        case measure => simp [RowKit.intOf]; omega
      · obtain rfl : k = r.length := by omega
        have P2 := HP.out.ends 8 AB.out AU.out HP.out.bel.size
        have HQ := Aside0.mk P2
        clear P2 HP
        go_wp2
        go_loopw [16, 17] (fun vx i wr => ∃ k : Nat, k ≤ 40 ∧ i = .int .i64 k ∧ Aside0 (Ph2 8 w.heap.size v2 v3 (List.replicate r.length 7) r w k vx wr)) (fun _ i _ => 40 - (RowKit.intOf i).toNat)
        case atStart => exact ⟨0, Nat.zero_le _, rfl, HQ⟩
        case round =>
          obtain ⟨k, hk, rfl, HP⟩ := hrel
          by_cases hlt : k < 40
          · obtain ⟨g1, cap1, w1, hr1, h1⟩ := HP.out.step (by simp; omega)
            have HN := Aside0.mk h1
            clear h1 HP HQ
            simp only [List.length_replicate] at hr1 HN
            go_wp2
            go_roundw
            case rel => exact ⟨k + 1, by omega, by go_num, HN⟩
            case measure => simp [RowKit.intOf]; omega
          · obtain rfl : k = 40 := by omega
            clear HQ
            have QB := Aside0.mk HP.out.b
            have QU := Aside0.mk HP.out.u
            have BB := Aside0.mk HP.out.bel
            obtain ⟨A2, c2, ex⟩ := HP.out.x.reads
            obtain ⟨A3, c3, eu⟩ := HP.out.u.reads
            simp only [List.length_append, List.length_replicate] at ex
            have e2 := QB.out.str
            have e3 := QU.out.str
            clear HP
            subst ex eu
            go_wp2_with fail
            (with_reducible refine (vesperlaw12_awake.calls 30 true _ (awake_ok 30 (Nat.le_refl _)) (GOk.below HG.out BB.out)).mono ?_)
            rintro e w6 ⟨rfl, hb6⟩
            have B6 := Aside0.mk (below_step BB.out hb6)
            clear hb6
            go_wp2
            go_ret
            exact ⟨rfl, B6.out⟩
end Go.Proofs.YtdibgdiiamcmfaaDoor.ReadsW
