/- Texts of the Script seat, one behind another: ScrRefHex, ScrRefLine. -/
import Derived.Test.YtdjffafcmomalaaDoorPScrx4
import Derived.Test.YtdjffafcmomalaaDoorScrM1
/- vesperref01.Hex at four and at two digits, plain. -/
set_option linter.unusedVariables false
set_option linter.unusedSimpArgs false
namespace Go.Proofs.YtdjffafcmomalaaDoor.Scr
open Go Go.RowKit
open Go.Proofs.YtdjffafcmomalaaDoorW.PrintWords Go.Proofs.YtdjffafcmomalaaDoor.PScr

theorem digit_f (d : Int) (h0 : 0 ≤ d) (h1 : d < 16) : vesperref01_digit.f d = some (hexD d) := by
  obtain ⟨n, rfl⟩ : ∃ n : Nat, d = n := ⟨d.toNat, by omega⟩
  have h : ∀ i : Fin 16, vesperref01_digit.f (i.val : Int) = some (hexD (i.val : Int)) := by decide +kernel
  exact h ⟨n, by omega⟩
theorem hexL (k : Nat) (n : Int) (l : List Int) (i : Int) (h0 : 0 ≤ n) (hn : n < 4294967296) (hi : 0 ≤ i) (hl : i < (l.length : Int)) (hb : l.length ≤ 8) :
    vesperref01_Hex.l0 (k + 1) n l i = vesperref01_Hex.l0 k (n / 16) (l.set i.toNat (hexD (n % 16))) (i - 1) := by
  have e1 : Int.tmod n 16 = n % 16 := Int.tmod_eq_emod_of_nonneg h0
  have e2 : Int.tdiv n 16 = n / 16 := Int.tdiv_eq_ediv_of_nonneg h0
  rw [vesperref01_Hex.l0, if_pos (show i ≥ 0 from hi), e1, digit_f _ (by omega) (by omega)]
  simp only [Option.bind_some]
  rw [if_pos hi, if_pos hl, e2, IntWalk.wrap64_in _ (by omega), IntWalk.wrap64_in _ (by omega)]
theorem hexEnd (k : Nat) (n : Int) (l : List Int) (h : ¬ n > 0) : vesperref01_Hex.l0 (k + 1) n l (-1) = some (strOfNums l) := by
  rw [vesperref01_Hex.l0, if_neg (by decide), if_neg h]
theorem hexF4 (n : Int) (h0 : 0 ≤ n) (hn : n < 65536) : vesperref01_Hex.f 10 n 4 = some (hexS4 n) := by
  have e : vesperref01_Hex.f 10 n 4 = vesperref01_Hex.l0 9 n [0, 0, 0, 0] 3 := by
    unfold vesperref01_Hex.f
    rw [if_neg (by decide), if_neg (by decide), vesperref01_Hex.j0, decide_eq_false (by omega), if_neg (by decide), if_pos (by decide), if_pos (by decide), IntWalk.wrap64_in _ (by decide)]
    rfl
  rw [e, hexL 8 n _ 3 h0 (by omega) (by decide) (by decide) (by decide), hexL 7 _ _ (3 - 1) (by omega) (by omega) (by decide) (by simp) (by simp),
    hexL 6 _ _ (3 - 1 - 1) (by omega) (by omega) (by decide) (by simp) (by simp), hexL 5 _ _ (3 - 1 - 1 - 1) (by omega) (by omega) (by decide) (by simp) (by simp)]
  exact hexEnd 4 _ _ (by omega)
theorem hexF2 (n : Int) (h0 : 0 ≤ n) (hn : n < 256) : vesperref01_Hex.f 10 n 2 = some (hexS2 n) := by
  have e : vesperref01_Hex.f 10 n 2 = vesperref01_Hex.l0 9 n [0, 0] 1 := by
    unfold vesperref01_Hex.f
    rw [if_neg (by decide), if_neg (by decide), vesperref01_Hex.j0, decide_eq_false (by omega), if_neg (by decide), if_pos (by decide), if_pos (by decide), IntWalk.wrap64_in _ (by decide)]
    rfl
  rw [e, hexL 8 n _ 1 h0 (by omega) (by decide) (by decide) (by decide), hexL 7 _ _ (1 - 1) (by omega) (by omega) (by decide) (by simp) (by simp)]
  exact hexEnd 6 _ _ (by omega)
end Go.Proofs.YtdjffafcmomalaaDoor.Scr
/- vesperref07.Line: the same text as script.line's. -/
set_option linter.unusedVariables false
set_option linter.unusedSimpArgs false
namespace Go.Proofs.YtdjffafcmomalaaDoor.Scr
open Go Go.RowKit
open Go.Proofs.YtdjffafcmomalaaDoorW.PrintWords Go.Proofs.YtdjffafcmomalaaDoor.PScr

set_option maxRecDepth 100000 in
set_option maxHeartbeats 4000000 in
theorem refLine_calls (s : S34) (w0 : World) (h0 : -9223372036854775808 ≤ s.f0) (h1 : s.f0 ≤ 9223372036854775807) (h2 : 0 ≤ s.f1) (h3 : s.f1 < 65536) (h4 : 0 ≤ s.f9) (h5 : s.f9 < 256) (hG : GOk w0) :
    Calls Tryd.prog 39 #[.agg #[.int .i64 s.f0, .int .u16 s.f1, .bool s.f2, .bool s.f3, .bool s.f4, .bool s.f5, .bool s.f6, .bool s.f7, .bool s.f8, .int .u8 s.f9]] w0 fun e w' => e = .returned (.string (lineB s)) ∧ Below w0.heap.size w0 w' := by
  have HG := Aside0.mk hG
  clear hG
  have hit : strconv_Itoa_52.f s.f0 = some ⟨(Lib.itoa s.f0).toArray⟩ := by unfold strconv_Itoa_52.f; rw [if_pos h0, if_pos h1]
  have HI := Aside0.mk hit
  clear hit
  obtain ⟨t0, ht0⟩ : ∃ t0 : ByteArray, t0 = ⟨(Lib.itoa s.f0).toArray⟩ := ⟨_, rfl⟩
  have hsz : t0.size ≤ 30 := by rw [ht0]; exact itoa_len _ h0 h1
  rw [← ht0] at HI
  have T0 := Aside0.mk ht0
  clear ht0
  have b4 := hexS4_size s.f1
  have HBX : Aside0 (Bx s w0.heap.size (w0.alloc (.cells #[.int .i64 s.f0, .int .u16 s.f1, .bool s.f2, .bool s.f3, .bool s.f4, .bool s.f5, .bool s.f6, .bool s.f7, .bool s.f8, .int .u8 s.f9] 34))) := ⟨heap_alloc_new w0 _⟩
  have HB := Aside0.mk (below_alloc (Below.refl w0.heap.size w0) (.cells #[.int .i64 s.f0, .int .u16 s.f1, .bool s.f2, .bool s.f3, .bool s.f4, .bool s.f5, .bool s.f6, .bool s.f7, .bool s.f8, .int .u8 s.f9] 34))
  go_enter Tryd.func39, Tryd.ntmps39
  go_wp2_with fail
  generalize w0.alloc (.cells #[.int .i64 s.f0, .int .u16 s.f1, .bool s.f2, .bool s.f3, .bool s.f4, .bool s.f5, .bool s.f6, .bool s.f7, .bool s.f8, .int .u8 s.f9] 34) = w at HBX HB ⊢
  (with_reducible refine (strconv_Itoa_52.calls s.f0 t0 w HI.out (GOk.below HG.out HB.out)).mono ?_)
  rintro e w1 ⟨rfl, hb⟩
  have BX1 := Aside0.mk (HBX.out.below hb)
  have B1 := Aside0.mk (below_step HB.out hb)
  clear hb HBX HB
  have c1 : w1.cell? ⟨w0.heap.size, 1, none⟩ = some (.int .u16 s.f1) := (blk_cell BX1.out 1).trans rfl
  go_upto_if 9 with (fail)
  go_cut [3] (fun v3 wc => v3 = .string (lineK s) ∧ Aside0 (Bx s w0.heap.size wc) ∧ Aside0 (Below w0.heap.size w0 wc))
  case first =>
    by_cases hk : s.f1 = 0
    · have k0 : (s.f1 == 0) = true := beq_iff_eq.mpr hk
      have k1 : (s.f1 != 0) = false := bne_eq_false_iff_eq.mpr hk
      have e : lineK s = t0 := by unfold lineK; rw [if_pos hk, T0.out]
      have E := Aside0.mk e
      clear hk e
      go_wp2
      go_meet
      case rel => exact ⟨by rw [E.out], BX1, B1⟩
    · have k0 : (s.f1 == 0) = false := beq_eq_false_iff_ne.mpr hk
      have k1 : (s.f1 != 0) = true := bne_iff_ne.mpr hk
      have e : lineK s = t0 ++ ((⟨#[32, 107, 101, 121, 115, 32]⟩ : ByteArray) ++ hexS4 s.f1) := by unfold lineK; rw [if_neg hk, T0.out]
      have E := Aside0.mk e
      clear hk e
      go_wp2_with fail
      (with_reducible refine (vesperref01_Hex.calls 10 s.f1 4 (hexS4 s.f1) _ (hexF4 s.f1 h2 h3)).mono ?_)
      rintro e w2 ⟨rfl, hb⟩
      have BX2 := Aside0.mk (BX1.out.below hb)
      have B2 := Aside0.mk (below_step B1.out hb)
      clear hb
      go_wp2
      go_meet
      case rel => exact ⟨by rw [E.out, ← ByteArray.append_assoc], BX2, B2⟩
  case rest =>
    clear BX1 B1 c1 HI b4 hsz
    obtain ⟨rfl, BX1, B1⟩ := hcut
    have HSZ := Aside0.mk (line_sizes s (itoa_len _ h0 h1))
    have c1 : wc.cell? ⟨w0.heap.size, 2, none⟩ = some (.bool s.f2) := (blk_cell BX1.out 2).trans rfl
    have z : (lineK s).size ≤ 100 := by have := HSZ.out; omega
    have HE : Aside0 (line1 s = word s.f2 (lineK s) ⟨#[116, 97, 112, 101]⟩) := ⟨rfl⟩
    obtain ⟨fb_, hfb⟩ : ∃ x, s.f2 = x := ⟨_, rfl⟩
    rw [hfb] at c1 HE
    clear hfb
    go_upto_if 18 with (fail)
    go_cut [3] (fun v3 wd => v3 = .string (line1 s) ∧ Aside0 (Bx s w0.heap.size wd) ∧ Aside0 (Below w0.heap.size w0 wd))
    case first =>
      cases fb_
      · go_wp2
        go_meet
        case rel => exact ⟨by rw [HE.out]; rfl, BX1, B1⟩
      · go_wp2
        go_meet
        case rel => exact ⟨by rw [HE.out]; rfl, BX1, B1⟩
    case rest =>
      clear BX1 B1 c1 z HE
      obtain ⟨rfl, BX1, B1⟩ := hcut
      have c1 : wc.cell? ⟨w0.heap.size, 3, none⟩ = some (.bool s.f3) := (blk_cell BX1.out 3).trans rfl
      have z : (line1 s).size ≤ 100 := by have := HSZ.out; omega
      have HE : Aside0 (line2 s = word s.f3 (line1 s) ⟨#[102, 108, 97, 103]⟩) := ⟨rfl⟩
      obtain ⟨fb_, hfb⟩ : ∃ x, s.f3 = x := ⟨_, rfl⟩
      rw [hfb] at c1 HE
      clear hfb
      go_upto_if 22 with (fail)
      go_cut [3] (fun v3 wd => v3 = .string (line2 s) ∧ Aside0 (Bx s w0.heap.size wd) ∧ Aside0 (Below w0.heap.size w0 wd))
      case first =>
        cases fb_
        · go_wp2
          go_meet
          case rel => exact ⟨by rw [HE.out]; rfl, BX1, B1⟩
        · go_wp2
          go_meet
          case rel => exact ⟨by rw [HE.out]; rfl, BX1, B1⟩
      case rest =>
        clear BX1 B1 c1 z HE
        obtain ⟨rfl, BX1, B1⟩ := hcut
        have c1 : wc.cell? ⟨w0.heap.size, 4, none⟩ = some (.bool s.f4) := (blk_cell BX1.out 4).trans rfl
        have z : (line2 s).size ≤ 100 := by have := HSZ.out; omega
        have HE : Aside0 (line3 s = word s.f4 (line2 s) ⟨#[105, 110]⟩) := ⟨rfl⟩
        obtain ⟨fb_, hfb⟩ : ∃ x, s.f4 = x := ⟨_, rfl⟩
        rw [hfb] at c1 HE
        clear hfb
        go_upto_if 26 with (fail)
        go_cut [3] (fun v3 wd => v3 = .string (line3 s) ∧ Aside0 (Bx s w0.heap.size wd) ∧ Aside0 (Below w0.heap.size w0 wd))
        case first =>
          cases fb_
          · go_wp2
            go_meet
            case rel => exact ⟨by rw [HE.out]; rfl, BX1, B1⟩
          · go_wp2
            go_meet
            case rel => exact ⟨by rw [HE.out]; rfl, BX1, B1⟩
        case rest =>
          clear BX1 B1 c1 z HE
          obtain ⟨rfl, BX1, B1⟩ := hcut
          have c1 : wc.cell? ⟨w0.heap.size, 5, none⟩ = some (.bool s.f5) := (blk_cell BX1.out 5).trans rfl
          have z : (line3 s).size ≤ 100 := by have := HSZ.out; omega
          have HE : Aside0 (line4 s = word s.f5 (line3 s) ⟨#[111, 117, 116]⟩) := ⟨rfl⟩
          obtain ⟨fb_, hfb⟩ : ∃ x, s.f5 = x := ⟨_, rfl⟩
          rw [hfb] at c1 HE
          clear hfb
          go_upto_if 30 with (fail)
          go_cut [3] (fun v3 wd => v3 = .string (line4 s) ∧ Aside0 (Bx s w0.heap.size wd) ∧ Aside0 (Below w0.heap.size w0 wd))
          case first =>
            cases fb_
            · go_wp2
              go_meet
              case rel => exact ⟨by rw [HE.out]; rfl, BX1, B1⟩
            · go_wp2
              go_meet
              case rel => exact ⟨by rw [HE.out]; rfl, BX1, B1⟩
          case rest =>
            clear BX1 B1 c1 z HE
            obtain ⟨rfl, BX1, B1⟩ := hcut
            have c1 : wc.cell? ⟨w0.heap.size, 6, none⟩ = some (.bool s.f6) := (blk_cell BX1.out 6).trans rfl
            have z : (line4 s).size ≤ 100 := by have := HSZ.out; omega
            have HE : Aside0 (line5 s = word s.f6 (line4 s) ⟨#[105, 110, 116]⟩) := ⟨rfl⟩
            obtain ⟨fb_, hfb⟩ : ∃ x, s.f6 = x := ⟨_, rfl⟩
            rw [hfb] at c1 HE
            clear hfb
            go_upto_if 34 with (fail)
            go_cut [3] (fun v3 wd => v3 = .string (line5 s) ∧ Aside0 (Bx s w0.heap.size wd) ∧ Aside0 (Below w0.heap.size w0 wd))
            case first =>
              cases fb_
              · go_wp2
                go_meet
                case rel => exact ⟨by rw [HE.out]; rfl, BX1, B1⟩
              · go_wp2
                go_meet
                case rel => exact ⟨by rw [HE.out]; rfl, BX1, B1⟩
            case rest =>
              clear BX1 B1 c1 z HE
              obtain ⟨rfl, BX1, B1⟩ := hcut
              have c1 : wc.cell? ⟨w0.heap.size, 7, none⟩ = some (.bool s.f7) := (blk_cell BX1.out 7).trans rfl
              have z : (line5 s).size ≤ 100 := by have := HSZ.out; omega
              have HE : Aside0 (line6 s = word s.f7 (line5 s) ⟨#[99, 108, 101, 97, 114]⟩) := ⟨rfl⟩
              obtain ⟨fb_, hfb⟩ : ∃ x, s.f7 = x := ⟨_, rfl⟩
              rw [hfb] at c1 HE
              clear hfb
              go_upto_if 38 with (fail)
              go_cut [3] (fun v3 wd => v3 = .string (line6 s) ∧ Aside0 (Bx s w0.heap.size wd) ∧ Aside0 (Below w0.heap.size w0 wd))
              case first =>
                cases fb_
                · go_wp2
                  go_meet
                  case rel => exact ⟨by rw [HE.out]; rfl, BX1, B1⟩
                · go_wp2
                  go_meet
                  case rel => exact ⟨by rw [HE.out]; rfl, BX1, B1⟩
              case rest =>
                clear BX1 B1 c1 z HE
                obtain ⟨rfl, BX1, B1⟩ := hcut
                have c1 : wc.cell? ⟨w0.heap.size, 8, none⟩ = some (.bool s.f8) := (blk_cell BX1.out 8).trans rfl
                have z : (line6 s).size ≤ 100 := by have := HSZ.out; omega
                have HE : Aside0 (line7 s = word s.f8 (line6 s) ⟨#[119, 97, 105, 116]⟩) := ⟨rfl⟩
                obtain ⟨fb_, hfb⟩ : ∃ x, s.f8 = x := ⟨_, rfl⟩
                rw [hfb] at c1 HE
                clear hfb
                go_upto_if 42 with (fail)
                go_cut [3] (fun v3 wd => v3 = .string (line7 s) ∧ Aside0 (Bx s w0.heap.size wd) ∧ Aside0 (Below w0.heap.size w0 wd))
                case first =>
                  cases fb_
                  · go_wp2
                    go_meet
                    case rel => exact ⟨by rw [HE.out]; rfl, BX1, B1⟩
                  · go_wp2
                    go_meet
                    case rel => exact ⟨by rw [HE.out]; rfl, BX1, B1⟩
                case rest =>
                  clear BX1 B1 c1 z HE
                  obtain ⟨rfl, BX1, B1⟩ := hcut
                  have c1 : wc.cell? ⟨w0.heap.size, 9, none⟩ = some (.int .u8 s.f9) := (blk_cell BX1.out 9).trans rfl
                  have z : (line7 s).size ≤ 100 := by have := HSZ.out; omega
                  by_cases hk : s.f9 = 0
                  · have k0 : (s.f9 == 0) = true := beq_iff_eq.mpr hk
                    have k1 : (s.f9 != 0) = false := bne_eq_false_iff_eq.mpr hk
                    have E := Aside0.mk (show lineB s = line7 s by unfold lineB; rw [if_pos hk])
                    clear hk
                    go_wp2
                    go_ret
                    exact ⟨by rw [E.out]; rfl, B1.out⟩
                  · have k0 : (s.f9 == 0) = false := beq_eq_false_iff_ne.mpr hk
                    have k1 : (s.f9 != 0) = true := bne_iff_ne.mpr hk
                    have E := Aside0.mk (show lineB s = line7 s ++ ((⟨#[32, 98, 117, 115, 32]⟩ : ByteArray) ++ hexS2 s.f9) by unfold lineB; rw [if_neg hk])
                    have b2 := hexS2_size s.f9
                    clear hk
                    go_wp2_with fail
                    (with_reducible refine (vesperref01_Hex.calls 10 s.f9 2 (hexS2 s.f9) _ (hexF2 s.f9 h4 h5)).mono ?_)
                    rintro e w2 ⟨rfl, hb⟩
                    have B2 := Aside0.mk (below_step B1.out hb)
                    clear hb
                    go_wp2
                    go_ret
                    exact ⟨by rw [E.out, ← ByteArray.append_assoc]; rfl, B2.out⟩
end Go.Proofs.YtdjffafcmomalaaDoor.Scr
