/- vesperref07.Parse, by hand: it tells what Parse tells. Condition: a text of at most 281474976710656 bytes. -/
import Derived.Test.YtdjffafcmomalaaDoorScrRefLines
import Derived.Test.YtdjffafcmomalaaDoorScrOwnW
import Derived.Test.YtdjffafcmomalaaDoorScrM3
set_option linter.unusedVariables false
set_option linter.unusedSimpArgs false
namespace Go.Proofs.YtdjffafcmomalaaDoor.RefParse
open Go Go.RowKit
open Go.Proofs.YtdjffafcmomalaaDoorW.PrintWords Go.Proofs.YtdjffafcmomalaaDoor.PScr Go.Proofs.YtdjffafcmomalaaDoor.Scr Go.Proofs.YtdjffafcmomalaaDoor.Lent
attribute [local go_sem ↓ high] Own.appG_eq

def RS (w : World) (b : Nat) (v : Value) (ls : List ByteArray) : Prop := Kd.string.R 9 w b (fun _ => True) v ls
theorem RS.below {w w1 : World} {b : Nat} {v : Value} {ls : List ByteArray} (h : RS w b v ls) (hb : Below w.heap.size w w1) : RS w1 b v ls := Kd.R_below h hb
theorem RWb {w w1 : World} {b : Nat} {v : Value} {l : List S34} (h : RW w b v l) (hb : Below w.heap.size w w1) : RW w1 b v l := Kd.R_below h hb
theorem RS.sl {w : World} {b : Nat} {v : Value} {ls : List ByteArray} (h : RS w b v ls) : ∃ A c, v = .slice A ls.length c := Kd.R_slice h
theorem RS.cell {w : World} {b : Nat} {A : Option Addr} {c : Nat} {ls : List ByteArray} (h : RS w b (.slice A ls.length c) ls) (i : Nat) (hi : i < ls.length) : ∃ g, A = some ⟨g, 0, none⟩ ∧ w.cell? ⟨g, i, none⟩ = some (.string ls[i]) := by
  obtain ⟨g, cap, e, _⟩ := Kd.R_form h (by omega)
  cases e
  obtain ⟨ad, cs, e, _, hK, hc⟩ := Kd.C_get (Kd.R_reads' h).2.2 ByteArray.empty (i : Int) (by omega) (by omega)
  cases e
  have hrd : ls.getD (i : Int).toNat ByteArray.empty = ls[i] := by
    rw [Int.toNat_natCast, List.getD_eq_getElem?_getD, List.getElem?_eq_getElem hi]; rfl
  rw [hrd] at hK
  have hcs : cs = [.string ls[i]] := hK
  have := hc 0 (.string ls[i]) (by rw [hcs]; rfl)
  exact ⟨g, rfl, by simpa [Kd.string, Kd.scalar, add_plain] using this⟩
theorem out_step {B0 : Nat} {w0 W : World} {v v5 : Value} {l : List S34} {ls : List ByteArray} (h : RW W B0 v l) (h5 : RS W B0 v5 ls) (hb : Below B0 w0 W) (big : B0 ≤ W.heap.size) (hl : l.length ≤ 1000000000) (p : S34) :
    ∃ v' w1, (Own.appG #[23, 23] 23 #[v, .slice (some ⟨W.heap.size, 0, none⟩) 1 1]).run Tryd.prog (W.alloc (.cells #[.int .i64 p.f0, .int .u16 p.f1, .bool p.f2, .bool p.f3, .bool p.f4, .bool p.f5, .bool p.f6, .bool p.f7, .bool p.f8, .int .u8 p.f9] 34)) = .ok v' w1 ∧
      RW w1 B0 v' (l ++ [p]) ∧ RS w1 B0 v5 ls ∧ Below B0 w0 w1 ∧ B0 ≤ w1.heap.size := by
  obtain ⟨g, cap, w1, hrun, hR, hG, hat⟩ := Own.kd_app k34 (P := Tryd.prog) B0 23 34 zero34v 24 Tryd.underlying23 info34 rfl (by decide) (by decide) v l p [.int .i64 p.f0, .int .u16 p.f1, .bool p.f2, .bool p.f3, .bool p.f4, .bool p.f5, .bool p.f6, .bool p.f7, .bool p.f8, .int .u8 p.f9] (fun _ => True) (fun _ => False) (k34_mkM _ _ _ p) (fun _ h => h.elim) (fun _ _ => trivial) h big (by omega)
  exact ⟨_, w1, hrun, hR, Kd.R_over h5 h (by decide) hG, hb.grown hG big (Kd.R_base h), Nat.le_trans big hG.size⟩

/-- The rounds: i lines are well. -/
structure St (Lf : List ByteArray) (v5 : Value) (w0 : World) (i : Nat) (v8 : Value) (n : Int) (w : World) : Prop where
  well : Well ((Lf.take i).map fun a => (a, true))
  sum : n = sumOf ((Lf.take i).map fun a => (a, true))
  row : RW w w0.heap.size v8 (spansOf ((Lf.take i).map fun a => (a, true)))
  strs : RS w w0.heap.size v5 Lf
  bel : Below w0.heap.size w0 w
theorem take_map (Lf : List ByteArray) (i : Nat) (h : i < Lf.length) : (Lf.take (i + 1)).map (fun a => (a, true)) = (Lf.take i).map (fun a => (a, true)) ++ [(Lf[i], true)] := by
  rw [List.take_succ_eq_append_getElem h, List.map_append]; rfl
theorem split_map (Lf : List ByteArray) (i : Nat) (h : i < Lf.length) : Lf.map (fun a => (a, true)) = ((Lf.take i).map (fun a => (a, true)) ++ [(Lf[i], true)]) ++ (Lf.drop (i + 1)).map (fun a => (a, true)) := by
  rw [← take_map Lf i h, ← List.map_append, List.take_append_drop]

set_option maxRecDepth 100000 in
set_option maxHeartbeats 8000000 in
theorem rparse_calls (t : ByteArray) (w : World) (l : List S34) (code at_ : Int) (hp : parseR t.data.toList = (l, code, at_)) (hG : GOk w) :
    Calls Tryd.prog 24 #[.string t] w fun e w' => ∃ v, e = .returned (.tuple #[v, .int .i64 code, .int .i64 at_]) ∧ RW w' w.heap.size v l ∧ Below w.heap.size w w' := by
  have HG := Aside0.mk hG
  have hsz := data_length t
  clear hG
  by_cases hbig : 65536 < t.size
  · unfold parseR at hp
    rw [if_pos (.inl (by omega))] at hp
    simp only [Prod.mk.injEq] at hp
    obtain ⟨rfl, rfl, rfl⟩ := hp
    clear hsz
    go_enter Tryd.func24, Tryd.ntmps24
    go_wp2
    go_ret3
    exact ⟨_, rfl, Kd.R_nil _ _ _ _ _, Below.refl _ _⟩
  · have hL := lines_f t (by omega) 70000 (Nat.le_refl _)
    have hcR := countL_R t.data.toList
    have hlR := linesL_R t.data.toList [] (by simp)
    rw [List.nil_append] at hlR
    have hbl : (linesR [] t.data.toList).1.length ≤ 65536 := by
      have h1 := count_R t.data.toList [] (by simp)
      rw [List.nil_append] at h1
      rw [← h1]
      have := List.count_le_length (a := 10) (l := t.data.toList)
      omega
    obtain ⟨⟨Lf, rest⟩, hq⟩ : ∃ q, linesR [] t.data.toList = q := ⟨_, rfl⟩
    rw [hq] at hL hcR hlR hbl
    simp only at hL hcR hlR hbl
    obtain ⟨Ls, hLs⟩ : ∃ Ls, Lf.map Scr.bt = Ls := ⟨_, rfl⟩
    obtain ⟨r2, hr2⟩ : ∃ r2, Scr.bt rest = r2 := ⟨_, rfl⟩
    have hlen : Ls.length = Lf.length := by rw [← hLs, List.length_map]
    have hlR' : linesL t.data.toList = Ls.map (fun a => (a, true)) ++ (if rest = [] then [] else [(r2, false)]) := by rw [hlR, ← hLs, ← hr2, List.map_map]; rfl
    rw [hLs, hr2] at hL
    obtain ⟨many, hmany⟩ : ∃ many : Int, (Lf.length : Int) + (if rest = [] then 0 else 1) = many := ⟨_, rfl⟩
    have hcR' : countL t.data.toList = many := by rw [hcR]; exact hmany
    have hm0 : 0 ≤ many ∧ many ≤ 65537 := by rw [← hmany]; split <;> omega
    have hll : Ls.length ≤ 65536 := by omega
    have hmany' : (Ls.length : Int) + (if rest = [] then 0 else 1) = many := by rw [hlen]; exact hmany
    have LI := Aside0.mk hL
    have LR := Aside0.mk hlR'
    have CR := Aside0.mk hcR'
    have MY := Aside0.mk hmany'
    have R2 := Aside0.mk hr2
    have HP := Aside0.mk hp
    have TS := Aside0.mk hsz
    clear hL hcR hlR hq hLs hr2 hlen hlR' hmany hcR' hmany' hp hbl hsz
    go_enter Tryd.func24, Tryd.ntmps24
    go_upto_region 4 with fail
    (with_reducible refine (vesperref07_Lines.calls 70000 t Ls r2 _ LI.out).mono ?_)
    rintro e w1 ⟨v5, rfl, h5, hB⟩
    have H5 : Aside0 (RS w1 w.heap.size v5 Ls) := ⟨h5⟩
    have HB := Aside0.mk hB
    obtain ⟨A5, c5, e5⟩ := RS.sl H5.out
    subst e5
    clear h5 hB LI
    go_upto_region 5 with fail
    go_cut [24] (fun v24 wc => ∃ b : Bool, v24 = .bool b ∧ Aside0 (b = true ↔ rest ≠ []) ∧ Aside0 (RS wc w.heap.size (.slice A5 Ls.length c5) Ls) ∧ Aside0 (Below w.heap.size w wc))
    case first =>
      by_cases hr : rest = []
      · have e1 := R2.out
        subst hr
        have e2 : r2 = ⟨#[]⟩ := e1.symm
        subst e2
        go_wp2
        go_meet
        case rel => exact ⟨false, by simp, ⟨by simp⟩, H5, HB⟩
      · have e1 := R2.out
        have hne : r2.toList = [] → False := fun h => hr (by
          have := (tl_iff r2 []).1 h
          rw [← e1] at this
          have h2 := congrArg (fun x : ByteArray => x.data.toList) this
          simpa using h2)
        have hb2 : r2.toList.isEmpty = false := by
          cases hh : r2.toList with
          | nil => exact (hne hh).elim
          | cons a b => rfl
        have hb3 := Aside0.mk hb2
        clear e1 hne
        go_wp2
        go_meet
        case rel => exact ⟨true, by simp, ⟨by simp [hr]⟩, H5, HB⟩
    case rest =>
     obtain ⟨b, rfl, BB, H5, HB⟩ := hcut
     go_upto_if 24 with fail
     go_cut [7] (fun v7 wc => v7 = .int .i64 many ∧ Aside0 (RS wc w.heap.size (.slice A5 Ls.length c5) Ls) ∧ Aside0 (Below w.heap.size w wc))
     case first =>
      have e3 := MY.out
      have e4 := BB.out
      cases b
      · have hr : rest = [] := Classical.byContradiction fun h => by have := e4.2 h; cases this
        rw [if_pos hr, Int.add_zero] at e3
        subst e3
        clear hr e4 BB
        go_wp2
        go_meet
        case rel => exact ⟨rfl, H5, HB⟩
      · have hr : ¬ rest = [] := e4.1 rfl
        rw [if_neg hr] at e3
        subst e3
        clear hr e4 BB
        go_wp2
        go_meet
        case rel => exact ⟨by go_num, H5, HB⟩
     case rest =>
      obtain ⟨rfl, H5, HB⟩ := hcut
      by_cases hbm : 4096 < many
      · have hpp : (l, code, at_) = ([], 2, 0) := by
          rw [← HP.out]; unfold parseR
          rw [if_pos (.inr (by rw [CR.out]; exact hbm))]
        simp only [Prod.mk.injEq] at hpp
        obtain ⟨rfl, rfl, rfl⟩ := hpp
        go_wp2
        go_ret3
        exact ⟨_, rfl, Kd.R_nil _ _ _ _ _, HB.out⟩
      · have hpp : scan (linesL t.data.toList) 0 0 [] = (l, code, at_) := by
          rw [← HP.out]; unfold parseR
          have := TS.out
          rw [if_neg (by rw [CR.out]; omega)]
        rw [LR.out] at hpp
        have HS := Aside0.mk hpp
        have ST0 : Aside0 (St Ls (.slice A5 Ls.length c5) w 0 (.slice none 0 0) 0 wc) := ⟨⟨Well.nil, rfl, Kd.R_nil _ _ _ _ _, H5.out, HB.out⟩⟩
        clear hpp HP H5 HB LR CR TS
        go_wp2_with fail
        go_loopw [8, 9, 10, 11, 12] (fun v8 v9 i _ _ wr => ∃ (k : Nat) (n : Int), k ≤ Ls.length ∧ i = .int .i64 k ∧ v9 = .int .i64 n ∧ Aside0 (St Ls (.slice A5 Ls.length c5) w k v8 n wr)) (fun _ _ i _ _ _ => Ls.length - (RowKit.intOf i).toNat)
        case atStart => exact ⟨0, 0, Nat.zero_le _, rfl, rfl, ST0⟩
        case round =>
          clear ST0
          obtain ⟨k, n, hk, rfl, rfl, ST⟩ := hrel
          have hn0 : 0 ≤ n ∧ n ≤ 4194304 := by rw [ST.out.sum]; exact ST.out.well.2
          by_cases hlt : k < Ls.length
          · obtain ⟨g, eA, q⟩ := ST.out.strs.cell k hlt
            subst eA
            obtain ⟨x, hx⟩ : ∃ x, Ls[k] = x := ⟨_, rfl⟩
            rw [hx] at q
            have hf := span_f x 1000 (Nat.le_refl _)
            have hrd := span_read x
            obtain ⟨⟨s, b⟩, hsb⟩ : ∃ q, spanR x = q := ⟨_, rfl⟩
            rw [hsb] at hf hrd
            simp only at hf hrd
            have HF : Aside0 (vesperref07_Span.f 1000 x = some (s.f0, s.f1, s.f2, s.f3, s.f4, s.f5, s.f6, s.f7, s.f8, s.f9, b)) := ⟨hf⟩
            have HX := Aside0.mk hx
            have HD := Aside0.mk hrd
            have k0 : (k : Int) < (Ls.length : Int) := by omega
            have hk0 : (0 : Int) ≤ (k : Int) := by omega
            clear hf hx hrd hsb
            have hspl := Aside0.mk (split_map Ls k hlt)
            cases b
            · have hbad : (l, code, at_) = ([], 71, (k : Int) + 1) := by
                have h1 := HD.out.1
                have h2 := ST.out.well.bad (Ls[k], true) (by rw [HX.out, ← h1]; rfl) ((Ls.drop (k + 1)).map (fun a => (a, true)) ++ (if rest = [] then [] else [(r2, false)]))
                rw [← HS.out, hspl.out, List.append_assoc, h2]
                simp; omega
              simp only [Prod.mk.injEq] at hbad
              obtain ⟨rfl, rfl, rfl⟩ := hbad
              have BL := Aside0.mk ST.out.bel
              clear hspl HS
              go_wp2_with fail
              (with_reducible refine (vesperref07_Span.calls 1000 x s.f0 s.f1 s.f2 s.f3 s.f4 s.f5 s.f6 s.f7 s.f8 s.f9 false _ HF.out (GOk.below HG.out BL.out)).mono ?_)
              rintro e w2 ⟨rfl, hb2⟩
              have B2 := Aside0.mk (below_step BL.out hb2)
              clear hb2
              go_wp2
              go_ret3
              exact ⟨_, rfl, Kd.R_nil _ _ _ _ _, below_alloc B2.out _⟩
            · have h1 : (readR x).2 = true := HD.out.1.symm
              have hse : s = (readR x).1 := HD.out.2 h1
              have hrk := readR_ok x h1
              rw [← hse] at hrk
              have hs1 : 1 ≤ s.f0 ∧ s.f0 ≤ 1048576 := ⟨hrk.2.1, hrk.2.2.1⟩
              have HSE := Aside0.mk hse
              have HR1 := Aside0.mk h1
              have BL := Aside0.mk ST.out.bel
              clear hrk hse h1
              by_cases hov : 4194304 < n + s.f0
              · have hbad : (l, code, at_) = ([], 70, (k : Int) + 1) := by
                  have h2 := ST.out.well.long (Ls[k], true) (by rw [HX.out, HR1.out]; rfl) (by rw [HX.out, ← HSE.out, ← ST.out.sum]; exact hov) ((Ls.drop (k + 1)).map (fun a => (a, true)) ++ (if rest = [] then [] else [(r2, false)]))
                  rw [← HS.out, hspl.out, List.append_assoc, h2]
                  simp; omega
                simp only [Prod.mk.injEq] at hbad
                obtain ⟨rfl, rfl, rfl⟩ := hbad
                clear hspl HS
                go_wp2_with fail
                (with_reducible refine (vesperref07_Span.calls 1000 x s.f0 s.f1 s.f2 s.f3 s.f4 s.f5 s.f6 s.f7 s.f8 s.f9 true _ HF.out (GOk.below HG.out BL.out)).mono ?_)
                rintro e w2 ⟨rfl, hb2⟩
                have B2 := Aside0.mk (below_step BL.out hb2)
                clear hb2
                go_wp2
                go_ret3
                exact ⟨_, rfl, Kd.R_nil _ _ _ _ _, below_alloc B2.out _⟩
              · have hwell := ST.out.well.snoc (Ls[k], true) (by rw [HX.out, HR1.out]; rfl) (by rw [HX.out, ← HSE.out, ← ST.out.sum]; omega)
                have hsp : spansOf ((Ls.take (k + 1)).map fun a => (a, true)) = spansOf ((Ls.take k).map fun a => (a, true)) ++ [s] := by
                  rw [take_map Ls k hlt, spansOf_snoc, HX.out, HSE.out]
                have hsu : n + s.f0 = sumOf ((Ls.take (k + 1)).map fun a => (a, true)) := by
                  rw [take_map Ls k hlt, sumOf_snoc, HX.out, ← HSE.out, ← ST.out.sum]
                rw [← take_map Ls k hlt] at hwell
                have HW := Aside0.mk hwell
                have HSP := Aside0.mk hsp
                have HSU := Aside0.mk hsu
                have hlsp : (spansOf ((Ls.take k).map fun a => (a, true))).length ≤ 1000000 := by simp [spansOf]; omega
                clear hwell hsp hsu hspl
                go_wp2_with fail
                (with_reducible refine (vesperref07_Span.calls 1000 x s.f0 s.f1 s.f2 s.f3 s.f4 s.f5 s.f6 s.f7 s.f8 s.f9 true _ HF.out (GOk.below HG.out BL.out)).mono ?_)
                rintro e w2 ⟨rfl, hb2⟩
                have B2 := Aside0.mk (below_step BL.out hb2)
                have BX : Below _ _ (w2.alloc (.cells #[.int .i64 s.f0, .int .u16 s.f1, .bool s.f2, .bool s.f3, .bool s.f4, .bool s.f5, .bool s.f6, .bool s.f7, .bool s.f8, .int .u8 s.f9] 34)) := below_alloc hb2 _
                obtain ⟨v', w3, hrun, hR, hRS, hBB, hbig3⟩ := out_step (RWb ST.out.row BX) (RS.below ST.out.strs BX) (below_alloc B2.out _) (below_alloc B2.out _).size (by omega) s
                rw [World.size_alloc] at hrun
                have NX : Aside0 (St Ls (.slice (some ⟨g, 0, none⟩) Ls.length c5) w (k + 1) v' (n + s.f0) w3) := ⟨⟨HW.out, HSU.out, by rw [HSP.out]; exact hR, hRS, hBB⟩⟩
                clear hb2 BX hR hRS hBB hbig3 HW HSP HSU
                go_wp2
                go_roundw
                case rel => exact ⟨k + 1, n + s.f0, by omega, by go_num, by go_num, NX⟩
                case measure => simp [RowKit.intOf]; omega
          · obtain rfl : k = Ls.length := by omega
            have BL := Aside0.mk ST.out.bel
            have htk : (Ls.take Ls.length).map (fun a => (a, true)) = Ls.map (fun a => (a, true)) := by rw [List.take_length]
            have hwl := ST.out.well
            rw [htk] at hwl
            by_cases hr : rest = []
            · have e1 := R2.out
              subst hr
              have e2 : r2 = ⟨#[]⟩ := e1.symm
              subst e2
              have hres : (l, code, at_) = (spansOf (Ls.map fun a => (a, true)), 0, 0) := by
                rw [← HS.out, if_pos rfl, hwl.1 []]
                rfl
              simp only [Prod.mk.injEq] at hres
              obtain ⟨rfl, rfl, rfl⟩ := hres
              have RR := Aside0.mk (show RW _ _ _ (spansOf (Ls.map fun a => (a, true))) from by rw [← htk]; exact ST.out.row)
              clear hwl HS htk
              go_wp2
              go_ret3
              exact ⟨_, rfl, RR.out, BL.out⟩
            · have e1 := R2.out
              have hne : r2.toList = [] → False := fun h => hr (by
                have := (tl_iff r2 []).1 h
                rw [← e1] at this
                have h2 := congrArg (fun x : ByteArray => x.data.toList) this
                simpa using h2)
              have hb2 : r2.toList.isEmpty = false := by
                cases hh : r2.toList with
                | nil => exact (hne hh).elim
                | cons a b => rfl
              have hres : (l, code, at_) = ([], 71, many) := by
                have h2 := hwl.bad (r2, false) (by simp) []
                rw [List.append_nil] at h2
                rw [← HS.out, if_neg hr, h2, ← MY.out, if_neg hr]
                simp
              simp only [Prod.mk.injEq] at hres
              obtain ⟨rfl, rfl, rfl⟩ := hres
              clear hwl HS htk hne e1
              go_wp2
              go_ret3
              exact ⟨_, rfl, Kd.R_nil _ _ _ _ _, BL.out⟩
end Go.Proofs.YtdjffafcmomalaaDoor.RefParse
