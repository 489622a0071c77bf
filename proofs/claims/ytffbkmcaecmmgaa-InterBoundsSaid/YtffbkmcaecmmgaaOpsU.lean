/- The document's Decode and Encode: they tell the same orders as the program's. -/
import Derived.Test.YtffbkmcaecmmgaaOpsS
set_option linter.unusedVariables false
set_option linter.unusedSimpArgs false
namespace Go.Proofs.Ytffbkmcaecmmgaa.Ops
open Go Go.RowKit
open Go.Proofs.YtffbkmcaecmmgaaW.PrintWords Go.Proofs.Ytffbkmcaecmmgaa.PInterBounds

def dtup (w : Int) : Option Rw → Int × Int × Int × Int × Int × Int × Bool
  | none => (0, 0, 0, 0, 0, 0, false)
  | some r => ((dec r w).op, (dec r w).x, (dec r w).y, (dec r w).n, (dec r w).b, (dec r w).a, true)
theorem wtbl_mem {r : Rw} (h : r ∈ wtbl) : r ∈ tbl := by
  rw [tbl_split]
  unfold wtbl at h
  simp only [List.mem_cons] at h ⊢
  rcases h with h | h | h | h
  · exact .inr (.inr (.inl h))
  · exact .inl h
  · exact .inr (.inl h)
  · exact .inr (.inr (.inr h))
theorem wtbl_length : wtbl.length = 31 := rfl
theorem rd_w (i : Nat) (h : i < wtbl.length) : rd_T36 (wtbl.map toS) (i : Int) = toS wtbl[i] := by
  unfold rd_T36
  rw [Int.toNat_natCast, List.getD_eq_getElem?_getD, List.getElem?_map, List.getElem?_eq_getElem h]
  rfl
theorem machine_word : (tbl.all fun r => !(r.op == 1) || (r.word == 0 && r.mask == 61440)) = true := by decide +kernel
theorem machine_small {r : Rw} (hr : r ∈ tbl) (h : r.op = 1) (w : Int) (h0 : 0 ≤ w) (h1 : w < 65536) (hf : fitsB w r = true) : w < 4096 := by
  have q := List.all_eq_true.1 machine_word r hr
  have q2 : r.word = 0 ∧ r.mask = 61440 := by simpa [h] using q
  have e : Go.bits .and .u16 w r.mask = r.word := beq_iff_eq.1 hf
  rw [q2.1, q2.2, (and_int w h0 h1).1] at e
  omega
theorem find_cons (p : Rw → Bool) (r : Rw) (l : List Rw) : (r :: l).find? p = if p r = true then some r else l.find? p := by
  rw [List.find?_cons]
  cases p r <;> rfl
theorem dec_step (w : Int) (h0 : 0 ≤ w) (h1 : w < 65536) (L : List S36) (i : Nat) (hL : L.length = 31) (hi : i < 31) (r : Rw) (hr : r ∈ tbl) (hrd : rd_T36 L (i : Int) = toS r) (K : Nat) (hK : 20 ≤ K) (v : Int × Int × Int × Int × Int × Int × Bool) (ih : vesperref16_Decode.l0 K w L ((i : Int) - 1) = some v) :
    vesperref16_Decode.l0 (K + 1) w L (i : Int) = some (if fitsB w r = true then dtup w (some r) else v) := by
  have ew : wrap64 ((i : Int) - 1) = (i : Int) - 1 := by unfold wrap64; omega
  have o1 := order_f hr w h0 h1 K hK
  have o2 := word_f hr (dec r w) (dec_inR hr w) K hK
  have hf := fits_iff hr w h0 h1
  simp only [vesperref16_Decode.l0]
  rw [if_pos (by omega), if_pos (by omega), if_pos (by omega), hrd, ew, ih]
  simp only [toS]
  rw [o1]
  simp only [Option.bind_some]
  rw [o2]
  simp only [Option.bind_some]
  by_cases hfit : fitsB w r = true
  · rw [if_pos (hf.1 hfit), if_pos hfit]
    by_cases h2 : r.op = 1
    · rw [if_pos h2, if_pos (machine_small hr h2 w h0 h1 hfit)]
      rfl
    · rw [if_neg h2]
      rfl
  · rw [if_neg (fun e => hfit (hf.2 e)), if_neg hfit]
theorem dec_l0 (w : Int) (h0 : 0 ≤ w) (h1 : w < 65536) (i : Nat) (hi : i ≤ 31) : ∀ K : Nat, 21 ≤ K → vesperref16_Decode.l0 (K + i) w (wtbl.map toS) ((i : Int) - 1) = some (dtup w ((wtbl.take i).reverse.find? (fitsB w))) := by
  induction i with
  | zero =>
    intro K hK
    obtain ⟨k, rfl⟩ : ∃ k, K = k + 1 := ⟨K - 1, by omega⟩
    rw [Nat.add_zero]
    simp only [vesperref16_Decode.l0]
    rw [if_neg (by decide)]
    rfl
  | succ i ih =>
    intro K hK
    have hil : i < wtbl.length := by rw [wtbl_length]; omega
    have hs : (wtbl.take (i + 1)).reverse = wtbl[i] :: (wtbl.take i).reverse := by rw [List.take_succ_eq_append_getElem hil, List.reverse_append]; rfl
    have e : ((i + 1 : Nat) : Int) - 1 = (i : Int) := by omega
    rw [hs, find_cons, e, ← Nat.add_assoc, dec_step w h0 h1 _ i (by rw [List.length_map, wtbl_length]) (by omega) wtbl[i] (wtbl_mem (List.getElem_mem hil)) (rd_w i hil) (K + i) (by omega) _ (ih (by omega) K hK)]
    split <;> rfl
theorem decode_f (w : Int) (h0 : 0 ≤ w) (h1 : w < 65536) (K : Nat) (hK : 60 ≤ K) : vesperref16_Decode.f K w = some (dtup w (tbl.find? (fitsB w))) := by
  have h := dec_l0 w h0 h1 31 (by omega) (K - 31) (by omega)
  rw [show K - 31 + 31 = K by omega, show wtbl.take 31 = wtbl from rfl, find_same] at h
  unfold vesperref16_Decode.f
  rw [words_eq, Option.bind_some, List.length_map, wtbl_length, show wrap64 (((31 : Nat) : Int) - 1) = ((31 : Nat) : Int) - 1 by unfold wrap64; omega]
  exact h
theorem decP_of (w : Int) : decP w = (tbl.find? (fitsB w)).map fun r => dec r w := rfl
/-- What is Done of the document's answer is just what the program says. -/
theorem neq_eq (a b : Ord) : (!(a.op == b.op) || (!(a.x == b.x) || (!(a.y == b.y) || (!(a.n == b.n) || (!(a.b == b.b) || (!(a.a == b.a))))))) = !(eqO a b) := by
  unfold eqO
  cases a.op == b.op <;> cases a.x == b.x <;> cases a.y == b.y <;> cases a.n == b.n <;> cases a.b == b.b <;> cases a.a == b.a <;> rfl
theorem eqO_iff (a b : Ord) : eqO a b = true ↔ a.op = b.op ∧ a.x = b.x ∧ a.y = b.y ∧ a.n = b.n ∧ a.b = b.b ∧ a.a = b.a := by
  unfold eqO
  simp
theorem okB_inR {o : Ord} {r : Rw} (h : okB o r = true) : InR o := by
  unfold okB at h
  rw [Bool.and_eq_true, decP_of] at h
  cases hd : tbl.find? (fitsB (encF r.fds r.word o)) with
  | none => rw [hd] at h; exact absurd h.2 (by simp)
  | some q =>
    rw [hd] at h
    have hq := List.mem_of_find?_eq_some hd
    obtain ⟨_, ex, ey, en, eb, ea⟩ := (eqO_iff _ _).1 h.2
    have hi := dec_inR hq (encF r.fds r.word o)
    obtain ⟨x0, x1, y0, y1, n0, n1, b0, b1, a0, a1⟩ := hi
    simp only at ex ey en eb ea
    constructor <;> omega
theorem ops_pos : (tbl.all fun r => decide (1 ≤ r.op)) = true := by decide +kernel
theorem j1_f (o : Ord) (r : Rw) (hr : r ∈ tbl) (hop : r.op = o.op) (hi : InR o) (L : List S36) (i : Nat) (hil : i < L.length) (hrd : rd_T36 L (i : Int) = toS r) (K : Nat) (hK : 60 ≤ K) :
    ∃ x e, vesperref16_Encode.j1 (K + 1) L (i : Int) false o.op o.x o.y o.n o.b o.a = some (x, e) ∧ okB o r = (e == 0) := by
  obtain ⟨s1, s2, s3⟩ := encF_sum hr o hi
  have o2 := word_f hr o hi K (by omega)
  have o3 := decode_f (r.word + sumV r.fds o) s2 s3 K hK
  simp only [vesperref16_Encode.j1]
  rw [if_neg (by decide), if_pos (by omega), if_pos (by omega), hrd]
  simp only [toS]
  rw [hop] at o2
  rw [hop, o2]
  simp only [Option.bind_some]
  rw [o3]
  simp only [Option.bind_some]
  unfold okB
  rw [s1, decP_of, hop]
  cases hd : tbl.find? (fitsB (r.word + sumV r.fds o)) with
  | none =>
    have hp := List.all_eq_true.1 ops_pos r hr
    have hp2 : 1 ≤ r.op := of_decide_eq_true hp
    have h0 : ((0 : Int) == o.op) = false := beq_eq_false_iff_ne.2 (by omega)
    refine ⟨0, 160, if_pos ?_, by simp⟩
    show (!((0 : Int) == o.op) || _) = true
    rw [h0]
    rfl
  | some q =>
    have hn := neq_eq (dec q (r.word + sumV r.fds o)) o
    cases he : eqO (dec q (r.word + sumV r.fds o)) o
    · rw [he] at hn
      exact ⟨0, 160, if_pos hn, by simp [he]⟩
    · rw [he] at hn
      exact ⟨r.word + sumV r.fds o, 0, if_neg (fun hc => absurd (hn.symm.trans hc) (by decide)), by simp [he]⟩
theorem wops_ne : (wtbl.map fun a => a.op).Pairwise (fun a b => a ≠ b) := by decide +kernel
theorem rng_in {o : Ord} (ho : o.Ok) (h1 : ¬ o.x > 15) (h2 : ¬ o.y > 15) (h3 : ¬ o.n > 15) (h4 : ¬ o.a > 4095) : InR o := by
  obtain ⟨_, _, a1, a2, a3, a4, a5, a6, a7, a8, a9, a10⟩ := ho
  constructor <;> omega
theorem any_drop (o : Ord) (i : Nat) (hil : i < wtbl.length) : (wtbl.drop i).any (okB o) = (okB o wtbl[i] || (wtbl.drop (i + 1)).any (okB o)) := by
  rw [List.drop_eq_getElem_cons hil, List.any_cons]
theorem enc_l0 (o : Ord) (ho : o.Ok) : ∀ (d i : Nat), i + d = 31 → ∃ x e, vesperref16_Encode.l0 (d + 70) (wtbl.map toS) (i : Int) o.op o.x o.y o.n o.b o.a = some (x, e) ∧ (wtbl.drop i).any (okB o) = (e == 0) := by
  intro d
  induction d with
  | zero =>
    intro i hi
    obtain rfl : i = 31 := by omega
    refine ⟨0, 160, ?_, rfl⟩
    show vesperref16_Encode.l0 (69 + 1) _ _ _ _ _ _ _ _ = _
    rw [vesperref16_Encode.l0]
    rw [if_neg (by rw [List.length_map, wtbl_length]; omega)]
  | succ d ih =>
    intro i hi
    have hil : i < wtbl.length := by rw [wtbl_length]; omega
    have hr : wtbl[i] ∈ tbl := wtbl_mem (List.getElem_mem hil)
    have hrd := rd_w i hil
    have hlen : (wtbl.map toS).length = 31 := by rw [List.length_map, wtbl_length]
    have hpw : ∀ q ∈ wtbl.drop (i + 1), wtbl[i].op ≠ q.op := by
      have h := (List.pairwise_map.1 wops_ne).sublist (List.drop_sublist i wtbl)
      rw [List.drop_eq_getElem_cons hil, List.pairwise_cons] at h
      exact h.1
    have ew : wrap64 ((i : Int) + 1) = ((i + 1 : Nat) : Int) := by unfold wrap64; omega
    have hany := any_drop o i hil
    rw [hany]
    obtain ⟨r, hrr⟩ : ∃ r, wtbl[i] = r := ⟨_, rfl⟩
    rw [hrr] at hr hrd hpw ⊢
    rw [show d + 1 + 70 = (d + 70) + 1 by omega]
    rw [vesperref16_Encode.l0]
    rw [if_pos (by omega), if_pos (by omega), hrd]
    by_cases hop : r.op = o.op
    · have hrest : (wtbl.drop (i + 1)).any (okB o) = false := by
        rw [List.any_eq_false]
        intro q hq hk
        unfold okB at hk
        rw [Bool.and_eq_true] at hk
        exact hpw q hq (hop.trans (beq_iff_eq.1 hk.1).symm)
      rw [if_pos (show (toS r).f0 = o.op from hop), hrest, Bool.or_false]
      have bad : ¬ InR o → okB o r = ((160 : Int) == 0) := fun hn => by
        cases hk : okB o r
        · rfl
        · exact (hn (okB_inR hk)).elim
      have jt : vesperref16_Encode.j1 (d + 70) (wtbl.map toS) (i : Int) true o.op o.x o.y o.n o.b o.a = some (0, 160) := by
        show vesperref16_Encode.j1 (d + 69 + 1) _ _ _ _ _ _ _ _ _ = _
        rw [vesperref16_Encode.j1]
        rw [if_pos rfl]
      by_cases hx : o.x > 15
      · rw [if_pos hx, jt]
        exact ⟨0, 160, rfl, bad (fun h => by have := h.x1; omega)⟩
      · rw [if_neg hx]
        by_cases hy : o.y > 15
        · rw [if_pos hy, jt]
          exact ⟨0, 160, rfl, bad (fun h => by have := h.y1; omega)⟩
        · rw [if_neg hy]
          by_cases hn : o.n > 15
          · rw [if_pos hn, jt]
            exact ⟨0, 160, rfl, bad (fun h => by have := h.n1; omega)⟩
          · rw [if_neg hn]
            by_cases ha : o.a > 4095
            · rw [decide_eq_true ha, jt]
              exact ⟨0, 160, rfl, bad (fun h => by have := h.a1; omega)⟩
            · rw [decide_eq_false ha]
              exact j1_f o r hr hop (rng_in ho hx hy hn ha) _ i (by rw [hlen]; omega) hrd (d + 69) (by omega)
    · have hk : okB o r = false := by unfold okB; rw [beq_eq_false_iff_ne.2 hop, Bool.false_and]
      rw [if_neg (show ¬ (toS r).f0 = o.op from hop), hk, Bool.false_or, ew]
      exact ih (i + 1) (by omega)
theorem any_same (o : Ord) : wtbl.any (okB o) = tbl.any (okB o) := by
  rw [tbl_split]
  unfold wtbl
  simp only [List.any_cons]
  cases okB o rowM <;> cases okB o rowC <;> cases okB o rowR <;> rfl
theorem ref_said : RefSaid := by
  intro o ho
  obtain ⟨x, e, h1, h2⟩ := enc_l0 o ho 31 0 rfl
  refine ⟨101, x, e, ?_, ?_⟩
  · unfold vesperref16_Encode.f
    rw [words_eq]
    exact h1
  · rw [← any_same]
    exact h2
end Go.Proofs.Ytffbkmcaecmmgaa.Ops
