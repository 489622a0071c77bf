/- vesperref07.Span, plain: the loop over the words, and what is told of a line. -/
import Derived.Test.YtdjffafcmomalaaDoorScrSpanP
set_option linter.unusedVariables false
set_option linter.unusedSimpArgs false
namespace Go.Proofs.YtdjffafcmomalaaDoor.Scr
open Go Go.RowKit
open Go.Proofs.YtdjffafcmomalaaDoorW.PrintWords Go.Proofs.YtdjffafcmomalaaDoor.PScr

theorem tl_iff (x : ByteArray) (l : List UInt8) : x.toList = l ↔ x = ⟨l.toArray⟩ := by
  constructor
  · intro h
    apply Classical.byContradiction
    intro hne
    have := str_ne x l hne
    rw [h] at this
    simp at this
  · intro h
    have h2 := beq_list x ⟨l.toArray⟩
    have h3 : (x == (⟨l.toArray⟩ : ByteArray)) = true := (MapKept.bytes_beq _ _).2 h
    rw [h3] at h2
    have h4 := eq_of_beq h2
    rw [h4]
    simp [ByteArray.toList_eq]
def stepR (s : S34) (x : ByteArray) (r : List ByteArray) : S34 :=
  if x = tkeys then { s with f1 := hexOf r } else if x = ttape then { s with f2 := true } else if x = tflag then { s with f3 := true } else if x = tin then { s with f4 := true }
  else if x = tout then { s with f5 := true } else if x = tint then { s with f6 := true } else if x = tclear then { s with f7 := true } else if x = twait then { s with f8 := true }
  else if x = tbus then { s with f9 := hexOf r % 256 } else s
def refLoop : S34 → List ByteArray → S34
  | s, [] => s
  | s, x :: r => refLoop (stepR s x r) r
def Bd (s : S34) : Prop := 0 ≤ s.f1 ∧ s.f1 < 65536 ∧ 0 ≤ s.f9 ∧ s.f9 < 256
theorem Bd.step {s : S34} (h : Bd s) (x : ByteArray) (r : List ByteArray) : Bd (stepR s x r) ∧ (stepR s x r).f0 = s.f0 := by
  have hb := hexOf_bd r
  unfold stepR Bd at *
  repeat' split
  all_goals (refine ⟨?_, rfl⟩; (try simp only); omega)
theorem Bd.loop : ∀ (d : List ByteArray) (s : S34), Bd s → Bd (refLoop s d) ∧ (refLoop s d).f0 = s.f0
  | [], s, h => ⟨h, rfl⟩
  | x :: r, s, h => by
    have h1 := h.step x r
    have h2 := Bd.loop r (stepR s x r) h1.1
    exact ⟨h2.1, h2.2.trans h1.2⟩
def tup (s : S34) (b : Bool) : Int × Int × Bool × Bool × Bool × Bool × Bool × Bool × Bool × Int × Bool := (s.f0, s.f1, s.f2, s.f3, s.f4, s.f5, s.f6, s.f7, s.f8, s.f9, b)
def inR (s : S34) : Bool := decide (1 ≤ s.f0) && decide (s.f0 ≤ 1048576)
theorem span_l0 (x0 : ByteArray) : ∀ (d p : List ByteArray) (s : S34) (k : Nat), d.length + 40 ≤ k → p.length + d.length ≤ 1000 → Bd s →
    vesperref07_Span.l0 k x0 (p ++ d) (p.length : Int) s.f0 s.f1 s.f2 s.f3 s.f4 s.f5 s.f6 s.f7 s.f8 s.f9 = some (tup (refLoop s d) (inR (refLoop s d) && (lineB (refLoop s d) == x0))) := by
  intro d
  induction d with
  | nil =>
    intro p s k hk hp hb
    obtain ⟨k, rfl⟩ : ∃ j, k = j + 1 := ⟨k - 1, by omega⟩
    rw [vesperref07_Span.l0, if_neg (by simp)]
    show _ = some (tup s (inR s && (lineB s == x0)))
    unfold inR tup
    by_cases c1 : s.f0 ≥ 1
    · rw [if_pos c1, decide_eq_true c1]
      by_cases c2 : s.f0 ≤ 1048576
      · have ho : okS s = true := by
          unfold Bd at hb
          simp only [okS, Bool.and_eq_true, decide_eq_true_eq]; omega
        rw [if_pos c2, decide_eq_true c2]
        unfold vesperref07_Line.f
        rw [if_pos ho, Option.bind_some, beq_list]
        rfl
      · rw [if_neg c2, decide_eq_false c2]; rfl
    · rw [if_neg c1, decide_eq_false c1]; rfl
  | cons x r ih =>
    intro p s k hk hp hb
    simp only [List.length_cons] at hk hp
    obtain ⟨k, rfl⟩ : ∃ j, k = j + 1 := ⟨k - 1, by omega⟩
    have hb' := hb.step x r
    have hh := hexOf_bd r
    have hw : wrap64 ((p.length : Int) + 1) = ((p ++ [x]).length : Int) := by rw [w64 (by omega) (by omega)]; simp
    have hhex : vesperref07_hex.f k (p ++ x :: r) ((p ++ [x]).length : Int) = some (hexOf r) := by
      have := hex_f (p ++ [x]) r k (by omega)
      rwa [show (p ++ [x]) ++ r = p ++ x :: r by simp] at this
    have hgo : ∀ s', Bd s' → vesperref07_Span.l0 k x0 (p ++ x :: r) ((p ++ [x]).length : Int) s'.f0 s'.f1 s'.f2 s'.f3 s'.f4 s'.f5 s'.f6 s'.f7 s'.f8 s'.f9 = some (tup (refLoop s' r) (inR (refLoop s' r) && (lineB (refLoop s' r) == x0))) := by
      intro s' hs'
      have := ih (p ++ [x]) s' k (by omega) (by simp; omega) hs'
      rwa [show (p ++ [x]) ++ r = p ++ x :: r by simp] at this
    have h16 : IntKind.u16.wrap (hexOf r) = hexOf r := by
      simp [IntKind.wrap, IntKind.bits, IntKind.signed]; omega
    have h8 : Int.tmod (hexOf r) 256 % 256 = hexOf r % 256 := by
      rw [Int.tmod_eq_emod_of_nonneg hh.1]; omega
    rw [vesperref07_Span.l0, rdOf_at, hw, hhex, if_pos (by simp; omega), if_pos (by omega)]
    simp only [Option.bind_some, tl_iff, h16, h8]
    show _ = some (tup (refLoop (stepR s x r) r) (inR (refLoop (stepR s x r) r) && (lineB (refLoop (stepR s x r) r) == x0)))
    have e := hgo (stepR s x r) hb'.1
    rw [← e]
    unfold stepR
    repeat' split
    all_goals rfl
def spanR (x : ByteArray) : S34 × Bool := if x.size > 100 then (⟨0, 0, false, false, false, false, false, false, false, 0⟩, false) else (refLoop (zero34 (decR ((wordsOf x).headD ⟨#[]⟩))) (wordsOf x).tail, inR (refLoop (zero34 (decR ((wordsOf x).headD ⟨#[]⟩))) (wordsOf x).tail) && (lineB (refLoop (zero34 (decR ((wordsOf x).headD ⟨#[]⟩))) (wordsOf x).tail) == x))
theorem words_count (x : ByteArray) : (wordsOf x).length ≤ x.size + 1 := by
  have h1 := words_len x
  have h2 := count_le x
  omega
theorem span_f (x : ByteArray) (k : Nat) (hk : 1000 ≤ k) : vesperref07_Span.f k x = some (tup (spanR x).1 (spanR x).2) := by
  unfold vesperref07_Span.f spanR
  by_cases c : x.size > 100
  · rw [if_pos (by omega), if_pos c]; rfl
  · rw [if_neg (by omega), if_neg c, words_f x (by omega) k (by omega), Option.bind_some]
    have hlen := words_count x
    cases hw : wordsOf x with
    | nil => have := words_len x; rw [hw] at this; simp at this
    | cons a r =>
      rw [hw] at hlen
      simp only [List.length_cons] at hlen
      have hrd : rdOf ByteArray.empty (a :: r) 0 = a := rdOf_at [] a r
      rw [if_pos (by simp), hrd, decimal_f a k (by omega), Option.bind_some]
      have := span_l0 x r [a] (zero34 (decR a)) k (by omega) (by simp; omega) (by unfold Bd zero34; simp only; omega)
      exact this

/-! ### Its own line -/
def hexy (a : List UInt8) : Prop := ∀ c ∈ a, c.toNat ≤ 102
theorem hexB_small (d : Int) (h0 : 0 ≤ d) (h1 : d < 16) : (UInt8.ofNat (hexD d).toNat).toNat ≤ 102 := by
  have e : (UInt8.ofNat (hexD d).toNat).toNat = (hexD d).toNat := UInt8.toNat_ofNat_of_lt' (by unfold hexD; simp [UInt8.size]; split <;> omega)
  rw [e]; unfold hexD; split <;> omega
theorem hexS4_small (n : Int) : hexy (hexS4 n).data.toList := by
  intro x hx
  rw [hexS4_bytes] at hx
  simp only [List.mem_cons, List.not_mem_nil, or_false] at hx
  rcases hx with rfl | rfl | rfl | rfl <;> exact hexB_small _ (by omega) (by omega)
theorem hexS2_small (n : Int) : hexy (hexS2 n).data.toList := by
  intro x hx
  rw [hexS2_bytes] at hx
  simp only [List.mem_cons, List.not_mem_nil, or_false] at hx
  rcases hx with rfl | rfl <;> exact hexB_small _ (by omega) (by omega)
theorem step_hexy (s : S34) (x : ByteArray) (r : List ByteArray) (h : hexy x.data.toList) : stepR s x r = s := by
  have ne : ∀ t : ByteArray, (∃ c ∈ t.data.toList, 102 < c.toNat) → x ≠ t := by
    rintro t ⟨c, hc, hlt⟩ rfl
    have := h c hc
    omega
  unfold stepR
  rw [if_neg (ne tkeys ⟨107, by decide, by decide⟩), if_neg (ne ttape ⟨116, by decide, by decide⟩), if_neg (ne tflag ⟨108, by decide, by decide⟩), if_neg (ne tin ⟨110, by decide, by decide⟩), if_neg (ne tout ⟨111, by decide, by decide⟩), if_neg (ne tint ⟨110, by decide, by decide⟩), if_neg (ne tclear ⟨108, by decide, by decide⟩), if_neg (ne twait ⟨119, by decide, by decide⟩), if_neg (ne tbus ⟨117, by decide, by decide⟩)]
theorem hexY4 (n : Int) (h0 : 0 ≤ n) (h1 : n < 65536) : hexY (hexS4 n) = n := by
  unfold hexY
  rw [numR_hex4 n h0 h1, if_pos rfl, if_neg (by simp only; omega)]
theorem hexY2 (n : Int) (h0 : 0 ≤ n) (h1 : n < 256) : hexY (hexS2 n) = n := by
  unfold hexY
  rw [numR_hex2 n h0 h1, if_pos rfl, if_neg (by simp only; omega)]
theorem bt_data (x : ByteArray) : bt x.data.toList = x := by simp [bt]
theorem ref_flag (s s' : S34) (b : Bool) (x : ByteArray) (r : List ByteArray) (hs : ∀ r, (if b then stepR s x r else s) = s') : refLoop s ((kwF b x).map bt ++ r) = refLoop s' r := by
  unfold kwF
  cases b
  · have := hs r; simp at this; subst this; rfl
  · have := hs r
    simp only [if_true] at this ⊢
    show refLoop (stepR s (bt x.data.toList) r) r = _
    rw [bt_data, this]
theorem ref_rest (s : S34) (hk : 0 ≤ s.f1 ∧ s.f1 < 65536) (hb : 0 ≤ s.f9 ∧ s.f9 < 256) : refLoop (zero34 s.f0) ((rest s).map bt) = s := by
  obtain ⟨f0, f1, f2, f3, f4, f5, f6, f7, f8, f9⟩ := s
  unfold rest
  simp only [List.map_append] at *
  have hK : ∀ r, refLoop (zero34 f0) ((kwK ⟨f0, f1, f2, f3, f4, f5, f6, f7, f8, f9⟩).map bt ++ r) = refLoop ⟨f0, f1, false, false, false, false, false, false, false, 0⟩ r := by
    intro r
    unfold kwK
    by_cases c : f1 = 0
    · rw [if_pos c]; subst c; rfl
    · rw [if_neg c]
      show refLoop (stepR (stepR (zero34 f0) (bt tkeys.data.toList) (bt (hexS4 f1).data.toList :: r)) (bt (hexS4 f1).data.toList) r) r = _
      rw [bt_data, bt_data, step_hexy _ (hexS4 f1) r (hexS4_small f1)]
      show refLoop { zero34 f0 with f1 := hexY (hexS4 f1) } r = _
      rw [hexY4 f1 hk.1 hk.2]
      rfl
  rw [hK]
  rw [ref_flag _ ⟨f0, f1, f2, false, false, false, false, false, false, 0⟩ f2 ttape _ (fun _ => by cases f2 <;> rfl)]
  rw [ref_flag _ ⟨f0, f1, f2, f3, false, false, false, false, false, 0⟩ f3 tflag _ (fun _ => by cases f3 <;> rfl)]
  rw [ref_flag _ ⟨f0, f1, f2, f3, f4, false, false, false, false, 0⟩ f4 tin _ (fun _ => by cases f4 <;> rfl)]
  rw [ref_flag _ ⟨f0, f1, f2, f3, f4, f5, false, false, false, 0⟩ f5 tout _ (fun _ => by cases f5 <;> rfl)]
  rw [ref_flag _ ⟨f0, f1, f2, f3, f4, f5, f6, false, false, 0⟩ f6 tint _ (fun _ => by cases f6 <;> rfl)]
  rw [ref_flag _ ⟨f0, f1, f2, f3, f4, f5, f6, f7, false, 0⟩ f7 tclear _ (fun _ => by cases f7 <;> rfl)]
  rw [ref_flag _ ⟨f0, f1, f2, f3, f4, f5, f6, f7, f8, 0⟩ f8 twait _ (fun _ => by cases f8 <;> rfl)]
  unfold kwB
  by_cases c : f9 = 0
  · rw [if_pos c]; subst c; rfl
  · rw [if_neg c]
    show refLoop (stepR (stepR _ (bt tbus.data.toList) (bt (hexS2 f9).data.toList :: [])) (bt (hexS2 f9).data.toList) []) [] = _
    rw [bt_data, bt_data, step_hexy _ (hexS2 f9) [] (hexS2_small f9)]
    show (⟨f0, f1, f2, f3, f4, f5, f6, f7, f8, hexY (hexS2 f9) % 256⟩ : S34) = _
    rw [hexY2 f9 hb.1 hb.2, show f9 % 256 = f9 by omega]
theorem span_line (s : S34) (hk : okS s = true) (h0 : 1 ≤ s.f0) (h1 : s.f0 ≤ 1048576) : spanR (lineB s) = (s, true) := by
  have hks := hk
  simp only [okS, Bool.and_eq_true, decide_eq_true_eq] at hk
  have hw := line_words s (by omega)
  have hl := ref_rest s ⟨hk.1.1.1.2, hk.1.1.2⟩ ⟨hk.1.2, hk.2⟩
  have hsz := lineB_size s hks
  unfold spanR
  rw [if_neg (by omega), hw]
  simp only [List.map_cons, List.headD_cons, List.tail_cons]
  have hd : decR (⟨(Lib.itoa s.f0).toArray⟩ : ByteArray) = s.f0 := decR_itoa s.f0 h0 h1
  rw [hd]
  have hl' : refLoop (zero34 s.f0) ((rest s).map fun a => (⟨a.toArray⟩ : ByteArray)) = s := hl
  rw [hl']
  have hin : inR s = true := by unfold inR; rw [decide_eq_true h0, decide_eq_true h1]; rfl
  rw [hin, (MapKept.bytes_beq _ _).2 rfl]; rfl
/-- The two readings of a line are one. -/
theorem span_read (x : ByteArray) : (spanR x).2 = (readR x).2 ∧ ((readR x).2 = true → (spanR x).1 = (readR x).1) := by
  by_cases h : (readR x).2 = true
  · obtain ⟨a, b, c, d⟩ := readR_ok x h
    have := span_line (readR x).1 a b c
    rw [d] at this
    exact ⟨by rw [this, h], fun _ => by rw [this]⟩
  · refine ⟨?_, fun h' => (h h').elim⟩
    rw [Bool.not_eq_true] at h
    rw [h]
    rw [← Bool.not_eq_true]
    intro h2
    unfold spanR at h2
    by_cases c : x.size > 100
    · rw [if_pos c] at h2; cases h2
    · rw [if_neg c] at h2
      simp only [Bool.and_eq_true] at h2
      obtain ⟨⟨s, hs⟩⟩ : Nonempty { s // refLoop (zero34 (decR ((wordsOf x).headD ⟨#[]⟩))) (wordsOf x).tail = s } := ⟨⟨_, rfl⟩⟩
      have hb := (Bd.loop (wordsOf x).tail (zero34 (decR ((wordsOf x).headD ⟨#[]⟩))) (by unfold Bd zero34; simp only; omega)).1
      rw [hs] at h2 hb
      have hin := h2.1
      unfold inR at hin
      simp only [Bool.and_eq_true, decide_eq_true_eq] at hin
      have ho : okS s = true := by
        unfold Bd at hb
        simp only [okS, Bool.and_eq_true, decide_eq_true_eq]; omega
      have hx := (MapKept.bytes_beq _ _).1 h2.2
      have := read_line s ho hin.1 hin.2
      rw [hx, ] at this
      rw [this] at h
      cases h
end Go.Proofs.YtdjffafcmomalaaDoor.Scr
