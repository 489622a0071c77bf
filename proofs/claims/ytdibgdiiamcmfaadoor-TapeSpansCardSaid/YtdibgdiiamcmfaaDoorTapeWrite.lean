/- tape.Write: bytes as waves behind a leader: what it answers, for every list of bytes and every leader that may be. Conditions: at most 16384 bytes, a leader of 0 to 16384, each byte one. -/
import Derived.Test.YtdibgdiiamcmfaaDoorTapeBits
import Derived.Test.YtdibgdiiamcmfaaDoorPTapex0
import Derived.Stop.RegionWithIn
set_option linter.unusedVariables false
set_option linter.unusedSimpArgs false
namespace Go.Proofs.YtdibgdiiamcmfaaDoor.Write
open Go.RowKit Go.Shelf
open Go.Proofs.YtdibgdiiamcmfaaDoor.Bits (tenOf bits_in bits_stops Kb kb_t kb_b)
open Go.Proofs.YtdibgdiiamcmfaaDoorW.PrintWords Go.Proofs.YtdibgdiiamcmfaaDoor.PTape
attribute [local go_sem] Oper.semAt_some

def half (b : Bool) : Int := if b then 140 else 56
def cellsOf (l : List Bool) : List Value := l.flatMap fun b => [Value.int .i64 (half b), Value.int .i64 (half b)]
theorem cellsOf_snoc (l : List Bool) (b : Bool) : cellsOf (l ++ [b]) = cellsOf l ++ [Value.int .i64 (half b), Value.int .i64 (half b)] := by simp [cellsOf]


set_option maxRecDepth 100000 in
theorem wave_in (F : Fence) (n : Nat) (h24 : F.fn 24) (hro : F.round = none) (b : Bool) (w : World) :
    CallsIn F n Tryd.prog 24 #[.bool b] w fun e w' => e = .returned (.agg #[.int .i64 (half b), .int .i64 (half b)]) ∧ w' = w.alloc (.cells #[.int .i64 (half b), .int .i64 (half b)] 37) := by
  refine callsIn_of_wp Tryd.func24 rfl h24 ?_ hro
  simp only [Tryd.ntmps24, List.size_toArray, List.length_cons, List.length_nil, Nat.reduceAdd, Nat.reduceSub, Array.replicate_succ, Array.replicate_zero, List.push_toArray, List.append_toArray, List.nil_append, List.cons_append]
  cases b
  all_goals
    gi_wp2
  · exact bodyPost_ret (v := .agg #[.int .i64 56, .int .i64 56]) (by simp [results, Tryd.results24, go_sem]) rfl ⟨rfl, rfl⟩
  · exact bodyPost_ret (v := .agg #[.int .i64 140, .int .i64 140]) (by simp [results, Tryd.results24, go_sem]) rfl ⟨rfl, rfl⟩

/-- The marks of loops that have ended. -/
def Marks (B : Nat) (W : World) (ds : List Deferred) : Prop :=
  ∃ Ds : List Nat, ds = Ds.map (fun D => { target := .collected D, args := #[] }) ∧ Ds.Nodup ∧ ∀ D ∈ Ds, B ≤ D ∧ W.heap[D]? = some (.deferred (some []))
theorem Marks.nil (B : Nat) (W : World) : Marks B W [] := ⟨[], rfl, List.nodup_nil, by simp⟩
theorem Marks.step {B : Nat} {W W' : World} {ds : List Deferred} (h : Marks B W ds) (hk : ∀ D, B ≤ D → W.heap[D]? = some (.deferred (some [])) → W'.heap[D]? = some (.deferred (some []))) : Marks B W' ds := by
  obtain ⟨Ds, rfl, hn, hD⟩ := h
  exact ⟨Ds, rfl, hn, fun D hd => ⟨(hD D hd).1, hk D (hD D hd).1 (hD D hd).2⟩⟩
theorem Marks.others {B : Nat} {W W' : World} {ds : List Deferred} (h : Marks B W ds) (hk : KeepsOthers W W') : Marks B W' ds := h.step fun D _ hd => hk.same D _ hd rfl
theorem Marks.lt {B : Nat} {W : World} {ds : List Deferred} (h : Marks B W ds) {b : Nat} (hb : W.heap.size ≤ b) : ∀ Ds : List Nat, ds = Ds.map (fun D => { target := .collected D, args := #[] }) → True := fun _ _ => trivial
theorem Marks.cons {B D : Nat} {W W' : World} {ds : List Deferred} (h : Marks B W ds) (hk : ∀ k, k < W.heap.size → W.heap[k]? = some (.deferred (some [])) → W'.heap[k]? = some (.deferred (some []))) (hB : B ≤ D) (hw : W.heap.size ≤ D) (hD : W'.heap[D]? = some (.deferred (some []))) :
    Marks B W' ({ target := .collected D, args := #[] } :: ds) := by
  obtain ⟨Ds, rfl, hn, hDs⟩ := h
  have hlt : ∀ k ∈ Ds, k < W.heap.size := fun k hk => (Array.getElem?_eq_some_iff.1 (hDs k hk).2).1
  refine ⟨D :: Ds, rfl, List.nodup_cons.2 ⟨fun hm => by have := hlt D hm; omega, hn⟩, fun k hm => ?_⟩
  rcases List.mem_cons.1 hm with rfl | hm
  · exact ⟨hB, hD⟩
  · exact ⟨(hDs k hm).1, hk k (hlt k hm) (hDs k hm).2⟩

/-- A frame that leaves with such marks: each is shut. -/
theorem leaves_marks {F : Fence} {n : Nat} {P : Program} {fn : Func} {tmps : Array Value} {R : Ending → World → Prop} {B : Nat} (I : World → Prop)
    (hI : ∀ (W : World) (D : Nat), I W → B ≤ D → W.heap[D]? = some (.deferred (some [])) → I (W.putObj D (.deferred none)))
    (hend : ∀ W, I W → ∃ v, (results fn tmps).run P W = .ok v W ∧ R (.returned v) W) :
    ∀ (Ds : List Nat) (W : World), Ds.Nodup → (∀ D ∈ Ds, B ≤ D ∧ W.heap[D]? = some (.deferred (some []))) → I W →
      LeavesInM F n P fn tmps R (Ds.map fun D => { target := .collected D, args := #[] }) .returning W
  | [], W, _, _, hi => hend W hi
  | D :: Ds, W, hn, hD, hi => by
    have h1 := hD D List.mem_cons_self
    refine ⟨by simp, .inl ⟨D, _, rfl, run_takeDeferred h1.2, ?_⟩⟩
    refine leaves_marks I hI hend Ds _ (List.nodup_cons.1 hn).2 (fun k hk => ⟨(hD k (List.mem_cons_of_mem _ hk)).1, ?_⟩) (hI W D hi h1.1 h1.2)
    have hne : D ≠ k := fun e => (List.nodup_cons.1 hn).1 (e ▸ hk)
    rw [World.putObj_heap_other (fun e => hne e.symm)]
    exact (hD k (List.mem_cons_of_mem _ hk)).2


/-- What was a mark is one. -/
def KM (w W : World) : Prop := ∀ k : Nat, w.heap[k]? = some (.deferred (some [])) → W.heap[k]? = some (.deferred (some []))
theorem KM.refl (w : World) : KM w w := fun _ h => h
theorem KM.trans {a b c : World} (h : KM a b) (k : KM b c) : KM a c := fun i hi => k i (h i hi)
theorem KM.others {w W W' : World} (h : KM w W) (hk : KeepsOthers W W') : KM w W' := fun i hi => hk.same i _ (h i hi) rfl

/-- Waves of the call's own, in the box B. -/
def Has (n₀ B : Nat) (acc : List Bool) (W : World) : Prop := ∃ v, Boxed W B 24 v ∧ W.ownsRow n₀ 37 2 v acc.length (cellsOf acc) ∧ True

/-- append, kept shut in a walk. -/
def appG (ts : Array TypeId) (t : TypeId) (xs : Array Value) : Sem Value := Builtin.append_ ts t xs
theorem appG_eq (ts : Array TypeId) (t : TypeId) (xs : Array Value) : Builtin.append_ ts t xs = appG ts t xs := rfl
attribute [local go_sem ↓ high] appG_eq

/-- One more wave: the append, in the world in which it stands. -/
theorem one_more {n₀ B : Nat} {acc : List Bool} {W : World} {v : Value} (b : Bool) (hv : Boxed W B 24 v) (hrow : W.ownsRow n₀ 37 2 v acc.length (cellsOf acc)) (hB : n₀ ≤ B) (hl : acc.length + 1 ≤ 1000000) :
    ∃ g cap w1, (appG #[24, 24] 24 #[v, .slice (some ⟨W.heap.size + 1, 0, none⟩) 1 1]).run Tryd.prog ((W.alloc (.cells #[.int .i64 (half b), .int .i64 (half b)] 37)).alloc (.cells #[.int .i64 (half b), .int .i64 (half b)] 37)).drew = .ok (.slice (some ⟨g, 0, none⟩) (acc.length + 1) cap) w1 ∧
      w1.cell? ⟨B, 0, none⟩ = some v ∧ w1.frozen? ⟨B, 0, none⟩ = false ∧
      Has n₀ B (acc ++ [b]) (w1.setCell ⟨B, 0, none⟩ (.slice (some ⟨g, 0, none⟩) (acc.length + 1) cap)) ∧
      KeepsOthers W (w1.setCell ⟨B, 0, none⟩ (.slice (some ⟨g, 0, none⟩) (acc.length + 1) cap)) ∧
      Below n₀ W (w1.setCell ⟨B, 0, none⟩ (.slice (some ⟨g, 0, none⟩) (acc.length + 1) cap)) ∧
      (∀ (Bn t' : Nat) (u : Value), Boxed W Bn t' u → t' ≠ 37 → Bn ≠ B → Kb Bn W (w1.setCell ⟨B, 0, none⟩ (.slice (some ⟨g, 0, none⟩) (acc.length + 1) cap))) := by
  obtain ⟨i0, hi, hz0, hz1, hz2⟩ := info_parts info37
  have hBs : B < W.heap.size := hv.lt
  have hv1 : Boxed (W.drew.alloc (.cells #[.int .i64 (half b), .int .i64 (half b)] 37)) B 24 v := Boxed.alloc (W := W.drew) hv _
  have hr0 : W.drew.ownsRow n₀ 37 2 v acc.length (cellsOf acc) := hrow
  have hr1 := hr0.alloc (.cells #[.int .i64 (half b), .int .i64 (half b)] 37)
  have hr2 := hr1.alloc (.cells #[.int .i64 (half b), .int .i64 (half b)] 37)
  have hs : (W.drew.alloc (.cells #[.int .i64 (half b), .int .i64 (half b)] 37)).heap.size = W.heap.size + 1 := by rw [World.size_alloc]; rfl
  obtain ⟨v', w1, hrun, hown', hgrow, _, _⟩ := run_append_own_at (P := Tryd.prog) ((W.drew.alloc (.cells #[.int .i64 (half b), .int .i64 (half b)] 37)).alloc (.cells #[.int .i64 (half b), .int .i64 (half b)] 37)) n₀ 24 24 37 i0 _ 2 16 Tryd.underlying24 hi hz0 hz1 hz2 rfl (by decide) v acc.length (cellsOf acc) hr2 ⟨W.heap.size + 1, 0, none⟩ 1 1 [.int .i64 (half b), .int .i64 (half b)] rfl
    (by
      intro j u hu
      have hb := World.alloc_heap_new (W.drew.alloc (.cells #[.int .i64 (half b), .int .i64 (half b)] 37)) (.cells #[.int .i64 (half b), .int .i64 (half b)] 37)
      rw [hs] at hb
      have hj : j < 2 := (List.getElem?_eq_some_iff.1 hu).1
      have ha : (⟨W.heap.size + 1, 0, none⟩ : Addr).add j = ⟨W.heap.size + 1, j, none⟩ := by unfold Addr.add; split <;> simp_all
      rw [ha, cell_of_row _ _ _ _ _ _ hb, ← hu]
      simp)
    (by simp [Value.oneCell']) (by simp only [maxLen]; omega) (by omega) (by rw [World.size_alloc, hs]; omega)
  obtain ⟨g, cap, rfl⟩ := ownsRow_succ hown'
  obtain ⟨h1, h2, h3, h4, h5⟩ := hv1.appended (by decide) hr1 (by rw [hs]; omega) hB hown' hgrow
  refine ⟨g, cap, w1, hrun, h1.cell, h1.frozen, ⟨_, h2, ?_, trivial⟩, (KeepsOthers.drew W).trans ((KeepsOthers.alloc W.drew _).trans h4), ?_⟩
  · rw [cellsOf_snoc, List.length_append]; exact h3
  · refine ⟨(((Below.refl n₀ W).drew).alloc (by show n₀ ≤ W.heap.size; omega) _).trans h5, ?_⟩
    intro Bn t' u hb ht hne
    have hb1 : Boxed (W.drew.alloc (.cells #[.int .i64 (half b), .int .i64 (half b)] 37)) Bn t' u := Boxed.alloc (W := W.drew) hb _
    have hb2 : Boxed w1 Bn t' u := (hb1.alloc _).kept hgrow (hb1.not_row ht hr1)
    have hb3 : (w1.setCell ⟨B, 0, none⟩ (.slice (some ⟨g, 0, none⟩) (acc.length + 1) cap)).heap[Bn]? = w1.heap[Bn]? := Below.heap_setCell w1 ⟨B, 0, none⟩ _ Bn hne
    exact hb3.trans (Eq.trans hb2 (Eq.symm hb))

theorem ownFrom_km {β : Type} {B : Nat} {w₀ : World} (hB : w₀.heap.size ≤ B) : OwnFrom B (fun (_ : β) W => KM w₀ W) := by
  intro s W W' row hs hg hr k hk
  have h1 := hs k hk
  refine (hg.block k (Array.getElem?_eq_some_iff.1 h1).1 (fun e => ?_)).trans h1
  have h2 := (hr k e.symm).1
  have h3 := (Array.getElem?_eq_some_iff.1 hk).1
  omega
theorem ownFrom_box {β : Type} (B Bn t : Nat) (u : Value) : OwnFrom B (fun (_ : β) W => Boxed W Bn t u) := by
  intro s W W' row hs hg hr
  refine hs.kept hg (fun e => ?_)
  obtain ⟨_, o, ho, hc⟩ := hr Bn e.symm
  rw [show W.heap[Bn]? = _ from hs] at ho; cases ho; cases hc

def wavesOf (a : Int) (l : List Int) : List Bool := List.replicate a.toNat false ++ l.flatMap tenOf
theorem waves_lead (n : Nat) : List.replicate (n + 1) false = List.replicate n false ++ [false] := List.replicate_succ'
theorem ten_len (b : Int) : (tenOf b).length = 10 := by simp [tenOf, Bits.bits_len]
theorem flat_len (l : List Int) : (l.flatMap tenOf).length = 10 * l.length := by
  induction l with
  | nil => rfl
  | cons x l ih => rw [List.flatMap_cons, List.length_append, ten_len, ih, List.length_cons]; omega

set_option maxRecDepth 100000 in
set_option maxHeartbeats 4000000 in
theorem write_calls (A0 : Option Addr) (c0 : Nat) (l0 : List Int) (a1 : Int) (w : World) (hr0 : Kd.C (Kd.int .u8) w A0 l0.length l0) (hc0 : l0.length ≤ c0)
    (hl : (l0.length : Int) ≤ 16384) (ha0 : 0 ≤ a1) (ha1 : a1 ≤ 16384) (hb : ∀ x ∈ l0, 0 ≤ x ∧ x < 256) :
    Calls Tryd.prog 11 #[.slice A0 l0.length c0, .int .i64 a1] w fun e w' => ∃ v, e = .returned (.tuple #[v, .int .i64 0]) ∧
      w'.ownsRow w.heap.size 37 2 v (wavesOf a1 l0).length (cellsOf (wavesOf a1 l0)) ∧ Below w.heap.size w w' := by
  refine (callsIn_wide (n := 5)).1 ?_
  refine callsIn_of_wp_marks Tryd.func11 rfl trivial ?_ rfl
  simp only [Tryd.ntmps11, List.size_toArray, List.length_cons, List.length_nil, Nat.reduceAdd, Nat.reduceSub, Array.replicate_succ, Array.replicate_zero, List.push_toArray, List.append_toArray, List.nil_append, List.cons_append]
  have HB0 := Lib.hid hb
  have HR0 := Lib.hid hr0
  clear hb hr0
  gi_wp2
  gi_loopw [20] (fun v20 wr => ∃ k : Nat, (k : Int) ≤ a1 ∧ v20 = .int .i64 k ∧ Has w.heap.size w.heap.size (List.replicate k false) wr ∧ Below w.heap.size w wr) (fun v20 _ => (a1 - intOf v20).toNat)
  case atStart =>
    exact ⟨0, by omega, rfl, ⟨_, Boxed.new w 24 _, World.ownsRow_nil _ _ _ _, trivial⟩, (Below.refl _ w).alloc (Nat.le_refl _) _⟩
  case round =>
    obtain ⟨k, hk, rfl, ⟨v, hv, hrow, _⟩, hB⟩ := hrel
    by_cases hlt : (k : Int) < a1
    · rw [List.length_replicate] at hrow
      obtain ⟨g, cap, w1, hrun, hc1, hf1, hH, hK, hB2, _⟩ := one_more (acc := List.replicate k false) false hv (by rw [List.length_replicate]; exact hrow) (Nat.le_refl _) (by rw [List.length_replicate]; omega)
      rw [List.length_replicate] at hrun hH hB2
      have hcell := hv.cell
      have hlt2 := hv.lt
      have HH := Lib.hid hH
      have HB2 := Lib.hid hB2
      have HBB := Lib.hid hB
      clear hH hB2 hK hrow hv hB
      gi_wp2
      gi_region_with (refine ⟨trivial, ?_⟩; gi_at_call 24; refine (wave_in _ _ trivial rfl false _).mono ?_; rintro e w' ⟨rfl, rfl⟩)
      all_goals
        gi_wp2
        go_roundw
        case rel => exact ⟨k + 1, by omega, by go_num, by rw [waves_lead]; exact HH.out, HBB.out.trans HB2.out⟩
        case measure => simp [intOf]; omega
    · obtain rfl : a1 = (k : Int) := by omega
      have HV := Lib.hid hrow
      have HVB := Lib.hid hv
      have HBB := Lib.hid hB
      clear hrow hv hB
      gi_wp2
      refine wpIn_loop (fun a W => ∃ (m : Nat) (ds : List Deferred) (u1 u2 u3 u4 u5 u7 u8 u9 u10 u11 u12 u13 u14 u15 u16 u17 u18 u19 u20 u21 u22 u23 u24 u25 u26 u29 u30 u31 u32 u33 u34 u35 u36 u37 u38 u39 u40 u41 u42 : Value), (m ≤ l0.length ∧ u29 = .int .i64 m ∧ Has w.heap.size w.heap.size (List.replicate k false ++ (l0.take m).flatMap tenOf) W ∧ Below w.heap.size w W ∧ Marks w.heap.size W ds) ∧ a = ⟨#[.slice A0 l0.length c0, u1, u2, u3, u4, u5, .pointer (some ⟨w.heap.size, 0, none⟩), u7, u8, u9, u10, u11, u12, u13, u14, u15, u16, u17, u18, u19, u20, u21, u22, u23, u24, u25, u26, .slice A0 l0.length c0, .int .i64 l0.length, u29, u30, u31, u32, u33, u34, u35, u36, u37, u38, u39, u40, u41, u42], ds⟩) (fun a _ => l0.length - (intOf (a.tmps.getD 29 undef)).toNat) ?start ?round
      case start =>
        refine ⟨0, [], _, _, _, _, _, _, _, _, _, _, _, _, _, _, _, _, _, _, _, _, _, _, _, _, _, _, _, _, _, _, _, _, _, _, _, _, _, _, _, ⟨by omega, rfl, ?_, HBB.out, Marks.nil _ _⟩, rfl⟩
        simp only [List.take_zero, List.flatMap_nil, List.append_nil]
        exact ⟨_, HVB.out, HV.out, trivial⟩
      case round =>
        intro a W hI
        obtain ⟨m, ds, u1, u2, u3, u4, u5, u7, u8, u9, u10, u11, u12, u13, u14, u15, u16, u17, u18, u19, u20, u21, u22, u23, u24, u25, u26, u29, u30, u31, u32, u33, u34, u35, u36, u37, u38, u39, u40, u41, u42, ⟨hm, rfl, hH, hB, hM⟩, rfl⟩ := hI
        by_cases hlt : m < l0.length
        · obtain ⟨x, hx⟩ : ∃ x, x = l0[m] := ⟨_, rfl⟩
          have hxr := HB0.out x (by rw [hx]; exact List.getElem_mem hlt)
          have htk : l0.take (m + 1) = l0.take m ++ [x] := by rw [List.take_succ_eq_append_getElem hlt, hx]
          have hrd : rd l0 (m : Int) = x := by simp [rd, hx, List.getElem?_eq_getElem hlt]
          have hR : ReadsInt W .u8 A0 l0.length l0 := Kd.reads_of_C (d := (0 : Int)) (Kd.C_below HR0.out hB)
          obtain ⟨ad, rfl, hcell⟩ := hR.at_ (m : Int) (by omega) (by omega)
          rw [hrd, Int.toNat_natCast] at hcell
          have HT := Lib.hid htk
          have HBB := Lib.hid hB
          have HHH := Lib.hid hH
          have HM := Lib.hid hM
          have HX := Lib.hid hx
          clear htk hrd hR hB hH hM hx
          gi_wp2_with (refine ⟨trivial, ?_⟩; gi_at_call 25; refine (bits_in _ _ trivial rfl x _).mono ?_; rintro e w' ⟨rfl, rfl⟩)
          have hs1 : (W.alloc (.cells #[.int .u8 x] 5)).heap.size = W.heap.size + 1 := World.size_alloc _ _
          have bX : Boxed (W.alloc (.cells #[.int .u8 x] 5)) W.heap.size 5 (.int .u8 x) := Boxed.new W 5 _
          have hWs : w.heap.size < W.heap.size := by obtain ⟨v, hv, _⟩ := HHH.out; exact hv.lt
          have hB1 : Below w.heap.size w (W.alloc (.cells #[.int .u8 x] 5)) := HBB.out.alloc HBB.out.size _
          have hH1 : Has w.heap.size w.heap.size (List.replicate k false ++ (l0.take m).flatMap tenOf) (W.alloc (.cells #[.int .u8 x] 5)) := by
            obtain ⟨v, hv, hr, _⟩ := HHH.out
            exact ⟨v, hv.alloc _, hr.alloc _, trivial⟩
          have hacc : (List.replicate k false ++ (l0.take m).flatMap tenOf).length ≤ 900000 := by
            rw [List.length_append, List.length_replicate, flat_len, List.length_take]; omega
          generalize hae : List.replicate k false ++ (l0.take m).flatMap tenOf = acc at hH1 hacc
          have HA := Lib.hid hae
          clear hae
          refine wpIn_rangeFunc_ownG rfl (by omega) (gf := 32) (lb := #[.pointer (some ⟨W.heap.size, 0, none⟩)]) rfl trivial (enters_of Tryd.func32 (by kernel_rfl) rfl)
            (bits_stops Fence.wide _ trivial rfl (by omega) W.heap.size x hxr.1 hxr.2 _ (by rw [hs1]; omega) bX.cell) kb_t (kb_b (by rw [hs1]; omega)) (Below.refl _ _) (fun _ => rfl)
            (fun pre V => ((∃ v, Boxed V w.heap.size 24 v ∧ V.ownsRow w.heap.size 37 2 v (acc ++ pre).length (cellsOf (acc ++ pre)) ∧ True) ∧ Boxed V W.heap.size 5 (.int .u8 x)) ∧ Below w.heap.size w V ∧ KM (W.alloc (.cells #[.int .u8 x] 5)) V)
            (fun _ _ _ => False)
            (OwnFrom.and (OwnFrom.and (Own.from (holdsRow_own w.heap.size w.heap.size 24 37 2 (fun pre => (acc ++ pre).length) (fun pre => cellsOf (acc ++ pre)) (fun _ _ => True)) _) (ownFrom_box _ _ _ _)) (OwnFrom.and (ownFrom_below (Nat.le_refl _) (by rw [hs1]; omega)) (ownFrom_km (Nat.le_refl _))))
            (fun _ _ _ _ _ hs _ _ => hs)
            (by rw [List.append_nil]; exact ⟨⟨hH1, bX⟩, hB1, KM.refl _⟩)
            (fun y => { tmps := #[.slice (some ad) l0.length c0, u1, u2, u3, u4, u5, .pointer (some ⟨w.heap.size, 0, none⟩), u7, .int .u8 x, .bool y, u10, u11, u12, u13, u14, u15, u16, u17, u18, u19, u20, u21, u22, u23, u24, u25, u26, .slice (some ad) l0.length c0, .int .i64 l0.length, .int .i64 m, .bool true, .pointer (some (ad.add m)), .int .u8 x, .int .u8 x, .func (.func 32) #[] #[.pointer (some ⟨W.heap.size, 0, none⟩)], .bool y, u36, u37, u38, u39, u40, u41, u42], defers := [] }) ?assign ?body ?done ?stop
          case assign =>
            intro l y V K hK
            gi_wp2
            exact hK
          case body =>
            rintro l pre y V ⟨⟨⟨v, hv, hrow, _⟩, hb5⟩, hBV, hKV⟩ hpl
            obtain ⟨q, hq⟩ : ∃ q, acc ++ pre = q := ⟨_, rfl⟩
            rw [hq] at hrow
            have hql : q.length + 1 ≤ 1000000 := by rw [← hq, List.length_append]; omega
            have HQ := Lib.hid hq
            obtain ⟨g, cap, w1, hrun, hc1, hf1, hH2, hK2, hB2, hbox⟩ := one_more (acc := q) y hv hrow (Nat.le_refl _) hql
            clear hq
            have hkb := hbox _ _ _ hb5 (by decide) (by omega)
            have hvcell := hv.cell
            have hlt2 := hv.lt
            have HH := Lib.hid hH2
            have HK2 := Lib.hid hK2
            have HB2 := Lib.hid hB2
            have HBV := Lib.hid hBV
            have HKV := Lib.hid hKV
            have HKB := Lib.hid hkb
            have HB5 := Lib.hid hb5
            clear hH2 hB2 hK2 hrow hv hBV hKV hkb hbox hb5 hH1 hB1 bX
            gi_wp2
            gi_region_with (refine ⟨trivial, ?_⟩; gi_at_call 24; refine (CallsIn.inRound l (wave_in _ _ trivial rfl y _)).mono ?_; rintro e w' ⟨rfl, rfl⟩)
            all_goals
              gi_wp2
              refine ⟨HK2.out.from _, HKB.out, ⟨⟨?_, ?_⟩, HBV.out.trans HB2.out, HKV.out.others HK2.out⟩⟩
              · rw [← List.append_assoc, HQ.out]; exact HH.out
              · exact Eq.trans HKB.out HB5.out
          case done =>
            rintro D ys V hD rfl ⟨⟨hh, hb5⟩, hBV, hKV⟩ hK
            have HV := Lib.hid hh
            have HVB := Lib.hid hBV
            have HMK : Hid (Marks w.heap.size V ({ target := .collected D, args := #[] } :: ds)) := by
              refine Lib.hid ((HM.out.others (KeepsOthers.alloc W (.cells #[.int .u8 x] 5))).cons (fun i _ hi => hKV i hi) (by rw [hs1] at hD; omega) hD hK)
            clear hh hBV hKV hb5 hH1 hB1 bX hK
            gi_wp2
            refine ⟨⟨m + 1, _, _, _, _, _, _, _, _, _, _, _, _, _, _, _, _, _, _, _, _, _, _, _, _, _, _, _, _, _, _, _, _, _, _, _, _, _, _, _, _, ⟨by omega, by go_num, ?_, HVB.out, HMK.out⟩, rfl⟩, ?_⟩
            · obtain ⟨v, h1, h2, h3⟩ := HV.out
              have he : List.replicate k false ++ (l0.take (m + 1)).flatMap tenOf = acc ++ tenOf x := by
                rw [HT.out, List.flatMap_append, ← List.append_assoc, HA.out]
                simp
              rw [he]
              exact ⟨v, h1, h2, h3⟩
            · simp [intOf]; omega
          case stop =>
            rintro D c pre V _ _ h _
            exact h.elim
        · obtain rfl : m = l0.length := by omega
          rw [List.take_length] at hH
          have HBB := Lib.hid hB
          have HHH := Lib.hid hH
          have HM := Lib.hid hM
          have hwv : wavesOf (k : Int) l0 = List.replicate k false ++ l0.flatMap tenOf := by simp [wavesOf]
          obtain ⟨v, hv, hrow, _⟩ := hH
          have hcell := hv.cell
          have HR := Lib.hid hrow
          have HWV := Lib.hid hwv
          clear hB hM hv hrow hwv
          gi_wp2
          obtain ⟨Ds, rfl, hn, hDs⟩ := HM.out
          refine leaves_marks (B := w.heap.size) (fun V => V.ownsRow w.heap.size 37 2 v (wavesOf (k : Int) l0).length (cellsOf (wavesOf (k : Int) l0)) ∧ Below w.heap.size w V) ?_ ?_ Ds _ hn hDs ?_
          · rintro V D ⟨h1, h2⟩ hD hK
            exact ⟨ownsRow_putObj h1 _ hK rfl, h2.trans (belowK_b (w := w) (Nat.le_refl _) V D _ _ hD hK rfl rfl)⟩
          · rintro V ⟨h1, h2⟩
            exact ⟨_, results_tmp2 rfl _ _ _, v, rfl, h1, h2⟩
          · rw [HWV.out]; exact ⟨HR.out, HBB.out⟩
end Go.Proofs.YtdibgdiiamcmfaaDoor.Write
