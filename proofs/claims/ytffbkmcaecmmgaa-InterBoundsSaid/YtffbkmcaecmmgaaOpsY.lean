/- ops.Encode, walked. -/
import Derived.Test.YtffbkmcaecmmgaaOpsX
import Derived.Deep.RegionHeld3
import Derived.Deep.DrawnRows
import Derived.Laws.Rows
import Derived.Laws.BitsLemmas
import Derived.Test.YtffbkmcaecmmgaaPInterBoundsx1
set_option linter.unusedVariables false
set_option linter.unusedSimpArgs false
namespace Go.Proofs.Ytffbkmcaecmmgaa.Ops
open Go Go.RowKit
open Go.Proofs.YtffbkmcaecmmgaaW.PrintWords
attribute [local go_sem high] Go.Proofs.Ytffbkmcaecmmgaa.PInterBounds.eqA25

def fitsB (wd : Int) (r : Rw) : Bool := Go.bits .and .u16 wd r.mask == r.word
/-- The order of a word; none: it is none. -/
def decP (wd : Int) : Option Ord := (tbl.find? (fitsB wd)).map fun r => decF r.fds wd ⟨r.op, 0, 0, 0, 0, 0⟩
def encV (f : Fd) (o : Ord) : Int := match f with
  | .x => o.x % 16 * 256
  | .y => o.y % 16 * 16
  | .n => o.n % 16
  | .b => o.b % 256
  | .a => o.a % 4096
def encF (fds : List Fd) (wd : Int) (o : Ord) : Int := fds.foldl (fun w f => Go.bits .or .u16 w (encV f o)) wd
def eqO (a b : Ord) : Bool := a.op == b.op && (a.x == b.x && (a.y == b.y && (a.n == b.n && (a.b == b.b && a.a == b.a))))
/-- Is an order a row's? -/
def okB (o : Ord) (r : Rw) : Bool := r.op == o.op && (match decP (encF r.fds r.word o) with
  | some p => eqO p o
  | none => false)
def DecPost (wd : Int) (w : World) (e : Ending) (w' : World) : Prop :=
  (∃ q : Ord, ∃ b : Bool, e = .returned (.tuple #[.agg #[.int .u8 q.op, .int .u8 q.x, .int .u8 q.y, .int .u8 q.n, .int .u8 q.b, .int .u16 q.a], .bool b]) ∧ ∀ o, (b && eqO q o) = (match decP wd with
    | some p => eqO p o
    | none => false)) ∧ Below w.heap.size w w'
theorem dec_post {wd : Int} {w w' : World} {e : Ending} (h : Decoded wd w e w') : DecPost wd w e w' := by
  obtain ⟨h, hb⟩ := h
  refine ⟨?_, hb⟩
  rcases h with ⟨i, hi, hn, hf, o, ho, rfl⟩ | ⟨hn, rfl⟩
  · have e : tbl.find? (fitsB wd) = some tbl[i] := by
      rw [List.find?_eq_some_iff_getElem]
      refine ⟨beq_iff_eq.2 hf, i, hi, rfl, fun j hj => ?_⟩
      have h2 := hn j (Nat.lt_trans hj hi) hj
      have : fitsB wd (tbl[j]'(Nat.lt_trans hj hi)) = false := beq_eq_false_iff_ne.2 h2
      rw [this]; rfl
    refine ⟨o, true, rfl, fun q => ?_⟩
    have e2 : decP wd = some o := by unfold decP; rw [e, ho]; rfl
    rw [e2, Bool.true_and]
  · have e : tbl.find? (fitsB wd) = none := by
      rw [List.find?_eq_none]
      intro r hr
      obtain ⟨j, hj, rfl⟩ := List.getElem_of_mem hr
      have : fitsB wd tbl[j] = false := beq_eq_false_iff_ne.2 (hn j hj)
      rw [this]; decide
    refine ⟨⟨0, 0, 0, 0, 0, 0⟩, false, rfl, fun q => ?_⟩
    have e2 : decP wd = none := by unfold decP; rw [e]; rfl
    rw [e2, Bool.false_and]
def EncPost (o : Ord) (w : World) (e : Ending) (w' : World) : Prop := ∃ x, e = .returned (.tuple #[.int .u16 x, .int .i64 (if tbl.any (okB o) then 0 else 160)]) ∧ Below w.heap.size w w'
theorem bits_u16 (op : BinOp) (x y : Int) : 0 ≤ Go.bits .or .u16 x y ∧ Go.bits .or .u16 x y < 65536 := by
  have hw : ∀ n : Int, IntKind.u16.wrap n = n % 65536 := fun n => by simp [IntKind.wrap, IntKind.bits, IntKind.signed]
  unfold Go.bits
  simp only
  rw [hw]
  omega
theorem encF_range : ∀ (fds : List Fd) (wd : Int) (o : Ord), 0 ≤ wd → wd < 65536 → 0 ≤ encF fds wd o ∧ encF fds wd o < 65536
  | [], wd, o, h0, h1 => ⟨h0, h1⟩
  | f :: fds, wd, o, h0, h1 => encF_range fds _ o (bits_u16 .or _ _).1 (bits_u16 .or _ _).2
theorem encF_take (fds : List Fd) (j : Nat) (h : j < fds.length) (f : Fd) (hf : fds[j] = f) (wd : Int) (o : Ord) : encF (fds.take (j + 1)) wd o = Go.bits .or .u16 (encF (fds.take j) wd o) (encV f o) := by
  unfold encF
  rw [List.take_succ_eq_append_getElem h, List.foldl_append, hf]
  rfl
theorem word_range : ∀ r ∈ tbl, 0 ≤ r.word ∧ r.word < 65536 := by
  intro r hr
  have h : (tbl.all fun r => decide (0 ≤ r.word) && decide (r.word < 65536)) = true := by decide
  have := List.all_eq_true.1 h r hr
  simpa using this
set_option maxRecDepth 100000 in
set_option maxHeartbeats 8000000 in
theorem encode_calls (RC : RowsSaid) (o : Ord) (ho : o.Ok) (w : World) : Calls Try.prog 6 #[.agg #[.int .u8 o.op, .int .u8 o.x, .int .u8 o.y, .int .u8 o.n, .int .u8 o.b, .int .u16 o.a]] w (EncPost o w) := by
  have hq := blk_new w (.cells #[.int .u8 o.op, .int .u8 o.x, .int .u8 o.y, .int .u8 o.n, .int .u8 o.b, .int .u16 o.a] 25)
  have hb := below_alloc (Below.refl w.heap.size w) (.cells #[.int .u8 o.op, .int .u8 o.x, .int .u8 o.y, .int .u8 o.n, .int .u8 o.b, .int .u16 o.a] 25)
  have HQ := Aside0.mk hq
  have HB := Aside0.mk hb
  have HOK := Aside0.mk ho
  have hx0 := ho.x0
  have hx1 := ho.x1
  have hy0 := ho.y0
  have hy1 := ho.y1
  have hn0 := ho.n0
  have hn1 := ho.n1
  have hbb0 := ho.b0
  have hbb1 := ho.b1
  have ha0 := ho.a0
  have ha1 := ho.a1
  clear hq hb ho
  go_enter Try.func6, Try.ntmps6
  go_wp2_with fail
  (with_reducible refine (RC.at _).mono ?_)
  rintro e w1 ⟨T, rfl, hT, hb⟩
  have Q1 : Aside0 (OBox w.heap.size o w1) := ⟨blk_below HQ.out hb⟩
  have B1 := Aside0.mk (below_step HB.out hb)
  have hq1 : w.heap.size < w1.heap.size := blk_lt Q1.out
  obtain ⟨m, hm⟩ : ∃ m, (w.alloc (.cells #[.int .u8 o.op, .int .u8 o.x, .int .u8 o.y, .int .u8 o.n, .int .u8 o.b, .int .u16 o.a] 25)).heap.size = m := ⟨_, rfl⟩
  rw [hm] at hT
  have HT := Aside0.mk hT
  have B0 := Aside0.mk (Below.refl w1.heap.size w1)
  clear hT hb HQ HB hm
  go_wp2_with fail
  go_loopw [13] (fun v13 wr => ∃ k : Nat, k ≤ 31 ∧ v13 = .int .i64 k ∧ Aside0 (∀ j (hj : j < tbl.length), j < k → okB o tbl[j] = false) ∧ Aside0 (Below w1.heap.size w1 wr)) (fun i _ => 31 - (RowKit.intOf i).toNat)
  case atStart => exact ⟨0, Nat.zero_le _, rfl, ⟨fun j hj h => absurd h (Nat.not_lt_zero _)⟩, B0⟩
  case round =>
    clear B0
    obtain ⟨k, hk, rfl, HN, BB⟩ := hrel
    obtain ⟨wo, rfl⟩ : ∃ wo : World, wo = wr := ⟨_, rfl⟩
    by_cases hlt : k < 31
    · have hkd : decide ((k : Int) < 31) = true := decide_eq_true (by omega)
      have hrow := (HT.out.below BB.out) k hlt
      obtain ⟨r, hr⟩ : ∃ r, tbl[k]'hlt = r := ⟨_, rfl⟩
      have hwr := word_range r (hr ▸ List.getElem_mem hlt)
      have hl5 : r.fds.length ≤ 3 := fds_len r (hr ▸ List.getElem_mem hlt)
      rw [hr] at hrow
      obtain ⟨q0, q1, q2, q3, v, q4, hv⟩ := hrow
      obtain ⟨A, rfl⟩ := hv.sl
      have HV := Aside0.mk hv
      have HRR := Aside0.mk hr
      have HWR := Aside0.mk hwr
      have hlk : w1.heap.size ≤ wo.heap.size := BB.out.size
      have hqo := (blk_cell (blk_below Q1.out BB.out) 0).trans (rfl : _ = some (Value.int .u8 o.op))
      have hlq : w.heap.size < wo.heap.size := by omega
      clear hv hr hwr
      by_cases hop : r.op = o.op
      · have hopb : (r.op != o.op) = false := by rw [hop]; simp
        have HOP := Aside0.mk hop
        clear hop
        go_upto_region 6 with fail
        have hr4 := blk_new wo (.cells #[.int .u8 r.op, .int .u16 r.mask, .int .u16 r.word, .string r.name, .slice A r.fds.length r.fds.length] 44)
        have hb2 := below_alloc (Below.refl wo.heap.size wo) (.cells #[.int .u8 r.op, .int .u16 r.mask, .int .u16 r.word, .string r.name, .slice A r.fds.length r.fds.length] 44)
        have V2 := Aside0.mk (HV.out.below hb2)
        have BB2 := Aside0.mk (below_step BB.out hb2)
        obtain ⟨K2, hK2⟩ : ∃ K2, wo.heap.size = K2 := ⟨_, rfl⟩
        rw [hK2] at hr4 ⊢
        generalize (wo.alloc (.cells #[.int .u8 r.op, .int .u16 r.mask, .int .u16 r.word, .string r.name, .slice A r.fds.length r.fds.length] 44)) = w2 at hr4 V2 BB2 ⊢
        have q4' := (blk_cell hr4 4).trans (rfl : _ = some (Value.slice A r.fds.length r.fds.length))
        have B2 := Aside0.mk (Below.refl w2.heap.size w2)
        clear hr4 hb2 HV q0 q1 q2 q3 q4 hopb hqo hK2 hlq hlk BB
        go_wp2_with fail
        go_loopw [6, 27] (fun v6 v27 wr => ∃ j : Nat, j ≤ r.fds.length ∧ v27 = .int .i64 j ∧ v6 = .int .u16 (encF (r.fds.take j) r.word o) ∧ Aside0 (Below w2.heap.size w2 wr)) (fun _ i _ => r.fds.length - (RowKit.intOf i).toNat)
        case atStart => exact ⟨0, Nat.zero_le _, rfl, rfl, B2⟩
        case round =>
          clear B2 q4'
          obtain ⟨j, hj, rfl, rfl, B3⟩ := hrel
          obtain ⟨wi, rfl⟩ : ∃ wi : World, wi = wr := ⟨_, rfl⟩
          have hlk2 : w2.heap.size ≤ wi.heap.size := B3.out.size
          have Q3 : Aside0 (OBox w.heap.size o wi) := ⟨blk_below (blk_below Q1.out BB2.out) B3.out⟩
          by_cases hltj : j < r.fds.length
          · rcases V2.out.below B3.out with ⟨hnil, _⟩ | ⟨g, hg0, hg1, hg2⟩
            · rw [hnil] at hltj
              exact absurd hltj (Nat.not_lt_zero _)
            · obtain rfl : A = some ⟨g, 0, none⟩ := by injection hg1
              have hfd := hg2 j hltj
              obtain ⟨f, hf⟩ : ∃ f, r.fds[j] = f := ⟨_, rfl⟩
              rw [hf] at hfd
              have HF2 := Aside0.mk hf
              have HWR2 := Aside0.mk (encF_range (r.fds.take j) r.word o HWR.out.1 HWR.out.2)
              obtain ⟨cur, hcur⟩ : ∃ cur, encF (r.fds.take j) r.word o = cur := ⟨_, rfl⟩
              rw [hcur]
              have HCUR := Aside0.mk hcur
              clear hg1 hg2 hf hcur
              cases f
              · have c0 : wi.cell? ⟨g, j * 5, none⟩ = some (.int .i64 8) := hfd.c0
                have c1 : wi.cell? ⟨g, j * 5 + 1, none⟩ = some (.int .i64 1) := hfd.c1
                have c2 : wi.cell? ⟨g, j * 5 + 2, none⟩ = some (.string ⟨#[118]⟩) := hfd.c2
                have c3 : wi.cell? ⟨g, j * 5 + 3, none⟩ = some (.func (.func 15) #[] #[]) := hfd.c3
                have c4 : wi.cell? ⟨g, j * 5 + 4, none⟩ = some (.func (.func 16) #[] #[]) := hfd.c4
                clear hfd
                go_upto_region 9 with fail
                have hk := blk_new wi (.cells #[.int .i64 8, .int .i64 1, .string ⟨#[118]⟩, .func (.func 15) #[] #[], .func (.func 16) #[] #[]] 48)
                have Q5 : Aside0 (OBox w.heap.size o (wi.alloc (.cells #[.int .i64 8, .int .i64 1, .string ⟨#[118]⟩, .func (.func 15) #[] #[], .func (.func 16) #[] #[]] 48))) := ⟨blk_alloc Q3.out _⟩
                have B5 := Aside0.mk (below_alloc B3.out (.cells #[.int .i64 8, .int .i64 1, .string ⟨#[118]⟩, .func (.func 15) #[] #[], .func (.func 16) #[] #[]] 48))
                obtain ⟨K, hK⟩ : ∃ K, wi.heap.size = K := ⟨_, rfl⟩
                rw [hK] at hk ⊢
                generalize (wi.alloc (.cells #[.int .i64 8, .int .i64 1, .string ⟨#[118]⟩, .func (.func 15) #[] #[], .func (.func 16) #[] #[]] 48)) = w5 at hk Q5 B5 ⊢
                clear c0 c1 c2 c3 c4 B3 hK Q3
                have d0 := (blk_cell hk 0).trans (rfl : _ = some (Value.int .i64 8))
                have d1 := (blk_cell hk 1).trans (rfl : _ = some (Value.int .i64 1))
                have d3 := (blk_cell hk 3).trans (rfl : _ = some (Value.func (.func 15) #[] #[]))
                clear hk
                have e2 : IntKind.i64.wrap 4 = 4 := by decide
                have e3 : IntKind.i64.wrap 16 = 16 := by decide
                have e4 : IntKind.i64.wrap 15 = 15 := by decide
                have e5 : Go.bits .and .i64 o.x 15 = o.x % 16 := bits_mask .i64 20 (by decide) (fun n a b => by rw [IntKind.wrap_i64]; omega) 4 (by decide) o.x (by omega) (by omega)
                obtain ⟨t, ht, ht0, ht1⟩ : ∃ t, o.x % 16 = t ∧ 0 ≤ t ∧ t ≤ 15 := ⟨_, rfl, by omega, by omega⟩
                rw [ht] at e5
                have HT2 := Aside0.mk ht
                clear ht
                have e6 : IntKind.u16.wrap t = t := by rw [show IntKind.u16.wrap t = t % 65536 by simp [IntKind.wrap, IntKind.bits, IntKind.signed]]; omega
                have e7 : IntKind.u16.wrap (t * 256) = t * 256 := by rw [show IntKind.u16.wrap (t * 256) = (t * 256) % 65536 by simp [IntKind.wrap, IntKind.bits, IntKind.signed]]; omega
                go_region_held3 (fun w' => w'.cell? ⟨K, 0, none⟩ = some (Value.int .i64 8) ∧ w'.cell? ⟨K, 1, none⟩ = some (Value.int .i64 1) ∧ w'.cell? ⟨K, 3, none⟩ = some (Value.func (.func 15) #[] #[])) (go_keep) (first | (go_at_call 15; (with_reducible refine (get_x w.heap.size o w5.drew HOK.out (OBox.drew Q5.out)).mono ?_); rintro e w6 ⟨rfl, rfl⟩))
                all_goals
                  go_wp2
                  go_roundw
                  case rel => exact ⟨j + 1, by omega, by go_num, by rw [encF_take r.fds j hltj _ HF2.out, HCUR.out]; show _ = Value.int .u16 (Go.bits .or .u16 cur (o.x % 16 * 256)); rw [HT2.out], ⟨below_drew1 B5.out⟩⟩
                  case measure => simp [RowKit.intOf]; omega
              · have c0 : wi.cell? ⟨g, j * 5, none⟩ = some (.int .i64 4) := hfd.c0
                have c1 : wi.cell? ⟨g, j * 5 + 1, none⟩ = some (.int .i64 1) := hfd.c1
                have c2 : wi.cell? ⟨g, j * 5 + 2, none⟩ = some (.string ⟨#[118]⟩) := hfd.c2
                have c3 : wi.cell? ⟨g, j * 5 + 3, none⟩ = some (.func (.func 17) #[] #[]) := hfd.c3
                have c4 : wi.cell? ⟨g, j * 5 + 4, none⟩ = some (.func (.func 18) #[] #[]) := hfd.c4
                clear hfd
                go_upto_region 9 with fail
                have hk := blk_new wi (.cells #[.int .i64 4, .int .i64 1, .string ⟨#[118]⟩, .func (.func 17) #[] #[], .func (.func 18) #[] #[]] 48)
                have Q5 : Aside0 (OBox w.heap.size o (wi.alloc (.cells #[.int .i64 4, .int .i64 1, .string ⟨#[118]⟩, .func (.func 17) #[] #[], .func (.func 18) #[] #[]] 48))) := ⟨blk_alloc Q3.out _⟩
                have B5 := Aside0.mk (below_alloc B3.out (.cells #[.int .i64 4, .int .i64 1, .string ⟨#[118]⟩, .func (.func 17) #[] #[], .func (.func 18) #[] #[]] 48))
                obtain ⟨K, hK⟩ : ∃ K, wi.heap.size = K := ⟨_, rfl⟩
                rw [hK] at hk ⊢
                generalize (wi.alloc (.cells #[.int .i64 4, .int .i64 1, .string ⟨#[118]⟩, .func (.func 17) #[] #[], .func (.func 18) #[] #[]] 48)) = w5 at hk Q5 B5 ⊢
                clear c0 c1 c2 c3 c4 B3 hK Q3
                have d0 := (blk_cell hk 0).trans (rfl : _ = some (Value.int .i64 4))
                have d1 := (blk_cell hk 1).trans (rfl : _ = some (Value.int .i64 1))
                have d3 := (blk_cell hk 3).trans (rfl : _ = some (Value.func (.func 17) #[] #[]))
                clear hk
                have e2 : IntKind.i64.wrap 4 = 4 := by decide
                have e3 : IntKind.i64.wrap 16 = 16 := by decide
                have e4 : IntKind.i64.wrap 15 = 15 := by decide
                have e5 : Go.bits .and .i64 o.y 15 = o.y % 16 := bits_mask .i64 20 (by decide) (fun n a b => by rw [IntKind.wrap_i64]; omega) 4 (by decide) o.y (by omega) (by omega)
                obtain ⟨t, ht, ht0, ht1⟩ : ∃ t, o.y % 16 = t ∧ 0 ≤ t ∧ t ≤ 15 := ⟨_, rfl, by omega, by omega⟩
                rw [ht] at e5
                have HT2 := Aside0.mk ht
                clear ht
                have e6 : IntKind.u16.wrap t = t := by rw [show IntKind.u16.wrap t = t % 65536 by simp [IntKind.wrap, IntKind.bits, IntKind.signed]]; omega
                have e7 : IntKind.u16.wrap (t * 16) = t * 16 := by rw [show IntKind.u16.wrap (t * 16) = (t * 16) % 65536 by simp [IntKind.wrap, IntKind.bits, IntKind.signed]]; omega
                go_region_held3 (fun w' => w'.cell? ⟨K, 0, none⟩ = some (Value.int .i64 4) ∧ w'.cell? ⟨K, 1, none⟩ = some (Value.int .i64 1) ∧ w'.cell? ⟨K, 3, none⟩ = some (Value.func (.func 17) #[] #[])) (go_keep) (first | (go_at_call 17; (with_reducible refine (get_y w.heap.size o w5.drew HOK.out (OBox.drew Q5.out)).mono ?_); rintro e w6 ⟨rfl, rfl⟩))
                all_goals
                  go_wp2
                  go_roundw
                  case rel => exact ⟨j + 1, by omega, by go_num, by rw [encF_take r.fds j hltj _ HF2.out, HCUR.out]; show _ = Value.int .u16 (Go.bits .or .u16 cur (o.y % 16 * 16)); rw [HT2.out], ⟨below_drew1 B5.out⟩⟩
                  case measure => simp [RowKit.intOf]; omega
              · have c0 : wi.cell? ⟨g, j * 5, none⟩ = some (.int .i64 0) := hfd.c0
                have c1 : wi.cell? ⟨g, j * 5 + 1, none⟩ = some (.int .i64 1) := hfd.c1
                have c2 : wi.cell? ⟨g, j * 5 + 2, none⟩ = some (.string ⟨#[]⟩) := hfd.c2
                have c3 : wi.cell? ⟨g, j * 5 + 3, none⟩ = some (.func (.func 19) #[] #[]) := hfd.c3
                have c4 : wi.cell? ⟨g, j * 5 + 4, none⟩ = some (.func (.func 20) #[] #[]) := hfd.c4
                clear hfd
                go_upto_region 9 with fail
                have hk := blk_new wi (.cells #[.int .i64 0, .int .i64 1, .string ⟨#[]⟩, .func (.func 19) #[] #[], .func (.func 20) #[] #[]] 48)
                have Q5 : Aside0 (OBox w.heap.size o (wi.alloc (.cells #[.int .i64 0, .int .i64 1, .string ⟨#[]⟩, .func (.func 19) #[] #[], .func (.func 20) #[] #[]] 48))) := ⟨blk_alloc Q3.out _⟩
                have B5 := Aside0.mk (below_alloc B3.out (.cells #[.int .i64 0, .int .i64 1, .string ⟨#[]⟩, .func (.func 19) #[] #[], .func (.func 20) #[] #[]] 48))
                obtain ⟨K, hK⟩ : ∃ K, wi.heap.size = K := ⟨_, rfl⟩
                rw [hK] at hk ⊢
                generalize (wi.alloc (.cells #[.int .i64 0, .int .i64 1, .string ⟨#[]⟩, .func (.func 19) #[] #[], .func (.func 20) #[] #[]] 48)) = w5 at hk Q5 B5 ⊢
                clear c0 c1 c2 c3 c4 B3 hK Q3
                have d0 := (blk_cell hk 0).trans (rfl : _ = some (Value.int .i64 0))
                have d1 := (blk_cell hk 1).trans (rfl : _ = some (Value.int .i64 1))
                have d3 := (blk_cell hk 3).trans (rfl : _ = some (Value.func (.func 19) #[] #[]))
                clear hk
                have e2 : IntKind.i64.wrap 4 = 4 := by decide
                have e3 : IntKind.i64.wrap 16 = 16 := by decide
                have e4 : IntKind.i64.wrap 15 = 15 := by decide
                have e5 : Go.bits .and .i64 o.n 15 = o.n % 16 := bits_mask .i64 20 (by decide) (fun n a b => by rw [IntKind.wrap_i64]; omega) 4 (by decide) o.n (by omega) (by omega)
                obtain ⟨t, ht, ht0, ht1⟩ : ∃ t, o.n % 16 = t ∧ 0 ≤ t ∧ t ≤ 15 := ⟨_, rfl, by omega, by omega⟩
                rw [ht] at e5
                have HT2 := Aside0.mk ht
                clear ht
                have e6 : IntKind.u16.wrap t = t := by rw [show IntKind.u16.wrap t = t % 65536 by simp [IntKind.wrap, IntKind.bits, IntKind.signed]]; omega
                have e7 : IntKind.u16.wrap (t * 1) = t * 1 := by rw [show IntKind.u16.wrap (t * 1) = (t * 1) % 65536 by simp [IntKind.wrap, IntKind.bits, IntKind.signed]]; omega
                go_region_held3 (fun w' => w'.cell? ⟨K, 0, none⟩ = some (Value.int .i64 0) ∧ w'.cell? ⟨K, 1, none⟩ = some (Value.int .i64 1) ∧ w'.cell? ⟨K, 3, none⟩ = some (Value.func (.func 19) #[] #[])) (go_keep) (first | (go_at_call 19; (with_reducible refine (get_n w.heap.size o w5.drew HOK.out (OBox.drew Q5.out)).mono ?_); rintro e w6 ⟨rfl, rfl⟩))
                all_goals
                  go_wp2
                  go_roundw
                  case rel => exact ⟨j + 1, by omega, by go_num, by rw [encF_take r.fds j hltj _ HF2.out, HCUR.out]; show _ = Value.int .u16 (Go.bits .or .u16 cur (o.n % 16)); rw [HT2.out], ⟨below_drew1 B5.out⟩⟩
                  case measure => simp [RowKit.intOf]; omega
              · have c0 : wi.cell? ⟨g, j * 5, none⟩ = some (.int .i64 0) := hfd.c0
                have c1 : wi.cell? ⟨g, j * 5 + 1, none⟩ = some (.int .i64 2) := hfd.c1
                have c2 : wi.cell? ⟨g, j * 5 + 2, none⟩ = some (.string ⟨#[]⟩) := hfd.c2
                have c3 : wi.cell? ⟨g, j * 5 + 3, none⟩ = some (.func (.func 21) #[] #[]) := hfd.c3
                have c4 : wi.cell? ⟨g, j * 5 + 4, none⟩ = some (.func (.func 22) #[] #[]) := hfd.c4
                clear hfd
                go_upto_region 9 with fail
                have hk := blk_new wi (.cells #[.int .i64 0, .int .i64 2, .string ⟨#[]⟩, .func (.func 21) #[] #[], .func (.func 22) #[] #[]] 48)
                have Q5 : Aside0 (OBox w.heap.size o (wi.alloc (.cells #[.int .i64 0, .int .i64 2, .string ⟨#[]⟩, .func (.func 21) #[] #[], .func (.func 22) #[] #[]] 48))) := ⟨blk_alloc Q3.out _⟩
                have B5 := Aside0.mk (below_alloc B3.out (.cells #[.int .i64 0, .int .i64 2, .string ⟨#[]⟩, .func (.func 21) #[] #[], .func (.func 22) #[] #[]] 48))
                obtain ⟨K, hK⟩ : ∃ K, wi.heap.size = K := ⟨_, rfl⟩
                rw [hK] at hk ⊢
                generalize (wi.alloc (.cells #[.int .i64 0, .int .i64 2, .string ⟨#[]⟩, .func (.func 21) #[] #[], .func (.func 22) #[] #[]] 48)) = w5 at hk Q5 B5 ⊢
                clear c0 c1 c2 c3 c4 B3 hK Q3
                have d0 := (blk_cell hk 0).trans (rfl : _ = some (Value.int .i64 0))
                have d1 := (blk_cell hk 1).trans (rfl : _ = some (Value.int .i64 2))
                have d3 := (blk_cell hk 3).trans (rfl : _ = some (Value.func (.func 21) #[] #[]))
                clear hk
                have e2 : IntKind.i64.wrap 8 = 8 := by decide
                have e3 : IntKind.i64.wrap 256 = 256 := by decide
                have e4 : IntKind.i64.wrap 255 = 255 := by decide
                have e5 : Go.bits .and .i64 o.b 255 = o.b % 256 := bits_mask .i64 20 (by decide) (fun n a b => by rw [IntKind.wrap_i64]; omega) 8 (by decide) o.b (by omega) (by omega)
                obtain ⟨t, ht, ht0, ht1⟩ : ∃ t, o.b % 256 = t ∧ 0 ≤ t ∧ t ≤ 255 := ⟨_, rfl, by omega, by omega⟩
                rw [ht] at e5
                have HT2 := Aside0.mk ht
                clear ht
                have e6 : IntKind.u16.wrap t = t := by rw [show IntKind.u16.wrap t = t % 65536 by simp [IntKind.wrap, IntKind.bits, IntKind.signed]]; omega
                have e7 : IntKind.u16.wrap (t * 1) = t * 1 := by rw [show IntKind.u16.wrap (t * 1) = (t * 1) % 65536 by simp [IntKind.wrap, IntKind.bits, IntKind.signed]]; omega
                go_region_held3 (fun w' => w'.cell? ⟨K, 0, none⟩ = some (Value.int .i64 0) ∧ w'.cell? ⟨K, 1, none⟩ = some (Value.int .i64 2) ∧ w'.cell? ⟨K, 3, none⟩ = some (Value.func (.func 21) #[] #[])) (go_keep) (first | (go_at_call 21; (with_reducible refine (get_b w.heap.size o w5.drew HOK.out (OBox.drew Q5.out)).mono ?_); rintro e w6 ⟨rfl, rfl⟩))
                all_goals
                  go_wp2
                  go_roundw
                  case rel => exact ⟨j + 1, by omega, by go_num, by rw [encF_take r.fds j hltj _ HF2.out, HCUR.out]; show _ = Value.int .u16 (Go.bits .or .u16 cur (o.b % 256)); rw [HT2.out], ⟨below_drew1 B5.out⟩⟩
                  case measure => simp [RowKit.intOf]; omega
              · have c0 : wi.cell? ⟨g, j * 5, none⟩ = some (.int .i64 0) := hfd.c0
                have c1 : wi.cell? ⟨g, j * 5 + 1, none⟩ = some (.int .i64 3) := hfd.c1
                have c2 : wi.cell? ⟨g, j * 5 + 2, none⟩ = some (.string ⟨#[]⟩) := hfd.c2
                have c3 : wi.cell? ⟨g, j * 5 + 3, none⟩ = some (.func (.func 23) #[] #[]) := hfd.c3
                have c4 : wi.cell? ⟨g, j * 5 + 4, none⟩ = some (.func (.func 24) #[] #[]) := hfd.c4
                clear hfd
                go_upto_region 9 with fail
                have hk := blk_new wi (.cells #[.int .i64 0, .int .i64 3, .string ⟨#[]⟩, .func (.func 23) #[] #[], .func (.func 24) #[] #[]] 48)
                have Q5 : Aside0 (OBox w.heap.size o (wi.alloc (.cells #[.int .i64 0, .int .i64 3, .string ⟨#[]⟩, .func (.func 23) #[] #[], .func (.func 24) #[] #[]] 48))) := ⟨blk_alloc Q3.out _⟩
                have B5 := Aside0.mk (below_alloc B3.out (.cells #[.int .i64 0, .int .i64 3, .string ⟨#[]⟩, .func (.func 23) #[] #[], .func (.func 24) #[] #[]] 48))
                obtain ⟨K, hK⟩ : ∃ K, wi.heap.size = K := ⟨_, rfl⟩
                rw [hK] at hk ⊢
                generalize (wi.alloc (.cells #[.int .i64 0, .int .i64 3, .string ⟨#[]⟩, .func (.func 23) #[] #[], .func (.func 24) #[] #[]] 48)) = w5 at hk Q5 B5 ⊢
                clear c0 c1 c2 c3 c4 B3 hK Q3
                have d0 := (blk_cell hk 0).trans (rfl : _ = some (Value.int .i64 0))
                have d1 := (blk_cell hk 1).trans (rfl : _ = some (Value.int .i64 3))
                have d3 := (blk_cell hk 3).trans (rfl : _ = some (Value.func (.func 23) #[] #[]))
                clear hk
                have e2 : IntKind.i64.wrap 12 = 12 := by decide
                have e3 : IntKind.i64.wrap 4096 = 4096 := by decide
                have e4 : IntKind.i64.wrap 4095 = 4095 := by decide
                have e5 : Go.bits .and .i64 o.a 4095 = o.a % 4096 := bits_mask .i64 20 (by decide) (fun n a b => by rw [IntKind.wrap_i64]; omega) 12 (by decide) o.a (by omega) (by omega)
                obtain ⟨t, ht, ht0, ht1⟩ : ∃ t, o.a % 4096 = t ∧ 0 ≤ t ∧ t ≤ 4095 := ⟨_, rfl, by omega, by omega⟩
                rw [ht] at e5
                have HT2 := Aside0.mk ht
                clear ht
                have e6 : IntKind.u16.wrap t = t := by rw [show IntKind.u16.wrap t = t % 65536 by simp [IntKind.wrap, IntKind.bits, IntKind.signed]]; omega
                have e7 : IntKind.u16.wrap (t * 1) = t * 1 := by rw [show IntKind.u16.wrap (t * 1) = (t * 1) % 65536 by simp [IntKind.wrap, IntKind.bits, IntKind.signed]]; omega
                go_region_held3 (fun w' => w'.cell? ⟨K, 0, none⟩ = some (Value.int .i64 0) ∧ w'.cell? ⟨K, 1, none⟩ = some (Value.int .i64 3) ∧ w'.cell? ⟨K, 3, none⟩ = some (Value.func (.func 23) #[] #[])) (go_keep) (first | (go_at_call 23; (with_reducible refine (get_a w.heap.size o w5.drew HOK.out (OBox.drew Q5.out)).mono ?_); rintro e w6 ⟨rfl, rfl⟩))
                all_goals
                  go_wp2
                  go_roundw
                  case rel => exact ⟨j + 1, by omega, by go_num, by rw [encF_take r.fds j hltj _ HF2.out, HCUR.out]; show _ = Value.int .u16 (Go.bits .or .u16 cur (o.a % 4096)); rw [HT2.out], ⟨below_drew1 B5.out⟩⟩
                  case measure => simp [RowKit.intOf]; omega
          · obtain rfl : j = r.fds.length := by omega
            have HWR2 := Aside0.mk (encF_range r.fds r.word o HWR.out.1 HWR.out.2)
            obtain ⟨wd, hwd⟩ : ∃ wd, encF r.fds r.word o = wd := ⟨_, rfl⟩
            rw [List.take_length, hwd]
            rw [hwd] at HWR2
            have HWD := Aside0.mk hwd
            have BB3 := Aside0.mk (below_step BB2.out B3.out)
            clear hwd BB2 B3 V2
            go_wp2_with fail
            (with_reducible refine (decode_calls RC wd _ HWR2.out.1 HWR2.out.2).mono ?_)
            rintro e w4 hdec
            obtain ⟨⟨q, b, rfl, hqb⟩, hb4⟩ := dec_post hdec
            have BB4 := Aside0.mk (below_step BB3.out hb4)
            have hq4 := blk_below Q1.out BB4.out
            have hlq4 : w.heap.size < w4.heap.size := blk_lt hq4
            have hokb : okB o r = (b && eqO q o) := by
              unfold okB
              rw [HWD.out, hqb o, HOP.out]
              simp
            have HOKB := Aside0.mk hokb
            have x0 := (blk_cell hq4 0).trans (rfl : _ = some (Value.int .u8 o.op))
            have x1 := (blk_cell hq4 1).trans (rfl : _ = some (Value.int .u8 o.x))
            have x2 := (blk_cell hq4 2).trans (rfl : _ = some (Value.int .u8 o.y))
            have x3 := (blk_cell hq4 3).trans (rfl : _ = some (Value.int .u8 o.n))
            have x4 := (blk_cell hq4 4).trans (rfl : _ = some (Value.int .u8 o.b))
            have x5 := (blk_cell hq4 5).trans (rfl : _ = some (Value.int .u16 o.a))
            obtain ⟨z, hz⟩ : ∃ z, (q.op == o.op && (q.x == o.x && (q.y == o.y && (q.n == o.n && (q.b == o.b && q.a == o.a))))) = z := ⟨_, rfl⟩
            have HZ := Aside0.mk hz
            clear hdec hqb hb4 hq4 hokb BB3 Q3
            cases b
            · have HK : Aside0 (okB o r = false) := ⟨by rw [HOKB.out]; rfl⟩
              clear hz
              go_wp2
              go_roundw
              case rel => exact ⟨k + 1, by omega, by go_num, ⟨fun j hj h => by
                rcases Nat.lt_succ_iff_lt_or_eq.1 h with h | h
                · exact HN.out j hj h
                · have e : tbl[j] = r := by subst h; exact HRR.out
                  rw [e]
                  exact HK.out⟩, ⟨below_alloc BB4.out _⟩⟩
              case measure => simp [RowKit.intOf]; omega
            · cases z
              · have HK : Aside0 (okB o r = false) := ⟨by rw [HOKB.out, Bool.true_and]; exact HZ.out⟩
                go_wp2
                go_roundw
                case rel => exact ⟨k + 1, by omega, by go_num, ⟨fun j hj h => by
                  rcases Nat.lt_succ_iff_lt_or_eq.1 h with h | h
                  · exact HN.out j hj h
                  · have e : tbl[j] = r := by subst h; exact HRR.out
                    rw [e]
                    exact HK.out⟩, ⟨below_alloc BB4.out _⟩⟩
                case measure => simp [RowKit.intOf]; omega
              · have HK : Aside0 (tbl.any (okB o) = true) := ⟨by
                  rw [List.any_eq_true]
                  exact ⟨r, HRR.out ▸ List.getElem_mem hlt, by rw [HOKB.out, Bool.true_and]; exact HZ.out⟩⟩
                go_wp2
                go_ret2
                exact ⟨_, by rw [HK.out]; rfl, below_alloc (below_step B1.out BB4.out) _⟩
      · have hopb : (r.op != o.op) = true := bne_iff_ne.2 hop
        have HK : Aside0 (okB o r = false) := ⟨by unfold okB; rw [beq_eq_false_iff_ne.2 hop, Bool.false_and]⟩
        clear hop
        go_wp2
        go_roundw
        case rel => exact ⟨k + 1, by omega, by go_num, ⟨fun j hj h => by
          rcases Nat.lt_succ_iff_lt_or_eq.1 h with h | h
          · exact HN.out j hj h
          · have e : tbl[j] = r := by subst h; exact HRR.out
            rw [e]
            exact HK.out⟩, ⟨below_alloc BB.out _⟩⟩
        case measure => simp [RowKit.intOf]; omega
    · obtain rfl : k = 31 := by omega
      have hany : tbl.any (okB o) = false := by
        rw [List.any_eq_false]
        intro r hr
        obtain ⟨j, hj, rfl⟩ := List.getElem_of_mem hr
        rw [HN.out j hj hj]; decide
      have HANY := Aside0.mk hany
      clear hany
      go_wp2
      go_ret2
      exact ⟨0, by rw [HANY.out]; rfl, below_step B1.out BB.out⟩
end Go.Proofs.Ytffbkmcaecmmgaa.Ops
