/- script.Parse: the whole contract, for every text of at most 281474976710656 bytes. -/
import Derived.Test.YtdjffafcmomalaaDoorScrParseL
import Derived.Sort.CutIn
import Derived.Sort.QuietTacIn
import Derived.WalkMore
import Derived.Stop.RegionWithIn
set_option linter.unusedVariables false
set_option linter.unusedSimpArgs false
namespace Go.Proofs.YtdjffafcmomalaaDoor.Scr
open Go Go.RowKit
open Go.Proofs.YtdjffafcmomalaaDoorW.PrintWords Go.Proofs.YtdjffafcmomalaaDoor.PScr
attribute [local go_sem] Oper.semAt_some
attribute [local go_sem ↓ high] appG_eq

/-- Ahead of a round: the lines pre were well. -/
structure Pre (w : World) (pre : List (ByteArray × Bool)) (W : World) : Prop where
  out : Out w.heap.size w.heap.size (spansOf pre) W
  wrong : Boxed W (w.heap.size + 1) 25 (.int .i64 0)
  at_ : Boxed W (w.heap.size + 2) 3 (.int .i64 pre.length)
  all : Boxed W (w.heap.size + 3) 3 (.int .i64 (sumOf pre))
  text : ∃ t, Boxed W (w.heap.size + 4) 9 (.string t)
  bel : Below w.heap.size w W
  well : Well pre
/-- Behind a round that ended the loop. -/
def Bad (w : World) (c : Code) (pre : List (ByteArray × Bool)) (W : World) : Prop := c = .exit 0 ∧ ∃ code : Int, code ≠ 0 ∧ Boxed W (w.heap.size + 1) 25 (.int .i64 code) ∧ Boxed W (w.heap.size + 2) 3 (.int .i64 pre.length) ∧ Below w.heap.size w W ∧ ∀ r, scan (pre ++ r) 0 0 [] = ([], code, ((pre.length : Nat) : Int))

theorem other_box {n₀ B : Nat} {t : TypeId} {u : Value} {W W' : World} (h : Other n₀ W W') (hb : Boxed W B t u) : Boxed W' B t u := by
  obtain ⟨k, o, o', hk, ho, hc, rfl⟩ := h
  have hne : B ≠ k := fun e => by
    have hb' : W.heap[k]? = _ := e ▸ hb
    rw [hb'] at ho; cases ho; cases hc
  exact (World.putObj_heap_other hne).trans hb
theorem other_bel {n₀ n : Nat} {w W W' : World} (h : Other n₀ W W') (hn : w.heap.size ≤ n₀) (hb : Below w.heap.size w W) : Below w.heap.size w W' := by
  obtain ⟨k, o, o', hk, ho, hc, rfl⟩ := h
  exact hb.trans ((Below.refl w.heap.size W).grown (grownBy_putObj' W k o') (by have := hb.size; omega) (fun i e => by cases e; omega))
theorem Pre.other {w : World} {n₀ : Nat} (hn : w.heap.size ≤ n₀) {pre : List (ByteArray × Bool)} {W W' : World} (h : Other n₀ W W') (p : Pre w pre W) : Pre w pre W' := by
  obtain ⟨⟨v, h1, h2, _⟩, h3, h4, h5, ⟨t, h6⟩, h7, h8⟩ := p
  refine ⟨⟨v, other_box h h1, ?_, trivial⟩, other_box h h3, other_box h h4, other_box h h5, ⟨t, other_box h h6⟩, other_bel (n := 0) h hn h7, h8⟩
  obtain ⟨k, o, o', hk, ho, hc, rfl⟩ := h
  exact ownsRow_putObj h2 _ ho hc
theorem Bad.other {w : World} {n₀ : Nat} (hn : w.heap.size ≤ n₀) {c : Code} {pre : List (ByteArray × Bool)} {W W' : World} (h : Other n₀ W W') (p : Bad w c pre W) : Bad w c pre W' := by
  obtain ⟨h1, code, h2, h3, h4, h5, h6⟩ := p
  exact ⟨h1, code, h2, other_box h h3, other_box h h4, other_bel (n := 0) h hn h5, h6⟩
theorem set_box {W : World} {B k : Nat} {t : TypeId} {u u' : Value} (h : Boxed W B t u) (hne : B ≠ k) : Boxed (W.setCell ⟨k, 0, none⟩ u') B t u := (Below.heap_setCell W ⟨k, 0, none⟩ u' B hne).trans h
theorem Pre.turn {w : World} {pre : List (ByteArray × Bool)} {W W' : World} (h : Turn (w.heap.size + 4) W W') (p : Pre w pre W) : Pre w pre W' := by
  rcases h with ⟨n, rfl⟩ | ⟨t', rfl⟩
  · exact ⟨p.out, p.wrong, p.at_, p.all, p.text, pw_below_drewN p.bel n, p.well⟩
  · obtain ⟨⟨v, h1, h2, _⟩, h3, h4, h5, ⟨t, h6⟩, h7, h8⟩ := p
    exact ⟨⟨v, set_box h1 (by omega), ownsRow_setCell_other h2 (fun e => h6.not_row (by decide) h2 e.symm) _, trivial⟩, set_box h3 (by omega), set_box h4 (by omega), set_box h5 (by omega), ⟨_, h6.set _⟩, h7.setCell (by show w.heap.size ≤ w.heap.size + 4; omega) _, h8⟩

theorem Pre.alloc {w : World} {pre : List (ByteArray × Bool)} {W : World} (p : Pre w pre W) (o : Obj) : Pre w pre (W.alloc o) := by
  obtain ⟨⟨v, h1, h2, _⟩, h3, h4, h5, ⟨t, h6⟩, h7, h8⟩ := p
  exact ⟨⟨v, h1.alloc _, h2.alloc _, trivial⟩, h3.alloc _, h4.alloc _, h5.alloc _, ⟨t, h6.alloc _⟩, h7.alloc h7.size _, h8⟩
theorem start (w : World) (t : ByteArray) : Pre w [] (((((w.alloc (.cells #[.slice none 0 0] 23)).alloc (.cells #[.int .i64 0] 25)).alloc (.cells #[.int .i64 0] 3)).alloc (.cells #[.int .i64 0] 3)).alloc (.cells #[.string t] 9)) := by
  have b0 := Boxed.new w 23 (.slice none 0 0)
  have b1 := Boxed.new (w.alloc (.cells #[.slice none 0 0] 23)) 25 (.int .i64 0)
  have b2 := Boxed.new ((w.alloc (.cells #[.slice none 0 0] 23)).alloc (.cells #[.int .i64 0] 25)) 3 (.int .i64 0)
  have b3 := Boxed.new (((w.alloc (.cells #[.slice none 0 0] 23)).alloc (.cells #[.int .i64 0] 25)).alloc (.cells #[.int .i64 0] 3)) 3 (.int .i64 0)
  have b4 := Boxed.new ((((w.alloc (.cells #[.slice none 0 0] 23)).alloc (.cells #[.int .i64 0] 25)).alloc (.cells #[.int .i64 0] 3)).alloc (.cells #[.int .i64 0] 3)) 9 (.string t)
  simp only [World.size_alloc] at b1 b2 b3 b4
  refine ⟨⟨_, (((b0.alloc _).alloc _).alloc _).alloc _, World.ownsRow_nil _ _ _ _, trivial⟩, ((b1.alloc _).alloc _).alloc _, (b2.alloc _).alloc _, b3.alloc _, ⟨t, b4⟩, ?_, Well.nil⟩
  refine ((((((Below.refl w.heap.size w).alloc (Nat.le_refl _) _).alloc ?_ _).alloc ?_ _).alloc ?_ _).alloc ?_ _)
  all_goals (simp only [World.size_alloc]; omega)
/-- Within a round that began in W0. -/
structure St (w : World) (sp : List S34) (wr at_ al : Int) (W0 W : World) : Prop where
  out : Out w.heap.size w.heap.size sp W
  wrong : Boxed W (w.heap.size + 1) 25 (.int .i64 wr)
  at_ : Boxed W (w.heap.size + 2) 3 (.int .i64 at_)
  all : Boxed W (w.heap.size + 3) 3 (.int .i64 al)
  text : ∃ t, Boxed W (w.heap.size + 4) 9 (.string t)
  bel : Below w.heap.size w W
  ko : KeepsOthers W0 W
  kb : Kb (w.heap.size + 4) W0 W
theorem Pre.st {w : World} {pre : List (ByteArray × Bool)} {W : World} (p : Pre w pre W) : St w (spansOf pre) 0 pre.length (sumOf pre) W W :=
  ⟨p.out, p.wrong, p.at_, p.all, p.text, p.bel, KeepsOthers.refl _, rfl⟩
theorem St.below {w : World} {sp : List S34} {wr at_ al : Int} {W0 W W' : World} (p : St w sp wr at_ al W0 W) (h : Below W.heap.size W W') : St w sp wr at_ al W0 W' := by
  obtain ⟨⟨v, h1, h2, _⟩, h3, h4, h5, ⟨t, h6⟩, h7, h8, h9⟩ := p
  have k : ∀ {B : Nat} {t : TypeId} {u : Value}, Boxed W B t u → Boxed W' B t u := fun hb => (h.block _ hb.lt).trans hb
  exact ⟨⟨v, k h1, pw_own_below h2 h, trivial⟩, k h3, k h4, k h5, ⟨t, k h6⟩, below_step h7 h, h8.trans ⟨h.size, fun i o hi _ => (h.block i (Array.getElem?_eq_some_iff.1 hi).1).trans hi⟩, (h.block _ h6.lt).trans h9⟩
theorem St.set {w : World} {sp : List S34} {wr at_ al : Int} {W0 W : World} (p : St w sp wr at_ al W0 W) (k : Nat) (hk : k = 1 ∨ k = 2 ∨ k = 3) (u : Value) :
    Out w.heap.size w.heap.size sp (W.setCell ⟨w.heap.size + k, 0, none⟩ u) ∧ (∃ t, Boxed (W.setCell ⟨w.heap.size + k, 0, none⟩ u) (w.heap.size + 4) 9 (.string t)) ∧ Below w.heap.size w (W.setCell ⟨w.heap.size + k, 0, none⟩ u) ∧ KeepsOthers W0 (W.setCell ⟨w.heap.size + k, 0, none⟩ u) ∧ Kb (w.heap.size + 4) W0 (W.setCell ⟨w.heap.size + k, 0, none⟩ u) := by
  obtain ⟨⟨v, h1, h2, _⟩, h3, h4, h5, ⟨t, h6⟩, h7, h8, h9⟩ := p
  have hb : ∃ t u, t ≠ 34 ∧ Boxed W (w.heap.size + k) t u := by
    rcases hk with rfl | rfl | rfl
    · exact ⟨_, _, by decide, h3⟩
    · exact ⟨_, _, by decide, h4⟩
    · exact ⟨_, _, by decide, h5⟩
  obtain ⟨t', u', ht, hb⟩ := hb
  exact ⟨⟨v, set_box h1 (by omega), ownsRow_setCell_other h2 (fun e => hb.not_row ht h2 e.symm) _, trivial⟩, ⟨t, set_box h6 (by omega)⟩, h7.setCell (Nat.le_add_right _ _) _, h8.trans (KeepsOthers.setCell W ⟨w.heap.size + k, 0, none⟩ u), (Below.heap_setCell W ⟨w.heap.size + k, 0, none⟩ u _ (by show w.heap.size + 4 ≠ w.heap.size + k; omega)).trans h9⟩
theorem St.setWrong {w : World} {sp : List S34} {wr at_ al : Int} {W0 W : World} (p : St w sp wr at_ al W0 W) (u : Int) : St w sp u at_ al W0 (W.setCell ⟨w.heap.size + 1, 0, none⟩ (.int .i64 u)) := by
  obtain ⟨a, b, c, d, e⟩ := p.set 1 (.inl rfl) (.int .i64 u)
  exact ⟨a, p.wrong.set _, set_box p.at_ (by omega), set_box p.all (by omega), b, c, d, e⟩
theorem St.setAt {w : World} {sp : List S34} {wr at_ al : Int} {W0 W : World} (p : St w sp wr at_ al W0 W) (u : Int) : St w sp wr u al W0 (W.setCell ⟨w.heap.size + 2, 0, none⟩ (.int .i64 u)) := by
  obtain ⟨a, b, c, d, e⟩ := p.set 2 (.inr (.inl rfl)) (.int .i64 u)
  exact ⟨a, set_box p.wrong (by omega), p.at_.set _, set_box p.all (by omega), b, c, d, e⟩
theorem St.setAll {w : World} {sp : List S34} {wr at_ al : Int} {W0 W : World} (p : St w sp wr at_ al W0 W) (u : Int) : St w sp wr at_ u W0 (W.setCell ⟨w.heap.size + 3, 0, none⟩ (.int .i64 u)) := by
  obtain ⟨a, b, c, d, e⟩ := p.set 3 (.inr (.inr rfl)) (.int .i64 u)
  exact ⟨a, set_box p.wrong (by omega), set_box p.at_ (by omega), p.all.set _, b, c, d, e⟩
theorem wpIn_scope {n : Nat} {P : Program} {c : Code} {Q : Exit → Act → World → Prop} {a : Act} {w : World} (h : c.wpIn Fence.wide n P (Exit.noGoto Q) a w) : (Code.scope c).wpIn Fence.wide n P Q a w := wpIn_wide.2 (wp_scope_straight (wpIn_wide.1 h))
theorem wpIn_label {n : Nat} {P : Program} {l : Nat} {Q : Exit → Act → World → Prop} {a : Act} {w : World} (h : Q .normal a w) : (Code.label l).wpIn Fence.wide n P Q a w := wpIn_wide.2 (wp_label h)

abbrev ParseR (t : ByteArray) (w : World) (e : Ending) (w' : World) : Prop := ∃ v, e = .returned (.tuple #[v, .int .i64 (parseR t.data.toList).2.1, .int .i64 (parseR t.data.toList).2.2]) ∧
      w'.ownsRow w.heap.size 34 10 v (parseR t.data.toList).1.length (rowL (parseR t.data.toList).1) ∧ Below w.heap.size w w'
theorem results23 (tmps : Array Value) (w : World) (x y z : Value) (hx : tmps.getD 2 undef = x) (hy : tmps.getD 3 undef = y) (hz : tmps.getD 4 undef = z) : (results Tryd.f23 tmps).run Tryd.prog w = .ok (.tuple #[x, y, z]) w := by
  subst hx hy hz
  exact results_tmp3 rfl _ _ _
theorem early {t : ByteArray} {w : World} (hp : parseR t.data.toList = ([], 2, 0)) (tmps : Array Value) (w' : World) (h2 : tmps.getD 2 undef = .slice none 0 0) (h3 : tmps.getD 3 undef = .int .i64 2) (h4 : tmps.getD 4 undef = .int .i64 0) (hw : w' = w) :
    Exit.noGoto (bodyPostM Fence.wide 5 Tryd.prog Tryd.f23 (ParseR t w)) Exit.ret { tmps := tmps, defers := [] } w' := by
  subst hw
  refine (⟨_, results23 tmps w' _ _ _ h2 h3 h4, .slice none 0 0, ?_, ?_, Below.refl _ _⟩ : ∃ v, (results Tryd.f23 tmps).run Tryd.prog w' = .ok v w' ∧ ParseR t w' (.returned v) w')
  · rw [hp]
  · rw [hp]; exact World.ownsRow_nil _ _ _ _

theorem late {t : ByteArray} {w : World} {l : List S34} {code at_ : Int} (hp : parseR t.data.toList = (l, code, at_)) (tmps : Array Value) (W : World) (D : Nat) (v : Value) (h2 : tmps.getD 2 undef = v) (h3 : tmps.getD 3 undef = .int .i64 code) (h4 : tmps.getD 4 undef = .int .i64 at_)
    (hD : w.heap.size ≤ D) (hd : W.heap[D]? = some (.deferred (some []))) (hrow : W.ownsRow w.heap.size 34 10 v l.length (rowL l)) (hb : Below w.heap.size w W) :
    Exit.noGoto (bodyPostM Fence.wide 5 Tryd.prog Tryd.f23 (ParseR t w)) Exit.ret { tmps := tmps, defers := [{ target := .collected D, args := #[] }] } W := by
  have e : LeavesInM Fence.wide 5 Tryd.prog Tryd.f23 tmps (ParseR t w) [{ target := .collected D, args := #[] }] .returning W := by
    refine ⟨by simp, .inl ⟨D, _, rfl, run_takeDeferred hd, ?_⟩⟩
    refine (⟨_, results23 tmps _ _ _ _ h2 h3 h4, v, ?_, ?_, hb.trans (belowK_b (w := w) (Nat.le_refl _) W D _ _ hD hd rfl rfl)⟩ : ∃ v, (results Tryd.f23 tmps).run Tryd.prog (W.putObj D (.deferred none)) = .ok v (W.putObj D (.deferred none)) ∧ ParseR t w (.returned v) (W.putObj D (.deferred none)))
    · rw [hp]
    · rw [hp]; exact ownsRow_putObj hrow _ hd rfl
  exact e

set_option maxRecDepth 100000 in
set_option maxHeartbeats 4000000 in
theorem parse_calls (t : ByteArray) (w : World) (hsz : t.size ≤ 281474976710656) (hG : GOk w) :
    Calls Tryd.prog 23 #[.string t] w fun e w' => ∃ v, e = .returned (.tuple #[v, .int .i64 (parseR t.data.toList).2.1, .int .i64 (parseR t.data.toList).2.2]) ∧
      w'.ownsRow w.heap.size 34 10 v (parseR t.data.toList).1.length (rowL (parseR t.data.toList).1) ∧ Below w.heap.size w w' := by
  refine (callsIn_wide (n := 5)).1 ?_
  refine callsIn_of_wp_marks Tryd.func23 rfl trivial ?_ rfl
  simp only [Tryd.ntmps23, List.size_toArray, List.length_cons, List.length_nil, Nat.reduceAdd, Nat.reduceSub, Array.replicate_succ, Array.replicate_zero, List.push_toArray, List.append_toArray, List.nil_append, List.cons_append]
  have HG := Lib.hid hG
  have HS := Lib.hid hsz
  have HC := Lib.hid ((callsIn_wide (n := 4)).2 (Tryd.strings_Count_one t 10 w))
  have HX := Lib.hid ((callsIn_wide (n := 4)).2 (Tryd.strings_HasSuffix t ⟨#[10]⟩ w (by omega)))
  obtain ⟨c0, hc0⟩ : ∃ c0 : Nat, Lib.countByte t.data.toList 10 = c0 := ⟨_, rfl⟩
  rw [hc0] at HC
  have hcb : c0 ≤ t.size := by rw [← hc0]; exact List.count_le_length
  clear hG hsz
  have CC := HC.out
  obtain ⟨sfx, hsfx⟩ : ∃ sfx, Lib.hasSuffix t.data.toList [10] = sfx := ⟨_, rfl⟩
  have CX := HX.out
  rw [hsfx] at CX
  have hb : Hid (countL t.data.toList = (c0 : Int) + (if (!(t.toList == []) && !sfx) = true then 1 else 0)) := by
    refine Lib.hid ?_
    have e : (t.data.toList = []) ↔ (t.toList == []) = true := by rw [beq_iff_eq, ByteArray.toList_eq]
    unfold countL
    rw [hc0, hsfx]
    simp only [e]
    cases (t.toList == []) <;> cases sfx <;> simp
  have HQ := Lib.hid hc0
  have HSF := Lib.hid hsfx
  have hcc : (c0 : Int) ≤ 281474976710656 := by have := HS.out; omega
  clear hc0 hsfx HC HX
  gi_wp2
  refine wpIn_scope ?_
  gi_upto_region 2 with (refine ⟨trivial, ?_⟩; gi_at_call 40; (with_reducible refine CC.mono ?_); rintro e w ⟨rfl, rfl⟩)
  gi_cut [22] from 66 (fun s22 wx => s22 = .bool (!(t.toList == []) && !sfx) ∧ wx = w)
  case first =>
    cases hte : (t.toList == [])
    · cases sfx
      · gi_wp2_with (refine ⟨trivial, ?_⟩; gi_at_call 41; (with_reducible refine CX.mono ?_); rintro e w ⟨rfl, rfl⟩)
        gi_meet
        case rel => exact ⟨by rw [hte]; rfl, rfl⟩
      · gi_wp2_with (refine ⟨trivial, ?_⟩; gi_at_call 41; (with_reducible refine CX.mono ?_); rintro e w ⟨rfl, rfl⟩)
        gi_meet
        case rel => exact ⟨by rw [hte]; rfl, rfl⟩
    · gi_wp2
      refine ⟨trivial, ?_⟩
      gi_wp2
      gi_meet
      case rel => exact ⟨by rw [hte]; rfl, rfl⟩
  case rest =>
    obtain ⟨rfl, rfl⟩ := hcut
    obtain ⟨b, hbb⟩ : ∃ b, (!(t.toList == []) && !sfx) = b := ⟨_, rfl⟩
    rw [hbb] at hb ⊢
    clear hbb CC CX
    gi_upto_if 22 with fail
    gi_cut [5] from 66 (fun s5 wx => s5 = .int .i64 (countL t.data.toList) ∧ wx = wc)
    case first =>
      cases b
      · gi_wp2
        gi_meet
        case rel => exact ⟨by rw [hb.out]; simp, rfl⟩
      · gi_wp2
        gi_meet
        case rel => exact ⟨by rw [hb.out]; go_num, rfl⟩
    case rest =>
      obtain ⟨rfl, rfl⟩ := hcut
      obtain ⟨cl, hcl⟩ : ∃ cl, countL t.data.toList = cl := ⟨_, rfl⟩
      have hlen : (t.data.toList.length : Int) = (t.size : Int) := by simp
      rw [hcl]
      have HCL := Lib.hid hcl
      have hpr : parseR t.data.toList = if (65536 < t.size ∨ 4096 < cl) then ([], 2, 0) else scan (linesL t.data.toList) 0 0 [] := by
        unfold parseR
        rw [hcl, show t.data.toList.length = t.size from by omega]
      have HPR := Lib.hid hpr
      clear hcl hpr hlen hb hcc
      by_cases hs : 65536 < t.size
      · have hp : parseR t.data.toList = ([], 2, 0) := by rw [HPR.out, if_pos (Or.inl hs)]
        have HP := Lib.hid hp
        have hsI : (65536 : Int) < (t.size : Int) := by omega
        clear hp HPR
        gi_wp2
        exact early HP.out _ _ (by rfl) (by rfl) (by rfl) (by rfl)
      · by_cases hs2 : 4096 < cl
        · have hp : parseR t.data.toList = ([], 2, 0) := by rw [HPR.out, if_pos (Or.inr hs2)]
          have HP := Lib.hid hp
          have hsI : ¬ (65536 : Int) < (t.size : Int) := by omega
          clear hp HPR
          gi_wp2
          exact early HP.out _ _ (by rfl) (by rfl) (by rfl) (by rfl)
        · have hp : parseR t.data.toList = scan (linesL t.data.toList) 0 0 [] := by rw [HPR.out, if_neg (by omega)]
          have hsI : ¬ (65536 : Int) < (t.size : Int) := by omega
          have HP := Lib.hid hp
          have hsz : t.size ≤ 65536 := by omega
          have HSZ := Lib.hid hsz
          clear hp HPR hs hsz
          gi_wp2
          refine wpIn_label ?_
          obtain ⟨w4, hw4⟩ : ∃ w4, ((((wc.alloc (Obj.cells #[Value.slice none 0 0] 23)).alloc (Obj.cells #[Value.int IntKind.i64 0] 25)).alloc (Obj.cells #[Value.int IntKind.i64 0] 3)).alloc (Obj.cells #[Value.int IntKind.i64 0] 3)) = w4 := ⟨_, rfl⟩
          rw [hw4]
          have HL := lines_in 4 t w4
          have s4 : w4.heap.size = wc.heap.size + 4 := by rw [← hw4]; simp
          gi_wp2_with (refine ⟨trivial, ?_⟩; gi_at_call 42; (with_reducible refine HL.mono ?_); rintro e w' ⟨rfl, rfl⟩)
          simp only [Nat.add_assoc, Nat.reduceAdd]
          have P0 : Pre wc [] (w4.alloc (.cells #[.string t] 9)) := by rw [← hw4]; exact start wc t
          have s5 : (w4.alloc (.cells #[.string t] 9)).heap.size = wc.heap.size + 5 := by rw [World.size_alloc, s4]
          have tb : Boxed (w4.alloc (.cells #[.string t] 9)) (wc.heap.size + 4) 9 (.string ⟨t.data.toList.toArray⟩) := by
            have := Boxed.new w4 9 (.string t)
            rw [s4] at this
            simpa using this
          have HW4 := Lib.hid hw4
          clear hw4 HL s4
          generalize w4.alloc (.cells #[.string t] 9) = w5 at P0 s5 tb ⊢
          have hle : wc.heap.size ≤ w5.heap.size := by omega
          refine range_lines 5 (by omega) (by rfl) (wc.heap.size + 4) t.data.toList (by have := HSZ.out; simp; omega) (by rfl) tb (Pre wc) (Bad wc)
            (fun pre W W' h p => p.other hle h) (fun c pre W W' h p => p.other hle h) (fun pre W W' h p => p.turn h) (fun pre W p => ⟨_, p.text.choose_spec, rfl⟩) (fun pre W p => (GOk.below HG.out p.bel).max)
            (fun o o' => (P0.alloc o).alloc o') (fun x => { tmps := #[.string t, undef, .slice none 0 0, .int .i64 0, .int .i64 0, .int .i64 cl, .pointer (some ⟨wc.heap.size, 0, none⟩), .pointer (some ⟨wc.heap.size + 1, 0, none⟩), .pointer (some ⟨wc.heap.size + 2, 0, none⟩), .pointer (some ⟨wc.heap.size + 3, 0, none⟩), .string x.1, .bool x.2, undef, undef, .string t, .int .i64 c0, u16, u17, u18, u19, u20, u21, .bool b, u23, u24, .string t, .int .i64 t.size, .bool false, .bool false, .int .i64 cl, .bool false, .bool false, .string t, .func (.func 60) #[] #[.pointer (some ⟨wc.heap.size + 4, 0, none⟩)], .string x.1, .bool x.2, undef, undef, undef, undef, undef, undef, undef, undef, undef, undef, undef, undef, undef, undef, undef, undef, undef, undef, undef, undef, undef, undef, undef, undef, undef, undef, undef, undef, undef, undef], defers := [] }) ?assign ?body ?done ?stop
          case assign =>
            intro l x W K hK
            gi_wp2
            exact hK
          case body =>
            intro l pre x W hp hpre
            obtain ⟨xl, en⟩ := x
            dsimp only
            have hmem : (xl, en) ∈ linesL t.data.toList := hpre.subset (by simp)
            have hxs : xl.size ≤ 70000 := by
              have := linesF_size _ t.data.toList t.data.toList.length (Nat.le_refl _) (xl, en) hmem
              have h2 := HSZ.out
              simp at this; omega
            have hpl : pre.length ≤ 65536 := by
              have h1 := hpre.length_le
              have h2 := linesF_len t.data.toList.length t.data.toList
              have h3 := HSZ.out
              simp at h1 h2
              have h4 : (linesL t.data.toList).length ≤ t.data.toList.length := linesF_len _ _
              simp at h4; omega
            have S0 := hp.st
            have S1 := S0.setAt (pre.length + 1)
            have HW := Lib.hid hp.well
            have HR := Lib.hid (CallsIn.inRound l ((callsIn_wide (n := 2)).2 (read_calls xl _ hxs (GOk.below HG.out S1.bel))))
            have c2 := S0.at_.cell
            have f2 := S0.at_.frozen
            have HS1 := Lib.hid S1
            clear S0 S1 hp hmem hpre P0 tb s5 hle
            obtain ⟨q, hrd⟩ : ∃ q, readR xl = q := ⟨_, rfl⟩
            obtain ⟨s, ok⟩ := q
            rw [hrd] at HR
            have RC := HR.out
            have HRD := Lib.hid hrd
            clear hrd HR
            gi_upto_region 14 with (refine ⟨trivial, ?_⟩; gi_at_call 43; (with_reducible refine RC.mono ?_); rintro e W2 ⟨rfl, hb⟩)
            have S3 := (HS1.out.below hb).below (below_alloc (Below.refl W2.heap.size W2) (.cells #[.int .i64 s.f0, .int .u16 s.f1, .bool s.f2, .bool s.f3, .bool s.f4, .bool s.f5, .bool s.f6, .bool s.f7, .bool s.f8, .int .u8 s.f9] 34))
            have bx : Bx s W2.heap.size (W2.alloc (.cells #[.int .i64 s.f0, .int .u16 s.f1, .bool s.f2, .bool s.f3, .bool s.f4, .bool s.f5, .bool s.f6, .bool s.f7, .bool s.f8, .int .u8 s.f9] 34)) := heap_alloc_new W2 _
            clear HS1 hb RC c2 f2
            generalize W2.alloc (.cells #[.int .i64 s.f0, .int .u16 s.f1, .bool s.f2, .bool s.f3, .bool s.f4, .bool s.f5, .bool s.f6, .bool s.f7, .bool s.f8, .int .u8 s.f9] 34) = W3 at S3 bx ⊢
            generalize W2.heap.size = g at bx ⊢
            have hg : g ≠ wc.heap.size + 3 := blk_ne bx S3.all (by decide)
            have c3 := S3.all.cell
            have f3 := S3.all.frozen
            have c0_ : W3.cell? ⟨g, 0, none⟩ = some (.int .i64 s.f0) := (blk_cell bx 0).trans rfl
            have HS3 := Lib.hid S3
            have HBX := Lib.hid bx
            clear S3 bx
            gi_upto_region 15 with fail
            have S4 := HS3.out.setAll (wrap64 (sumOf pre + s.f0))
            have bx4 : Bx s g (W3.setCell ⟨wc.heap.size + 3, 0, none⟩ (.int .i64 (wrap64 (sumOf pre + s.f0)))) := (Below.heap_setCell W3 ⟨wc.heap.size + 3, 0, none⟩ _ g hg).trans HBX.out
            clear HS3 HBX c3 f3 c0_ hg
            generalize W3.setCell ⟨wc.heap.size + 3, 0, none⟩ (.int .i64 (wrap64 (sumOf pre + s.f0))) = W4 at S4 bx4 ⊢
            obtain ⟨al, hal⟩ : ∃ al, wrap64 (sumOf pre + s.f0) = al := ⟨_, rfl⟩
            rw [hal] at S4 ⊢
            have c1 := S4.wrong.cell
            have f1 := S4.wrong.frozen
            have c3 := S4.all.cell
            have HS4 := Lib.hid S4
            have HBX := Lib.hid bx4
            have HAL := Lib.hid hal
            clear S4 bx4 hal
            have bad : ∀ a', (ok && en) = false → ownPostG w5.heap.size (Kb (wc.heap.size + 4)) (Pre wc) (Bad wc) (pre ++ [(xl, en)]) W (.exit 0) a' (W4.setCell ⟨wc.heap.size + 1, 0, none⟩ (.int .i64 71)) := fun a' hoe => by
              have h5 := HS4.out.setWrong 71
              refine ⟨h5.ko.from _, rfl, 71, by decide, h5.wrong, ?_, h5.bel, fun r => ?_⟩
              · have := h5.at_
                simpa using this
              · exact HW.out.bad (xl, en) (by show ((readR xl).2 && en) = false; rw [HRD.out]; exact hoe) r
            have HBAD := Lib.hid bad
            clear bad
            cases ok
            · gi_wp2
              exact HBAD.out _ rfl
            · cases en
              · gi_wp2
                exact HBAD.out _ rfl
              · clear HBAD
                have hrk := readR_ok xl (by rw [HRD.out])
                rw [HRD.out] at hrk
                have hal : al = sumOf pre + s.f0 := by
                  have h1 := HW.out.2.1
                  have h2 := HW.out.2.2
                  have h3 := hrk.2.1
                  have h4 := hrk.2.2.1
                  dsimp only at h3 h4
                  rw [← HAL.out]
                  exact IntWalk.wrap64_in _ (by omega)
                have HAL2 := Lib.hid hal
                clear hal hrk HAL
                by_cases h4 : 4194304 < al
                · have bad : ∀ a', ownPostG w5.heap.size (Kb (wc.heap.size + 4)) (Pre wc) (Bad wc) (pre ++ [(xl, true)]) W (.exit 0) a' (W4.setCell ⟨wc.heap.size + 1, 0, none⟩ (.int .i64 70)) := fun a' => by
                    have h5 := HS4.out.setWrong 70
                    refine ⟨h5.ko.from _, rfl, 70, by decide, h5.wrong, ?_, h5.bel, fun r => ?_⟩
                    · have := h5.at_
                      simpa using this
                    · refine HW.out.long (xl, true) (by show ((readR xl).2 && true) = true; rw [HRD.out]; rfl) (by show 4194304 < sumOf pre + (readR xl).1.f0; rw [HRD.out, ← HAL2.out]; exact h4) r
                  have HBAD := Lib.hid bad
                  clear bad
                  gi_wp2
                  exact HBAD.out _
                · obtain ⟨v, hv, hrow, _⟩ := HS4.out.out
                  have hsl : (spansOf pre).length = pre.length := by simp [spansOf]
                  obtain ⟨g2, cap, w1, hrun, hc1, hf1, hO, hK, hB2, hbox⟩ := more34 s hv hrow (Nat.le_refl _) (by rw [hsl]; omega)
                  have hvcell := hv.cell
                  have hfin : ∀ a', ownPostG w5.heap.size (Kb (wc.heap.size + 4)) (Pre wc) (Bad wc) (pre ++ [(xl, true)]) W .normal a' (w1.setCell ⟨wc.heap.size, 0, none⟩ (.slice (some ⟨g2, 0, none⟩) ((spansOf pre).length + 1) cap)) := fun a' => by
                    have q := HS4.out
                    obtain ⟨tt, htt⟩ := q.text
                    have e1 := hbox _ _ _ q.wrong (by decide) (by omega)
                    have e2 := hbox _ _ _ q.at_ (by decide) (by omega)
                    have e3 := hbox _ _ _ q.all (by decide) (by omega)
                    have e4 := hbox _ _ _ htt (by decide) (by omega)
                    have hwl := HW.out.snoc (xl, true) (by show ((readR xl).2 && true) = true; rw [HRD.out]; rfl) (by show sumOf pre + (readR xl).1.f0 ≤ 4194304; rw [HRD.out]; have := HAL2.out; dsimp only; omega)
                    refine ⟨(q.ko.trans hK).from _, Eq.trans e4 q.kb, ⟨?_, Eq.trans e1 q.wrong, ?_, ?_, ⟨tt, Eq.trans e4 htt⟩, q.bel.trans hB2, hwl⟩⟩
                    · rw [spansOf_snoc, HRD.out]; exact hO
                    · have : Boxed _ _ _ _ := Eq.trans e2 q.at_
                      simpa using this
                    · rw [sumOf_snoc, HRD.out, ← HAL2.out]
                      exact Eq.trans e3 q.all
                  have HFIN := Lib.hid hfin
                  have bxx := HBX.out
                  have d0 : W4.cell? ⟨g, 0, none⟩ = some (.int .i64 s.f0) := (blk_cell bxx 0).trans rfl
                  have d1 : W4.cell? ⟨g, 1, none⟩ = some (.int .u16 s.f1) := (blk_cell bxx 1).trans rfl
                  have d2 : W4.cell? ⟨g, 2, none⟩ = some (.bool s.f2) := (blk_cell bxx 2).trans rfl
                  have d3 : W4.cell? ⟨g, 3, none⟩ = some (.bool s.f3) := (blk_cell bxx 3).trans rfl
                  have d4 : W4.cell? ⟨g, 4, none⟩ = some (.bool s.f4) := (blk_cell bxx 4).trans rfl
                  have d5 : W4.cell? ⟨g, 5, none⟩ = some (.bool s.f5) := (blk_cell bxx 5).trans rfl
                  have d6 : W4.cell? ⟨g, 6, none⟩ = some (.bool s.f6) := (blk_cell bxx 6).trans rfl
                  have d7 : W4.cell? ⟨g, 7, none⟩ = some (.bool s.f7) := (blk_cell bxx 7).trans rfl
                  have d8 : W4.cell? ⟨g, 8, none⟩ = some (.bool s.f8) := (blk_cell bxx 8).trans rfl
                  have d9 : W4.cell? ⟨g, 9, none⟩ = some (.int .u8 s.f9) := (blk_cell bxx 9).trans rfl
                  clear hfin hO hK hB2 hbox hrow hv bxx hsl
                  gi_wp2
                  exact HFIN.out _
          case done =>
            intro D W hD hp hd
            have hpr : parseR t.data.toList = (spansOf (linesL t.data.toList), 0, 0) := by
              rw [HP.out]
              have := hp.well.1 []
              rw [List.append_nil] at this
              rw [this]; rfl
            obtain ⟨⟨v, hv, hrow, _⟩, hw, _, _, _, hb, _⟩ := hp
            have c1 := hw.cell
            have c2 := hv.cell
            have HR := Lib.hid hrow
            have HB := Lib.hid hb
            have HD := Lib.hid hD
            have HDD := Lib.hid hd
            have HPR := Lib.hid hpr
            clear hrow hb hD hd hpr hv hw P0 tb s5
            gi_wp2
            exact late HPR.out _ _ D v (by rfl) (by rfl) (by rfl) (Nat.le_trans hle HD.out) HDD.out HR.out HB.out
          case stop =>
            rintro D c pre W hD hpre ⟨rfl, code, hc0, hw, hat, hb, hsc⟩ hd
            have hpr : parseR t.data.toList = ([], code, ((pre.length : Nat) : Int)) := by
              obtain ⟨r, hr⟩ := hpre
              rw [HP.out, ← hr]
              exact hsc r
            have c1 := hw.cell
            have c2 := hat.cell
            have e1 : (code != 0) = true := bne_iff_ne.2 hc0
            have e2 : (code == 0) = false := beq_eq_false_iff_ne.2 hc0
            have HB := Lib.hid hb
            have HD := Lib.hid hD
            have HDD := Lib.hid hd
            have HPR := Lib.hid hpr
            clear hb hD hd hpr hw hat hsc hpre P0 tb s5
            gi_wp2
            gi_quiet_th (fail)
            gi_wp2
            exact late HPR.out _ _ D (.slice none 0 0) (by rfl) (by rfl) (by rfl) (Nat.le_trans hle HD.out) HDD.out (World.ownsRow_nil _ _ _ _) (pw_below_drewN HB.out nq)
end Go.Proofs.YtdjffafcmomalaaDoor.Scr
