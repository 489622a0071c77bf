/- script.Print: a script as text. -/
import Derived.Test.YtdjffafcmomalaaDoorScrLine
import Derived.Test.YtdjffafcmomalaaDoorScrBld
import Derived.Test.YtdjffafcmomalaaDoorPScrx2
set_option linter.unusedVariables false
set_option linter.unusedSimpArgs false
namespace Go.Proofs.YtdjffafcmomalaaDoor.Scr
open Go Go.RowKit
open Go.Proofs.YtdjffafcmomalaaDoorW.PrintWords Go.Proofs.YtdjffafcmomalaaDoor.PScr

def okS (s : S34) : Bool := decide (-9223372036854775808 ≤ s.f0) && decide (s.f0 ≤ 9223372036854775807) && decide (0 ≤ s.f1) && decide (s.f1 < 65536) && decide (0 ≤ s.f9) && decide (s.f9 < 256)
def printB (l : List S34) : List UInt8 := l.flatMap fun s => (lineB s).data.toList ++ [10]
theorem lineB_size (s : S34) (h : okS s = true) : (lineB s).size ≤ 100 := by
  simp only [okS, Bool.and_eq_true, decide_eq_true_eq] at h
  obtain ⟨⟨⟨⟨⟨h0, h1⟩, _⟩, _⟩, _⟩, _⟩ := h
  have := (line_sizes s (itoa_len _ h0 h1)).2.2.2.2.2.2.2
  unfold lineB
  split
  · omega
  · simp only [ByteArray.size_append, hexS2_size]
    have : (⟨#[32, 98, 117, 115, 32]⟩ : ByteArray).size = 5 := rfl
    omega
theorem printB_snoc (l : List S34) (s : S34) : printB (l ++ [s]) = printB l ++ ((lineB s).data.toList ++ [10]) := by simp [printB, List.flatMap_append]
theorem printB_len (l : List S34) (h : l.all okS = true) : (printB l).length ≤ 101 * l.length := by
  induction l with
  | nil => simp [printB]
  | cons x l ih =>
    rw [List.all_cons, Bool.and_eq_true] at h
    have h1 := lineB_size x h.1
    have h2 := ih h.2
    have e : printB (x :: l) = (lineB x).data.toList ++ [10] ++ printB l := rfl
    rw [e]
    simp only [List.length_append, List.length_cons, List.length_nil, Array.length_toList]
    have h3 : (lineB x).data.size ≤ 100 := h1
    omega

theorem bld_below {B b : Nat} {bs : List Value} {w w1 : World} (h : Lib.IsBuilder 59 5 B b bs w) (hb : Below w.heap.size w w1) : Lib.IsBuilder 59 5 B b bs w1 := by
  have key : ∀ {p : Value}, Lib.BuilderAt 59 5 B b p bs w → Lib.BuilderAt 59 5 B b p bs w1 := by
    rintro p ⟨hB, v, hbk, hown, hne⟩
    exact ⟨hB, v, (hb.block b (Array.getElem?_eq_some_iff.1 hbk).1).trans hbk, pw_own_below hown hb, hne⟩
  exact h.elim (fun x => .inl (key x)) (fun x => .inr (key x))
theorem bld_new (w : World) : Lib.IsBuilder 59 5 w.heap.size w.heap.size [] (w.alloc (.cells #[.pointer none, .slice none 0 0] 59)) :=
  .inl ⟨Nat.le_refl _, .slice none 0 0, heap_alloc_new w _, own_nil _ _ _ _, by simp [Value.ownBlock]⟩
theorem strCells_line (s : ByteArray) : Lib.strCells (s ++ (⟨#[10]⟩ : ByteArray)) = Lib.byteCells (s.data.toList ++ [10]) := by
  simp [Lib.strCells, Lib.byteCells]

theorem all_take {l : List S34} (h : l.all okS = true) (k : Nat) : (l.take k).all okS = true := by
  rw [List.all_eq_true] at h ⊢
  exact fun x hx => h x (List.mem_of_mem_take hx)

set_option maxRecDepth 100000 in
set_option maxHeartbeats 4000000 in
theorem print_ok (A : Option Addr) (c : Nat) (l : List S34) (w0 : World) (hr : Kd.C k34 w0 A l.length l) (hc : l.length ≤ c) (hok : l.all okS = true) (hch : script_Check.f 5000 l = some 0) (hlen : l.length ≤ 4096) (hG : GOk w0) (r : ByteArray) (x : Int) (hres : if (printB l).length > 65536 then r = ⟨#[]⟩ ∧ x = 2 else r = ⟨(printB l).toArray⟩ ∧ x = 0) :
    Calls Tryd.prog 21 #[.slice A l.length c] w0 fun e w' => e = .returned (.tuple #[.string r, .int .i64 x]) ∧ Below w0.heap.size w0 w' := by
  have HX := Aside0.mk hres
  clear hres
  have HR := Aside0.mk hr
  have HC := Aside0.mk hc
  have HG := Aside0.mk hG
  have OK := Aside0.mk hok
  have CH := Aside0.mk hch
  clear hr hc hG hok hch
  go_enter Tryd.func21, Tryd.ntmps21
  go_wp2_with fail
  (with_reducible refine (script_Check.calls 5000 A c l 0 _ HR.out HC.out CH.out).mono ?_)
  rintro e w1 ⟨rfl, hb⟩
  have B1 := Aside0.mk hb
  clear hb
  have hs1 : w0.heap.size ≤ w1.heap.size := B1.out.size
  have NB : Aside0 (Lib.IsBuilder 59 5 w1.heap.size w1.heap.size [] (w1.alloc (.cells #[.pointer none, .slice none 0 0] 59))) := ⟨bld_new w1⟩
  have B2 := Aside0.mk (below_alloc B1.out (.cells #[.pointer none, .slice none 0 0] 59))
  have HZ : Aside0 (w1.heap.size ≤ (w1.alloc (.cells #[.pointer none, .slice none 0 0] 59)).heap.size) := ⟨by simp⟩
  go_wp2
  go_loopw [15] (fun i wr => ∃ k : Nat, k ≤ l.length ∧ i = .int .i64 k ∧ Aside0 (Lib.IsBuilder 59 5 w1.heap.size w1.heap.size (Lib.byteCells (printB (l.take k))) wr ∧ Below w0.heap.size w0 wr ∧ w1.heap.size ≤ wr.heap.size)) (fun i _ => l.length - (RowKit.intOf i).toNat)
  case atStart => exact ⟨0, Nat.zero_le _, rfl, ⟨NB.out, B2.out, HZ.out⟩⟩
  case round =>
    clear NB B2 HZ
    obtain ⟨k, hk, rfl, HP⟩ := hrel
    by_cases hlt : k < l.length
    · obtain ⟨ad, e, q0, q1, q2, q3, q4, q5, q6, q7, q8, q9⟩ := at_T34 (Kd.C_below HR.out HP.out.2.1) (k : Int) (by omega) (by omega)
      cases e
      have hel : rd_T34 l (k : Int) = l[k] := by unfold rd_T34; simp [List.getD_eq_getElem?_getD, List.getElem?_eq_getElem hlt]
      have oks : okS (rd_T34 l (k : Int)) = true := by rw [hel]; exact List.all_eq_true.1 OK.out _ (List.getElem_mem hlt)
      have hsn : printB (l.take (k + 1)) = printB (l.take k) ++ ((lineB (rd_T34 l (k : Int))).data.toList ++ [10]) := by rw [List.take_succ_eq_append_getElem hlt, printB_snoc, hel]
      have hpl := printB_len (l.take k) (all_take OK.out k)
      have htl : (l.take k).length ≤ 4096 := by rw [List.length_take]; omega
      have hls := lineB_size _ oks
      simp only [okS, Bool.and_eq_true, decide_eq_true_eq] at oks
      obtain ⟨⟨⟨⟨⟨o0, o1⟩, o2⟩, o3⟩, o4⟩, o5⟩ := oks
      have SN := Aside0.mk hsn
      have PL := Aside0.mk hpl
      have TL := Aside0.mk htl
      clear hsn hpl htl hel
      obtain ⟨s, hs⟩ : ∃ s, s = rd_T34 l (k : Int) := ⟨_, rfl⟩
      rw [← hs] at q0 q1 q2 q3 q4 q5 q6 q7 q8 q9 hls o0 o1 o2 o3 o4 o5 SN
      clear hs
      have HBd : Aside0 (∀ o, Lib.IsBuilder 59 5 w1.heap.size w1.heap.size (Lib.byteCells (printB (l.take k))) (wr.alloc o) ∧ Below w0.heap.size w0 (wr.alloc o) ∧ w1.heap.size ≤ (wr.alloc o).heap.size) := ⟨fun o => ⟨bld_below HP.out.1 (below_alloc (Below.refl _ _) o), below_alloc HP.out.2.1 o, by simp; have := HP.out.2.2; omega⟩⟩
      clear HP
      simp only [Int.toNat_natCast] at q0 q1 q2 q3 q4 q5 q6 q7 q8 q9
      have i0 : (0 : Int) ≤ (k : Int) := by omega
      have i1 : (k : Int) < (l.length : Int) := by omega
      go_wp2_with fail
      (with_reducible refine (line_calls s _ o0 o1 o2 o3 o4 o5 (GOk.below HG.out (HBd.out _).2.1)).mono ?_)
      rintro e w2 ⟨rfl, hb⟩
      have IB := Aside0.mk (bld_below (HBd.out _).1 hb)
      have B3 := Aside0.mk (below_step (HBd.out _).2.1 hb)
      have Z3 := Aside0.mk (Nat.le_trans (HBd.out _).2.2 hb.size)
      clear hb HBd
      go_wp2_with fail
      have hz : (Lib.byteCells (printB (l.take k))).length + (lineB s ++ (⟨#[10]⟩ : ByteArray)).size ≤ 140737488355328 := by
        rw [Lib.byteCells_length, ByteArray.size_append]
        have := PL.out
        have := TL.out
        have : (⟨#[10]⟩ : ByteArray).size = 1 := rfl
        omega
      (with_reducible refine (Bld.writeString w1.heap.size w1.heap.size (Lib.byteCells (printB (l.take k))) (lineB s ++ (⟨#[10]⟩ : ByteArray)) w2 IB.out hz Z3.out).mono ?_)
      rintro e w3 ⟨rfl, hbd, hb⟩
      have HN : Aside0 (Lib.IsBuilder 59 5 w1.heap.size w1.heap.size (Lib.byteCells (printB (l.take (k + 1)))) w3 ∧ Below w0.heap.size w0 w3 ∧ w1.heap.size ≤ w3.heap.size) := by
        refine ⟨?_, B3.out.trans (hb.mono hs1), Nat.le_trans Z3.out hb.size⟩
        rw [strCells_line] at hbd
        rw [SN.out]
        right
        have e : Lib.byteCells (printB (l.take k) ++ ((lineB s).data.toList ++ [10])) = Lib.byteCells (printB (l.take k)) ++ Lib.byteCells ((lineB s).data.toList ++ [10]) := by simp [Lib.byteCells]
        rw [e]; exact hbd
      clear hbd hb IB B3 Z3 hz
      go_wp2
      go_roundw
      case rel => exact ⟨k + 1, by omega, by go_num, HN⟩
      case measure => simp [RowKit.intOf]; omega
    · obtain rfl : k = l.length := by omega
      have hp := HP.out
      rw [List.take_of_length_le (Nat.le_refl _)] at hp
      have HQ := Aside0.mk hp
      clear hp HP
      have hbl := Lib.byteCells_length (printB l)
      go_wp2_with fail
      (with_reducible refine (Tryd.Builder_Len w1.heap.size w1.heap.size (Lib.byteCells (printB l)) wr HQ.out.1).mono ?_)
      rintro e w2 ⟨rfl, hw⟩
      subst hw
      by_cases hbig : (printB l).length > 65536
      · have hx := HX.out
        rw [if_pos hbig] at hx
        obtain ⟨rfl, rfl⟩ := hx
        clear HX
        have hd : 65536 < (Lib.byteCells (printB l)).length := by omega
        go_wp2
        go_ret2
        exact ⟨rfl, HQ.out.2.1⟩
      · have hx := HX.out
        rw [if_neg hbig] at hx
        obtain ⟨rfl, rfl⟩ := hx
        clear HX
        have hd : ¬ 65536 < (Lib.byteCells (printB l)).length := by omega
        go_wp2_with fail
        (with_reducible refine (Tryd.Builder_String_any w1.heap.size w1.heap.size (printB l) w2 HQ.out.1 HQ.out.2.2).mono ?_)
        rintro e w3 ⟨rfl, hb⟩
        have B4 := Aside0.mk (HQ.out.2.1.trans (hb.mono hs1))
        clear hb
        go_wp2
        go_ret2
        exact ⟨rfl, B4.out⟩

set_option maxRecDepth 100000 in
set_option maxHeartbeats 4000000 in
theorem print_bad (A : Option Addr) (c : Nat) (l : List S34) (w0 : World) (hr : Kd.C k34 w0 A l.length l) (hc : l.length ≤ c) (x : Int) (hx : x ≠ 0) (hch : script_Check.f 5000 l = some x) :
    Calls Tryd.prog 21 #[.slice A l.length c] w0 fun e w' => e = .returned (.tuple #[.string ⟨#[]⟩, .int .i64 x]) ∧ Below w0.heap.size w0 w' := by
  have k1 : (x != 0) = true := bne_iff_ne.mpr hx
  have k0 : (x == 0) = false := beq_eq_false_iff_ne.mpr hx
  have HR := Aside0.mk hr
  have HC := Aside0.mk hc
  have CH := Aside0.mk hch
  clear hr hc hch hx
  go_enter Tryd.func21, Tryd.ntmps21
  go_wp2_with fail
  (with_reducible refine (script_Check.calls 5000 A c l x _ HR.out HC.out CH.out).mono ?_)
  rintro e w1 ⟨rfl, hb⟩
  have B1 := Aside0.mk hb
  clear hb
  go_wp2
  go_ret2
  exact ⟨rfl, B1.out⟩
end Go.Proofs.YtdjffafcmomalaaDoor.Scr
namespace Go.Proofs.YtdjffafcmomalaaDoor.PScr
open Go Go.RowKit
open Go.Proofs.YtdjffafcmomalaaDoorW.PrintWords
open Go.Proofs.YtdjffafcmomalaaDoor.Scr (GOk okS printB)

theorem check_len {l : List S34} (h : script_Check.f 5000 l = some 0) : l.length ≤ 4096 := by
  unfold script_Check.f script_Cycles.f at h
  by_cases c : (l.length : Int) > 4096
  · rw [if_pos c] at h; simp at h
  · omega

def script_Print.f (l : List S34) : Option (ByteArray × Int) :=
  if l.all okS = true then (script_Check.f 5000 l).bind fun e => if e = 0 then (if (printB l).length > 65536 then some (⟨#[]⟩, 2) else some (⟨(printB l).toArray⟩, 0)) else some (⟨#[]⟩, e) else none

theorem script_Print.calls (A0 : Option Addr) (c0 : Nat) (l0 : List S34) (r1 : ByteArray) (r2 : Int) (w : World) (hr0 : Kd.C k34 w A0 l0.length l0) (hc0 : l0.length ≤ c0) (h : script_Print.f l0 = some (r1, r2))
    (hG : GOk w := by first | exact HG.out | exact GOk.below HG.out HB.out | exact GOk.below HG.out (by repeat (first | (with_reducible first | exact HB.out | apply below_alloc | apply pw_below_drewN | apply below_drew1) | exact HB.out))) :
    Calls Tryd.prog 21 #[.slice A0 l0.length c0] w fun e w' => e = .returned (.tuple #[.string r1, .int .i64 r2]) ∧ Below w.heap.size w w' := by
  unfold script_Print.f at h
  by_cases hok : l0.all okS = true
  · rw [if_pos hok] at h
    obtain ⟨x, hx, h⟩ := Option.bind_eq_some_iff.1 h
    by_cases h0 : x = 0
    · subst h0
      rw [if_pos rfl] at h
      refine Scr.print_ok A0 c0 l0 w hr0 hc0 hok hx (check_len hx) hG r1 r2 ?_
      by_cases hb : (printB l0).length > 65536
      · rw [if_pos hb] at h ⊢; simp only [Option.some.injEq, Prod.mk.injEq] at h; exact ⟨h.1.symm, h.2.symm⟩
      · rw [if_neg hb] at h ⊢; simp only [Option.some.injEq, Prod.mk.injEq] at h; exact ⟨h.1.symm, h.2.symm⟩
    · rw [if_neg h0] at h
      simp only [Option.some.injEq, Prod.mk.injEq] at h
      obtain ⟨rfl, rfl⟩ := h
      exact Scr.print_bad A0 c0 l0 w hr0 hc0 x h0 hx
  · rw [if_neg hok] at h; cases h
end Go.Proofs.YtdjffafcmomalaaDoor.PScr
