/- source.Print, walked: items as text. -/
import Derived.Test.YtjedbamcjgabpaaDoorSrcBld
import Derived.Test.YtjedbamcjgabpaaDoorPSoSourceCheck
import Derived.Test.YtjedbamcjgabpaaDoorPSoSourceLine
import Derived.Laws.Concat
set_option linter.unusedVariables false
set_option linter.unusedSimpArgs false
namespace Go.Proofs.YtjedbamcjgabpaaDoor.PSo
open Go Go.RowKit
open Go.Proofs.YtjedbamcjgabpaaDoorW.PrintWords
open Go.Proofs.YtjedbamcjgabpaaDoor.Src

theorem bld_below {B b : Nat} {bs : List Value} {w w1 : World} (h : Lib.IsBuilder 52 5 B b bs w) (hb : Below w.heap.size w w1) : Lib.IsBuilder 52 5 B b bs w1 := by
 have key : ∀ {p : Value}, Lib.BuilderAt 52 5 B b p bs w → Lib.BuilderAt 52 5 B b p bs w1 := by
  rintro p ⟨hB, v, hbk, hown, hne⟩
  exact ⟨hB, v, (hb.block b (Array.getElem?_eq_some_iff.1 hbk).1).trans hbk, pw_own_below hown hb, hne⟩
 exact h.elim (fun x => .inl (key x)) (fun x => .inr (key x))
theorem bld_new (w : World) : Lib.IsBuilder 52 5 w.heap.size w.heap.size [] (w.alloc (.cells #[.pointer none, .slice none 0 0] 52)) :=
 .inl ⟨Nat.le_refl _, .slice none 0 0, heap_alloc_new w _, own_nil _ _ _ _, by simp [Value.ownBlock]⟩
theorem strCells_line (s : ByteArray) : Lib.strCells (s ++ (⟨#[10]⟩ : ByteArray)) = Lib.byteCells (s.data.toList ++ [10]) := by
 simp [Lib.strCells, Lib.byteCells]

def lineOf (i : S43) : Option ByteArray := source_line.f 5000 i.f0 i.f1 i.f2 i.f3 i.f4 i.f5
def prL : List S43 → List UInt8 → Option (ByteArray × Int)
 | [], acc => some (⟨acc.toArray⟩, 0)
 | i :: l, acc => (lineOf i).bind fun s => if s.size ≤ 100000 then (if 65536 < (acc ++ (s.data.toList ++ [10])).length then some (⟨#[]⟩, 2) else prL l (acc ++ (s.data.toList ++ [10]))) else none
def source_Print.f (l : List S43) : Option (ByteArray × Int) := (source_Check.f 5000 l).bind fun e => if e.1 = 0 then prL l [] else some (⟨#[]⟩, e.1)
theorem check_len {l : List S43} {n : Int} (h : source_Check.f 5000 l = some (0, n)) : l.length ≤ 4096 := by
 unfold source_Check.f at h
 by_cases c : (l.length : Int) > 4096
 ·rw [if_pos c] at h; cases h
 ·omega

set_option maxRecDepth 100000 in
set_option maxHeartbeats 4000000 in
theorem print_ok (A : Option Addr) (c : Nat) (l : List S43) (w0 : World) (hr : Kd.C k43 w0 A l.length l) (hc : l.length ≤ c) (n : Int) (hch : source_Check.f 5000 l = some (0, n)) (hG : GOk w0) (r1 : ByteArray) (r2 : Int) (hres : prL l [] = some (r1, r2)) :
 Calls Tryd.prog 15 #[.slice A l.length c] w0 fun e w' => e = .returned (.tuple #[.string r1, .int .i64 r2]) ∧ Below w0.heap.size w0 w' := by
 have hlen := check_len hch
 have HX := Aside0.mk hres
 have HR := Aside0.mk hr
 have HC := Aside0.mk hc
 have HG := Aside0.mk hG
 have CH := Aside0.mk hch
 clear hres hr hc hG hch
 go_enter Tryd.func15, Tryd.ntmps15
 go_wp2_with fail
 (with_reducible refine (source_Check.calls 5000 A c l 0 n _ HR.out HC.out CH.out HG.out).mono ?_)
 rintro e w1 ⟨rfl, hb⟩
 have B1 := Aside0.mk hb
 clear hb
 have hs1 : w0.heap.size ≤ w1.heap.size := B1.out.size
 have NB : Aside0 (Lib.IsBuilder 52 5 w1.heap.size w1.heap.size [] (w1.alloc (.cells #[.pointer none, .slice none 0 0] 52))) := ⟨bld_new w1⟩
 have B2 := Aside0.mk (below_alloc B1.out (.cells #[.pointer none, .slice none 0 0] 52))
 have HZ : Aside0 (w1.heap.size ≤ (w1.alloc (.cells #[.pointer none, .slice none 0 0] 52)).heap.size) := ⟨by simp⟩
 go_wp2
 go_loopw [19] (fun i wr => ∃ (k : Nat) (acc : List UInt8), k ≤ l.length ∧ i = .int .i64 k ∧ Aside0 (Lib.IsBuilder 52 5 w1.heap.size w1.heap.size (Lib.byteCells acc) wr ∧ Below w0.heap.size w0 wr ∧ w1.heap.size ≤ wr.heap.size) ∧ Aside0 (prL (l.drop k) acc = some (r1, r2)) ∧ acc.length ≤ 65536) (fun i _ => l.length - (RowKit.intOf i).toNat)
 case atStart => exact ⟨0, [], Nat.zero_le _, rfl, ⟨NB.out, B2.out, HZ.out⟩, HX, Nat.zero_le _⟩
 case round =>
  clear NB B2 HZ HX
  obtain ⟨k, acc, hk, rfl, HP, HA, hacc⟩ := hrel
  by_cases hlt : k < l.length
  ·obtain ⟨ad, A5, c5, e, q0, q1, q2, q3, q4, q5, hl5, hi5⟩ := at_T43 (Kd.C_below HR.out HP.out.2.1) (k : Int) (by omega) (by omega)
   cases e
   have hel : rd_T43 l (k : Int) = l[k] := by unfold rd_T43; simp [List.getD_eq_getElem?_getD, List.getElem?_eq_getElem hlt]
   have ha := HA.out
   rw [List.drop_eq_getElem_cons hlt, ← hel, prL] at ha
   obtain ⟨it, hit⟩ : ∃ it, it = rd_T43 l (k : Int) := ⟨_, rfl⟩
   rw [← hit] at q0 q1 q2 q3 q4 q5 hl5 hi5 ha
   clear hit hel HA
   cases hL : lineOf it with
   | none => rw [hL] at ha; cases ha
   | some s =>
    rw [hL] at ha
    simp only [Option.bind_some] at ha
    by_cases hsz : s.size ≤ 100000
    ·rw [if_pos hsz] at ha
     have HA := Aside0.mk ha
     have HL := Aside0.mk (show source_line.f 5000 it.f0 it.f1 it.f2 it.f3 it.f4 it.f5 = some s from hL)
     have HI5 := Aside0.mk hi5
     have HL5 := Aside0.mk hl5
     clear ha hL hi5 hl5
     have HBd : Aside0 (∀ o, Lib.IsBuilder 52 5 w1.heap.size w1.heap.size (Lib.byteCells acc) (wr.alloc o) ∧ Below w0.heap.size w0 (wr.alloc o) ∧ w1.heap.size ≤ (wr.alloc o).heap.size) := ⟨fun o => ⟨bld_below HP.out.1 (below_alloc (Below.refl _ _) o), below_alloc HP.out.2.1 o, by have := HP.out.2.2; simp; omega⟩⟩
     clear HP
     simp only [Int.toNat_natCast] at q0 q1 q2 q3 q4 q5
     have i0 : (0 : Int) ≤ (k : Int) := by omega
     have i1 : (k : Int) < (l.length : Int) := by omega
     have ad1 := fun (W : World) => run_string_add_sum (P := Tryd.prog) (w := W) s ⟨#[10]⟩ (by show s.size + 1 ≤ _; omega)
     go_wp2_with fail
     (with_reducible refine (source_line.calls 5000 it.f0 it.f1 it.f2 it.f3 it.f4 A5 c5 it.f5 s _ (Kd.C_below HI5.out (below_alloc (Below.refl _ _) _)) HL5.out HL.out (GOk.below HG.out (HBd.out _).2.1)).mono ?_)
     rintro e w2 ⟨rfl, hb⟩
     have IB := Aside0.mk (bld_below (HBd.out _).1 hb)
     have B3 := Aside0.mk (below_step (HBd.out _).2.1 hb)
     have Z3 := Aside0.mk (Nat.le_trans (HBd.out _).2.2 hb.size)
     clear hb HBd q0 q1 q2 q3 q4 q5
     go_wp2_with fail
     have hz : (Lib.byteCells acc).length + (s ++ (⟨#[10]⟩ : ByteArray)).size ≤ 140737488355328 := by
      rw [Lib.byteCells_length, ByteArray.size_append]
      have : (⟨#[10]⟩ : ByteArray).size = 1 := rfl
      omega
     (with_reducible refine (Bld.writeString w1.heap.size w1.heap.size (Lib.byteCells acc) (s ++ (⟨#[10]⟩ : ByteArray)) w2 IB.out hz Z3.out).mono ?_)
     rintro e w3 ⟨rfl, hbd, hb⟩
     obtain ⟨acc', hacc'⟩ : ∃ acc', acc ++ (s.data.toList ++ [10]) = acc' := ⟨_, rfl⟩
     have HN : Aside0 (Lib.IsBuilder 52 5 w1.heap.size w1.heap.size (Lib.byteCells acc') w3 ∧ Below w0.heap.size w0 w3 ∧ w1.heap.size ≤ w3.heap.size) := by
      refine ⟨?_, B3.out.trans (hb.mono hs1), Nat.le_trans Z3.out hb.size⟩
      rw [strCells_line] at hbd
      right
      have e : Lib.byteCells acc' = Lib.byteCells acc ++ Lib.byteCells (s.data.toList ++ [10]) := by rw [← hacc']; simp [Lib.byteCells]
      rw [e]; exact hbd
     have ha := HA.out
     rw [hacc'] at ha
     have HA' := Aside0.mk ha
     clear hbd hb IB B3 Z3 hz ha HA ad1 hacc'
     go_wp2_with fail
     have hbl := Lib.byteCells_length acc'
     (with_reducible refine (Tryd.Builder_Len w1.heap.size w1.heap.size (Lib.byteCells acc') w3 HN.out.1).mono ?_)
     rintro e w4 ⟨rfl, rfl⟩
     rw [hbl]
     clear hbl
     by_cases hbig : 65536 < acc'.length
     ·have ha := HA'.out
      rw [if_pos hbig] at ha
      have h2 := Option.some.inj ha
      simp only [Prod.mk.injEq] at h2
      obtain ⟨rfl, rfl⟩ := h2
      clear HA' ha
      have HN2 := Aside0.mk HN.out.2.1
      go_wp2
      go_ret2
      exact ⟨rfl, HN2.out⟩
     ·have ha := HA'.out
      rw [if_neg hbig] at ha
      have HA2 := Aside0.mk ha
      clear HA' ha
      go_wp2
      go_roundw
      case rel => exact ⟨k + 1, acc', by omega, by go_num, HN, HA2, by omega⟩
      case measure => simp [RowKit.intOf]; omega
    ·rw [if_neg hsz] at ha; cases ha
  ·obtain rfl : k = l.length := by omega
   have ha := HA.out
   rw [List.drop_of_length_le (Nat.le_refl _), prL] at ha
   have h2 := Option.some.inj ha
   simp only [Prod.mk.injEq] at h2
   obtain ⟨rfl, rfl⟩ := h2
   clear HA ha
   go_wp2_with fail
   (with_reducible refine (Tryd.Builder_String_any w1.heap.size w1.heap.size acc wr HP.out.1 HP.out.2.2).mono ?_)
   rintro e w3 ⟨rfl, hb⟩
   have B4 := Aside0.mk (HP.out.2.1.trans (hb.mono hs1))
   clear hb
   go_wp2
   go_ret2
   exact ⟨rfl, B4.out⟩

set_option maxRecDepth 100000 in
set_option maxHeartbeats 4000000 in
theorem print_bad (A : Option Addr) (c : Nat) (l : List S43) (w0 : World) (hr : Kd.C k43 w0 A l.length l) (hc : l.length ≤ c) (x n : Int) (hx : x ≠ 0) (hch : source_Check.f 5000 l = some (x, n)) (hG : GOk w0) :
 Calls Tryd.prog 15 #[.slice A l.length c] w0 fun e w' => e = .returned (.tuple #[.string ⟨#[]⟩, .int .i64 x]) ∧ Below w0.heap.size w0 w' := by
 have k1 : (x != 0) = true := bne_iff_ne.mpr hx
 have k0 : (x == 0) = false := beq_eq_false_iff_ne.mpr hx
 have HR := Aside0.mk hr
 have HC := Aside0.mk hc
 have CH := Aside0.mk hch
 have HG := Aside0.mk hG
 clear hr hc hch hx hG
 go_enter Tryd.func15, Tryd.ntmps15
 go_wp2_with fail
 (with_reducible refine (source_Check.calls 5000 A c l x n _ HR.out HC.out CH.out HG.out).mono ?_)
 rintro e w1 ⟨rfl, hb⟩
 have B1 := Aside0.mk hb
 clear hb
 go_wp2
 go_ret2
 exact ⟨rfl, B1.out⟩
theorem source_Print.calls (A0 : Option Addr) (c0 : Nat) (l0 : List S43) (r1 : ByteArray) (r2 : Int) (w : World) (hr0 : Kd.C k43 w A0 l0.length l0) (hc0 : l0.length ≤ c0) (h : source_Print.f l0 = some (r1, r2))
 (hG : GOk w := by first | exact HG.out | exact GOk.below HG.out HB.out | exact GOk.below HG.out (by repeat (first | (with_reducible first | exact HB.out | apply below_alloc | apply pw_below_drewN | apply below_drew1 | refine below_set ?_ (Aside0.out (by assumption))) | exact HB.out))) :
 Calls Tryd.prog 15 #[.slice A0 l0.length c0] w fun e w' => e = .returned (.tuple #[.string r1, .int .i64 r2]) ∧ Below w.heap.size w w' := by
 unfold source_Print.f at h
 cases hch : source_Check.f 5000 l0 with
 | none => rw [hch] at h; cases h
 | some e =>
  obtain ⟨x, n⟩ := e
  rw [hch] at h
  simp only [Option.bind_some] at h
  by_cases hx : x = 0
  ·subst hx
   rw [if_pos rfl] at h
   exact print_ok A0 c0 l0 w hr0 hc0 n hch hG r1 r2 h
  ·rw [if_neg hx] at h
   have h2 := Option.some.inj h
   simp only [Prod.mk.injEq] at h2
   obtain ⟨rfl, rfl⟩ := h2
   exact print_bad A0 c0 l0 w hr0 hc0 x n hx hch hG
end Go.Proofs.YtjedbamcjgabpaaDoor.PSo
