/- source.read's ways as one contract: what an item's reader answers, or that it throws. -/
import Derived.Test.YtjedbamcjgabpaaDoorSrcRc
import Derived.Test.YtjedbamcjgabpaaDoorSrcRp
import Derived.Test.YtjedbamcjgabpaaDoorSrcAll
import Derived.Test.YtjedbamcjgabpaaDoorSrcOr
import Derived.Test.YtjedbamcjgabpaaDoorPSoSourceReaders1
set_option linter.unusedVariables false
set_option linter.unusedSimpArgs false
namespace Go.Proofs.YtjedbamcjgabpaaDoor.PSo
open Go Go.RowKit
open Go.Proofs.YtjedbamcjgabpaaDoorW.PrintWords
open Go.Proofs.YtjedbamcjgabpaaDoor.Src
set_option maxRecDepth 100000
set_option maxHeartbeats 2000000
abbrev RI := Int × ByteArray × Int × ByteArray × Int × List Int
def itemV (r : RI) (v5 : Value) : Value := .agg #[.int .u8 r.1, .string r.2.1, .int .i64 r.2.2.1, .string r.2.2.2.1, .int .u8 r.2.2.2.2.1, v5]
def ItemPost (w : World) (o : Option RI) (e : Ending) (w' : World) : Prop :=
 match o with
 | none => e = .panicked PN ∧ Below w.heap.size w w'
 | some r => ∃ v5, e = .returned (itemV r v5) ∧ Kd.R (Kd.int .u8) 5 w' w.heap.size (fun _ => True) v5 r.2.2.2.2.2 ∧ Below w.heap.size w w'
def dataL : List ByteArray → Option (List Int)
 | [] => some []
 | x :: r => (source_number.f x 2).bind fun v => (dataL r).map fun q => v % 256 :: q
theorem dataL_bad : ∀ (l : List ByteArray), dataL l = none → ∃ j, j < l.length ∧ (∀ i, i < j → ∃ v, source_number.f (rdOf ByteArray.empty l (i : Int)) 2 = some v) ∧ source_number.f (rdOf ByteArray.empty l (j : Int)) 2 = none
 | [], h => by simp [dataL] at h
 | x :: r, h => by
  cases hx : source_number.f x 2 with
  | none => exact ⟨0, by simp, fun i hi => absurd hi (by omega), by simpa [rdOf] using hx⟩
  | some v =>
   have h2 : dataL r = none := by
    cases hr : dataL r with
    | none => rfl
    | some q => simp [dataL, hx, hr] at h
   obtain ⟨j, hj, hg, hb⟩ := dataL_bad r h2
   refine ⟨j + 1, by simpa using hj, ?_, ?_⟩
   ·intro i hi
    cases i with
    | zero => exact ⟨v, by simpa [rdOf] using hx⟩
    | succ i =>
     obtain ⟨u, hu⟩ := hg i (by omega)
     refine ⟨u, ?_⟩
     have e : rdOf ByteArray.empty (x :: r) ((i + 1 : Nat) : Int) = rdOf ByteArray.empty r (i : Int) := by simp [rdOf]
     rw [e]; exact hu
   ·have e : rdOf ByteArray.empty (x :: r) ((j + 1 : Nat) : Int) = rdOf ByteArray.empty r (j : Int) := by simp [rdOf]
    rw [e]; exact hb
theorem dataL_good : ∀ (r l : List ByteArray) (i : Nat) (q out : List Int) (x0 : Int) (x1 : ByteArray) (x2 : Int) (x3 : ByteArray) (x4 : Int), l.drop i = r → i + r.length = l.length → l.length ≤ 100000000 → out.length = i → dataL r = some q →
 source_readers_1.l0 (r.length + 1) l (l.length : Int) (i : Int) x0 x1 x2 x3 x4 out = some (x0, x1, x2, x3, x4, out ++ q)
 | [], l, i, q, out, x0, x1, x2, x3, x4, hd, hn, hl, ho, h => by
  simp only [dataL, Option.some.injEq] at h
  subst h
  unfold source_readers_1.l0
  rw [if_neg (by simp at hn; omega)]
  simp
 | x :: r, l, i, q, out, x0, x1, x2, x3, x4, hd, hn, hl, ho, h => by
  simp only [List.length_cons] at hn
  cases hx : source_number.f x 2 with
  | none => simp [dataL, hx] at h
  | some v =>
   cases hr : dataL r with
   | none => simp [dataL, hx, hr] at h
   | some q2 =>
    have hq : q = v % 256 :: q2 := by simpa [dataL, hx, hr] using h.symm
    have hi : l[i]? = some x := by
     have := congrArg (fun z => z[0]?) hd
     simpa using this
    have hrd : rdOf ByteArray.empty l (i : Int) = x := by simp [rdOf, hi]
    unfold source_readers_1.l0
    rw [if_pos (by omega), if_pos (by omega), if_pos (by omega), hrd, hx, Option.bind_some, if_pos (by omega)]
    have hw : wrap64 ((i : Int) + 1) = ((i + 1 : Nat) : Int) := by unfold wrap64; omega
    rw [hw, List.length_cons, dataL_good r l (i + 1) q2 (out ++ [v % 256]) x0 x1 x2 x3 x4 (by rw [← List.drop_drop, hd]; rfl) (by omega) hl (by simp [ho]) hr, hq]
    simp
def dataF (l : List ByteArray) : Option RI := (dataL (l.drop 1)).map fun q => (3, ⟨#[]⟩, 0, ⟨#[]⟩, 0, q)
theorem data_item (A : Option Addr) (c : Nat) (l : List ByteArray) (w : World) (hr : Kd.C Kd.string w A l.length l) (hc : l.length ≤ c) (hl : l.length ≤ 100000000) (hl1 : 1 ≤ l.length) :
 Calls Tryd.prog 62 #[.slice A l.length c] w (ItemPost w (dataF l)) := by
 unfold dataF
 cases h : dataL (l.drop 1) with
 | none =>
  obtain ⟨j, hj, hg, hb⟩ := dataL_bad _ h
  exact (source_readers_1.panics A c l w hr hc hl j hj hg hb).mono fun e w' h => h
 | some q =>
  have hg := dataL_good (l.drop 1) (l.drop 1) 0 q [] 3 ⟨#[]⟩ 0 ⟨#[]⟩ 0 rfl (by simp) (by simp; omega) rfl h
  have hf : source_readers_1.f ((l.drop 1).length + 1) l = some (3, ⟨#[]⟩, 0, ⟨#[]⟩, 0, q) := by
   unfold source_readers_1.f
   rw [if_pos (by omega)]
   simpa using hg
  exact (source_readers_1.calls _ A c l 3 ⟨#[]⟩ 0 ⟨#[]⟩ 0 q w hr hc hf).mono fun e w' h => h
def atF : List ByteArray → Option RI
 | [_, x] => (source_number.f x 4).map fun v => (4, ⟨#[]⟩, v, ⟨#[]⟩, 0, [])
 | _ => none
theorem at_item (A : Option Addr) (c : Nat) (l : List ByteArray) (w : World) (hr : Kd.C Kd.string w A l.length l) :
 Calls Tryd.prog 64 #[.slice A l.length c] w (ItemPost w (atF l)) := by
 by_cases h2 : l.length = 2
 ·match l, h2 with
  | [x, y], _ =>
   cases h : source_number.f y 4 with
   | none => exact (rd2_num A c x y w hr h).mono fun e w' q => by simpa [ItemPost, atF, h] using q
   | some v =>
    refine (rd2_yes A c x y v w hr h).mono fun e w' q => ?_
    simp only [ItemPost, atF, h, Option.map_some]
    exact ⟨_, q.1, Kd.R_nil _ _ _ _ _, q.2⟩
 ·have e : atF l = none := by
   match l, h2 with
   | [], _ => rfl
   | [_], _ => rfl
   | [_, _], h => simp at h
   | _ :: _ :: _ :: _, _ => rfl
  rw [e]
  exact (rd2_no A c l.length h2 w).mono fun e w' q => q
def adrF : List ByteArray → Option RI
 | [_, x] => some (5, ⟨#[]⟩, 0, x, 0, [])
 | _ => none
theorem adr_item (A : Option Addr) (c : Nat) (l : List ByteArray) (w : World) (hr : Kd.C Kd.string w A l.length l) :
 Calls Tryd.prog 65 #[.slice A l.length c] w (ItemPost w (adrF l)) := by
 by_cases h2 : l.length = 2
 ·match l, h2 with
  | [x, y], _ => exact (rd3_yes A c x y w hr).mono fun e w' q => ⟨_, q.1, Kd.R_nil _ _ _ _ _, q.2⟩
 ·have e : adrF l = none := by
   match l, h2 with
   | [], _ => rfl
   | [_], _ => rfl
   | [_, _], h => simp at h
   | _ :: _ :: _ :: _, _ => rfl
  rw [e]
  exact (rd3_no A c l.length h2 w).mono fun e w' q => q
/-- An instruction's words; none: not covered. -/
def ordF : List ByteArray → Option (Option RI)
 | [] => none
 | [x0, x1, x2] => some (if pv3 x1 = 0 then none else some (2, x0, 0, x2, pv3 x1, []))
 | x0 :: r => (code_Parse.f (joinB (x0 :: r))).map fun p => if p.2.2 = 0 then some (2, x0, p.2.1, ⟨#[]⟩, 0, []) else none
theorem ord_item (A : Option Addr) (c : Nat) (l : List ByteArray) (o : Option RI) (w : World) (hr : Kd.C Kd.string w A l.length l) (hc : l.length ≤ c) (hG : GOk w) (h : ordF l = some o) :
 Calls Tryd.prog 51 #[.slice A l.length c] w (ItemPost w o) := by
 by_cases h3 : l.length = 3
 ·match l, h3 with
  | [x0, x1, x2], _ =>
   refine (ord3 A c x0 x1 x2 w hr).mono fun e w' q => ?_
   simp only [ordF, Option.some.injEq] at h
   subst h
   have q1 := q.1
   unfold OrPost at q1
   by_cases hp : pv3 x1 = 0
   ·rw [if_pos hp] at q1 ⊢
    exact ⟨q1, q.2⟩
   ·rw [if_neg hp] at q1 ⊢
    exact ⟨_, q1, Kd.R_nil _ _ _ _ _, q.2⟩
 ·match l, h3, hr, hc, h with
  | x0 :: r, h3, hr, hc, h =>
   have h : (code_Parse.f (joinB (x0 :: r))).map (fun p => if p.2.2 = 0 then some (2, x0, p.2.1, ⟨#[]⟩, 0, []) else (none : Option RI)) = some o := by
    match r, h3, h with
    | [], _, h => exact h
    | [_], _, h => exact h
    | [_, _], h, _ => simp at h
    | _ :: _ :: _ :: _, _, h => exact h
   cases hp : code_Parse.f (joinB (x0 :: r)) with
   | none => rw [hp] at h; simp at h
   | some p =>
    obtain ⟨nm, arg, er⟩ := p
    rw [hp] at h
    simp only [Option.map_some, Option.some.injEq] at h
    subst h
    refine (ordn A c x0 r w hr hc h3 nm arg er hp hG).mono fun e w' q => ?_
    have q1 := q.1
    unfold OrnPost at q1
    by_cases hp : er = 0
    ·rw [if_pos hp] at q1 ⊢
     exact ⟨_, q1, Kd.R_nil _ _ _ _ _, q.2⟩
    ·rw [if_neg hp] at q1 ⊢
     exact ⟨q1, q.2⟩
/-- What the reader of a known first word answers. -/
def knownF (l : List ByteArray) (f : FuncId) : Option RI := if f = 62 then dataF l else if f = 64 then atF l else adrF l
theorem known_item (A : Option Addr) (c : Nat) (l : List ByteArray) (x : ByteArray) (f : FuncId) (hf : rdOfW x = some f) (w : World) (hr : Kd.C Kd.string w A l.length l) (hc : l.length ≤ c) (hl : l.length ≤ 100000000) (hl1 : 1 ≤ l.length) :
 Calls Tryd.prog f #[.slice A l.length c] w (ItemPost w (knownF l f)) := by
 unfold rdOfW at hf
 unfold knownF
 split at hf
 ·cases hf; exact data_item A c l w hr hc hl hl1
 ·split at hf
  ·cases hf; exact at_item A c l w hr
  ·split at hf
   ·cases hf; exact adr_item A c l w hr
   ·cases hf
end Go.Proofs.YtjedbamcjgabpaaDoor.PSo
