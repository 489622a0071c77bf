/- The region of vesperlaw14.object that draws its order and makes five rows: by one condition, kept by each operation. Printed by wip/tools/genreg.py. -/
import Derived.Test.YtbffmfeflcdgbaaDoorAsmObj1
set_option linter.unusedVariables false
set_option linter.unusedSimpArgs false
namespace Go.Proofs.YtbffmfeflcdgbaaDoor.Obj
open Go Go.RowKit
open Go.Proofs.YtbffmfeflcdgbaaDoorW.PrintWords

/-- A region that draws its order, by a condition that each operation keeps. -/
theorem wpAny_inv {P : Program} {ops : Array Oper} {Q : Exit → Act → World → Prop} (Inv : Array Bool → Act → World → Prop)
 (hac : ∀ (i : Nat) (o : Oper), ops[i]? = some o → ∀ e ∈ o.after, e.on < i)
 (hstep : ∀ (L : Array Bool) (a : Act) (w : World) (i : Nat) (o : Oper), Inv L a w → ops[i]? = some o → L.getD i true = false → (∀ e ∈ o.after, Region.binds .any e = true → L.getD e.on false = true) → wpOp P ops Q i (fun a' w' => Inv (L.setIfInBounds i true) a' w') a w)
 (hend : ∀ L a w, (∀ i, i < ops.size → L.getD i false = true) → Inv L a w → Q .normal a w) :
 ∀ (fuel : Nat) (L : Array Bool) (a : Act) (w : World), L.size = ops.size → (L.toList.count false ≤ fuel) → Inv L a w → wpAny P .any ops Q fuel L a w := by
 have hall : ∀ L : Array Bool, L.size = ops.size → Region.ready .any ops L = [] → ∀ i, i < ops.size → L.getD i false = true := by
  intro L hL hr i
  induction i using Nat.strongRecOn with
  | _ i ih =>
   intro hi
   by_cases hb : L.getD i false = true
   ·exact hb
   exfalso
   obtain ⟨o, ho⟩ : ∃ o, ops[i]? = some o := ⟨_, Array.getElem?_eq_getElem hi⟩
   have hlt : i < L.size := by omega
   have hm : i ∈ Region.ready .any ops L := mem_ready.2 ⟨by simp [Array.getD, hlt] at hb ⊢; exact hb, o, ho, fun e he _ => ih e.on (hac i o ho e he) (by have := hac i o ho e he; omega)⟩
   rw [hr] at hm
   cases hm
 intro fuel
 induction fuel with
 | zero =>
  intro L a w hL hc hI
  have hno : ∀ i, i < ops.size → L.getD i false = true := by
   intro i hi
   have hlt : i < L.size := by omega
   have h0 : L.toList.count false = 0 := by omega
   rw [List.count_eq_zero] at h0
   have : L[i] ∈ L.toList := by simp
   simp only [Array.getD, hlt, dif_pos]
   cases hq : L[i] with
   | true => exact hq
   | false => rw [hq] at this; exact absurd this h0
  refine ⟨?_, hend L a w hno hI⟩
  apply List.eq_nil_iff_forall_not_mem.2
  intro j hj
  obtain ⟨h1, o, ho, _⟩ := mem_ready.1 hj
  have hjl : j < ops.size := (Array.getElem?_eq_some_iff.1 ho).1
  have h2 := hno j hjl
  have hlt : j < L.size := by omega
  simp [Array.getD, hlt] at h1 h2
  rw [h1] at h2
  cases h2
 | succ fuel ih =>
  intro L a w hL hc hI
  refine ⟨fun hr => hend L a w (hall L hL hr) hI, fun i hi => ?_⟩
  obtain ⟨h1, o, ho, h2⟩ := mem_ready.1 hi
  refine wpOp_mono (fun a' w' h => ih _ a' w' (by simpa using hL) ?_ h) (hstep L a w i o hI ho h1 h2)
  have hil : i < ops.size := (Array.getElem?_eq_some_iff.1 ho).1
  have hlt : i < L.size := by omega
  have hf : L[i] = false := by simpa [Array.getD, hlt] using h1
  have hcnt : (L.setIfInBounds i true).toList.count false + 1 = L.toList.count false := by
   rw [Array.toList_setIfInBounds]
   have hlt' : i < L.toList.length := by simpa using hlt
   have hpos : 0 < L.toList.count false := List.count_pos_iff.2 (by rw [← hf]; simp)
   rw [List.count_set hlt']
   have hb : (L.toList[i] == false) = true := by simp [hf]
   rw [if_pos hb, if_neg (by decide)]
   omega
  omega

def ops1 : Array Oper := #[{ dst := some 5, op := Op.fieldAddr 26 (Operand.tmp 1) 0, type := 0, pos := "law.go:198", after := #[], guard := none },
 { dst := some 6, op := Op.load 22 (Operand.tmp 5), type := 22, pos := "law.go:198", after := #[{ on := 0, ground := Ground.data }], guard := none },
 { dst := some 7, op := Op.call { callee := Callee.builtin Builtin.len, args := #[Operand.tmp 6], argTypes := #[22] }, type := 3, pos := "law.go:198", after := #[{ on := 1, ground := Ground.data }], guard := none },
 { dst := some 8, op := Op.binOp BinOp.add 3 (Operand.tmp 7) (Operand.const (Value.int IntKind.i64 2)) 3, type := 3, pos := "law.go:198", after := #[{ on := 2, ground := Ground.data }], guard := none },
 { dst := some 9, op := Op.makeSlice 22 (Operand.const (Value.int IntKind.i64 0)) (Operand.tmp 8), type := 22, pos := "law.go:198", after := #[{ on := 3, ground := Ground.data }], guard := none },
 { dst := some 10, op := Op.fieldAddr 26 (Operand.tmp 1) 1, type := 0, pos := "law.go:198", after := #[], guard := none },
 { dst := some 11, op := Op.load 23 (Operand.tmp 10), type := 23, pos := "law.go:198", after := #[{ on := 5, ground := Ground.data }], guard := none },
 { dst := some 12, op := Op.call { callee := Callee.builtin Builtin.len, args := #[Operand.tmp 11], argTypes := #[23] }, type := 3, pos := "law.go:198", after := #[{ on := 6, ground := Ground.data }], guard := none },
 { dst := some 13, op := Op.binOp BinOp.add 3 (Operand.tmp 12) (Operand.const (Value.int IntKind.i64 2)) 3, type := 3, pos := "law.go:198", after := #[{ on := 7, ground := Ground.data }], guard := none },
 { dst := some 14, op := Op.makeSlice 23 (Operand.const (Value.int IntKind.i64 0)) (Operand.tmp 13), type := 23, pos := "law.go:198", after := #[{ on := 8, ground := Ground.data }], guard := none },
 { dst := some 15, op := Op.fieldAddr 26 (Operand.tmp 1) 1, type := 0, pos := "law.go:198", after := #[], guard := none },
 { dst := some 16, op := Op.load 23 (Operand.tmp 15), type := 23, pos := "law.go:198", after := #[{ on := 10, ground := Ground.data }], guard := none },
 { dst := some 17, op := Op.call { callee := Callee.builtin Builtin.append, args := #[Operand.tmp 14, Operand.tmp 16], argTypes := #[23, 23] }, type := 23, pos := "law.go:198", after := #[{ on := 9, ground := Ground.data }, { on := 11, ground := Ground.data }], guard := none },
 { dst := some 18, op := Op.fieldAddr 26 (Operand.tmp 1) 2, type := 0, pos := "law.go:198", after := #[], guard := none },
 { dst := some 19, op := Op.load 24 (Operand.tmp 18), type := 24, pos := "law.go:198", after := #[{ on := 13, ground := Ground.data }], guard := none },
 { dst := some 20, op := Op.call { callee := Callee.builtin Builtin.len, args := #[Operand.tmp 19], argTypes := #[24] }, type := 3, pos := "law.go:198", after := #[{ on := 14, ground := Ground.data }], guard := none },
 { dst := some 21, op := Op.binOp BinOp.add 3 (Operand.tmp 20) (Operand.const (Value.int IntKind.i64 2)) 3, type := 3, pos := "law.go:198", after := #[{ on := 15, ground := Ground.data }], guard := none },
 { dst := some 22, op := Op.makeSlice 24 (Operand.const (Value.int IntKind.i64 0)) (Operand.tmp 21), type := 24, pos := "law.go:198", after := #[{ on := 16, ground := Ground.data }], guard := none },
 { dst := some 23, op := Op.fieldAddr 26 (Operand.tmp 1) 2, type := 0, pos := "law.go:198", after := #[], guard := none },
 { dst := some 24, op := Op.load 24 (Operand.tmp 23), type := 24, pos := "law.go:198", after := #[{ on := 18, ground := Ground.data }], guard := none },
 { dst := some 25, op := Op.call { callee := Callee.builtin Builtin.append, args := #[Operand.tmp 22, Operand.tmp 24], argTypes := #[24, 24] }, type := 24, pos := "law.go:198", after := #[{ on := 17, ground := Ground.data }, { on := 19, ground := Ground.data }, { on := 12, ground := Ground.chain }], guard := none },
 { dst := some 26, op := Op.build 26 #[(0, Operand.tmp 9), (1, Operand.tmp 17), (2, Operand.tmp 25)], type := 26, pos := "law.go:198", after := #[{ on := 4, ground := Ground.data }, { on := 12, ground := Ground.data }, { on := 20, ground := Ground.data }], guard := none },
 { dst := some 3, op := Op.alloc 26, type := 0, pos := "law.go:198", after := #[], guard := none },
 { dst := none, op := Op.store 26 (Operand.tmp 3) (Operand.tmp 26), type := 0, pos := "law.go:198", after := #[{ on := 22, ground := Ground.data }, { on := 21, ground := Ground.data }, { on := 20, ground := Ground.chain }, { on := 0, ground := Ground.phase }, { on := 1, ground := Ground.phase }, { on := 2, ground := Ground.phase }, { on := 3, ground := Ground.phase }, { on := 4, ground := Ground.phase }, { on := 5, ground := Ground.phase }, { on := 6, ground := Ground.phase }, { on := 7, ground := Ground.phase }, { on := 8, ground := Ground.phase }, { on := 9, ground := Ground.phase }, { on := 10, ground := Ground.phase }, { on := 11, ground := Ground.phase }, { on := 12, ground := Ground.phase }, { on := 13, ground := Ground.phase }, { on := 14, ground := Ground.phase }, { on := 15, ground := Ground.phase }, { on := 16, ground := Ground.phase }, { on := 17, ground := Ground.phase }, { on := 18, ground := Ground.phase }, { on := 19, ground := Ground.phase }, { on := 20, ground := Ground.phase }, { on := 21, ground := Ground.phase }, { on := 22, ground := Ground.phase }], guard := none }]

structure In (w0 : World) (n0 n1 n2 : Nat) (A0 A1 A2 : Option Addr) (c0 c1 c2 : Nat) (M9 M14 M22 row14 row22 : Array Value) (gb gr : Nat) (L : Array Bool) (x3 x5 x6 x7 x8 x9 x10 x11 x12 x13 x14 x15 x16 x17 x18 x19 x20 x21 x22 x23 x24 x25 x26 : Value) (g9 g14 g22 g3 : Nat) (W : World) : Prop where
 f0 : L.getD 0 false = true → x5 = Value.pointer (some ⟨gb, 0, none⟩)
 f1 : L.getD 1 false = true → x6 = .slice A0 n0 c0
 f2 : L.getD 2 false = true → x7 = Value.int .i64 (n0 : Int)
 f3 : L.getD 3 false = true → x8 = Value.int .i64 ((n0 : Int) + 2)
 f4 : L.getD 4 false = true → x9 = Value.slice (some ⟨g9, 0, none⟩) 0 (n0 + 2) ∧ W.heap[g9]? = some (.cells M9 42 (0, 0))
 f5 : L.getD 5 false = true → x10 = Value.pointer (some ⟨gb, 1, none⟩)
 f6 : L.getD 6 false = true → x11 = .slice A1 n1 c1
 f7 : L.getD 7 false = true → x12 = Value.int .i64 (n1 : Int)
 f8 : L.getD 8 false = true → x13 = Value.int .i64 ((n1 : Int) + 2)
 f9 : L.getD 9 false = true → x14 = Value.slice (some ⟨g14, 0, none⟩) 0 (n1 + 2) ∧ (L.getD 12 false = false → W.heap[g14]? = some (.cells M14 52 (0, 0)))
 f10 : L.getD 10 false = true → x15 = Value.pointer (some ⟨gb, 1, none⟩)
 f11 : L.getD 11 false = true → x16 = .slice A1 n1 c1
 f12 : L.getD 12 false = true → x17 = Value.slice (some ⟨g14, 0, none⟩) n1 (n1 + 2) ∧ W.heap[g14]? = some (.cells row14 52 (0, 0))
 f13 : L.getD 13 false = true → x18 = Value.pointer (some ⟨gb, 2, none⟩)
 f14 : L.getD 14 false = true → x19 = .slice A2 n2 c2
 f15 : L.getD 15 false = true → x20 = Value.int .i64 (n2 : Int)
 f16 : L.getD 16 false = true → x21 = Value.int .i64 ((n2 : Int) + 2)
 f17 : L.getD 17 false = true → x22 = Value.slice (some ⟨g22, 0, none⟩) 0 (n2 + 2) ∧ (L.getD 20 false = false → W.heap[g22]? = some (.cells M22 47 (0, 0)))
 f18 : L.getD 18 false = true → x23 = Value.pointer (some ⟨gb, 2, none⟩)
 f19 : L.getD 19 false = true → x24 = .slice A2 n2 c2
 f20 : L.getD 20 false = true → x25 = Value.slice (some ⟨g22, 0, none⟩) n2 (n2 + 2) ∧ W.heap[g22]? = some (.cells row22 47 (0, 0))
 f21 : L.getD 21 false = true → x26 = Value.agg #[Value.slice (some ⟨g9, 0, none⟩) 0 (n0 + 2), Value.slice (some ⟨g14, 0, none⟩) n1 (n1 + 2), Value.slice (some ⟨g22, 0, none⟩) n2 (n2 + 2)]
 f22 : L.getD 22 false = true → x3 = Value.pointer (some ⟨g3, 0, none⟩) ∧ g3 ≠ gb ∧ g3 ≠ gr ∧ gb ≤ g3 ∧ (L.getD 23 false = false → W.heap[g3]? = some (.cells #[.slice none 0 0, .slice none 0 0, .slice none 0 0] 26 (0, 0)))
 f23 : L.getD 23 false = true → W.heap[g3]? = some (.cells #[Value.slice (some ⟨g9, 0, none⟩) 0 (n0 + 2), Value.slice (some ⟨g14, 0, none⟩) n1 (n1 + 2), Value.slice (some ⟨g22, 0, none⟩) n2 (n2 + 2)] 26 (0, 0))
 hb : W.heap[gb]? = some (.cells #[.slice A0 n0 c0, .slice A1 n1 c1, .slice A2 n2 c2] 26 (0, 0))
 hr : W.heap[gr]? = some (.cells #[.slice none 0 0, .slice none 0 0, .slice none 0 0] 26 (0, 0))
 c12 : L.getD 12 false = true → L.getD 9 false = true
 c20 : L.getD 20 false = true → L.getD 17 false = true
 c21 : L.getD 21 false = true → L.getD 4 false = true ∧ L.getD 12 false = true ∧ L.getD 20 false = true
 c23 : L.getD 23 false = true → L.getD 21 false = true ∧ L.getD 22 false = true
 lo : gb < gr
 ge : gr < W.heap.size
 below : Below w0.heap.size w0 W
 base : w0.heap.size ≤ gb
 up : (L.getD 4 false = true → gb ≤ g9) ∧ (L.getD 9 false = true → gb ≤ g14) ∧ (L.getD 17 false = true → gb ≤ g22)

def Inv (w0 : World) (n0 n1 n2 : Nat) (A0 A1 A2 : Option Addr) (c0 c1 c2 : Nat) (M9 M14 M22 row14 row22 : Array Value) (gb gr : Nat) (L : Array Bool) (a : Act) (W : World) : Prop := ∃ (x3 x5 x6 x7 x8 x9 x10 x11 x12 x13 x14 x15 x16 x17 x18 x19 x20 x21 x22 x23 x24 x25 x26 : Value) (g9 g14 g22 g3 : Nat), a = Act.mk #[.agg #[.slice A0 n0 c0, .slice A1 n1 c1, .slice A2 n2 c2], .pointer (some ⟨gb, 0, none⟩), .pointer (some ⟨gr, 0, none⟩), x3, undef, x5, x6, x7, x8, x9, x10, x11, x12, x13, x14, x15, x16, x17, x18, x19, x20, x21, x22, x23, x24, x25, x26, undef, undef, undef, undef, undef, undef, undef, undef, undef, undef, undef, undef, undef, undef, undef, undef, undef, undef, undef, undef, undef, undef, undef, undef, undef, undef, undef] [] ∧ In w0 n0 n1 n2 A0 A1 A2 c0 c1 c2 M9 M14 M22 row14 row22 gb gr L x3 x5 x6 x7 x8 x9 x10 x11 x12 x13 x14 x15 x16 x17 x18 x19 x20 x21 x22 x23 x24 x25 x26 g9 g14 g22 g3 W

theorem gsn {L : Array Bool} {i j : Nat} {b : Bool} (h : i ≠ j) : (L.setIfInBounds i true).getD j b = L.getD j b := getD_set_ne b h
theorem kp {L : Array Bool} {i j : Nat} {b : Bool} {p : Prop} (H : L.getD j false = b → p) (e : i ≠ j := by decide) : (L.setIfInBounds i true).getD j false = b → p := fun h => H (by rwa [gsn e] at h)
theorem gk {L : Array Bool} {i j : Nat} {b : Bool} (h : (L.setIfInBounds i true).getD j false = b) (e : i ≠ j := by decide) : L.getD j false = b := by rwa [gsn e] at h
theorem gmono {L : Array Bool} {i k : Nat} (h : L.getD k false = true) : (L.setIfInBounds i true).getD k false = true := by
 by_cases e : i = k
 ·subst e
  by_cases hl : i < L.size
  ·simp [Array.getD, hl]
  simp [Array.getD, hl] at h
 rw [gsn e]; exact h
theorem heap_old' {w : World} {o x : Obj} {k : Nat} (h : w.heap[k]? = some x) : (w.alloc o).heap[k]? = some x := by
 rw [heap_alloc_old (h := (Array.getElem?_eq_some_iff.1 h).1)]; exact h
theorem setRow_far {w : World} {g k : Nat} {cs : Array Value} {x : Obj} (h : w.heap[k]? = some x) (hne : k ≠ g) : (w.setRow g cs).heap[k]? = some x := by rw [setRow_other _ _ _ _ hne]; exact h
theorem setRow_at {w : World} {g : Nat} {old cs : Array Value} {t : TypeId} (h : w.heap[g]? = some (.cells old t (0, 0))) : (w.setRow g cs).heap[g]? = some (.cells cs t (0, 0)) := setRow_heap w g old cs t (0, 0) h
theorem drew_heap' {w : World} {k : Nat} {x : Obj} (h : w.heap[k]? = some x) : w.drew.heap[k]? = some x := h

theorem set_far' {w : World} {k : Nat} {v : Value} {p : Addr} {o : Obj} (h : w.heap[k]? = some o) (hne : k ≠ p.block) : (w.setCell p v).heap[k]? = some o := (Below.heap_setCell w p v k hne).trans h
theorem set_at3 {w : World} {g : Nat} {a b c : Value} (h : w.heap[g]? = some (.cells #[.slice none 0 0, .slice none 0 0, .slice none 0 0] 26 (0, 0))) : (((w.setCell ⟨g, 0, none⟩ a).setCell ⟨g, 1, none⟩ b).setCell ⟨g, 2, none⟩ c).heap[g]? = some (.cells #[a, b, c] 26 (0, 0)) := blk_put (blk_put (blk_put h 0 a rfl) 1 b rfl) 2 c rfl
theorem below_set' {B : Nat} {w0 w : World} {p : Addr} {v : Value} (h : Below B w0 w) (hp : B ≤ p.block) : Below B w0 (w.setCell p v) := h.setCell hp v
theorem gset {L : Array Bool} {i : Nat} {b : Bool} (h : i < L.size) : (L.setIfInBounds i true).getD i b = true := by simp [Array.getD, h]
theorem far3 {w : World} {g k : Nat} {a b c : Value} {x : Obj} (h : w.heap[k]? = some x) (hne : k ≠ g) : (((w.setCell ⟨g, 0, none⟩ a).setCell ⟨g, 1, none⟩ b).setCell ⟨g, 2, none⟩ c).heap[k]? = some x := set_far' (set_far' (set_far' h hne) hne) hne
set_option maxRecDepth 100000
theorem step0 (w0 : World) (n0 n1 n2 : Nat) (A0 A1 A2 : Option Addr) (c0 c1 c2 : Nat) (M9 M14 M22 row14 row22 : Array Value) (gb gr : Nat) {Q : Exit → Act → World → Prop} {L : Array Bool} {a : Act} {W : World} (hI : Inv w0 n0 n1 n2 A0 A1 A2 c0 c1 c2 M9 M14 M22 row14 row22 gb gr L a W) (hu : L.getD 0 false = false) (hL : 0 < L.size) :
 wpOp Tryd.prog ops1 Q 0 (fun a' w' => Inv w0 n0 n1 n2 A0 A1 A2 c0 c1 c2 M9 M14 M22 row14 row22 gb gr (L.setIfInBounds 0 true) a' w') a W := by
 obtain ⟨x3, x5, x6, x7, x8, x9, x10, x11, x12, x13, x14, x15, x16, x17, x18, x19, x20, x21, x22, x23, x24, x25, x26, g9, g14, g22, g3, rfl, H⟩ := hI
 refine wpOp_step (o := { dst := some 5, op := Op.fieldAddr 26 (Operand.tmp 1) 0, type := 0, pos := "law.go:198", after := #[], guard := none }) rfl (fun K' hK => ?_)
 go_simp
 refine hK _ _ ⟨_, _, _, _, _, _, _, _, _, _, _, _, _, _, _, _, _, _, _, _, _, _, _, g9, g14, g22, g3, rfl, ?_⟩
 exact ⟨fun _ => rfl, kp H.f1, kp H.f2, kp H.f3, fun h => ⟨(H.f4 (gk h)).1, (H.f4 (gk h)).2⟩, kp H.f5, kp H.f6, kp H.f7, kp H.f8, fun h => ⟨(H.f9 (gk h)).1, fun h2 => (H.f9 (gk h)).2 (gk h2)⟩, kp H.f10, kp H.f11, fun h => ⟨(H.f12 (gk h)).1, (H.f12 (gk h)).2⟩, kp H.f13, kp H.f14, kp H.f15, kp H.f16, fun h => ⟨(H.f17 (gk h)).1, fun h2 => (H.f17 (gk h)).2 (gk h2)⟩, kp H.f18, kp H.f19, fun h => ⟨(H.f20 (gk h)).1, (H.f20 (gk h)).2⟩, kp H.f21, fun h => ⟨(H.f22 (gk h)).1, (H.f22 (gk h)).2.1, (H.f22 (gk h)).2.2.1, (H.f22 (gk h)).2.2.2.1, fun h2 => (H.f22 (gk h)).2.2.2.2 (gk h2)⟩, kp H.f23, H.hb, H.hr, fun h => gmono (H.c12 (gk h)), fun h => gmono (H.c20 (gk h)), fun h => ⟨gmono (H.c21 (gk h)).1, gmono (H.c21 (gk h)).2.1, gmono (H.c21 (gk h)).2.2⟩, fun h => ⟨gmono (H.c23 (gk h)).1, gmono (H.c23 (gk h)).2⟩, H.lo, H.ge, H.below, H.base, ⟨fun h => H.up.1 (gk h), fun h => H.up.2.1 (gk h), fun h => H.up.2.2 (gk h)⟩⟩

theorem step1 (w0 : World) (n0 n1 n2 : Nat) (A0 A1 A2 : Option Addr) (c0 c1 c2 : Nat) (M9 M14 M22 row14 row22 : Array Value) (gb gr : Nat) {Q : Exit → Act → World → Prop} {L : Array Bool} {a : Act} {W : World} (hI : Inv w0 n0 n1 n2 A0 A1 A2 c0 c1 c2 M9 M14 M22 row14 row22 gb gr L a W) (hu : L.getD 1 false = false) (hL : 1 < L.size) (d0 : L.getD 0 false = true) :
 wpOp Tryd.prog ops1 Q 1 (fun a' w' => Inv w0 n0 n1 n2 A0 A1 A2 c0 c1 c2 M9 M14 M22 row14 row22 gb gr (L.setIfInBounds 1 true) a' w') a W := by
 obtain ⟨x3, x5, x6, x7, x8, x9, x10, x11, x12, x13, x14, x15, x16, x17, x18, x19, x20, x21, x22, x23, x24, x25, x26, g9, g14, g22, g3, rfl, H⟩ := hI
 have e0 := H.f0 d0
 subst e0
 have q0 : W.cell? ⟨gb, 0, none⟩ = some (.slice A0 n0 c0) := (blk_cell H.hb 0).trans rfl
 have q1 : W.cell? ⟨gb, 1, none⟩ = some (.slice A1 n1 c1) := (blk_cell H.hb 1).trans rfl
 have q2 : W.cell? ⟨gb, 2, none⟩ = some (.slice A2 n2 c2) := (blk_cell H.hb 2).trans rfl
 refine wpOp_step (o := { dst := some 6, op := Op.load 22 (Operand.tmp 5), type := 22, pos := "law.go:198", after := #[{ on := 0, ground := Ground.data }], guard := none }) rfl (fun K' hK => ?_)
 go_simp
 refine hK _ _ ⟨_, _, _, _, _, _, _, _, _, _, _, _, _, _, _, _, _, _, _, _, _, _, _, g9, g14, g22, g3, rfl, ?_⟩
 exact ⟨kp H.f0, fun _ => rfl, kp H.f2, kp H.f3, fun h => ⟨(H.f4 (gk h)).1, (H.f4 (gk h)).2⟩, kp H.f5, kp H.f6, kp H.f7, kp H.f8, fun h => ⟨(H.f9 (gk h)).1, fun h2 => (H.f9 (gk h)).2 (gk h2)⟩, kp H.f10, kp H.f11, fun h => ⟨(H.f12 (gk h)).1, (H.f12 (gk h)).2⟩, kp H.f13, kp H.f14, kp H.f15, kp H.f16, fun h => ⟨(H.f17 (gk h)).1, fun h2 => (H.f17 (gk h)).2 (gk h2)⟩, kp H.f18, kp H.f19, fun h => ⟨(H.f20 (gk h)).1, (H.f20 (gk h)).2⟩, kp H.f21, fun h => ⟨(H.f22 (gk h)).1, (H.f22 (gk h)).2.1, (H.f22 (gk h)).2.2.1, (H.f22 (gk h)).2.2.2.1, fun h2 => (H.f22 (gk h)).2.2.2.2 (gk h2)⟩, kp H.f23, H.hb, H.hr, fun h => gmono (H.c12 (gk h)), fun h => gmono (H.c20 (gk h)), fun h => ⟨gmono (H.c21 (gk h)).1, gmono (H.c21 (gk h)).2.1, gmono (H.c21 (gk h)).2.2⟩, fun h => ⟨gmono (H.c23 (gk h)).1, gmono (H.c23 (gk h)).2⟩, H.lo, H.ge, H.below, H.base, ⟨fun h => H.up.1 (gk h), fun h => H.up.2.1 (gk h), fun h => H.up.2.2 (gk h)⟩⟩

theorem step2 (w0 : World) (n0 n1 n2 : Nat) (A0 A1 A2 : Option Addr) (c0 c1 c2 : Nat) (M9 M14 M22 row14 row22 : Array Value) (gb gr : Nat) {Q : Exit → Act → World → Prop} {L : Array Bool} {a : Act} {W : World} (hI : Inv w0 n0 n1 n2 A0 A1 A2 c0 c1 c2 M9 M14 M22 row14 row22 gb gr L a W) (hu : L.getD 2 false = false) (hL : 2 < L.size) (d1 : L.getD 1 false = true) :
 wpOp Tryd.prog ops1 Q 2 (fun a' w' => Inv w0 n0 n1 n2 A0 A1 A2 c0 c1 c2 M9 M14 M22 row14 row22 gb gr (L.setIfInBounds 2 true) a' w') a W := by
 obtain ⟨x3, x5, x6, x7, x8, x9, x10, x11, x12, x13, x14, x15, x16, x17, x18, x19, x20, x21, x22, x23, x24, x25, x26, g9, g14, g22, g3, rfl, H⟩ := hI
 have e1 := H.f1 d1
 subst e1
 refine wpOp_step (o := { dst := some 7, op := Op.call { callee := Callee.builtin Builtin.len, args := #[Operand.tmp 6], argTypes := #[22] }, type := 3, pos := "law.go:198", after := #[{ on := 1, ground := Ground.data }], guard := none }) rfl (fun K' hK => ?_)
 go_simp
 refine hK _ _ ⟨_, _, _, _, _, _, _, _, _, _, _, _, _, _, _, _, _, _, _, _, _, _, _, g9, g14, g22, g3, rfl, ?_⟩
 exact ⟨kp H.f0, kp H.f1, fun _ => rfl, kp H.f3, fun h => ⟨(H.f4 (gk h)).1, (H.f4 (gk h)).2⟩, kp H.f5, kp H.f6, kp H.f7, kp H.f8, fun h => ⟨(H.f9 (gk h)).1, fun h2 => (H.f9 (gk h)).2 (gk h2)⟩, kp H.f10, kp H.f11, fun h => ⟨(H.f12 (gk h)).1, (H.f12 (gk h)).2⟩, kp H.f13, kp H.f14, kp H.f15, kp H.f16, fun h => ⟨(H.f17 (gk h)).1, fun h2 => (H.f17 (gk h)).2 (gk h2)⟩, kp H.f18, kp H.f19, fun h => ⟨(H.f20 (gk h)).1, (H.f20 (gk h)).2⟩, kp H.f21, fun h => ⟨(H.f22 (gk h)).1, (H.f22 (gk h)).2.1, (H.f22 (gk h)).2.2.1, (H.f22 (gk h)).2.2.2.1, fun h2 => (H.f22 (gk h)).2.2.2.2 (gk h2)⟩, kp H.f23, H.hb, H.hr, fun h => gmono (H.c12 (gk h)), fun h => gmono (H.c20 (gk h)), fun h => ⟨gmono (H.c21 (gk h)).1, gmono (H.c21 (gk h)).2.1, gmono (H.c21 (gk h)).2.2⟩, fun h => ⟨gmono (H.c23 (gk h)).1, gmono (H.c23 (gk h)).2⟩, H.lo, H.ge, H.below, H.base, ⟨fun h => H.up.1 (gk h), fun h => H.up.2.1 (gk h), fun h => H.up.2.2 (gk h)⟩⟩

theorem step3 (w0 : World) (n0 n1 n2 : Nat) (A0 A1 A2 : Option Addr) (c0 c1 c2 : Nat) (M9 M14 M22 row14 row22 : Array Value) (gb gr : Nat) {Q : Exit → Act → World → Prop} {L : Array Bool} {a : Act} {W : World} (hI : Inv w0 n0 n1 n2 A0 A1 A2 c0 c1 c2 M9 M14 M22 row14 row22 gb gr L a W) (hu : L.getD 3 false = false) (hL : 3 < L.size) (d2 : L.getD 2 false = true) (hn : IntKind.i64.wrap ((n0 : Int) + 2) = (n0 : Int) + 2) :
 wpOp Tryd.prog ops1 Q 3 (fun a' w' => Inv w0 n0 n1 n2 A0 A1 A2 c0 c1 c2 M9 M14 M22 row14 row22 gb gr (L.setIfInBounds 3 true) a' w') a W := by
 obtain ⟨x3, x5, x6, x7, x8, x9, x10, x11, x12, x13, x14, x15, x16, x17, x18, x19, x20, x21, x22, x23, x24, x25, x26, g9, g14, g22, g3, rfl, H⟩ := hI
 have e2 := H.f2 d2
 subst e2
 refine wpOp_step (o := { dst := some 8, op := Op.binOp BinOp.add 3 (Operand.tmp 7) (Operand.const (Value.int IntKind.i64 2)) 3, type := 3, pos := "law.go:198", after := #[{ on := 2, ground := Ground.data }], guard := none }) rfl (fun K' hK => ?_)
 go_simp
 refine hK _ _ ⟨_, _, _, _, _, _, _, _, _, _, _, _, _, _, _, _, _, _, _, _, _, _, _, g9, g14, g22, g3, rfl, ?_⟩
 exact ⟨kp H.f0, kp H.f1, kp H.f2, fun _ => rfl, fun h => ⟨(H.f4 (gk h)).1, (H.f4 (gk h)).2⟩, kp H.f5, kp H.f6, kp H.f7, kp H.f8, fun h => ⟨(H.f9 (gk h)).1, fun h2 => (H.f9 (gk h)).2 (gk h2)⟩, kp H.f10, kp H.f11, fun h => ⟨(H.f12 (gk h)).1, (H.f12 (gk h)).2⟩, kp H.f13, kp H.f14, kp H.f15, kp H.f16, fun h => ⟨(H.f17 (gk h)).1, fun h2 => (H.f17 (gk h)).2 (gk h2)⟩, kp H.f18, kp H.f19, fun h => ⟨(H.f20 (gk h)).1, (H.f20 (gk h)).2⟩, kp H.f21, fun h => ⟨(H.f22 (gk h)).1, (H.f22 (gk h)).2.1, (H.f22 (gk h)).2.2.1, (H.f22 (gk h)).2.2.2.1, fun h2 => (H.f22 (gk h)).2.2.2.2 (gk h2)⟩, kp H.f23, H.hb, H.hr, fun h => gmono (H.c12 (gk h)), fun h => gmono (H.c20 (gk h)), fun h => ⟨gmono (H.c21 (gk h)).1, gmono (H.c21 (gk h)).2.1, gmono (H.c21 (gk h)).2.2⟩, fun h => ⟨gmono (H.c23 (gk h)).1, gmono (H.c23 (gk h)).2⟩, H.lo, H.ge, H.below, H.base, ⟨fun h => H.up.1 (gk h), fun h => H.up.2.1 (gk h), fun h => H.up.2.2 (gk h)⟩⟩

theorem step4 (w0 : World) (n0 n1 n2 : Nat) (A0 A1 A2 : Option Addr) (c0 c1 c2 : Nat) (M9 M14 M22 row14 row22 : Array Value) (gb gr : Nat) {Q : Exit → Act → World → Prop} {L : Array Bool} {a : Act} {W : World} (hI : Inv w0 n0 n1 n2 A0 A1 A2 c0 c1 c2 M9 M14 M22 row14 row22 gb gr L a W) (hu : L.getD 4 false = false) (hL : 4 < L.size) (d3 : L.getD 3 false = true) (hm : ∀ W : World, (Instr.makeSlice 22 (.int .i64 0) (.int .i64 ((n0 : Int) + 2))).run Tryd.prog W = .ok (.slice (some ⟨W.heap.size, 0, none⟩) 0 (n0 + 2)) (W.alloc (.cells M9 42))) :
 wpOp Tryd.prog ops1 Q 4 (fun a' w' => Inv w0 n0 n1 n2 A0 A1 A2 c0 c1 c2 M9 M14 M22 row14 row22 gb gr (L.setIfInBounds 4 true) a' w') a W := by
 obtain ⟨x3, x5, x6, x7, x8, x9, x10, x11, x12, x13, x14, x15, x16, x17, x18, x19, x20, x21, x22, x23, x24, x25, x26, g9, g14, g22, g3, rfl, H⟩ := hI
 have e3 := H.f3 d3
 subst e3
 refine wpOp_step (o := { dst := some 9, op := Op.makeSlice 22 (Operand.const (Value.int IntKind.i64 0)) (Operand.tmp 8), type := 22, pos := "law.go:198", after := #[{ on := 3, ground := Ground.data }], guard := none }) rfl (fun K' hK => ?_)
 go_simp
 refine hK _ _ ⟨_, _, _, _, _, _, _, _, _, _, _, _, _, _, _, _, _, _, _, _, _, _, _, W.heap.size, g14, g22, g3, rfl, ?_⟩
 exact ⟨kp H.f0, kp H.f1, kp H.f2, kp H.f3, fun _ => ⟨rfl, heap_alloc_new W _⟩, kp H.f5, kp H.f6, kp H.f7, kp H.f8, fun h => ⟨(H.f9 (gk h)).1, fun h2 => heap_old' ((H.f9 (gk h)).2 (gk h2))⟩, kp H.f10, kp H.f11, fun h => ⟨(H.f12 (gk h)).1, heap_old' ((H.f12 (gk h)).2)⟩, kp H.f13, kp H.f14, kp H.f15, kp H.f16, fun h => ⟨(H.f17 (gk h)).1, fun h2 => heap_old' ((H.f17 (gk h)).2 (gk h2))⟩, kp H.f18, kp H.f19, fun h => ⟨(H.f20 (gk h)).1, heap_old' ((H.f20 (gk h)).2)⟩, (fun h => absurd ((H.c21 (gk h)).1) (by rw [hu]; decide)), fun h => ⟨(H.f22 (gk h)).1, (H.f22 (gk h)).2.1, (H.f22 (gk h)).2.2.1, (H.f22 (gk h)).2.2.2.1, fun h2 => heap_old' ((H.f22 (gk h)).2.2.2.2 (gk h2))⟩, (fun h => absurd ((H.c21 (H.c23 (gk h)).1).1) (by rw [hu]; decide)), heap_old' (H.hb), heap_old' (H.hr), fun h => gmono (H.c12 (gk h)), fun h => gmono (H.c20 (gk h)), fun h => ⟨gmono (H.c21 (gk h)).1, gmono (H.c21 (gk h)).2.1, gmono (H.c21 (gk h)).2.2⟩, fun h => ⟨gmono (H.c23 (gk h)).1, gmono (H.c23 (gk h)).2⟩, H.lo, (by have := H.ge; simp; omega), below_alloc H.below _, H.base, ⟨fun _ => by have := H.ge; have := H.lo; omega, fun h => H.up.2.1 (gk h), fun h => H.up.2.2 (gk h)⟩⟩

theorem step5 (w0 : World) (n0 n1 n2 : Nat) (A0 A1 A2 : Option Addr) (c0 c1 c2 : Nat) (M9 M14 M22 row14 row22 : Array Value) (gb gr : Nat) {Q : Exit → Act → World → Prop} {L : Array Bool} {a : Act} {W : World} (hI : Inv w0 n0 n1 n2 A0 A1 A2 c0 c1 c2 M9 M14 M22 row14 row22 gb gr L a W) (hu : L.getD 5 false = false) (hL : 5 < L.size) :
 wpOp Tryd.prog ops1 Q 5 (fun a' w' => Inv w0 n0 n1 n2 A0 A1 A2 c0 c1 c2 M9 M14 M22 row14 row22 gb gr (L.setIfInBounds 5 true) a' w') a W := by
 obtain ⟨x3, x5, x6, x7, x8, x9, x10, x11, x12, x13, x14, x15, x16, x17, x18, x19, x20, x21, x22, x23, x24, x25, x26, g9, g14, g22, g3, rfl, H⟩ := hI
 refine wpOp_step (o := { dst := some 10, op := Op.fieldAddr 26 (Operand.tmp 1) 1, type := 0, pos := "law.go:198", after := #[], guard := none }) rfl (fun K' hK => ?_)
 go_simp
 refine hK _ _ ⟨_, _, _, _, _, _, _, _, _, _, _, _, _, _, _, _, _, _, _, _, _, _, _, g9, g14, g22, g3, rfl, ?_⟩
 exact ⟨kp H.f0, kp H.f1, kp H.f2, kp H.f3, fun h => ⟨(H.f4 (gk h)).1, (H.f4 (gk h)).2⟩, fun _ => rfl, kp H.f6, kp H.f7, kp H.f8, fun h => ⟨(H.f9 (gk h)).1, fun h2 => (H.f9 (gk h)).2 (gk h2)⟩, kp H.f10, kp H.f11, fun h => ⟨(H.f12 (gk h)).1, (H.f12 (gk h)).2⟩, kp H.f13, kp H.f14, kp H.f15, kp H.f16, fun h => ⟨(H.f17 (gk h)).1, fun h2 => (H.f17 (gk h)).2 (gk h2)⟩, kp H.f18, kp H.f19, fun h => ⟨(H.f20 (gk h)).1, (H.f20 (gk h)).2⟩, kp H.f21, fun h => ⟨(H.f22 (gk h)).1, (H.f22 (gk h)).2.1, (H.f22 (gk h)).2.2.1, (H.f22 (gk h)).2.2.2.1, fun h2 => (H.f22 (gk h)).2.2.2.2 (gk h2)⟩, kp H.f23, H.hb, H.hr, fun h => gmono (H.c12 (gk h)), fun h => gmono (H.c20 (gk h)), fun h => ⟨gmono (H.c21 (gk h)).1, gmono (H.c21 (gk h)).2.1, gmono (H.c21 (gk h)).2.2⟩, fun h => ⟨gmono (H.c23 (gk h)).1, gmono (H.c23 (gk h)).2⟩, H.lo, H.ge, H.below, H.base, ⟨fun h => H.up.1 (gk h), fun h => H.up.2.1 (gk h), fun h => H.up.2.2 (gk h)⟩⟩

theorem step6 (w0 : World) (n0 n1 n2 : Nat) (A0 A1 A2 : Option Addr) (c0 c1 c2 : Nat) (M9 M14 M22 row14 row22 : Array Value) (gb gr : Nat) {Q : Exit → Act → World → Prop} {L : Array Bool} {a : Act} {W : World} (hI : Inv w0 n0 n1 n2 A0 A1 A2 c0 c1 c2 M9 M14 M22 row14 row22 gb gr L a W) (hu : L.getD 6 false = false) (hL : 6 < L.size) (d5 : L.getD 5 false = true) :
 wpOp Tryd.prog ops1 Q 6 (fun a' w' => Inv w0 n0 n1 n2 A0 A1 A2 c0 c1 c2 M9 M14 M22 row14 row22 gb gr (L.setIfInBounds 6 true) a' w') a W := by
 obtain ⟨x3, x5, x6, x7, x8, x9, x10, x11, x12, x13, x14, x15, x16, x17, x18, x19, x20, x21, x22, x23, x24, x25, x26, g9, g14, g22, g3, rfl, H⟩ := hI
 have e5 := H.f5 d5
 subst e5
 have q0 : W.cell? ⟨gb, 0, none⟩ = some (.slice A0 n0 c0) := (blk_cell H.hb 0).trans rfl
 have q1 : W.cell? ⟨gb, 1, none⟩ = some (.slice A1 n1 c1) := (blk_cell H.hb 1).trans rfl
 have q2 : W.cell? ⟨gb, 2, none⟩ = some (.slice A2 n2 c2) := (blk_cell H.hb 2).trans rfl
 refine wpOp_step (o := { dst := some 11, op := Op.load 23 (Operand.tmp 10), type := 23, pos := "law.go:198", after := #[{ on := 5, ground := Ground.data }], guard := none }) rfl (fun K' hK => ?_)
 go_simp
 refine hK _ _ ⟨_, _, _, _, _, _, _, _, _, _, _, _, _, _, _, _, _, _, _, _, _, _, _, g9, g14, g22, g3, rfl, ?_⟩
 exact ⟨kp H.f0, kp H.f1, kp H.f2, kp H.f3, fun h => ⟨(H.f4 (gk h)).1, (H.f4 (gk h)).2⟩, kp H.f5, fun _ => rfl, kp H.f7, kp H.f8, fun h => ⟨(H.f9 (gk h)).1, fun h2 => (H.f9 (gk h)).2 (gk h2)⟩, kp H.f10, kp H.f11, fun h => ⟨(H.f12 (gk h)).1, (H.f12 (gk h)).2⟩, kp H.f13, kp H.f14, kp H.f15, kp H.f16, fun h => ⟨(H.f17 (gk h)).1, fun h2 => (H.f17 (gk h)).2 (gk h2)⟩, kp H.f18, kp H.f19, fun h => ⟨(H.f20 (gk h)).1, (H.f20 (gk h)).2⟩, kp H.f21, fun h => ⟨(H.f22 (gk h)).1, (H.f22 (gk h)).2.1, (H.f22 (gk h)).2.2.1, (H.f22 (gk h)).2.2.2.1, fun h2 => (H.f22 (gk h)).2.2.2.2 (gk h2)⟩, kp H.f23, H.hb, H.hr, fun h => gmono (H.c12 (gk h)), fun h => gmono (H.c20 (gk h)), fun h => ⟨gmono (H.c21 (gk h)).1, gmono (H.c21 (gk h)).2.1, gmono (H.c21 (gk h)).2.2⟩, fun h => ⟨gmono (H.c23 (gk h)).1, gmono (H.c23 (gk h)).2⟩, H.lo, H.ge, H.below, H.base, ⟨fun h => H.up.1 (gk h), fun h => H.up.2.1 (gk h), fun h => H.up.2.2 (gk h)⟩⟩

theorem step7 (w0 : World) (n0 n1 n2 : Nat) (A0 A1 A2 : Option Addr) (c0 c1 c2 : Nat) (M9 M14 M22 row14 row22 : Array Value) (gb gr : Nat) {Q : Exit → Act → World → Prop} {L : Array Bool} {a : Act} {W : World} (hI : Inv w0 n0 n1 n2 A0 A1 A2 c0 c1 c2 M9 M14 M22 row14 row22 gb gr L a W) (hu : L.getD 7 false = false) (hL : 7 < L.size) (d6 : L.getD 6 false = true) :
 wpOp Tryd.prog ops1 Q 7 (fun a' w' => Inv w0 n0 n1 n2 A0 A1 A2 c0 c1 c2 M9 M14 M22 row14 row22 gb gr (L.setIfInBounds 7 true) a' w') a W := by
 obtain ⟨x3, x5, x6, x7, x8, x9, x10, x11, x12, x13, x14, x15, x16, x17, x18, x19, x20, x21, x22, x23, x24, x25, x26, g9, g14, g22, g3, rfl, H⟩ := hI
 have e6 := H.f6 d6
 subst e6
 refine wpOp_step (o := { dst := some 12, op := Op.call { callee := Callee.builtin Builtin.len, args := #[Operand.tmp 11], argTypes := #[23] }, type := 3, pos := "law.go:198", after := #[{ on := 6, ground := Ground.data }], guard := none }) rfl (fun K' hK => ?_)
 go_simp
 refine hK _ _ ⟨_, _, _, _, _, _, _, _, _, _, _, _, _, _, _, _, _, _, _, _, _, _, _, g9, g14, g22, g3, rfl, ?_⟩
 exact ⟨kp H.f0, kp H.f1, kp H.f2, kp H.f3, fun h => ⟨(H.f4 (gk h)).1, (H.f4 (gk h)).2⟩, kp H.f5, kp H.f6, fun _ => rfl, kp H.f8, fun h => ⟨(H.f9 (gk h)).1, fun h2 => (H.f9 (gk h)).2 (gk h2)⟩, kp H.f10, kp H.f11, fun h => ⟨(H.f12 (gk h)).1, (H.f12 (gk h)).2⟩, kp H.f13, kp H.f14, kp H.f15, kp H.f16, fun h => ⟨(H.f17 (gk h)).1, fun h2 => (H.f17 (gk h)).2 (gk h2)⟩, kp H.f18, kp H.f19, fun h => ⟨(H.f20 (gk h)).1, (H.f20 (gk h)).2⟩, kp H.f21, fun h => ⟨(H.f22 (gk h)).1, (H.f22 (gk h)).2.1, (H.f22 (gk h)).2.2.1, (H.f22 (gk h)).2.2.2.1, fun h2 => (H.f22 (gk h)).2.2.2.2 (gk h2)⟩, kp H.f23, H.hb, H.hr, fun h => gmono (H.c12 (gk h)), fun h => gmono (H.c20 (gk h)), fun h => ⟨gmono (H.c21 (gk h)).1, gmono (H.c21 (gk h)).2.1, gmono (H.c21 (gk h)).2.2⟩, fun h => ⟨gmono (H.c23 (gk h)).1, gmono (H.c23 (gk h)).2⟩, H.lo, H.ge, H.below, H.base, ⟨fun h => H.up.1 (gk h), fun h => H.up.2.1 (gk h), fun h => H.up.2.2 (gk h)⟩⟩

theorem step8 (w0 : World) (n0 n1 n2 : Nat) (A0 A1 A2 : Option Addr) (c0 c1 c2 : Nat) (M9 M14 M22 row14 row22 : Array Value) (gb gr : Nat) {Q : Exit → Act → World → Prop} {L : Array Bool} {a : Act} {W : World} (hI : Inv w0 n0 n1 n2 A0 A1 A2 c0 c1 c2 M9 M14 M22 row14 row22 gb gr L a W) (hu : L.getD 8 false = false) (hL : 8 < L.size) (d7 : L.getD 7 false = true) (hn : IntKind.i64.wrap ((n1 : Int) + 2) = (n1 : Int) + 2) :
 wpOp Tryd.prog ops1 Q 8 (fun a' w' => Inv w0 n0 n1 n2 A0 A1 A2 c0 c1 c2 M9 M14 M22 row14 row22 gb gr (L.setIfInBounds 8 true) a' w') a W := by
 obtain ⟨x3, x5, x6, x7, x8, x9, x10, x11, x12, x13, x14, x15, x16, x17, x18, x19, x20, x21, x22, x23, x24, x25, x26, g9, g14, g22, g3, rfl, H⟩ := hI
 have e7 := H.f7 d7
 subst e7
 refine wpOp_step (o := { dst := some 13, op := Op.binOp BinOp.add 3 (Operand.tmp 12) (Operand.const (Value.int IntKind.i64 2)) 3, type := 3, pos := "law.go:198", after := #[{ on := 7, ground := Ground.data }], guard := none }) rfl (fun K' hK => ?_)
 go_simp
 refine hK _ _ ⟨_, _, _, _, _, _, _, _, _, _, _, _, _, _, _, _, _, _, _, _, _, _, _, g9, g14, g22, g3, rfl, ?_⟩
 exact ⟨kp H.f0, kp H.f1, kp H.f2, kp H.f3, fun h => ⟨(H.f4 (gk h)).1, (H.f4 (gk h)).2⟩, kp H.f5, kp H.f6, kp H.f7, fun _ => rfl, fun h => ⟨(H.f9 (gk h)).1, fun h2 => (H.f9 (gk h)).2 (gk h2)⟩, kp H.f10, kp H.f11, fun h => ⟨(H.f12 (gk h)).1, (H.f12 (gk h)).2⟩, kp H.f13, kp H.f14, kp H.f15, kp H.f16, fun h => ⟨(H.f17 (gk h)).1, fun h2 => (H.f17 (gk h)).2 (gk h2)⟩, kp H.f18, kp H.f19, fun h => ⟨(H.f20 (gk h)).1, (H.f20 (gk h)).2⟩, kp H.f21, fun h => ⟨(H.f22 (gk h)).1, (H.f22 (gk h)).2.1, (H.f22 (gk h)).2.2.1, (H.f22 (gk h)).2.2.2.1, fun h2 => (H.f22 (gk h)).2.2.2.2 (gk h2)⟩, kp H.f23, H.hb, H.hr, fun h => gmono (H.c12 (gk h)), fun h => gmono (H.c20 (gk h)), fun h => ⟨gmono (H.c21 (gk h)).1, gmono (H.c21 (gk h)).2.1, gmono (H.c21 (gk h)).2.2⟩, fun h => ⟨gmono (H.c23 (gk h)).1, gmono (H.c23 (gk h)).2⟩, H.lo, H.ge, H.below, H.base, ⟨fun h => H.up.1 (gk h), fun h => H.up.2.1 (gk h), fun h => H.up.2.2 (gk h)⟩⟩

theorem step9 (w0 : World) (n0 n1 n2 : Nat) (A0 A1 A2 : Option Addr) (c0 c1 c2 : Nat) (M9 M14 M22 row14 row22 : Array Value) (gb gr : Nat) {Q : Exit → Act → World → Prop} {L : Array Bool} {a : Act} {W : World} (hI : Inv w0 n0 n1 n2 A0 A1 A2 c0 c1 c2 M9 M14 M22 row14 row22 gb gr L a W) (hu : L.getD 9 false = false) (hL : 9 < L.size) (d8 : L.getD 8 false = true) (hm : ∀ W : World, (Instr.makeSlice 23 (.int .i64 0) (.int .i64 ((n1 : Int) + 2))).run Tryd.prog W = .ok (.slice (some ⟨W.heap.size, 0, none⟩) 0 (n1 + 2)) (W.alloc (.cells M14 52))) :
 wpOp Tryd.prog ops1 Q 9 (fun a' w' => Inv w0 n0 n1 n2 A0 A1 A2 c0 c1 c2 M9 M14 M22 row14 row22 gb gr (L.setIfInBounds 9 true) a' w') a W := by
 obtain ⟨x3, x5, x6, x7, x8, x9, x10, x11, x12, x13, x14, x15, x16, x17, x18, x19, x20, x21, x22, x23, x24, x25, x26, g9, g14, g22, g3, rfl, H⟩ := hI
 have e8 := H.f8 d8
 subst e8
 refine wpOp_step (o := { dst := some 14, op := Op.makeSlice 23 (Operand.const (Value.int IntKind.i64 0)) (Operand.tmp 13), type := 23, pos := "law.go:198", after := #[{ on := 8, ground := Ground.data }], guard := none }) rfl (fun K' hK => ?_)
 go_simp
 refine hK _ _ ⟨_, _, _, _, _, _, _, _, _, _, _, _, _, _, _, _, _, _, _, _, _, _, _, g9, W.heap.size, g22, g3, rfl, ?_⟩
 exact ⟨kp H.f0, kp H.f1, kp H.f2, kp H.f3, fun h => ⟨(H.f4 (gk h)).1, heap_old' ((H.f4 (gk h)).2)⟩, kp H.f5, kp H.f6, kp H.f7, kp H.f8, fun _ => ⟨rfl, fun _ => heap_alloc_new W _⟩, kp H.f10, kp H.f11, (fun h => absurd (H.c12 (gk h)) (by rw [hu]; decide)), kp H.f13, kp H.f14, kp H.f15, kp H.f16, fun h => ⟨(H.f17 (gk h)).1, fun h2 => heap_old' ((H.f17 (gk h)).2 (gk h2))⟩, kp H.f18, kp H.f19, fun h => ⟨(H.f20 (gk h)).1, heap_old' ((H.f20 (gk h)).2)⟩, (fun h => absurd (H.c12 (H.c21 (gk h)).2.1) (by rw [hu]; decide)), fun h => ⟨(H.f22 (gk h)).1, (H.f22 (gk h)).2.1, (H.f22 (gk h)).2.2.1, (H.f22 (gk h)).2.2.2.1, fun h2 => heap_old' ((H.f22 (gk h)).2.2.2.2 (gk h2))⟩, (fun h => absurd (H.c12 (H.c21 (H.c23 (gk h)).1).2.1) (by rw [hu]; decide)), heap_old' (H.hb), heap_old' (H.hr), fun h => gmono (H.c12 (gk h)), fun h => gmono (H.c20 (gk h)), fun h => ⟨gmono (H.c21 (gk h)).1, gmono (H.c21 (gk h)).2.1, gmono (H.c21 (gk h)).2.2⟩, fun h => ⟨gmono (H.c23 (gk h)).1, gmono (H.c23 (gk h)).2⟩, H.lo, (by have := H.ge; simp; omega), below_alloc H.below _, H.base, ⟨fun h => H.up.1 (gk h), fun _ => by have := H.ge; have := H.lo; omega, fun h => H.up.2.2 (gk h)⟩⟩

theorem step10 (w0 : World) (n0 n1 n2 : Nat) (A0 A1 A2 : Option Addr) (c0 c1 c2 : Nat) (M9 M14 M22 row14 row22 : Array Value) (gb gr : Nat) {Q : Exit → Act → World → Prop} {L : Array Bool} {a : Act} {W : World} (hI : Inv w0 n0 n1 n2 A0 A1 A2 c0 c1 c2 M9 M14 M22 row14 row22 gb gr L a W) (hu : L.getD 10 false = false) (hL : 10 < L.size) :
 wpOp Tryd.prog ops1 Q 10 (fun a' w' => Inv w0 n0 n1 n2 A0 A1 A2 c0 c1 c2 M9 M14 M22 row14 row22 gb gr (L.setIfInBounds 10 true) a' w') a W := by
 obtain ⟨x3, x5, x6, x7, x8, x9, x10, x11, x12, x13, x14, x15, x16, x17, x18, x19, x20, x21, x22, x23, x24, x25, x26, g9, g14, g22, g3, rfl, H⟩ := hI
 refine wpOp_step (o := { dst := some 15, op := Op.fieldAddr 26 (Operand.tmp 1) 1, type := 0, pos := "law.go:198", after := #[], guard := none }) rfl (fun K' hK => ?_)
 go_simp
 refine hK _ _ ⟨_, _, _, _, _, _, _, _, _, _, _, _, _, _, _, _, _, _, _, _, _, _, _, g9, g14, g22, g3, rfl, ?_⟩
 exact ⟨kp H.f0, kp H.f1, kp H.f2, kp H.f3, fun h => ⟨(H.f4 (gk h)).1, (H.f4 (gk h)).2⟩, kp H.f5, kp H.f6, kp H.f7, kp H.f8, fun h => ⟨(H.f9 (gk h)).1, fun h2 => (H.f9 (gk h)).2 (gk h2)⟩, fun _ => rfl, kp H.f11, fun h => ⟨(H.f12 (gk h)).1, (H.f12 (gk h)).2⟩, kp H.f13, kp H.f14, kp H.f15, kp H.f16, fun h => ⟨(H.f17 (gk h)).1, fun h2 => (H.f17 (gk h)).2 (gk h2)⟩, kp H.f18, kp H.f19, fun h => ⟨(H.f20 (gk h)).1, (H.f20 (gk h)).2⟩, kp H.f21, fun h => ⟨(H.f22 (gk h)).1, (H.f22 (gk h)).2.1, (H.f22 (gk h)).2.2.1, (H.f22 (gk h)).2.2.2.1, fun h2 => (H.f22 (gk h)).2.2.2.2 (gk h2)⟩, kp H.f23, H.hb, H.hr, fun h => gmono (H.c12 (gk h)), fun h => gmono (H.c20 (gk h)), fun h => ⟨gmono (H.c21 (gk h)).1, gmono (H.c21 (gk h)).2.1, gmono (H.c21 (gk h)).2.2⟩, fun h => ⟨gmono (H.c23 (gk h)).1, gmono (H.c23 (gk h)).2⟩, H.lo, H.ge, H.below, H.base, ⟨fun h => H.up.1 (gk h), fun h => H.up.2.1 (gk h), fun h => H.up.2.2 (gk h)⟩⟩

theorem step11 (w0 : World) (n0 n1 n2 : Nat) (A0 A1 A2 : Option Addr) (c0 c1 c2 : Nat) (M9 M14 M22 row14 row22 : Array Value) (gb gr : Nat) {Q : Exit → Act → World → Prop} {L : Array Bool} {a : Act} {W : World} (hI : Inv w0 n0 n1 n2 A0 A1 A2 c0 c1 c2 M9 M14 M22 row14 row22 gb gr L a W) (hu : L.getD 11 false = false) (hL : 11 < L.size) (d10 : L.getD 10 false = true) :
 wpOp Tryd.prog ops1 Q 11 (fun a' w' => Inv w0 n0 n1 n2 A0 A1 A2 c0 c1 c2 M9 M14 M22 row14 row22 gb gr (L.setIfInBounds 11 true) a' w') a W := by
 obtain ⟨x3, x5, x6, x7, x8, x9, x10, x11, x12, x13, x14, x15, x16, x17, x18, x19, x20, x21, x22, x23, x24, x25, x26, g9, g14, g22, g3, rfl, H⟩ := hI
 have e10 := H.f10 d10
 subst e10
 have q0 : W.cell? ⟨gb, 0, none⟩ = some (.slice A0 n0 c0) := (blk_cell H.hb 0).trans rfl
 have q1 : W.cell? ⟨gb, 1, none⟩ = some (.slice A1 n1 c1) := (blk_cell H.hb 1).trans rfl
 have q2 : W.cell? ⟨gb, 2, none⟩ = some (.slice A2 n2 c2) := (blk_cell H.hb 2).trans rfl
 refine wpOp_step (o := { dst := some 16, op := Op.load 23 (Operand.tmp 15), type := 23, pos := "law.go:198", after := #[{ on := 10, ground := Ground.data }], guard := none }) rfl (fun K' hK => ?_)
 go_simp
 refine hK _ _ ⟨_, _, _, _, _, _, _, _, _, _, _, _, _, _, _, _, _, _, _, _, _, _, _, g9, g14, g22, g3, rfl, ?_⟩
 exact ⟨kp H.f0, kp H.f1, kp H.f2, kp H.f3, fun h => ⟨(H.f4 (gk h)).1, (H.f4 (gk h)).2⟩, kp H.f5, kp H.f6, kp H.f7, kp H.f8, fun h => ⟨(H.f9 (gk h)).1, fun h2 => (H.f9 (gk h)).2 (gk h2)⟩, kp H.f10, fun _ => rfl, fun h => ⟨(H.f12 (gk h)).1, (H.f12 (gk h)).2⟩, kp H.f13, kp H.f14, kp H.f15, kp H.f16, fun h => ⟨(H.f17 (gk h)).1, fun h2 => (H.f17 (gk h)).2 (gk h2)⟩, kp H.f18, kp H.f19, fun h => ⟨(H.f20 (gk h)).1, (H.f20 (gk h)).2⟩, kp H.f21, fun h => ⟨(H.f22 (gk h)).1, (H.f22 (gk h)).2.1, (H.f22 (gk h)).2.2.1, (H.f22 (gk h)).2.2.2.1, fun h2 => (H.f22 (gk h)).2.2.2.2 (gk h2)⟩, kp H.f23, H.hb, H.hr, fun h => gmono (H.c12 (gk h)), fun h => gmono (H.c20 (gk h)), fun h => ⟨gmono (H.c21 (gk h)).1, gmono (H.c21 (gk h)).2.1, gmono (H.c21 (gk h)).2.2⟩, fun h => ⟨gmono (H.c23 (gk h)).1, gmono (H.c23 (gk h)).2⟩, H.lo, H.ge, H.below, H.base, ⟨fun h => H.up.1 (gk h), fun h => H.up.2.1 (gk h), fun h => H.up.2.2 (gk h)⟩⟩

theorem step12 (w0 : World) (n0 n1 n2 : Nat) (A0 A1 A2 : Option Addr) (c0 c1 c2 : Nat) (M9 M14 M22 row14 row22 : Array Value) (gb gr : Nat) {Q : Exit → Act → World → Prop} {L : Array Bool} {a : Act} {W : World} (hI : Inv w0 n0 n1 n2 A0 A1 A2 c0 c1 c2 M9 M14 M22 row14 row22 gb gr L a W) (hu : L.getD 12 false = false) (hL : 12 < L.size) (d9 : L.getD 9 false = true) (d11 : L.getD 11 false = true) (hrun : ∀ (W : World) (g : Nat), Below w0.heap.size w0 W → W.heap[g]? = some (.cells M14 52 (0, 0)) → (appR 23 A1 n1 c1 g (n1 + 2)).run Tryd.prog W = .ok (.slice (some ⟨g, 0, none⟩) n1 (n1 + 2)) (W.setRow g row14)) :
 wpOp Tryd.prog ops1 Q 12 (fun a' w' => Inv w0 n0 n1 n2 A0 A1 A2 c0 c1 c2 M9 M14 M22 row14 row22 gb gr (L.setIfInBounds 12 true) a' w') a W := by
 obtain ⟨x3, x5, x6, x7, x8, x9, x10, x11, x12, x13, x14, x15, x16, x17, x18, x19, x20, x21, x22, x23, x24, x25, x26, g9, g14, g22, g3, rfl, H⟩ := hI
 obtain ⟨e9, h9⟩ := H.f9 d9
 have e11 := H.f11 d11
 subst e9
 subst e11
 have hz := h9 hu
 have hr := hrun W g14 H.below hz
 unfold appR at hr
 refine wpOp_step (o := { dst := some 17, op := Op.call { callee := Callee.builtin Builtin.append, args := #[Operand.tmp 14, Operand.tmp 16], argTypes := #[23, 23] }, type := 23, pos := "law.go:198", after := #[{ on := 9, ground := Ground.data }, { on := 11, ground := Ground.data }], guard := none }) rfl (fun K' hK => ?_)
 rw [if_pos (by rfl)]
 unfold Oper.wp
 simp [execOp, resolve, invoke, builtin, Act.eval, hr, Result.andThen]
 refine hK _ _ ⟨_, _, _, _, _, _, _, _, _, _, _, _, _, _, _, _, _, _, _, _, _, _, _, g9, g14, g22, g3, rfl, ?_⟩
 exact ⟨kp H.f0, kp H.f1, kp H.f2, kp H.f3, (fun h => ⟨(H.f4 (gk h)).1, setRow_far ((H.f4 (gk h)).2) (blk_ne ((H.f4 (gk h)).2) hz (by decide))⟩), kp H.f5, kp H.f6, kp H.f7, kp H.f8, (fun h => ⟨(H.f9 (gk h)).1, fun h2 => by rw [gset hL] at h2; cases h2⟩), kp H.f10, kp H.f11, fun _ => ⟨rfl, setRow_at hz⟩, kp H.f13, kp H.f14, kp H.f15, kp H.f16, (fun h => ⟨(H.f17 (gk h)).1, fun h2 => setRow_far ((H.f17 (gk h)).2 (gk h2)) (blk_ne ((H.f17 (gk h)).2 (gk h2)) hz (by decide))⟩), kp H.f18, kp H.f19, (fun h => ⟨(H.f20 (gk h)).1, setRow_far ((H.f20 (gk h)).2) (blk_ne ((H.f20 (gk h)).2) hz (by decide))⟩), kp H.f21, (fun h => ⟨(H.f22 (gk h)).1, (H.f22 (gk h)).2.1, (H.f22 (gk h)).2.2.1, (H.f22 (gk h)).2.2.2.1, fun h2 => setRow_far ((H.f22 (gk h)).2.2.2.2 (gk h2)) (blk_ne ((H.f22 (gk h)).2.2.2.2 (gk h2)) hz (by decide))⟩), (fun h => setRow_far (H.f23 (gk h)) (blk_ne (H.f23 (gk h)) hz (by decide))), (setRow_far (H.hb) (blk_ne (H.hb) hz (by decide))), (setRow_far (H.hr) (blk_ne (H.hr) hz (by decide))), fun _ => gmono d9, fun h => gmono (H.c20 (gk h)), fun h => ⟨gmono (H.c21 (gk h)).1, gmono (H.c21 (gk h)).2.1, gmono (H.c21 (gk h)).2.2⟩, fun h => ⟨gmono (H.c23 (gk h)).1, gmono (H.c23 (gk h)).2⟩, H.lo, (by have := H.ge; simp; omega), below_setRow H.below (Nat.le_trans H.base (H.up.2.1 d9)) _, H.base, ⟨fun h => H.up.1 (gk h), fun h => H.up.2.1 (gk h), fun h => H.up.2.2 (gk h)⟩⟩

theorem step13 (w0 : World) (n0 n1 n2 : Nat) (A0 A1 A2 : Option Addr) (c0 c1 c2 : Nat) (M9 M14 M22 row14 row22 : Array Value) (gb gr : Nat) {Q : Exit → Act → World → Prop} {L : Array Bool} {a : Act} {W : World} (hI : Inv w0 n0 n1 n2 A0 A1 A2 c0 c1 c2 M9 M14 M22 row14 row22 gb gr L a W) (hu : L.getD 13 false = false) (hL : 13 < L.size) :
 wpOp Tryd.prog ops1 Q 13 (fun a' w' => Inv w0 n0 n1 n2 A0 A1 A2 c0 c1 c2 M9 M14 M22 row14 row22 gb gr (L.setIfInBounds 13 true) a' w') a W := by
 obtain ⟨x3, x5, x6, x7, x8, x9, x10, x11, x12, x13, x14, x15, x16, x17, x18, x19, x20, x21, x22, x23, x24, x25, x26, g9, g14, g22, g3, rfl, H⟩ := hI
 refine wpOp_step (o := { dst := some 18, op := Op.fieldAddr 26 (Operand.tmp 1) 2, type := 0, pos := "law.go:198", after := #[], guard := none }) rfl (fun K' hK => ?_)
 go_simp
 refine hK _ _ ⟨_, _, _, _, _, _, _, _, _, _, _, _, _, _, _, _, _, _, _, _, _, _, _, g9, g14, g22, g3, rfl, ?_⟩
 exact ⟨kp H.f0, kp H.f1, kp H.f2, kp H.f3, fun h => ⟨(H.f4 (gk h)).1, (H.f4 (gk h)).2⟩, kp H.f5, kp H.f6, kp H.f7, kp H.f8, fun h => ⟨(H.f9 (gk h)).1, fun h2 => (H.f9 (gk h)).2 (gk h2)⟩, kp H.f10, kp H.f11, fun h => ⟨(H.f12 (gk h)).1, (H.f12 (gk h)).2⟩, fun _ => rfl, kp H.f14, kp H.f15, kp H.f16, fun h => ⟨(H.f17 (gk h)).1, fun h2 => (H.f17 (gk h)).2 (gk h2)⟩, kp H.f18, kp H.f19, fun h => ⟨(H.f20 (gk h)).1, (H.f20 (gk h)).2⟩, kp H.f21, fun h => ⟨(H.f22 (gk h)).1, (H.f22 (gk h)).2.1, (H.f22 (gk h)).2.2.1, (H.f22 (gk h)).2.2.2.1, fun h2 => (H.f22 (gk h)).2.2.2.2 (gk h2)⟩, kp H.f23, H.hb, H.hr, fun h => gmono (H.c12 (gk h)), fun h => gmono (H.c20 (gk h)), fun h => ⟨gmono (H.c21 (gk h)).1, gmono (H.c21 (gk h)).2.1, gmono (H.c21 (gk h)).2.2⟩, fun h => ⟨gmono (H.c23 (gk h)).1, gmono (H.c23 (gk h)).2⟩, H.lo, H.ge, H.below, H.base, ⟨fun h => H.up.1 (gk h), fun h => H.up.2.1 (gk h), fun h => H.up.2.2 (gk h)⟩⟩

theorem step14 (w0 : World) (n0 n1 n2 : Nat) (A0 A1 A2 : Option Addr) (c0 c1 c2 : Nat) (M9 M14 M22 row14 row22 : Array Value) (gb gr : Nat) {Q : Exit → Act → World → Prop} {L : Array Bool} {a : Act} {W : World} (hI : Inv w0 n0 n1 n2 A0 A1 A2 c0 c1 c2 M9 M14 M22 row14 row22 gb gr L a W) (hu : L.getD 14 false = false) (hL : 14 < L.size) (d13 : L.getD 13 false = true) :
 wpOp Tryd.prog ops1 Q 14 (fun a' w' => Inv w0 n0 n1 n2 A0 A1 A2 c0 c1 c2 M9 M14 M22 row14 row22 gb gr (L.setIfInBounds 14 true) a' w') a W := by
 obtain ⟨x3, x5, x6, x7, x8, x9, x10, x11, x12, x13, x14, x15, x16, x17, x18, x19, x20, x21, x22, x23, x24, x25, x26, g9, g14, g22, g3, rfl, H⟩ := hI
 have e13 := H.f13 d13
 subst e13
 have q0 : W.cell? ⟨gb, 0, none⟩ = some (.slice A0 n0 c0) := (blk_cell H.hb 0).trans rfl
 have q1 : W.cell? ⟨gb, 1, none⟩ = some (.slice A1 n1 c1) := (blk_cell H.hb 1).trans rfl
 have q2 : W.cell? ⟨gb, 2, none⟩ = some (.slice A2 n2 c2) := (blk_cell H.hb 2).trans rfl
 refine wpOp_step (o := { dst := some 19, op := Op.load 24 (Operand.tmp 18), type := 24, pos := "law.go:198", after := #[{ on := 13, ground := Ground.data }], guard := none }) rfl (fun K' hK => ?_)
 go_simp
 refine hK _ _ ⟨_, _, _, _, _, _, _, _, _, _, _, _, _, _, _, _, _, _, _, _, _, _, _, g9, g14, g22, g3, rfl, ?_⟩
 exact ⟨kp H.f0, kp H.f1, kp H.f2, kp H.f3, fun h => ⟨(H.f4 (gk h)).1, (H.f4 (gk h)).2⟩, kp H.f5, kp H.f6, kp H.f7, kp H.f8, fun h => ⟨(H.f9 (gk h)).1, fun h2 => (H.f9 (gk h)).2 (gk h2)⟩, kp H.f10, kp H.f11, fun h => ⟨(H.f12 (gk h)).1, (H.f12 (gk h)).2⟩, kp H.f13, fun _ => rfl, kp H.f15, kp H.f16, fun h => ⟨(H.f17 (gk h)).1, fun h2 => (H.f17 (gk h)).2 (gk h2)⟩, kp H.f18, kp H.f19, fun h => ⟨(H.f20 (gk h)).1, (H.f20 (gk h)).2⟩, kp H.f21, fun h => ⟨(H.f22 (gk h)).1, (H.f22 (gk h)).2.1, (H.f22 (gk h)).2.2.1, (H.f22 (gk h)).2.2.2.1, fun h2 => (H.f22 (gk h)).2.2.2.2 (gk h2)⟩, kp H.f23, H.hb, H.hr, fun h => gmono (H.c12 (gk h)), fun h => gmono (H.c20 (gk h)), fun h => ⟨gmono (H.c21 (gk h)).1, gmono (H.c21 (gk h)).2.1, gmono (H.c21 (gk h)).2.2⟩, fun h => ⟨gmono (H.c23 (gk h)).1, gmono (H.c23 (gk h)).2⟩, H.lo, H.ge, H.below, H.base, ⟨fun h => H.up.1 (gk h), fun h => H.up.2.1 (gk h), fun h => H.up.2.2 (gk h)⟩⟩

theorem step15 (w0 : World) (n0 n1 n2 : Nat) (A0 A1 A2 : Option Addr) (c0 c1 c2 : Nat) (M9 M14 M22 row14 row22 : Array Value) (gb gr : Nat) {Q : Exit → Act → World → Prop} {L : Array Bool} {a : Act} {W : World} (hI : Inv w0 n0 n1 n2 A0 A1 A2 c0 c1 c2 M9 M14 M22 row14 row22 gb gr L a W) (hu : L.getD 15 false = false) (hL : 15 < L.size) (d14 : L.getD 14 false = true) :
 wpOp Tryd.prog ops1 Q 15 (fun a' w' => Inv w0 n0 n1 n2 A0 A1 A2 c0 c1 c2 M9 M14 M22 row14 row22 gb gr (L.setIfInBounds 15 true) a' w') a W := by
 obtain ⟨x3, x5, x6, x7, x8, x9, x10, x11, x12, x13, x14, x15, x16, x17, x18, x19, x20, x21, x22, x23, x24, x25, x26, g9, g14, g22, g3, rfl, H⟩ := hI
 have e14 := H.f14 d14
 subst e14
 refine wpOp_step (o := { dst := some 20, op := Op.call { callee := Callee.builtin Builtin.len, args := #[Operand.tmp 19], argTypes := #[24] }, type := 3, pos := "law.go:198", after := #[{ on := 14, ground := Ground.data }], guard := none }) rfl (fun K' hK => ?_)
 go_simp
 refine hK _ _ ⟨_, _, _, _, _, _, _, _, _, _, _, _, _, _, _, _, _, _, _, _, _, _, _, g9, g14, g22, g3, rfl, ?_⟩
 exact ⟨kp H.f0, kp H.f1, kp H.f2, kp H.f3, fun h => ⟨(H.f4 (gk h)).1, (H.f4 (gk h)).2⟩, kp H.f5, kp H.f6, kp H.f7, kp H.f8, fun h => ⟨(H.f9 (gk h)).1, fun h2 => (H.f9 (gk h)).2 (gk h2)⟩, kp H.f10, kp H.f11, fun h => ⟨(H.f12 (gk h)).1, (H.f12 (gk h)).2⟩, kp H.f13, kp H.f14, fun _ => rfl, kp H.f16, fun h => ⟨(H.f17 (gk h)).1, fun h2 => (H.f17 (gk h)).2 (gk h2)⟩, kp H.f18, kp H.f19, fun h => ⟨(H.f20 (gk h)).1, (H.f20 (gk h)).2⟩, kp H.f21, fun h => ⟨(H.f22 (gk h)).1, (H.f22 (gk h)).2.1, (H.f22 (gk h)).2.2.1, (H.f22 (gk h)).2.2.2.1, fun h2 => (H.f22 (gk h)).2.2.2.2 (gk h2)⟩, kp H.f23, H.hb, H.hr, fun h => gmono (H.c12 (gk h)), fun h => gmono (H.c20 (gk h)), fun h => ⟨gmono (H.c21 (gk h)).1, gmono (H.c21 (gk h)).2.1, gmono (H.c21 (gk h)).2.2⟩, fun h => ⟨gmono (H.c23 (gk h)).1, gmono (H.c23 (gk h)).2⟩, H.lo, H.ge, H.below, H.base, ⟨fun h => H.up.1 (gk h), fun h => H.up.2.1 (gk h), fun h => H.up.2.2 (gk h)⟩⟩

theorem step16 (w0 : World) (n0 n1 n2 : Nat) (A0 A1 A2 : Option Addr) (c0 c1 c2 : Nat) (M9 M14 M22 row14 row22 : Array Value) (gb gr : Nat) {Q : Exit → Act → World → Prop} {L : Array Bool} {a : Act} {W : World} (hI : Inv w0 n0 n1 n2 A0 A1 A2 c0 c1 c2 M9 M14 M22 row14 row22 gb gr L a W) (hu : L.getD 16 false = false) (hL : 16 < L.size) (d15 : L.getD 15 false = true) (hn : IntKind.i64.wrap ((n2 : Int) + 2) = (n2 : Int) + 2) :
 wpOp Tryd.prog ops1 Q 16 (fun a' w' => Inv w0 n0 n1 n2 A0 A1 A2 c0 c1 c2 M9 M14 M22 row14 row22 gb gr (L.setIfInBounds 16 true) a' w') a W := by
 obtain ⟨x3, x5, x6, x7, x8, x9, x10, x11, x12, x13, x14, x15, x16, x17, x18, x19, x20, x21, x22, x23, x24, x25, x26, g9, g14, g22, g3, rfl, H⟩ := hI
 have e15 := H.f15 d15
 subst e15
 refine wpOp_step (o := { dst := some 21, op := Op.binOp BinOp.add 3 (Operand.tmp 20) (Operand.const (Value.int IntKind.i64 2)) 3, type := 3, pos := "law.go:198", after := #[{ on := 15, ground := Ground.data }], guard := none }) rfl (fun K' hK => ?_)
 go_simp
 refine hK _ _ ⟨_, _, _, _, _, _, _, _, _, _, _, _, _, _, _, _, _, _, _, _, _, _, _, g9, g14, g22, g3, rfl, ?_⟩
 exact ⟨kp H.f0, kp H.f1, kp H.f2, kp H.f3, fun h => ⟨(H.f4 (gk h)).1, (H.f4 (gk h)).2⟩, kp H.f5, kp H.f6, kp H.f7, kp H.f8, fun h => ⟨(H.f9 (gk h)).1, fun h2 => (H.f9 (gk h)).2 (gk h2)⟩, kp H.f10, kp H.f11, fun h => ⟨(H.f12 (gk h)).1, (H.f12 (gk h)).2⟩, kp H.f13, kp H.f14, kp H.f15, fun _ => rfl, fun h => ⟨(H.f17 (gk h)).1, fun h2 => (H.f17 (gk h)).2 (gk h2)⟩, kp H.f18, kp H.f19, fun h => ⟨(H.f20 (gk h)).1, (H.f20 (gk h)).2⟩, kp H.f21, fun h => ⟨(H.f22 (gk h)).1, (H.f22 (gk h)).2.1, (H.f22 (gk h)).2.2.1, (H.f22 (gk h)).2.2.2.1, fun h2 => (H.f22 (gk h)).2.2.2.2 (gk h2)⟩, kp H.f23, H.hb, H.hr, fun h => gmono (H.c12 (gk h)), fun h => gmono (H.c20 (gk h)), fun h => ⟨gmono (H.c21 (gk h)).1, gmono (H.c21 (gk h)).2.1, gmono (H.c21 (gk h)).2.2⟩, fun h => ⟨gmono (H.c23 (gk h)).1, gmono (H.c23 (gk h)).2⟩, H.lo, H.ge, H.below, H.base, ⟨fun h => H.up.1 (gk h), fun h => H.up.2.1 (gk h), fun h => H.up.2.2 (gk h)⟩⟩

theorem step17 (w0 : World) (n0 n1 n2 : Nat) (A0 A1 A2 : Option Addr) (c0 c1 c2 : Nat) (M9 M14 M22 row14 row22 : Array Value) (gb gr : Nat) {Q : Exit → Act → World → Prop} {L : Array Bool} {a : Act} {W : World} (hI : Inv w0 n0 n1 n2 A0 A1 A2 c0 c1 c2 M9 M14 M22 row14 row22 gb gr L a W) (hu : L.getD 17 false = false) (hL : 17 < L.size) (d16 : L.getD 16 false = true) (hm : ∀ W : World, (Instr.makeSlice 24 (.int .i64 0) (.int .i64 ((n2 : Int) + 2))).run Tryd.prog W = .ok (.slice (some ⟨W.heap.size, 0, none⟩) 0 (n2 + 2)) (W.alloc (.cells M22 47))) :
 wpOp Tryd.prog ops1 Q 17 (fun a' w' => Inv w0 n0 n1 n2 A0 A1 A2 c0 c1 c2 M9 M14 M22 row14 row22 gb gr (L.setIfInBounds 17 true) a' w') a W := by
 obtain ⟨x3, x5, x6, x7, x8, x9, x10, x11, x12, x13, x14, x15, x16, x17, x18, x19, x20, x21, x22, x23, x24, x25, x26, g9, g14, g22, g3, rfl, H⟩ := hI
 have e16 := H.f16 d16
 subst e16
 refine wpOp_step (o := { dst := some 22, op := Op.makeSlice 24 (Operand.const (Value.int IntKind.i64 0)) (Operand.tmp 21), type := 24, pos := "law.go:198", after := #[{ on := 16, ground := Ground.data }], guard := none }) rfl (fun K' hK => ?_)
 go_simp
 refine hK _ _ ⟨_, _, _, _, _, _, _, _, _, _, _, _, _, _, _, _, _, _, _, _, _, _, _, g9, g14, W.heap.size, g3, rfl, ?_⟩
 exact ⟨kp H.f0, kp H.f1, kp H.f2, kp H.f3, fun h => ⟨(H.f4 (gk h)).1, heap_old' ((H.f4 (gk h)).2)⟩, kp H.f5, kp H.f6, kp H.f7, kp H.f8, fun h => ⟨(H.f9 (gk h)).1, fun h2 => heap_old' ((H.f9 (gk h)).2 (gk h2))⟩, kp H.f10, kp H.f11, fun h => ⟨(H.f12 (gk h)).1, heap_old' ((H.f12 (gk h)).2)⟩, kp H.f13, kp H.f14, kp H.f15, kp H.f16, fun _ => ⟨rfl, fun _ => heap_alloc_new W _⟩, kp H.f18, kp H.f19, (fun h => absurd (H.c20 (gk h)) (by rw [hu]; decide)), (fun h => absurd (H.c20 (H.c21 (gk h)).2.2) (by rw [hu]; decide)), fun h => ⟨(H.f22 (gk h)).1, (H.f22 (gk h)).2.1, (H.f22 (gk h)).2.2.1, (H.f22 (gk h)).2.2.2.1, fun h2 => heap_old' ((H.f22 (gk h)).2.2.2.2 (gk h2))⟩, (fun h => absurd (H.c20 (H.c21 (H.c23 (gk h)).1).2.2) (by rw [hu]; decide)), heap_old' (H.hb), heap_old' (H.hr), fun h => gmono (H.c12 (gk h)), fun h => gmono (H.c20 (gk h)), fun h => ⟨gmono (H.c21 (gk h)).1, gmono (H.c21 (gk h)).2.1, gmono (H.c21 (gk h)).2.2⟩, fun h => ⟨gmono (H.c23 (gk h)).1, gmono (H.c23 (gk h)).2⟩, H.lo, (by have := H.ge; simp; omega), below_alloc H.below _, H.base, ⟨fun h => H.up.1 (gk h), fun h => H.up.2.1 (gk h), fun _ => by have := H.ge; have := H.lo; omega⟩⟩

theorem step18 (w0 : World) (n0 n1 n2 : Nat) (A0 A1 A2 : Option Addr) (c0 c1 c2 : Nat) (M9 M14 M22 row14 row22 : Array Value) (gb gr : Nat) {Q : Exit → Act → World → Prop} {L : Array Bool} {a : Act} {W : World} (hI : Inv w0 n0 n1 n2 A0 A1 A2 c0 c1 c2 M9 M14 M22 row14 row22 gb gr L a W) (hu : L.getD 18 false = false) (hL : 18 < L.size) :
 wpOp Tryd.prog ops1 Q 18 (fun a' w' => Inv w0 n0 n1 n2 A0 A1 A2 c0 c1 c2 M9 M14 M22 row14 row22 gb gr (L.setIfInBounds 18 true) a' w') a W := by
 obtain ⟨x3, x5, x6, x7, x8, x9, x10, x11, x12, x13, x14, x15, x16, x17, x18, x19, x20, x21, x22, x23, x24, x25, x26, g9, g14, g22, g3, rfl, H⟩ := hI
 refine wpOp_step (o := { dst := some 23, op := Op.fieldAddr 26 (Operand.tmp 1) 2, type := 0, pos := "law.go:198", after := #[], guard := none }) rfl (fun K' hK => ?_)
 go_simp
 refine hK _ _ ⟨_, _, _, _, _, _, _, _, _, _, _, _, _, _, _, _, _, _, _, _, _, _, _, g9, g14, g22, g3, rfl, ?_⟩
 exact ⟨kp H.f0, kp H.f1, kp H.f2, kp H.f3, fun h => ⟨(H.f4 (gk h)).1, (H.f4 (gk h)).2⟩, kp H.f5, kp H.f6, kp H.f7, kp H.f8, fun h => ⟨(H.f9 (gk h)).1, fun h2 => (H.f9 (gk h)).2 (gk h2)⟩, kp H.f10, kp H.f11, fun h => ⟨(H.f12 (gk h)).1, (H.f12 (gk h)).2⟩, kp H.f13, kp H.f14, kp H.f15, kp H.f16, fun h => ⟨(H.f17 (gk h)).1, fun h2 => (H.f17 (gk h)).2 (gk h2)⟩, fun _ => rfl, kp H.f19, fun h => ⟨(H.f20 (gk h)).1, (H.f20 (gk h)).2⟩, kp H.f21, fun h => ⟨(H.f22 (gk h)).1, (H.f22 (gk h)).2.1, (H.f22 (gk h)).2.2.1, (H.f22 (gk h)).2.2.2.1, fun h2 => (H.f22 (gk h)).2.2.2.2 (gk h2)⟩, kp H.f23, H.hb, H.hr, fun h => gmono (H.c12 (gk h)), fun h => gmono (H.c20 (gk h)), fun h => ⟨gmono (H.c21 (gk h)).1, gmono (H.c21 (gk h)).2.1, gmono (H.c21 (gk h)).2.2⟩, fun h => ⟨gmono (H.c23 (gk h)).1, gmono (H.c23 (gk h)).2⟩, H.lo, H.ge, H.below, H.base, ⟨fun h => H.up.1 (gk h), fun h => H.up.2.1 (gk h), fun h => H.up.2.2 (gk h)⟩⟩

theorem step19 (w0 : World) (n0 n1 n2 : Nat) (A0 A1 A2 : Option Addr) (c0 c1 c2 : Nat) (M9 M14 M22 row14 row22 : Array Value) (gb gr : Nat) {Q : Exit → Act → World → Prop} {L : Array Bool} {a : Act} {W : World} (hI : Inv w0 n0 n1 n2 A0 A1 A2 c0 c1 c2 M9 M14 M22 row14 row22 gb gr L a W) (hu : L.getD 19 false = false) (hL : 19 < L.size) (d18 : L.getD 18 false = true) :
 wpOp Tryd.prog ops1 Q 19 (fun a' w' => Inv w0 n0 n1 n2 A0 A1 A2 c0 c1 c2 M9 M14 M22 row14 row22 gb gr (L.setIfInBounds 19 true) a' w') a W := by
 obtain ⟨x3, x5, x6, x7, x8, x9, x10, x11, x12, x13, x14, x15, x16, x17, x18, x19, x20, x21, x22, x23, x24, x25, x26, g9, g14, g22, g3, rfl, H⟩ := hI
 have e18 := H.f18 d18
 subst e18
 have q0 : W.cell? ⟨gb, 0, none⟩ = some (.slice A0 n0 c0) := (blk_cell H.hb 0).trans rfl
 have q1 : W.cell? ⟨gb, 1, none⟩ = some (.slice A1 n1 c1) := (blk_cell H.hb 1).trans rfl
 have q2 : W.cell? ⟨gb, 2, none⟩ = some (.slice A2 n2 c2) := (blk_cell H.hb 2).trans rfl
 refine wpOp_step (o := { dst := some 24, op := Op.load 24 (Operand.tmp 23), type := 24, pos := "law.go:198", after := #[{ on := 18, ground := Ground.data }], guard := none }) rfl (fun K' hK => ?_)
 go_simp
 refine hK _ _ ⟨_, _, _, _, _, _, _, _, _, _, _, _, _, _, _, _, _, _, _, _, _, _, _, g9, g14, g22, g3, rfl, ?_⟩
 exact ⟨kp H.f0, kp H.f1, kp H.f2, kp H.f3, fun h => ⟨(H.f4 (gk h)).1, (H.f4 (gk h)).2⟩, kp H.f5, kp H.f6, kp H.f7, kp H.f8, fun h => ⟨(H.f9 (gk h)).1, fun h2 => (H.f9 (gk h)).2 (gk h2)⟩, kp H.f10, kp H.f11, fun h => ⟨(H.f12 (gk h)).1, (H.f12 (gk h)).2⟩, kp H.f13, kp H.f14, kp H.f15, kp H.f16, fun h => ⟨(H.f17 (gk h)).1, fun h2 => (H.f17 (gk h)).2 (gk h2)⟩, kp H.f18, fun _ => rfl, fun h => ⟨(H.f20 (gk h)).1, (H.f20 (gk h)).2⟩, kp H.f21, fun h => ⟨(H.f22 (gk h)).1, (H.f22 (gk h)).2.1, (H.f22 (gk h)).2.2.1, (H.f22 (gk h)).2.2.2.1, fun h2 => (H.f22 (gk h)).2.2.2.2 (gk h2)⟩, kp H.f23, H.hb, H.hr, fun h => gmono (H.c12 (gk h)), fun h => gmono (H.c20 (gk h)), fun h => ⟨gmono (H.c21 (gk h)).1, gmono (H.c21 (gk h)).2.1, gmono (H.c21 (gk h)).2.2⟩, fun h => ⟨gmono (H.c23 (gk h)).1, gmono (H.c23 (gk h)).2⟩, H.lo, H.ge, H.below, H.base, ⟨fun h => H.up.1 (gk h), fun h => H.up.2.1 (gk h), fun h => H.up.2.2 (gk h)⟩⟩

theorem step20 (w0 : World) (n0 n1 n2 : Nat) (A0 A1 A2 : Option Addr) (c0 c1 c2 : Nat) (M9 M14 M22 row14 row22 : Array Value) (gb gr : Nat) {Q : Exit → Act → World → Prop} {L : Array Bool} {a : Act} {W : World} (hI : Inv w0 n0 n1 n2 A0 A1 A2 c0 c1 c2 M9 M14 M22 row14 row22 gb gr L a W) (hu : L.getD 20 false = false) (hL : 20 < L.size) (d12 : L.getD 12 false = true) (d17 : L.getD 17 false = true) (d19 : L.getD 19 false = true) (hrun : ∀ (W : World) (g : Nat), Below w0.heap.size w0 W → W.heap[g]? = some (.cells M22 47 (0, 0)) → (appR 24 A2 n2 c2 g (n2 + 2)).run Tryd.prog W = .ok (.slice (some ⟨g, 0, none⟩) n2 (n2 + 2)) (W.setRow g row22)) :
 wpOp Tryd.prog ops1 Q 20 (fun a' w' => Inv w0 n0 n1 n2 A0 A1 A2 c0 c1 c2 M9 M14 M22 row14 row22 gb gr (L.setIfInBounds 20 true) a' w') a W := by
 obtain ⟨x3, x5, x6, x7, x8, x9, x10, x11, x12, x13, x14, x15, x16, x17, x18, x19, x20, x21, x22, x23, x24, x25, x26, g9, g14, g22, g3, rfl, H⟩ := hI
 obtain ⟨e17, h17⟩ := H.f17 d17
 have e19 := H.f19 d19
 subst e17
 subst e19
 have hz := h17 hu
 have hr := hrun W g22 H.below hz
 unfold appR at hr
 refine wpOp_step (o := { dst := some 25, op := Op.call { callee := Callee.builtin Builtin.append, args := #[Operand.tmp 22, Operand.tmp 24], argTypes := #[24, 24] }, type := 24, pos := "law.go:198", after := #[{ on := 17, ground := Ground.data }, { on := 19, ground := Ground.data }, { on := 12, ground := Ground.chain }], guard := none }) rfl (fun K' hK => ?_)
 rw [if_pos (by rfl)]
 unfold Oper.wp
 simp [execOp, resolve, invoke, builtin, Act.eval, hr, Result.andThen]
 refine hK _ _ ⟨_, _, _, _, _, _, _, _, _, _, _, _, _, _, _, _, _, _, _, _, _, _, _, g9, g14, g22, g3, rfl, ?_⟩
 exact ⟨kp H.f0, kp H.f1, kp H.f2, kp H.f3, (fun h => ⟨(H.f4 (gk h)).1, setRow_far ((H.f4 (gk h)).2) (blk_ne ((H.f4 (gk h)).2) hz (by decide))⟩), kp H.f5, kp H.f6, kp H.f7, kp H.f8, (fun h => ⟨(H.f9 (gk h)).1, fun h2 => setRow_far ((H.f9 (gk h)).2 (gk h2)) (blk_ne ((H.f9 (gk h)).2 (gk h2)) hz (by decide))⟩), kp H.f10, kp H.f11, (fun h => ⟨(H.f12 (gk h)).1, setRow_far ((H.f12 (gk h)).2) (blk_ne ((H.f12 (gk h)).2) hz (by decide))⟩), kp H.f13, kp H.f14, kp H.f15, kp H.f16, (fun h => ⟨(H.f17 (gk h)).1, fun h2 => by rw [gset hL] at h2; cases h2⟩), kp H.f18, kp H.f19, fun _ => ⟨rfl, setRow_at hz⟩, kp H.f21, (fun h => ⟨(H.f22 (gk h)).1, (H.f22 (gk h)).2.1, (H.f22 (gk h)).2.2.1, (H.f22 (gk h)).2.2.2.1, fun h2 => setRow_far ((H.f22 (gk h)).2.2.2.2 (gk h2)) (blk_ne ((H.f22 (gk h)).2.2.2.2 (gk h2)) hz (by decide))⟩), (fun h => setRow_far (H.f23 (gk h)) (blk_ne (H.f23 (gk h)) hz (by decide))), (setRow_far (H.hb) (blk_ne (H.hb) hz (by decide))), (setRow_far (H.hr) (blk_ne (H.hr) hz (by decide))), fun h => gmono (H.c12 (gk h)), fun _ => gmono d17, fun h => ⟨gmono (H.c21 (gk h)).1, gmono (H.c21 (gk h)).2.1, gmono (H.c21 (gk h)).2.2⟩, fun h => ⟨gmono (H.c23 (gk h)).1, gmono (H.c23 (gk h)).2⟩, H.lo, (by have := H.ge; simp; omega), below_setRow H.below (Nat.le_trans H.base (H.up.2.2 d17)) _, H.base, ⟨fun h => H.up.1 (gk h), fun h => H.up.2.1 (gk h), fun h => H.up.2.2 (gk h)⟩⟩

theorem step21 (w0 : World) (n0 n1 n2 : Nat) (A0 A1 A2 : Option Addr) (c0 c1 c2 : Nat) (M9 M14 M22 row14 row22 : Array Value) (gb gr : Nat) {Q : Exit → Act → World → Prop} {L : Array Bool} {a : Act} {W : World} (hI : Inv w0 n0 n1 n2 A0 A1 A2 c0 c1 c2 M9 M14 M22 row14 row22 gb gr L a W) (hu : L.getD 21 false = false) (hL : 21 < L.size) (d4 : L.getD 4 false = true) (d12 : L.getD 12 false = true) (d20 : L.getD 20 false = true) :
 wpOp Tryd.prog ops1 Q 21 (fun a' w' => Inv w0 n0 n1 n2 A0 A1 A2 c0 c1 c2 M9 M14 M22 row14 row22 gb gr (L.setIfInBounds 21 true) a' w') a W := by
 obtain ⟨x3, x5, x6, x7, x8, x9, x10, x11, x12, x13, x14, x15, x16, x17, x18, x19, x20, x21, x22, x23, x24, x25, x26, g9, g14, g22, g3, rfl, H⟩ := hI
 obtain ⟨e4, h4⟩ := H.f4 d4
 obtain ⟨e12, h12⟩ := H.f12 d12
 obtain ⟨e20, h20⟩ := H.f20 d20
 subst e4
 subst e12
 subst e20
 refine wpOp_step (o := { dst := some 26, op := Op.build 26 #[(0, Operand.tmp 9), (1, Operand.tmp 17), (2, Operand.tmp 25)], type := 26, pos := "law.go:198", after := #[{ on := 4, ground := Ground.data }, { on := 12, ground := Ground.data }, { on := 20, ground := Ground.data }], guard := none }) rfl (fun K' hK => ?_)
 go_simp
 refine hK _ _ ⟨_, _, _, _, _, _, _, _, _, _, _, _, _, _, _, _, _, _, _, _, _, _, _, g9, g14, g22, g3, rfl, ?_⟩
 exact ⟨kp H.f0, kp H.f1, kp H.f2, kp H.f3, fun h => ⟨(H.f4 (gk h)).1, (H.f4 (gk h)).2⟩, kp H.f5, kp H.f6, kp H.f7, kp H.f8, fun h => ⟨(H.f9 (gk h)).1, fun h2 => (H.f9 (gk h)).2 (gk h2)⟩, kp H.f10, kp H.f11, fun h => ⟨(H.f12 (gk h)).1, (H.f12 (gk h)).2⟩, kp H.f13, kp H.f14, kp H.f15, kp H.f16, fun h => ⟨(H.f17 (gk h)).1, fun h2 => (H.f17 (gk h)).2 (gk h2)⟩, kp H.f18, kp H.f19, fun h => ⟨(H.f20 (gk h)).1, (H.f20 (gk h)).2⟩, fun _ => rfl, fun h => ⟨(H.f22 (gk h)).1, (H.f22 (gk h)).2.1, (H.f22 (gk h)).2.2.1, (H.f22 (gk h)).2.2.2.1, fun h2 => (H.f22 (gk h)).2.2.2.2 (gk h2)⟩, kp H.f23, H.hb, H.hr, fun h => gmono (H.c12 (gk h)), fun h => gmono (H.c20 (gk h)), fun _ => ⟨gmono d4, gmono d12, gmono d20⟩, fun h => ⟨gmono (H.c23 (gk h)).1, gmono (H.c23 (gk h)).2⟩, H.lo, H.ge, H.below, H.base, ⟨fun h => H.up.1 (gk h), fun h => H.up.2.1 (gk h), fun h => H.up.2.2 (gk h)⟩⟩

theorem step22 (w0 : World) (n0 n1 n2 : Nat) (A0 A1 A2 : Option Addr) (c0 c1 c2 : Nat) (M9 M14 M22 row14 row22 : Array Value) (gb gr : Nat) {Q : Exit → Act → World → Prop} {L : Array Bool} {a : Act} {W : World} (hI : Inv w0 n0 n1 n2 A0 A1 A2 c0 c1 c2 M9 M14 M22 row14 row22 gb gr L a W) (hu : L.getD 22 false = false) (hL : 22 < L.size) :
 wpOp Tryd.prog ops1 Q 22 (fun a' w' => Inv w0 n0 n1 n2 A0 A1 A2 c0 c1 c2 M9 M14 M22 row14 row22 gb gr (L.setIfInBounds 22 true) a' w') a W := by
 obtain ⟨x3, x5, x6, x7, x8, x9, x10, x11, x12, x13, x14, x15, x16, x17, x18, x19, x20, x21, x22, x23, x24, x25, x26, g9, g14, g22, g3, rfl, H⟩ := hI
 refine wpOp_step (o := { dst := some 3, op := Op.alloc 26, type := 0, pos := "law.go:198", after := #[], guard := none }) rfl (fun K' hK => ?_)
 go_simp
 refine hK _ _ ⟨_, _, _, _, _, _, _, _, _, _, _, _, _, _, _, _, _, _, _, _, _, _, _, g9, g14, g22, W.heap.size, rfl, ?_⟩
 exact ⟨kp H.f0, kp H.f1, kp H.f2, kp H.f3, fun h => ⟨(H.f4 (gk h)).1, heap_old' ((H.f4 (gk h)).2)⟩, kp H.f5, kp H.f6, kp H.f7, kp H.f8, fun h => ⟨(H.f9 (gk h)).1, fun h2 => heap_old' ((H.f9 (gk h)).2 (gk h2))⟩, kp H.f10, kp H.f11, fun h => ⟨(H.f12 (gk h)).1, heap_old' ((H.f12 (gk h)).2)⟩, kp H.f13, kp H.f14, kp H.f15, kp H.f16, fun h => ⟨(H.f17 (gk h)).1, fun h2 => heap_old' ((H.f17 (gk h)).2 (gk h2))⟩, kp H.f18, kp H.f19, fun h => ⟨(H.f20 (gk h)).1, heap_old' ((H.f20 (gk h)).2)⟩, kp H.f21, (fun _ => ⟨rfl, by have := H.ge; have := H.lo; omega, by have := H.ge; omega, by have := H.ge; have := H.lo; omega, fun _ => heap_alloc_new W _⟩), (fun h => absurd ((H.c23 (gk h)).2) (by rw [hu]; decide)), heap_old' (H.hb), heap_old' (H.hr), fun h => gmono (H.c12 (gk h)), fun h => gmono (H.c20 (gk h)), fun h => ⟨gmono (H.c21 (gk h)).1, gmono (H.c21 (gk h)).2.1, gmono (H.c21 (gk h)).2.2⟩, fun h => ⟨gmono (H.c23 (gk h)).1, gmono (H.c23 (gk h)).2⟩, H.lo, (by have := H.ge; simp; omega), below_alloc H.below _, H.base, ⟨fun h => H.up.1 (gk h), fun h => H.up.2.1 (gk h), fun h => H.up.2.2 (gk h)⟩⟩

theorem step23 (w0 : World) (n0 n1 n2 : Nat) (A0 A1 A2 : Option Addr) (c0 c1 c2 : Nat) (M9 M14 M22 row14 row22 : Array Value) (gb gr : Nat) {Q : Exit → Act → World → Prop} {L : Array Bool} {a : Act} {W : World} (hI : Inv w0 n0 n1 n2 A0 A1 A2 c0 c1 c2 M9 M14 M22 row14 row22 gb gr L a W) (hu : L.getD 23 false = false) (hL : 23 < L.size) (d4 : L.getD 4 false = true) (d12 : L.getD 12 false = true) (d20 : L.getD 20 false = true) (d21 : L.getD 21 false = true) (d22 : L.getD 22 false = true) :
 wpOp Tryd.prog ops1 Q 23 (fun a' w' => Inv w0 n0 n1 n2 A0 A1 A2 c0 c1 c2 M9 M14 M22 row14 row22 gb gr (L.setIfInBounds 23 true) a' w') a W := by
 obtain ⟨x3, x5, x6, x7, x8, x9, x10, x11, x12, x13, x14, x15, x16, x17, x18, x19, x20, x21, x22, x23, x24, x25, x26, g9, g14, g22, g3, rfl, H⟩ := hI
 obtain ⟨e22, nb22, nr22, ge22, h22⟩ := H.f22 d22
 have e21 := H.f21 d21
 obtain ⟨e4, h4⟩ := H.f4 d4
 obtain ⟨e12, h12⟩ := H.f12 d12
 obtain ⟨e20, h20⟩ := H.f20 d20
 subst e22
 subst e21
 subst e4
 subst e12
 subst e20
 have hz := h22 hu
 have z0 : W.cell? ⟨g3, 0, none⟩ = some (.slice none 0 0) := (blk_cell hz 0).trans rfl
 have y0 : W.frozen? ⟨g3, 0, none⟩ = false := blk_frozen hz 0
 have z1 : W.cell? ⟨g3, 1, none⟩ = some (.slice none 0 0) := (blk_cell hz 1).trans rfl
 have y1 : W.frozen? ⟨g3, 1, none⟩ = false := blk_frozen hz 1
 have z2 : W.cell? ⟨g3, 2, none⟩ = some (.slice none 0 0) := (blk_cell hz 2).trans rfl
 have y2 : W.frozen? ⟨g3, 2, none⟩ = false := blk_frozen hz 2
 refine wpOp_step (o := { dst := none, op := Op.store 26 (Operand.tmp 3) (Operand.tmp 26), type := 0, pos := "law.go:198", after := #[{ on := 22, ground := Ground.data }, { on := 21, ground := Ground.data }, { on := 20, ground := Ground.chain }, { on := 0, ground := Ground.phase }, { on := 1, ground := Ground.phase }, { on := 2, ground := Ground.phase }, { on := 3, ground := Ground.phase }, { on := 4, ground := Ground.phase }, { on := 5, ground := Ground.phase }, { on := 6, ground := Ground.phase }, { on := 7, ground := Ground.phase }, { on := 8, ground := Ground.phase }, { on := 9, ground := Ground.phase }, { on := 10, ground := Ground.phase }, { on := 11, ground := Ground.phase }, { on := 12, ground := Ground.phase }, { on := 13, ground := Ground.phase }, { on := 14, ground := Ground.phase }, { on := 15, ground := Ground.phase }, { on := 16, ground := Ground.phase }, { on := 17, ground := Ground.phase }, { on := 18, ground := Ground.phase }, { on := 19, ground := Ground.phase }, { on := 20, ground := Ground.phase }, { on := 21, ground := Ground.phase }, { on := 22, ground := Ground.phase }], guard := none }) rfl (fun K' hK => ?_)
 go_simp
 refine hK _ _ ⟨_, _, _, _, _, _, _, _, _, _, _, _, _, _, _, _, _, _, _, _, _, _, _, g9, g14, g22, g3, rfl, ?_⟩
 exact ⟨kp H.f0, kp H.f1, kp H.f2, kp H.f3, (fun h => ⟨(H.f4 (gk h)).1, far3 ((H.f4 (gk h)).2) (blk_ne ((H.f4 (gk h)).2) hz (by decide))⟩), kp H.f5, kp H.f6, kp H.f7, kp H.f8, (fun h => ⟨(H.f9 (gk h)).1, fun h2 => far3 ((H.f9 (gk h)).2 (gk h2)) (blk_ne ((H.f9 (gk h)).2 (gk h2)) hz (by decide))⟩), kp H.f10, kp H.f11, (fun h => ⟨(H.f12 (gk h)).1, far3 ((H.f12 (gk h)).2) (blk_ne ((H.f12 (gk h)).2) hz (by decide))⟩), kp H.f13, kp H.f14, kp H.f15, kp H.f16, (fun h => ⟨(H.f17 (gk h)).1, fun h2 => far3 ((H.f17 (gk h)).2 (gk h2)) (blk_ne ((H.f17 (gk h)).2 (gk h2)) hz (by decide))⟩), kp H.f18, kp H.f19, (fun h => ⟨(H.f20 (gk h)).1, far3 ((H.f20 (gk h)).2) (blk_ne ((H.f20 (gk h)).2) hz (by decide))⟩), kp H.f21, (fun h => ⟨(H.f22 (gk h)).1, (H.f22 (gk h)).2.1, (H.f22 (gk h)).2.2.1, (H.f22 (gk h)).2.2.2.1, fun h2 => by rw [gset hL] at h2; cases h2⟩), fun _ => set_at3 hz, (far3 (H.hb) (by exact fun h => nb22 h.symm)), (far3 (H.hr) (by exact fun h => nr22 h.symm)), fun h => gmono (H.c12 (gk h)), fun h => gmono (H.c20 (gk h)), fun h => ⟨gmono (H.c21 (gk h)).1, gmono (H.c21 (gk h)).2.1, gmono (H.c21 (gk h)).2.2⟩, fun _ => ⟨gmono d21, gmono d22⟩, H.lo, (by have := H.ge; simpa using this), below_set' (below_set' (below_set' H.below (Nat.le_trans H.base ge22)) (Nat.le_trans H.base ge22)) (Nat.le_trans H.base ge22), H.base, ⟨fun h => H.up.1 (gk h), fun h => H.up.2.1 (gk h), fun h => H.up.2.2 (gk h)⟩⟩


theorem ops1_cases {i : Nat} (h : i < 24) : i = 0 ∨ i = 1 ∨ i = 2 ∨ i = 3 ∨ i = 4 ∨ i = 5 ∨ i = 6 ∨ i = 7 ∨ i = 8 ∨ i = 9 ∨ i = 10 ∨ i = 11 ∨ i = 12 ∨ i = 13 ∨ i = 14 ∨ i = 15 ∨ i = 16 ∨ i = 17 ∨ i = 18 ∨ i = 19 ∨ i = 20 ∨ i = 21 ∨ i = 22 ∨ i = 23 := by omega
theorem ops1_ac : ∀ (i : Nat) (o : Oper), ops1[i]? = some o → ∀ e ∈ o.after, e.on < i := by
 intro i o ho
 have hi : i < 24 := (Array.getElem?_eq_some_iff.1 ho).1
 rcases ops1_cases hi with rfl | rfl | rfl | rfl | rfl | rfl | rfl | rfl | rfl | rfl | rfl | rfl | rfl | rfl | rfl | rfl | rfl | rfl | rfl | rfl | rfl | rfl | rfl | rfl <;> (obtain rfl := Option.some.inj ho; decide)

theorem region1 (w0 : World) (n0 n1 n2 : Nat) (A0 A1 A2 : Option Addr) (c0 c1 c2 : Nat) (M9 M14 M22 row14 row22 : Array Value) (gb gr : Nat) {Q : Exit → Act → World → Prop} {a : Act} {W : World}
 (w9 : IntKind.i64.wrap ((n0 : Int) + 2) = (n0 : Int) + 2) (w14 : IntKind.i64.wrap ((n1 : Int) + 2) = (n1 : Int) + 2) (w22 : IntKind.i64.wrap ((n2 : Int) + 2) = (n2 : Int) + 2)
 (hm4 : ∀ W : World, (Instr.makeSlice 22 (.int .i64 0) (.int .i64 ((n0 : Int) + 2))).run Tryd.prog W = .ok (.slice (some ⟨W.heap.size, 0, none⟩) 0 (n0 + 2)) (W.alloc (.cells M9 42)))
 (hm9 : ∀ W : World, (Instr.makeSlice 23 (.int .i64 0) (.int .i64 ((n1 : Int) + 2))).run Tryd.prog W = .ok (.slice (some ⟨W.heap.size, 0, none⟩) 0 (n1 + 2)) (W.alloc (.cells M14 52)))
 (hm17 : ∀ W : World, (Instr.makeSlice 24 (.int .i64 0) (.int .i64 ((n2 : Int) + 2))).run Tryd.prog W = .ok (.slice (some ⟨W.heap.size, 0, none⟩) 0 (n2 + 2)) (W.alloc (.cells M22 47)))
 (hrun12 : ∀ (W : World) (g : Nat), Below w0.heap.size w0 W → W.heap[g]? = some (.cells M14 52 (0, 0)) → (appR 23 A1 n1 c1 g (n1 + 2)).run Tryd.prog W = .ok (.slice (some ⟨g, 0, none⟩) n1 (n1 + 2)) (W.setRow g row14))
 (hrun20 : ∀ (W : World) (g : Nat), Below w0.heap.size w0 W → W.heap[g]? = some (.cells M22 47 (0, 0)) → (appR 24 A2 n2 c2 g (n2 + 2)).run Tryd.prog W = .ok (.slice (some ⟨g, 0, none⟩) n2 (n2 + 2)) (W.setRow g row22))
 (hI : Inv w0 n0 n1 n2 A0 A1 A2 c0 c1 c2 M9 M14 M22 row14 row22 gb gr (Array.replicate 24 false) a W) (hQ : ∀ L a w, (∀ i, i < 24 → L.getD i false = true) → Inv w0 n0 n1 n2 A0 A1 A2 c0 c1 c2 M9 M14 M22 row14 row22 gb gr L a w → Q .normal a w) : (Code.region 1 ops1 true).wp Tryd.prog Q a W := by
 refine wp_region_any (by kernel_rfl) (wpAny_inv (Inv w0 n0 n1 n2 A0 A1 A2 c0 c1 c2 M9 M14 M22 row14 row22 gb gr) ops1_ac ?_ hQ 24 (Array.replicate 24 false) a _ rfl (by decide) ?_)
 ·intro L a w i o hI ho hu hd
  have hi : i < 24 := (Array.getElem?_eq_some_iff.1 ho).1
  have hL : i < L.size := by
   rcases Nat.lt_or_ge i L.size with h | h
   ·exact h
   rw [show L.getD i true = true by simp [Array.getD, Nat.not_lt.2 h]] at hu; cases hu
  have hu' : L.getD i false = false := by simp [Array.getD, hL] at hu ⊢; exact hu
  have hd2 : ∀ (k : Nat) (e : Edge), o.after[k]? = some e → Region.binds .any e = true → L.getD e.on false = true := fun k e he hb => hd e (Array.mem_of_getElem? he) hb
  rcases ops1_cases hi with rfl | rfl | rfl | rfl | rfl | rfl | rfl | rfl | rfl | rfl | rfl | rfl | rfl | rfl | rfl | rfl | rfl | rfl | rfl | rfl | rfl | rfl | rfl | rfl <;> obtain rfl := Option.some.inj ho
  ·exact step0 w0 n0 n1 n2 A0 A1 A2 c0 c1 c2 M9 M14 M22 row14 row22 gb gr hI hu' hL
  ·exact step1 w0 n0 n1 n2 A0 A1 A2 c0 c1 c2 M9 M14 M22 row14 row22 gb gr hI hu' hL (hd2 0 ⟨0, .data⟩ rfl rfl)
  ·exact step2 w0 n0 n1 n2 A0 A1 A2 c0 c1 c2 M9 M14 M22 row14 row22 gb gr hI hu' hL (hd2 0 ⟨1, .data⟩ rfl rfl)
  ·exact step3 w0 n0 n1 n2 A0 A1 A2 c0 c1 c2 M9 M14 M22 row14 row22 gb gr hI hu' hL (hd2 0 ⟨2, .data⟩ rfl rfl) w9
  ·exact step4 w0 n0 n1 n2 A0 A1 A2 c0 c1 c2 M9 M14 M22 row14 row22 gb gr hI hu' hL (hd2 0 ⟨3, .data⟩ rfl rfl) hm4
  ·exact step5 w0 n0 n1 n2 A0 A1 A2 c0 c1 c2 M9 M14 M22 row14 row22 gb gr hI hu' hL
  ·exact step6 w0 n0 n1 n2 A0 A1 A2 c0 c1 c2 M9 M14 M22 row14 row22 gb gr hI hu' hL (hd2 0 ⟨5, .data⟩ rfl rfl)
  ·exact step7 w0 n0 n1 n2 A0 A1 A2 c0 c1 c2 M9 M14 M22 row14 row22 gb gr hI hu' hL (hd2 0 ⟨6, .data⟩ rfl rfl)
  ·exact step8 w0 n0 n1 n2 A0 A1 A2 c0 c1 c2 M9 M14 M22 row14 row22 gb gr hI hu' hL (hd2 0 ⟨7, .data⟩ rfl rfl) w14
  ·exact step9 w0 n0 n1 n2 A0 A1 A2 c0 c1 c2 M9 M14 M22 row14 row22 gb gr hI hu' hL (hd2 0 ⟨8, .data⟩ rfl rfl) hm9
  ·exact step10 w0 n0 n1 n2 A0 A1 A2 c0 c1 c2 M9 M14 M22 row14 row22 gb gr hI hu' hL
  ·exact step11 w0 n0 n1 n2 A0 A1 A2 c0 c1 c2 M9 M14 M22 row14 row22 gb gr hI hu' hL (hd2 0 ⟨10, .data⟩ rfl rfl)
  ·exact step12 w0 n0 n1 n2 A0 A1 A2 c0 c1 c2 M9 M14 M22 row14 row22 gb gr hI hu' hL (hd2 0 ⟨9, .data⟩ rfl rfl) (hd2 1 ⟨11, .data⟩ rfl rfl) hrun12
  ·exact step13 w0 n0 n1 n2 A0 A1 A2 c0 c1 c2 M9 M14 M22 row14 row22 gb gr hI hu' hL
  ·exact step14 w0 n0 n1 n2 A0 A1 A2 c0 c1 c2 M9 M14 M22 row14 row22 gb gr hI hu' hL (hd2 0 ⟨13, .data⟩ rfl rfl)
  ·exact step15 w0 n0 n1 n2 A0 A1 A2 c0 c1 c2 M9 M14 M22 row14 row22 gb gr hI hu' hL (hd2 0 ⟨14, .data⟩ rfl rfl)
  ·exact step16 w0 n0 n1 n2 A0 A1 A2 c0 c1 c2 M9 M14 M22 row14 row22 gb gr hI hu' hL (hd2 0 ⟨15, .data⟩ rfl rfl) w22
  ·exact step17 w0 n0 n1 n2 A0 A1 A2 c0 c1 c2 M9 M14 M22 row14 row22 gb gr hI hu' hL (hd2 0 ⟨16, .data⟩ rfl rfl) hm17
  ·exact step18 w0 n0 n1 n2 A0 A1 A2 c0 c1 c2 M9 M14 M22 row14 row22 gb gr hI hu' hL
  ·exact step19 w0 n0 n1 n2 A0 A1 A2 c0 c1 c2 M9 M14 M22 row14 row22 gb gr hI hu' hL (hd2 0 ⟨18, .data⟩ rfl rfl)
  ·exact step20 w0 n0 n1 n2 A0 A1 A2 c0 c1 c2 M9 M14 M22 row14 row22 gb gr hI hu' hL (hd2 2 ⟨12, .chain⟩ rfl rfl) (hd2 0 ⟨17, .data⟩ rfl rfl) (hd2 1 ⟨19, .data⟩ rfl rfl) hrun20
  ·exact step21 w0 n0 n1 n2 A0 A1 A2 c0 c1 c2 M9 M14 M22 row14 row22 gb gr hI hu' hL (hd2 0 ⟨4, .data⟩ rfl rfl) (hd2 1 ⟨12, .data⟩ rfl rfl) (hd2 2 ⟨20, .data⟩ rfl rfl)
  ·exact step22 w0 n0 n1 n2 A0 A1 A2 c0 c1 c2 M9 M14 M22 row14 row22 gb gr hI hu' hL
  exact step23 w0 n0 n1 n2 A0 A1 A2 c0 c1 c2 M9 M14 M22 row14 row22 gb gr hI hu' hL (hd2 7 ⟨4, .phase⟩ rfl rfl) (hd2 15 ⟨12, .phase⟩ rfl rfl) (hd2 2 ⟨20, .chain⟩ rfl rfl) (hd2 1 ⟨21, .data⟩ rfl rfl) (hd2 0 ⟨22, .data⟩ rfl rfl)
 obtain ⟨x3, x5, x6, x7, x8, x9, x10, x11, x12, x13, x14, x15, x16, x17, x18, x19, x20, x21, x22, x23, x24, x25, x26, g9, g14, g22, g3, rfl, H⟩ := hI
 refine ⟨_, _, _, _, _, _, _, _, _, _, _, _, _, _, _, _, _, _, _, _, _, _, _, g9, g14, g22, g3, rfl, ?_⟩
 exact { H with below := ⟨H.below.os, H.below.tape, H.below.output, H.below.size, H.below.block⟩ }
end Go.Proofs.YtbffmfeflcdgbaaDoor.Obj
