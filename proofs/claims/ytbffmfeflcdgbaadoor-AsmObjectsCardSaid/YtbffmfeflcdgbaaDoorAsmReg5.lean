/- The region of vesperlaw14.object's loop that draws its order. Printed by wip/tools/genreg5.py. -/
import Derived.Test.YtbffmfeflcdgbaaDoorAsmRm
set_option linter.unusedVariables false
set_option linter.unusedSimpArgs false
namespace Go.Proofs.YtbffmfeflcdgbaaDoor.Obj5
open Go Go.RowKit
open Go.Proofs.YtbffmfeflcdgbaaDoorW.PrintWords Go.Proofs.YtbffmfeflcdgbaaDoor.POb Go.Proofs.YtbffmfeflcdgbaaDoor.Room Go.Proofs.YtbffmfeflcdgbaaDoor.Obj

def ops5 : Array Oper := #[{ dst := some 34, op := Op.fieldAddr 26 (Operand.tmp 3) 0, type := 0, pos := "law.go:200", after := #[], guard := none },
 { dst := some 35, op := Op.load 22 (Operand.tmp 34), type := 22, pos := "law.go:200", after := #[{ on := 0, ground := Ground.data }], guard := none },
 { dst := some 36, op := Op.fieldAddr 26 (Operand.tmp 1) 0, type := 0, pos := "law.go:200", after := #[], guard := none },
 { dst := some 37, op := Op.load 22 (Operand.tmp 36), type := 22, pos := "law.go:200", after := #[{ on := 2, ground := Ground.data }], guard := none },
 { dst := some 38, op := Op.move (Operand.tmp 4), type := 3, pos := "law.go:200", after := #[], guard := none },
 { dst := some 39, op := Op.indexAddr 22 (Operand.tmp 37) (Operand.tmp 38), type := 0, pos := "law.go:200", after := #[{ on := 3, ground := Ground.data }, { on := 4, ground := Ground.data }], guard := none },
 { dst := some 40, op := Op.fieldAddr 42 (Operand.tmp 39) 0, type := 0, pos := "law.go:200", after := #[{ on := 5, ground := Ground.data }], guard := none },
 { dst := some 41, op := Op.load 3 (Operand.tmp 40), type := 3, pos := "law.go:200", after := #[{ on := 6, ground := Ground.data }], guard := none },
 { dst := some 42, op := Op.fieldAddr 26 (Operand.tmp 1) 0, type := 0, pos := "law.go:200", after := #[], guard := none },
 { dst := some 43, op := Op.load 22 (Operand.tmp 42), type := 22, pos := "law.go:200", after := #[{ on := 8, ground := Ground.data }], guard := none },
 { dst := some 44, op := Op.move (Operand.tmp 4), type := 3, pos := "law.go:200", after := #[], guard := none },
 { dst := some 45, op := Op.indexAddr 22 (Operand.tmp 43) (Operand.tmp 44), type := 0, pos := "law.go:200", after := #[{ on := 9, ground := Ground.data }, { on := 10, ground := Ground.data }], guard := none },
 { dst := some 46, op := Op.fieldAddr 42 (Operand.tmp 45) 1, type := 0, pos := "law.go:200", after := #[{ on := 11, ground := Ground.data }], guard := none },
 { dst := some 47, op := Op.load 33 (Operand.tmp 46), type := 33, pos := "law.go:200", after := #[{ on := 12, ground := Ground.data }], guard := none },
 { dst := some 48, op := Op.call { callee := Callee.value (Operand.func 15), args := #[Operand.tmp 47], argTypes := #[33] }, type := 33, pos := "law.go:200", after := #[{ on := 13, ground := Ground.data }], guard := none },
 { dst := some 49, op := Op.build 42 #[(0, Operand.tmp 41), (1, Operand.tmp 48)], type := 42, pos := "law.go:200", after := #[{ on := 7, ground := Ground.data }, { on := 14, ground := Ground.data }], guard := none },
 { dst := some 50, op := Op.buildSlice 22 1 #[(0, Operand.tmp 49)], type := 22, pos := "law.go:200", after := #[{ on := 15, ground := Ground.data }], guard := none },
 { dst := some 51, op := Op.call { callee := Callee.builtin Builtin.append, args := #[Operand.tmp 35, Operand.tmp 50], argTypes := #[22, 22] }, type := 22, pos := "law.go:200", after := #[{ on := 1, ground := Ground.data }, { on := 16, ground := Ground.data }, { on := 14, ground := Ground.chain }], guard := none },
 { dst := some 52, op := Op.fieldAddr 26 (Operand.tmp 3) 0, type := 0, pos := "law.go:200", after := #[{ on := 0, ground := Ground.phase }, { on := 1, ground := Ground.phase }, { on := 2, ground := Ground.phase }, { on := 3, ground := Ground.phase }, { on := 4, ground := Ground.phase }, { on := 5, ground := Ground.phase }, { on := 6, ground := Ground.phase }, { on := 7, ground := Ground.phase }, { on := 8, ground := Ground.phase }, { on := 9, ground := Ground.phase }, { on := 10, ground := Ground.phase }, { on := 11, ground := Ground.phase }, { on := 12, ground := Ground.phase }, { on := 13, ground := Ground.phase }, { on := 14, ground := Ground.phase }, { on := 15, ground := Ground.phase }, { on := 16, ground := Ground.phase }, { on := 17, ground := Ground.phase }], guard := none },
 { dst := none, op := Op.store 22 (Operand.tmp 52) (Operand.tmp 51), type := 0, pos := "law.go:200", after := #[{ on := 18, ground := Ground.data }, { on := 17, ground := Ground.data }, { on := 17, ground := Ground.chain }, { on := 0, ground := Ground.phase }, { on := 1, ground := Ground.phase }, { on := 2, ground := Ground.phase }, { on := 3, ground := Ground.phase }, { on := 4, ground := Ground.phase }, { on := 5, ground := Ground.phase }, { on := 6, ground := Ground.phase }, { on := 7, ground := Ground.phase }, { on := 8, ground := Ground.phase }, { on := 9, ground := Ground.phase }, { on := 10, ground := Ground.phase }, { on := 11, ground := Ground.phase }, { on := 12, ground := Ground.phase }, { on := 13, ground := Ground.phase }, { on := 14, ground := Ground.phase }, { on := 15, ground := Ground.phase }, { on := 16, ground := Ground.phase }, { on := 17, ground := Ground.phase }], guard := none }]

structure In (w V0 : World) (k : Nat) (l0 : List S42) (s14 s22 : Value) (row14 row22 : Array Value) (c0 : Nat) (b1 b2 : Value) (gb gr g3 g14 g22 gB cap : Nat) (ad : Addr) (A1 : Option Addr) (c1 : Nat) (L : Array Bool) (x34 x35 x36 x37 x38 x39 x40 x41 x42 x43 x44 x45 x46 x47 x48 x49 x50 x51 x52 : Value) (g : Nat) (W : World) : Prop where
 f0 : L.getD 0 false = true → x34 = Value.pointer (some ⟨g3, 0, none⟩)
 f1 : L.getD 1 false = true → x35 = Value.slice (some ⟨gB, 0, none⟩) k cap
 f2 : L.getD 2 false = true → x36 = Value.pointer (some ⟨gb, 0, none⟩)
 f3 : L.getD 3 false = true → x37 = Value.slice (some ad) l0.length c0
 f4 : L.getD 4 false = true → x38 = Value.int .i64 (k : Int)
 f5 : L.getD 5 false = true → x39 = Value.pointer (some (ad.add (k * 2)))
 f6 : L.getD 6 false = true → x40 = Value.pointer (some (ad.add (k * 2)))
 f7 : L.getD 7 false = true → x41 = Value.int .i64 (rd_T42 l0 k).f0
 f8 : L.getD 8 false = true → x42 = Value.pointer (some ⟨gb, 0, none⟩)
 f9 : L.getD 9 false = true → x43 = Value.slice (some ad) l0.length c0
 f10 : L.getD 10 false = true → x44 = Value.int .i64 (k : Int)
 f11 : L.getD 11 false = true → x45 = Value.pointer (some (ad.add (k * 2)))
 f12 : L.getD 12 false = true → x46 = Value.pointer (some ⟨(ad.add (k * 2)).block, (ad.add (k * 2)).off + 1, none⟩)
 f13 : L.getD 13 false = true → x47 = Value.slice A1 (rd_T42 l0 k).f1.length c1
 f14 : L.getD 14 false = true → x48 = Value.slice (some ⟨g, 0, none⟩) (rd_T42 l0 k).f1.length ((rd_T42 l0 k).f1.length + 5)
 f15 : L.getD 15 false = true → x49 = Value.agg #[Value.int .i64 (rd_T42 l0 k).f0, Value.slice (some ⟨g, 0, none⟩) (rd_T42 l0 k).f1.length ((rd_T42 l0 k).f1.length + 5)]
 f18 : L.getD 18 false = true → x52 = Value.pointer (some ⟨g3, 0, none⟩)
 cells : L.getD 19 false = false → (W.cell? ⟨g3, 0, none⟩ = some (.slice (some ⟨gB, 0, none⟩) k cap) ∧ W.frozen? ⟨g3, 0, none⟩ = false ∧ W.cell? ⟨gb, 0, none⟩ = some (.slice (some ad) l0.length c0) ∧ W.cell? (ad.add (k * 2)) = some (.int .i64 (rd_T42 l0 k).f0) ∧ W.cell? ⟨(ad.add (k * 2)).block, (ad.add (k * 2)).off + 1, none⟩ = some (.slice A1 (rd_T42 l0 k).f1.length c1))
 sA : L.getD 14 false = false → W = V0
 sB : L.getD 14 false = true → L.getD 16 false = false → (kb.R 5 W V0.heap.size (fun _ => True) (.slice (some ⟨g, 0, none⟩) ((rd_T42 l0 k).f1.length + 5) ((rd_T42 l0 k).f1.length + 5)) ((rd_T42 l0 k).f1 ++ mk5) ∧ Below V0.heap.size V0 W)
 sC : L.getD 16 false = true → L.getD 17 false = false → ∃ W1, W = W1.alloc (Obj.cells #[.int .i64 (rd_T42 l0 k).f0, .slice (some ⟨g, 0, none⟩) (rd_T42 l0 k).f1.length ((rd_T42 l0 k).f1.length + 5)] 42) ∧ (kb.R 5 W1 V0.heap.size (fun _ => True) (.slice (some ⟨g, 0, none⟩) ((rd_T42 l0 k).f1.length + 5) ((rd_T42 l0 k).f1.length + 5)) ((rd_T42 l0 k).f1 ++ mk5) ∧ Below V0.heap.size V0 W1) ∧ x50 = Value.slice (some ⟨W1.heap.size, 0, none⟩) 1 1
 sD : L.getD 17 false = true → L.getD 19 false = false → ∃ gB' cap', x51 = Value.slice (some ⟨gB', 0, none⟩) (k + 1) cap' ∧ St w (W.setCell ⟨g3, 0, none⟩ (.slice (some ⟨gB', 0, none⟩) (k + 1) cap')) (k + 1) l0 s14 s22 row14 row22 #[.slice (some ad) l0.length c0, b1, b2] gb gr g3 g14 g22 gB' cap'
 sE : L.getD 19 false = true → ∃ gB' cap', St w W (k + 1) l0 s14 s22 row14 row22 #[.slice (some ad) l0.length c0, b1, b2] gb gr g3 g14 g22 gB' cap'
 all19 : L.getD 19 false = true → ∀ j, j < 19 → L.getD j false = true
 c15 : L.getD 15 false = true → L.getD 14 false = true
 c16 : L.getD 16 false = true → L.getD 14 false = true
 c17 : L.getD 17 false = true → L.getD 16 false = true
 c19 : L.getD 19 false = true → L.getD 17 false = true

def Inv (w V0 : World) (k : Nat) (l0 : List S42) (s14 s22 : Value) (row14 row22 : Array Value) (c0 : Nat) (b1 b2 : Value) (gb gr g3 g14 g22 gB cap : Nat) (ad : Addr) (A1 : Option Addr) (c1 : Nat) (u5 u6 u7 u8 u9 u10 u11 u12 u13 u14 u15 u16 u17 u18 u19 u20 u21 u22 u23 u24 u25 u26 u27 u28 u29 u30 u31 u32 u33 u53 : Value) (L : Array Bool) (a : Act) (W : World) : Prop := ∃ (x34 x35 x36 x37 x38 x39 x40 x41 x42 x43 x44 x45 x46 x47 x48 x49 x50 x51 x52 : Value) (g : Nat), a = Act.mk #[.agg #[.slice (some ad) l0.length c0, b1, b2], .pointer (some ⟨gb, 0, none⟩), .pointer (some ⟨gr, 0, none⟩), .pointer (some ⟨g3, 0, none⟩), .int .i64 (k : Int), u5, u6, u7, u8, u9, u10, u11, u12, u13, u14, u15, u16, u17, u18, u19, u20, u21, u22, u23, u24, u25, u26, u27, u28, u29, u30, u31, u32, u33, x34, x35, x36, x37, x38, x39, x40, x41, x42, x43, x44, x45, x46, x47, x48, x49, x50, x51, x52, u53] [] ∧ In w V0 k l0 s14 s22 row14 row22 c0 b1 b2 gb gr g3 g14 g22 gB cap ad A1 c1 L x34 x35 x36 x37 x38 x39 x40 x41 x42 x43 x44 x45 x46 x47 x48 x49 x50 x51 x52 g W

theorem cells_mk {w W : World} {gB k cap gb g3 c0 n : Nat} {ad : Addr} {s14 s22 b1 b2 : Value} {a0 a1 : Addr} {v0 v1 : Value} (e0 : w.cell? a0 = some v0) (e1 : w.cell? a1 = some v1)
 (h3 : W.heap[g3]? = some (.cells #[.slice (some ⟨gB, 0, none⟩) k cap, s14, s22] 26 (0, 0))) (hb : W.heap[gb]? = some (.cells #[.slice (some ad) n c0, b1, b2] 26 (0, 0))) (hB : Below w.heap.size w W) :
 W.cell? ⟨g3, 0, none⟩ = some (.slice (some ⟨gB, 0, none⟩) k cap) ∧ W.frozen? ⟨g3, 0, none⟩ = false ∧ W.cell? ⟨gb, 0, none⟩ = some (.slice (some ad) n c0) ∧ W.cell? a0 = some v0 ∧ W.cell? a1 = some v1 :=
 ⟨(blk_cell h3 0).trans rfl, blk_frozen h3 0, (blk_cell hb 0).trans rfl, (hB.cell (World.block_lt_of_cell? w _ e0)).trans e0, (hB.cell (World.block_lt_of_cell? w _ e1)).trans e1⟩
theorem up1 {W W1 : World} (hB1 : Below W.heap.size W W1) {i : Nat} {cs : Array Value} {t : TypeId} (hi : W.heap[i]? = some (.cells cs t (0, 0))) : W1.heap[i]? = some (.cells cs t (0, 0)) := by rw [hB1.block _ (blk_lt hi)]; exact hi
set_option maxRecDepth 100000
theorem step0 (w V0 : World) (k : Nat) (l0 : List S42) (s14 s22 : Value) (row14 row22 : Array Value) (c0 : Nat) (b1 b2 : Value) (gb gr g3 g14 g22 gB cap : Nat) (ad : Addr) (A1 : Option Addr) (c1 : Nat) (u5 u6 u7 u8 u9 u10 u11 u12 u13 u14 u15 u16 u17 u18 u19 u20 u21 u22 u23 u24 u25 u26 u27 u28 u29 u30 u31 u32 u33 u53 : Value) {Q : Exit → Act → World → Prop} {L : Array Bool} {a : Act} {W : World} (hI : Inv w V0 k l0 s14 s22 row14 row22 c0 b1 b2 gb gr g3 g14 g22 gB cap ad A1 c1 u5 u6 u7 u8 u9 u10 u11 u12 u13 u14 u15 u16 u17 u18 u19 u20 u21 u22 u23 u24 u25 u26 u27 u28 u29 u30 u31 u32 u33 u53 L a W) (hu : L.getD 0 false = false) (hL : 0 < L.size) (hN : L.getD 19 false = false) :
 wpOp Tryd.prog ops5 Q 0 (fun a' w' => Inv w V0 k l0 s14 s22 row14 row22 c0 b1 b2 gb gr g3 g14 g22 gB cap ad A1 c1 u5 u6 u7 u8 u9 u10 u11 u12 u13 u14 u15 u16 u17 u18 u19 u20 u21 u22 u23 u24 u25 u26 u27 u28 u29 u30 u31 u32 u33 u53 (L.setIfInBounds 0 true) a' w') a W := by
 obtain ⟨x34, x35, x36, x37, x38, x39, x40, x41, x42, x43, x44, x45, x46, x47, x48, x49, x50, x51, x52, g, rfl, H⟩ := hI
 refine wpOp_step (o := { dst := some 34, op := Op.fieldAddr 26 (Operand.tmp 3) 0, type := 0, pos := "law.go:200", after := #[], guard := none }) rfl (fun K' hK => ?_)
 go_simp
 refine hK _ _ ⟨_, _, _, _, _, _, _, _, _, _, _, _, _, _, _, _, _, _, _, g, rfl, ?_⟩
 exact ⟨fun _ => rfl, kp H.f1, kp H.f2, kp H.f3, kp H.f4, kp H.f5, kp H.f6, kp H.f7, kp H.f8, kp H.f9, kp H.f10, kp H.f11, kp H.f12, kp H.f13, kp H.f14, kp H.f15, kp H.f18, fun h => H.cells hN, kp H.sA, fun h h2 => H.sB (gk h) (gk h2), fun h h2 => H.sC (gk h) (gk h2), fun h h2 => H.sD (gk h) (gk h2), (fun h => absurd (show L.getD 19 false = true from gk h) (by rw [hN]; decide)), (fun h => absurd (show L.getD 19 false = true from gk h) (by rw [hN]; decide)), fun h => gmono (H.c15 (gk h)), fun h => gmono (H.c16 (gk h)), fun h => gmono (H.c17 (gk h)), fun h => gmono (H.c19 (gk h))⟩

theorem step1 (w V0 : World) (k : Nat) (l0 : List S42) (s14 s22 : Value) (row14 row22 : Array Value) (c0 : Nat) (b1 b2 : Value) (gb gr g3 g14 g22 gB cap : Nat) (ad : Addr) (A1 : Option Addr) (c1 : Nat) (u5 u6 u7 u8 u9 u10 u11 u12 u13 u14 u15 u16 u17 u18 u19 u20 u21 u22 u23 u24 u25 u26 u27 u28 u29 u30 u31 u32 u33 u53 : Value) {Q : Exit → Act → World → Prop} {L : Array Bool} {a : Act} {W : World} (hI : Inv w V0 k l0 s14 s22 row14 row22 c0 b1 b2 gb gr g3 g14 g22 gB cap ad A1 c1 u5 u6 u7 u8 u9 u10 u11 u12 u13 u14 u15 u16 u17 u18 u19 u20 u21 u22 u23 u24 u25 u26 u27 u28 u29 u30 u31 u32 u33 u53 L a W) (hu : L.getD 1 false = false) (hL : 1 < L.size) (hN : L.getD 19 false = false) (d0 : L.getD 0 false = true) :
 wpOp Tryd.prog ops5 Q 1 (fun a' w' => Inv w V0 k l0 s14 s22 row14 row22 c0 b1 b2 gb gr g3 g14 g22 gB cap ad A1 c1 u5 u6 u7 u8 u9 u10 u11 u12 u13 u14 u15 u16 u17 u18 u19 u20 u21 u22 u23 u24 u25 u26 u27 u28 u29 u30 u31 u32 u33 u53 (L.setIfInBounds 1 true) a' w') a W := by
 obtain ⟨x34, x35, x36, x37, x38, x39, x40, x41, x42, x43, x44, x45, x46, x47, x48, x49, x50, x51, x52, g, rfl, H⟩ := hI
 have e0_ := H.f0 d0
 subst e0_
 obtain ⟨q0, y0, q1, q2, q3⟩ := H.cells hN
 refine wpOp_step (o := { dst := some 35, op := Op.load 22 (Operand.tmp 34), type := 22, pos := "law.go:200", after := #[{ on := 0, ground := Ground.data }], guard := none }) rfl (fun K' hK => ?_)
 go_simp
 refine hK _ _ ⟨_, _, _, _, _, _, _, _, _, _, _, _, _, _, _, _, _, _, _, g, rfl, ?_⟩
 exact ⟨kp H.f0, fun _ => rfl, kp H.f2, kp H.f3, kp H.f4, kp H.f5, kp H.f6, kp H.f7, kp H.f8, kp H.f9, kp H.f10, kp H.f11, kp H.f12, kp H.f13, kp H.f14, kp H.f15, kp H.f18, fun h => H.cells hN, kp H.sA, fun h h2 => H.sB (gk h) (gk h2), fun h h2 => H.sC (gk h) (gk h2), fun h h2 => H.sD (gk h) (gk h2), (fun h => absurd (show L.getD 19 false = true from gk h) (by rw [hN]; decide)), (fun h => absurd (show L.getD 19 false = true from gk h) (by rw [hN]; decide)), fun h => gmono (H.c15 (gk h)), fun h => gmono (H.c16 (gk h)), fun h => gmono (H.c17 (gk h)), fun h => gmono (H.c19 (gk h))⟩

theorem step2 (w V0 : World) (k : Nat) (l0 : List S42) (s14 s22 : Value) (row14 row22 : Array Value) (c0 : Nat) (b1 b2 : Value) (gb gr g3 g14 g22 gB cap : Nat) (ad : Addr) (A1 : Option Addr) (c1 : Nat) (u5 u6 u7 u8 u9 u10 u11 u12 u13 u14 u15 u16 u17 u18 u19 u20 u21 u22 u23 u24 u25 u26 u27 u28 u29 u30 u31 u32 u33 u53 : Value) {Q : Exit → Act → World → Prop} {L : Array Bool} {a : Act} {W : World} (hI : Inv w V0 k l0 s14 s22 row14 row22 c0 b1 b2 gb gr g3 g14 g22 gB cap ad A1 c1 u5 u6 u7 u8 u9 u10 u11 u12 u13 u14 u15 u16 u17 u18 u19 u20 u21 u22 u23 u24 u25 u26 u27 u28 u29 u30 u31 u32 u33 u53 L a W) (hu : L.getD 2 false = false) (hL : 2 < L.size) (hN : L.getD 19 false = false) :
 wpOp Tryd.prog ops5 Q 2 (fun a' w' => Inv w V0 k l0 s14 s22 row14 row22 c0 b1 b2 gb gr g3 g14 g22 gB cap ad A1 c1 u5 u6 u7 u8 u9 u10 u11 u12 u13 u14 u15 u16 u17 u18 u19 u20 u21 u22 u23 u24 u25 u26 u27 u28 u29 u30 u31 u32 u33 u53 (L.setIfInBounds 2 true) a' w') a W := by
 obtain ⟨x34, x35, x36, x37, x38, x39, x40, x41, x42, x43, x44, x45, x46, x47, x48, x49, x50, x51, x52, g, rfl, H⟩ := hI
 refine wpOp_step (o := { dst := some 36, op := Op.fieldAddr 26 (Operand.tmp 1) 0, type := 0, pos := "law.go:200", after := #[], guard := none }) rfl (fun K' hK => ?_)
 go_simp
 refine hK _ _ ⟨_, _, _, _, _, _, _, _, _, _, _, _, _, _, _, _, _, _, _, g, rfl, ?_⟩
 exact ⟨kp H.f0, kp H.f1, fun _ => rfl, kp H.f3, kp H.f4, kp H.f5, kp H.f6, kp H.f7, kp H.f8, kp H.f9, kp H.f10, kp H.f11, kp H.f12, kp H.f13, kp H.f14, kp H.f15, kp H.f18, fun h => H.cells hN, kp H.sA, fun h h2 => H.sB (gk h) (gk h2), fun h h2 => H.sC (gk h) (gk h2), fun h h2 => H.sD (gk h) (gk h2), (fun h => absurd (show L.getD 19 false = true from gk h) (by rw [hN]; decide)), (fun h => absurd (show L.getD 19 false = true from gk h) (by rw [hN]; decide)), fun h => gmono (H.c15 (gk h)), fun h => gmono (H.c16 (gk h)), fun h => gmono (H.c17 (gk h)), fun h => gmono (H.c19 (gk h))⟩

theorem step3 (w V0 : World) (k : Nat) (l0 : List S42) (s14 s22 : Value) (row14 row22 : Array Value) (c0 : Nat) (b1 b2 : Value) (gb gr g3 g14 g22 gB cap : Nat) (ad : Addr) (A1 : Option Addr) (c1 : Nat) (u5 u6 u7 u8 u9 u10 u11 u12 u13 u14 u15 u16 u17 u18 u19 u20 u21 u22 u23 u24 u25 u26 u27 u28 u29 u30 u31 u32 u33 u53 : Value) {Q : Exit → Act → World → Prop} {L : Array Bool} {a : Act} {W : World} (hI : Inv w V0 k l0 s14 s22 row14 row22 c0 b1 b2 gb gr g3 g14 g22 gB cap ad A1 c1 u5 u6 u7 u8 u9 u10 u11 u12 u13 u14 u15 u16 u17 u18 u19 u20 u21 u22 u23 u24 u25 u26 u27 u28 u29 u30 u31 u32 u33 u53 L a W) (hu : L.getD 3 false = false) (hL : 3 < L.size) (hN : L.getD 19 false = false) (d2 : L.getD 2 false = true) :
 wpOp Tryd.prog ops5 Q 3 (fun a' w' => Inv w V0 k l0 s14 s22 row14 row22 c0 b1 b2 gb gr g3 g14 g22 gB cap ad A1 c1 u5 u6 u7 u8 u9 u10 u11 u12 u13 u14 u15 u16 u17 u18 u19 u20 u21 u22 u23 u24 u25 u26 u27 u28 u29 u30 u31 u32 u33 u53 (L.setIfInBounds 3 true) a' w') a W := by
 obtain ⟨x34, x35, x36, x37, x38, x39, x40, x41, x42, x43, x44, x45, x46, x47, x48, x49, x50, x51, x52, g, rfl, H⟩ := hI
 have e2_ := H.f2 d2
 subst e2_
 obtain ⟨q0, y0, q1, q2, q3⟩ := H.cells hN
 refine wpOp_step (o := { dst := some 37, op := Op.load 22 (Operand.tmp 36), type := 22, pos := "law.go:200", after := #[{ on := 2, ground := Ground.data }], guard := none }) rfl (fun K' hK => ?_)
 go_simp
 refine hK _ _ ⟨_, _, _, _, _, _, _, _, _, _, _, _, _, _, _, _, _, _, _, g, rfl, ?_⟩
 exact ⟨kp H.f0, kp H.f1, kp H.f2, fun _ => rfl, kp H.f4, kp H.f5, kp H.f6, kp H.f7, kp H.f8, kp H.f9, kp H.f10, kp H.f11, kp H.f12, kp H.f13, kp H.f14, kp H.f15, kp H.f18, fun h => H.cells hN, kp H.sA, fun h h2 => H.sB (gk h) (gk h2), fun h h2 => H.sC (gk h) (gk h2), fun h h2 => H.sD (gk h) (gk h2), (fun h => absurd (show L.getD 19 false = true from gk h) (by rw [hN]; decide)), (fun h => absurd (show L.getD 19 false = true from gk h) (by rw [hN]; decide)), fun h => gmono (H.c15 (gk h)), fun h => gmono (H.c16 (gk h)), fun h => gmono (H.c17 (gk h)), fun h => gmono (H.c19 (gk h))⟩

theorem step4 (w V0 : World) (k : Nat) (l0 : List S42) (s14 s22 : Value) (row14 row22 : Array Value) (c0 : Nat) (b1 b2 : Value) (gb gr g3 g14 g22 gB cap : Nat) (ad : Addr) (A1 : Option Addr) (c1 : Nat) (u5 u6 u7 u8 u9 u10 u11 u12 u13 u14 u15 u16 u17 u18 u19 u20 u21 u22 u23 u24 u25 u26 u27 u28 u29 u30 u31 u32 u33 u53 : Value) {Q : Exit → Act → World → Prop} {L : Array Bool} {a : Act} {W : World} (hI : Inv w V0 k l0 s14 s22 row14 row22 c0 b1 b2 gb gr g3 g14 g22 gB cap ad A1 c1 u5 u6 u7 u8 u9 u10 u11 u12 u13 u14 u15 u16 u17 u18 u19 u20 u21 u22 u23 u24 u25 u26 u27 u28 u29 u30 u31 u32 u33 u53 L a W) (hu : L.getD 4 false = false) (hL : 4 < L.size) (hN : L.getD 19 false = false) :
 wpOp Tryd.prog ops5 Q 4 (fun a' w' => Inv w V0 k l0 s14 s22 row14 row22 c0 b1 b2 gb gr g3 g14 g22 gB cap ad A1 c1 u5 u6 u7 u8 u9 u10 u11 u12 u13 u14 u15 u16 u17 u18 u19 u20 u21 u22 u23 u24 u25 u26 u27 u28 u29 u30 u31 u32 u33 u53 (L.setIfInBounds 4 true) a' w') a W := by
 obtain ⟨x34, x35, x36, x37, x38, x39, x40, x41, x42, x43, x44, x45, x46, x47, x48, x49, x50, x51, x52, g, rfl, H⟩ := hI
 refine wpOp_step (o := { dst := some 38, op := Op.move (Operand.tmp 4), type := 3, pos := "law.go:200", after := #[], guard := none }) rfl (fun K' hK => ?_)
 go_simp
 refine hK _ _ ⟨_, _, _, _, _, _, _, _, _, _, _, _, _, _, _, _, _, _, _, g, rfl, ?_⟩
 exact ⟨kp H.f0, kp H.f1, kp H.f2, kp H.f3, fun _ => rfl, kp H.f5, kp H.f6, kp H.f7, kp H.f8, kp H.f9, kp H.f10, kp H.f11, kp H.f12, kp H.f13, kp H.f14, kp H.f15, kp H.f18, fun h => H.cells hN, kp H.sA, fun h h2 => H.sB (gk h) (gk h2), fun h h2 => H.sC (gk h) (gk h2), fun h h2 => H.sD (gk h) (gk h2), (fun h => absurd (show L.getD 19 false = true from gk h) (by rw [hN]; decide)), (fun h => absurd (show L.getD 19 false = true from gk h) (by rw [hN]; decide)), fun h => gmono (H.c15 (gk h)), fun h => gmono (H.c16 (gk h)), fun h => gmono (H.c17 (gk h)), fun h => gmono (H.c19 (gk h))⟩

theorem step5 (w V0 : World) (k : Nat) (l0 : List S42) (s14 s22 : Value) (row14 row22 : Array Value) (c0 : Nat) (b1 b2 : Value) (gb gr g3 g14 g22 gB cap : Nat) (ad : Addr) (A1 : Option Addr) (c1 : Nat) (u5 u6 u7 u8 u9 u10 u11 u12 u13 u14 u15 u16 u17 u18 u19 u20 u21 u22 u23 u24 u25 u26 u27 u28 u29 u30 u31 u32 u33 u53 : Value) {Q : Exit → Act → World → Prop} {L : Array Bool} {a : Act} {W : World} (hI : Inv w V0 k l0 s14 s22 row14 row22 c0 b1 b2 gb gr g3 g14 g22 gB cap ad A1 c1 u5 u6 u7 u8 u9 u10 u11 u12 u13 u14 u15 u16 u17 u18 u19 u20 u21 u22 u23 u24 u25 u26 u27 u28 u29 u30 u31 u32 u33 u53 L a W) (hu : L.getD 5 false = false) (hL : 5 < L.size) (hN : L.getD 19 false = false) (d3 : L.getD 3 false = true) (d4 : L.getD 4 false = true) (hk : (k : Int) < (l0.length : Int)) :
 wpOp Tryd.prog ops5 Q 5 (fun a' w' => Inv w V0 k l0 s14 s22 row14 row22 c0 b1 b2 gb gr g3 g14 g22 gB cap ad A1 c1 u5 u6 u7 u8 u9 u10 u11 u12 u13 u14 u15 u16 u17 u18 u19 u20 u21 u22 u23 u24 u25 u26 u27 u28 u29 u30 u31 u32 u33 u53 (L.setIfInBounds 5 true) a' w') a W := by
 obtain ⟨x34, x35, x36, x37, x38, x39, x40, x41, x42, x43, x44, x45, x46, x47, x48, x49, x50, x51, x52, g, rfl, H⟩ := hI
 have e3_ := H.f3 d3
 have e4_ := H.f4 d4
 subst e3_
 subst e4_
 have hk0 : (0 : Int) ≤ (k : Int) := by omega
 refine wpOp_step (o := { dst := some 39, op := Op.indexAddr 22 (Operand.tmp 37) (Operand.tmp 38), type := 0, pos := "law.go:200", after := #[{ on := 3, ground := Ground.data }, { on := 4, ground := Ground.data }], guard := none }) rfl (fun K' hK => ?_)
 go_simp
 refine hK _ _ ⟨_, _, _, _, _, _, _, _, _, _, _, _, _, _, _, _, _, _, _, g, rfl, ?_⟩
 exact ⟨kp H.f0, kp H.f1, kp H.f2, kp H.f3, kp H.f4, fun _ => rfl, kp H.f6, kp H.f7, kp H.f8, kp H.f9, kp H.f10, kp H.f11, kp H.f12, kp H.f13, kp H.f14, kp H.f15, kp H.f18, fun h => H.cells hN, kp H.sA, fun h h2 => H.sB (gk h) (gk h2), fun h h2 => H.sC (gk h) (gk h2), fun h h2 => H.sD (gk h) (gk h2), (fun h => absurd (show L.getD 19 false = true from gk h) (by rw [hN]; decide)), (fun h => absurd (show L.getD 19 false = true from gk h) (by rw [hN]; decide)), fun h => gmono (H.c15 (gk h)), fun h => gmono (H.c16 (gk h)), fun h => gmono (H.c17 (gk h)), fun h => gmono (H.c19 (gk h))⟩

theorem step6 (w V0 : World) (k : Nat) (l0 : List S42) (s14 s22 : Value) (row14 row22 : Array Value) (c0 : Nat) (b1 b2 : Value) (gb gr g3 g14 g22 gB cap : Nat) (ad : Addr) (A1 : Option Addr) (c1 : Nat) (u5 u6 u7 u8 u9 u10 u11 u12 u13 u14 u15 u16 u17 u18 u19 u20 u21 u22 u23 u24 u25 u26 u27 u28 u29 u30 u31 u32 u33 u53 : Value) {Q : Exit → Act → World → Prop} {L : Array Bool} {a : Act} {W : World} (hI : Inv w V0 k l0 s14 s22 row14 row22 c0 b1 b2 gb gr g3 g14 g22 gB cap ad A1 c1 u5 u6 u7 u8 u9 u10 u11 u12 u13 u14 u15 u16 u17 u18 u19 u20 u21 u22 u23 u24 u25 u26 u27 u28 u29 u30 u31 u32 u33 u53 L a W) (hu : L.getD 6 false = false) (hL : 6 < L.size) (hN : L.getD 19 false = false) (d5 : L.getD 5 false = true) :
 wpOp Tryd.prog ops5 Q 6 (fun a' w' => Inv w V0 k l0 s14 s22 row14 row22 c0 b1 b2 gb gr g3 g14 g22 gB cap ad A1 c1 u5 u6 u7 u8 u9 u10 u11 u12 u13 u14 u15 u16 u17 u18 u19 u20 u21 u22 u23 u24 u25 u26 u27 u28 u29 u30 u31 u32 u33 u53 (L.setIfInBounds 6 true) a' w') a W := by
 obtain ⟨x34, x35, x36, x37, x38, x39, x40, x41, x42, x43, x44, x45, x46, x47, x48, x49, x50, x51, x52, g, rfl, H⟩ := hI
 have e5_ := H.f5 d5
 subst e5_
 refine wpOp_step (o := { dst := some 40, op := Op.fieldAddr 42 (Operand.tmp 39) 0, type := 0, pos := "law.go:200", after := #[{ on := 5, ground := Ground.data }], guard := none }) rfl (fun K' hK => ?_)
 go_simp
 refine hK _ _ ⟨_, _, _, _, _, _, _, _, _, _, _, _, _, _, _, _, _, _, _, g, rfl, ?_⟩
 exact ⟨kp H.f0, kp H.f1, kp H.f2, kp H.f3, kp H.f4, kp H.f5, fun _ => rfl, kp H.f7, kp H.f8, kp H.f9, kp H.f10, kp H.f11, kp H.f12, kp H.f13, kp H.f14, kp H.f15, kp H.f18, fun h => H.cells hN, kp H.sA, fun h h2 => H.sB (gk h) (gk h2), fun h h2 => H.sC (gk h) (gk h2), fun h h2 => H.sD (gk h) (gk h2), (fun h => absurd (show L.getD 19 false = true from gk h) (by rw [hN]; decide)), (fun h => absurd (show L.getD 19 false = true from gk h) (by rw [hN]; decide)), fun h => gmono (H.c15 (gk h)), fun h => gmono (H.c16 (gk h)), fun h => gmono (H.c17 (gk h)), fun h => gmono (H.c19 (gk h))⟩

theorem step7 (w V0 : World) (k : Nat) (l0 : List S42) (s14 s22 : Value) (row14 row22 : Array Value) (c0 : Nat) (b1 b2 : Value) (gb gr g3 g14 g22 gB cap : Nat) (ad : Addr) (A1 : Option Addr) (c1 : Nat) (u5 u6 u7 u8 u9 u10 u11 u12 u13 u14 u15 u16 u17 u18 u19 u20 u21 u22 u23 u24 u25 u26 u27 u28 u29 u30 u31 u32 u33 u53 : Value) {Q : Exit → Act → World → Prop} {L : Array Bool} {a : Act} {W : World} (hI : Inv w V0 k l0 s14 s22 row14 row22 c0 b1 b2 gb gr g3 g14 g22 gB cap ad A1 c1 u5 u6 u7 u8 u9 u10 u11 u12 u13 u14 u15 u16 u17 u18 u19 u20 u21 u22 u23 u24 u25 u26 u27 u28 u29 u30 u31 u32 u33 u53 L a W) (hu : L.getD 7 false = false) (hL : 7 < L.size) (hN : L.getD 19 false = false) (d6 : L.getD 6 false = true) :
 wpOp Tryd.prog ops5 Q 7 (fun a' w' => Inv w V0 k l0 s14 s22 row14 row22 c0 b1 b2 gb gr g3 g14 g22 gB cap ad A1 c1 u5 u6 u7 u8 u9 u10 u11 u12 u13 u14 u15 u16 u17 u18 u19 u20 u21 u22 u23 u24 u25 u26 u27 u28 u29 u30 u31 u32 u33 u53 (L.setIfInBounds 7 true) a' w') a W := by
 obtain ⟨x34, x35, x36, x37, x38, x39, x40, x41, x42, x43, x44, x45, x46, x47, x48, x49, x50, x51, x52, g, rfl, H⟩ := hI
 have e6_ := H.f6 d6
 subst e6_
 obtain ⟨q0, y0, q1, q2, q3⟩ := H.cells hN
 refine wpOp_step (o := { dst := some 41, op := Op.load 3 (Operand.tmp 40), type := 3, pos := "law.go:200", after := #[{ on := 6, ground := Ground.data }], guard := none }) rfl (fun K' hK => ?_)
 go_simp
 refine hK _ _ ⟨_, _, _, _, _, _, _, _, _, _, _, _, _, _, _, _, _, _, _, g, rfl, ?_⟩
 exact ⟨kp H.f0, kp H.f1, kp H.f2, kp H.f3, kp H.f4, kp H.f5, kp H.f6, fun _ => rfl, kp H.f8, kp H.f9, kp H.f10, kp H.f11, kp H.f12, kp H.f13, kp H.f14, kp H.f15, kp H.f18, fun h => H.cells hN, kp H.sA, fun h h2 => H.sB (gk h) (gk h2), fun h h2 => H.sC (gk h) (gk h2), fun h h2 => H.sD (gk h) (gk h2), (fun h => absurd (show L.getD 19 false = true from gk h) (by rw [hN]; decide)), (fun h => absurd (show L.getD 19 false = true from gk h) (by rw [hN]; decide)), fun h => gmono (H.c15 (gk h)), fun h => gmono (H.c16 (gk h)), fun h => gmono (H.c17 (gk h)), fun h => gmono (H.c19 (gk h))⟩

theorem step8 (w V0 : World) (k : Nat) (l0 : List S42) (s14 s22 : Value) (row14 row22 : Array Value) (c0 : Nat) (b1 b2 : Value) (gb gr g3 g14 g22 gB cap : Nat) (ad : Addr) (A1 : Option Addr) (c1 : Nat) (u5 u6 u7 u8 u9 u10 u11 u12 u13 u14 u15 u16 u17 u18 u19 u20 u21 u22 u23 u24 u25 u26 u27 u28 u29 u30 u31 u32 u33 u53 : Value) {Q : Exit → Act → World → Prop} {L : Array Bool} {a : Act} {W : World} (hI : Inv w V0 k l0 s14 s22 row14 row22 c0 b1 b2 gb gr g3 g14 g22 gB cap ad A1 c1 u5 u6 u7 u8 u9 u10 u11 u12 u13 u14 u15 u16 u17 u18 u19 u20 u21 u22 u23 u24 u25 u26 u27 u28 u29 u30 u31 u32 u33 u53 L a W) (hu : L.getD 8 false = false) (hL : 8 < L.size) (hN : L.getD 19 false = false) :
 wpOp Tryd.prog ops5 Q 8 (fun a' w' => Inv w V0 k l0 s14 s22 row14 row22 c0 b1 b2 gb gr g3 g14 g22 gB cap ad A1 c1 u5 u6 u7 u8 u9 u10 u11 u12 u13 u14 u15 u16 u17 u18 u19 u20 u21 u22 u23 u24 u25 u26 u27 u28 u29 u30 u31 u32 u33 u53 (L.setIfInBounds 8 true) a' w') a W := by
 obtain ⟨x34, x35, x36, x37, x38, x39, x40, x41, x42, x43, x44, x45, x46, x47, x48, x49, x50, x51, x52, g, rfl, H⟩ := hI
 refine wpOp_step (o := { dst := some 42, op := Op.fieldAddr 26 (Operand.tmp 1) 0, type := 0, pos := "law.go:200", after := #[], guard := none }) rfl (fun K' hK => ?_)
 go_simp
 refine hK _ _ ⟨_, _, _, _, _, _, _, _, _, _, _, _, _, _, _, _, _, _, _, g, rfl, ?_⟩
 exact ⟨kp H.f0, kp H.f1, kp H.f2, kp H.f3, kp H.f4, kp H.f5, kp H.f6, kp H.f7, fun _ => rfl, kp H.f9, kp H.f10, kp H.f11, kp H.f12, kp H.f13, kp H.f14, kp H.f15, kp H.f18, fun h => H.cells hN, kp H.sA, fun h h2 => H.sB (gk h) (gk h2), fun h h2 => H.sC (gk h) (gk h2), fun h h2 => H.sD (gk h) (gk h2), (fun h => absurd (show L.getD 19 false = true from gk h) (by rw [hN]; decide)), (fun h => absurd (show L.getD 19 false = true from gk h) (by rw [hN]; decide)), fun h => gmono (H.c15 (gk h)), fun h => gmono (H.c16 (gk h)), fun h => gmono (H.c17 (gk h)), fun h => gmono (H.c19 (gk h))⟩

theorem step9 (w V0 : World) (k : Nat) (l0 : List S42) (s14 s22 : Value) (row14 row22 : Array Value) (c0 : Nat) (b1 b2 : Value) (gb gr g3 g14 g22 gB cap : Nat) (ad : Addr) (A1 : Option Addr) (c1 : Nat) (u5 u6 u7 u8 u9 u10 u11 u12 u13 u14 u15 u16 u17 u18 u19 u20 u21 u22 u23 u24 u25 u26 u27 u28 u29 u30 u31 u32 u33 u53 : Value) {Q : Exit → Act → World → Prop} {L : Array Bool} {a : Act} {W : World} (hI : Inv w V0 k l0 s14 s22 row14 row22 c0 b1 b2 gb gr g3 g14 g22 gB cap ad A1 c1 u5 u6 u7 u8 u9 u10 u11 u12 u13 u14 u15 u16 u17 u18 u19 u20 u21 u22 u23 u24 u25 u26 u27 u28 u29 u30 u31 u32 u33 u53 L a W) (hu : L.getD 9 false = false) (hL : 9 < L.size) (hN : L.getD 19 false = false) (d8 : L.getD 8 false = true) :
 wpOp Tryd.prog ops5 Q 9 (fun a' w' => Inv w V0 k l0 s14 s22 row14 row22 c0 b1 b2 gb gr g3 g14 g22 gB cap ad A1 c1 u5 u6 u7 u8 u9 u10 u11 u12 u13 u14 u15 u16 u17 u18 u19 u20 u21 u22 u23 u24 u25 u26 u27 u28 u29 u30 u31 u32 u33 u53 (L.setIfInBounds 9 true) a' w') a W := by
 obtain ⟨x34, x35, x36, x37, x38, x39, x40, x41, x42, x43, x44, x45, x46, x47, x48, x49, x50, x51, x52, g, rfl, H⟩ := hI
 have e8_ := H.f8 d8
 subst e8_
 obtain ⟨q0, y0, q1, q2, q3⟩ := H.cells hN
 refine wpOp_step (o := { dst := some 43, op := Op.load 22 (Operand.tmp 42), type := 22, pos := "law.go:200", after := #[{ on := 8, ground := Ground.data }], guard := none }) rfl (fun K' hK => ?_)
 go_simp
 refine hK _ _ ⟨_, _, _, _, _, _, _, _, _, _, _, _, _, _, _, _, _, _, _, g, rfl, ?_⟩
 exact ⟨kp H.f0, kp H.f1, kp H.f2, kp H.f3, kp H.f4, kp H.f5, kp H.f6, kp H.f7, kp H.f8, fun _ => rfl, kp H.f10, kp H.f11, kp H.f12, kp H.f13, kp H.f14, kp H.f15, kp H.f18, fun h => H.cells hN, kp H.sA, fun h h2 => H.sB (gk h) (gk h2), fun h h2 => H.sC (gk h) (gk h2), fun h h2 => H.sD (gk h) (gk h2), (fun h => absurd (show L.getD 19 false = true from gk h) (by rw [hN]; decide)), (fun h => absurd (show L.getD 19 false = true from gk h) (by rw [hN]; decide)), fun h => gmono (H.c15 (gk h)), fun h => gmono (H.c16 (gk h)), fun h => gmono (H.c17 (gk h)), fun h => gmono (H.c19 (gk h))⟩

theorem step10 (w V0 : World) (k : Nat) (l0 : List S42) (s14 s22 : Value) (row14 row22 : Array Value) (c0 : Nat) (b1 b2 : Value) (gb gr g3 g14 g22 gB cap : Nat) (ad : Addr) (A1 : Option Addr) (c1 : Nat) (u5 u6 u7 u8 u9 u10 u11 u12 u13 u14 u15 u16 u17 u18 u19 u20 u21 u22 u23 u24 u25 u26 u27 u28 u29 u30 u31 u32 u33 u53 : Value) {Q : Exit → Act → World → Prop} {L : Array Bool} {a : Act} {W : World} (hI : Inv w V0 k l0 s14 s22 row14 row22 c0 b1 b2 gb gr g3 g14 g22 gB cap ad A1 c1 u5 u6 u7 u8 u9 u10 u11 u12 u13 u14 u15 u16 u17 u18 u19 u20 u21 u22 u23 u24 u25 u26 u27 u28 u29 u30 u31 u32 u33 u53 L a W) (hu : L.getD 10 false = false) (hL : 10 < L.size) (hN : L.getD 19 false = false) :
 wpOp Tryd.prog ops5 Q 10 (fun a' w' => Inv w V0 k l0 s14 s22 row14 row22 c0 b1 b2 gb gr g3 g14 g22 gB cap ad A1 c1 u5 u6 u7 u8 u9 u10 u11 u12 u13 u14 u15 u16 u17 u18 u19 u20 u21 u22 u23 u24 u25 u26 u27 u28 u29 u30 u31 u32 u33 u53 (L.setIfInBounds 10 true) a' w') a W := by
 obtain ⟨x34, x35, x36, x37, x38, x39, x40, x41, x42, x43, x44, x45, x46, x47, x48, x49, x50, x51, x52, g, rfl, H⟩ := hI
 refine wpOp_step (o := { dst := some 44, op := Op.move (Operand.tmp 4), type := 3, pos := "law.go:200", after := #[], guard := none }) rfl (fun K' hK => ?_)
 go_simp
 refine hK _ _ ⟨_, _, _, _, _, _, _, _, _, _, _, _, _, _, _, _, _, _, _, g, rfl, ?_⟩
 exact ⟨kp H.f0, kp H.f1, kp H.f2, kp H.f3, kp H.f4, kp H.f5, kp H.f6, kp H.f7, kp H.f8, kp H.f9, fun _ => rfl, kp H.f11, kp H.f12, kp H.f13, kp H.f14, kp H.f15, kp H.f18, fun h => H.cells hN, kp H.sA, fun h h2 => H.sB (gk h) (gk h2), fun h h2 => H.sC (gk h) (gk h2), fun h h2 => H.sD (gk h) (gk h2), (fun h => absurd (show L.getD 19 false = true from gk h) (by rw [hN]; decide)), (fun h => absurd (show L.getD 19 false = true from gk h) (by rw [hN]; decide)), fun h => gmono (H.c15 (gk h)), fun h => gmono (H.c16 (gk h)), fun h => gmono (H.c17 (gk h)), fun h => gmono (H.c19 (gk h))⟩

theorem step11 (w V0 : World) (k : Nat) (l0 : List S42) (s14 s22 : Value) (row14 row22 : Array Value) (c0 : Nat) (b1 b2 : Value) (gb gr g3 g14 g22 gB cap : Nat) (ad : Addr) (A1 : Option Addr) (c1 : Nat) (u5 u6 u7 u8 u9 u10 u11 u12 u13 u14 u15 u16 u17 u18 u19 u20 u21 u22 u23 u24 u25 u26 u27 u28 u29 u30 u31 u32 u33 u53 : Value) {Q : Exit → Act → World → Prop} {L : Array Bool} {a : Act} {W : World} (hI : Inv w V0 k l0 s14 s22 row14 row22 c0 b1 b2 gb gr g3 g14 g22 gB cap ad A1 c1 u5 u6 u7 u8 u9 u10 u11 u12 u13 u14 u15 u16 u17 u18 u19 u20 u21 u22 u23 u24 u25 u26 u27 u28 u29 u30 u31 u32 u33 u53 L a W) (hu : L.getD 11 false = false) (hL : 11 < L.size) (hN : L.getD 19 false = false) (d9 : L.getD 9 false = true) (d10 : L.getD 10 false = true) (hk : (k : Int) < (l0.length : Int)) :
 wpOp Tryd.prog ops5 Q 11 (fun a' w' => Inv w V0 k l0 s14 s22 row14 row22 c0 b1 b2 gb gr g3 g14 g22 gB cap ad A1 c1 u5 u6 u7 u8 u9 u10 u11 u12 u13 u14 u15 u16 u17 u18 u19 u20 u21 u22 u23 u24 u25 u26 u27 u28 u29 u30 u31 u32 u33 u53 (L.setIfInBounds 11 true) a' w') a W := by
 obtain ⟨x34, x35, x36, x37, x38, x39, x40, x41, x42, x43, x44, x45, x46, x47, x48, x49, x50, x51, x52, g, rfl, H⟩ := hI
 have e9_ := H.f9 d9
 have e10_ := H.f10 d10
 subst e9_
 subst e10_
 have hk0 : (0 : Int) ≤ (k : Int) := by omega
 refine wpOp_step (o := { dst := some 45, op := Op.indexAddr 22 (Operand.tmp 43) (Operand.tmp 44), type := 0, pos := "law.go:200", after := #[{ on := 9, ground := Ground.data }, { on := 10, ground := Ground.data }], guard := none }) rfl (fun K' hK => ?_)
 go_simp
 refine hK _ _ ⟨_, _, _, _, _, _, _, _, _, _, _, _, _, _, _, _, _, _, _, g, rfl, ?_⟩
 exact ⟨kp H.f0, kp H.f1, kp H.f2, kp H.f3, kp H.f4, kp H.f5, kp H.f6, kp H.f7, kp H.f8, kp H.f9, kp H.f10, fun _ => rfl, kp H.f12, kp H.f13, kp H.f14, kp H.f15, kp H.f18, fun h => H.cells hN, kp H.sA, fun h h2 => H.sB (gk h) (gk h2), fun h h2 => H.sC (gk h) (gk h2), fun h h2 => H.sD (gk h) (gk h2), (fun h => absurd (show L.getD 19 false = true from gk h) (by rw [hN]; decide)), (fun h => absurd (show L.getD 19 false = true from gk h) (by rw [hN]; decide)), fun h => gmono (H.c15 (gk h)), fun h => gmono (H.c16 (gk h)), fun h => gmono (H.c17 (gk h)), fun h => gmono (H.c19 (gk h))⟩

theorem step12 (w V0 : World) (k : Nat) (l0 : List S42) (s14 s22 : Value) (row14 row22 : Array Value) (c0 : Nat) (b1 b2 : Value) (gb gr g3 g14 g22 gB cap : Nat) (ad : Addr) (A1 : Option Addr) (c1 : Nat) (u5 u6 u7 u8 u9 u10 u11 u12 u13 u14 u15 u16 u17 u18 u19 u20 u21 u22 u23 u24 u25 u26 u27 u28 u29 u30 u31 u32 u33 u53 : Value) {Q : Exit → Act → World → Prop} {L : Array Bool} {a : Act} {W : World} (hI : Inv w V0 k l0 s14 s22 row14 row22 c0 b1 b2 gb gr g3 g14 g22 gB cap ad A1 c1 u5 u6 u7 u8 u9 u10 u11 u12 u13 u14 u15 u16 u17 u18 u19 u20 u21 u22 u23 u24 u25 u26 u27 u28 u29 u30 u31 u32 u33 u53 L a W) (hu : L.getD 12 false = false) (hL : 12 < L.size) (hN : L.getD 19 false = false) (d11 : L.getD 11 false = true) :
 wpOp Tryd.prog ops5 Q 12 (fun a' w' => Inv w V0 k l0 s14 s22 row14 row22 c0 b1 b2 gb gr g3 g14 g22 gB cap ad A1 c1 u5 u6 u7 u8 u9 u10 u11 u12 u13 u14 u15 u16 u17 u18 u19 u20 u21 u22 u23 u24 u25 u26 u27 u28 u29 u30 u31 u32 u33 u53 (L.setIfInBounds 12 true) a' w') a W := by
 obtain ⟨x34, x35, x36, x37, x38, x39, x40, x41, x42, x43, x44, x45, x46, x47, x48, x49, x50, x51, x52, g, rfl, H⟩ := hI
 have e11_ := H.f11 d11
 subst e11_
 refine wpOp_step (o := { dst := some 46, op := Op.fieldAddr 42 (Operand.tmp 45) 1, type := 0, pos := "law.go:200", after := #[{ on := 11, ground := Ground.data }], guard := none }) rfl (fun K' hK => ?_)
 go_simp
 refine hK _ _ ⟨_, _, _, _, _, _, _, _, _, _, _, _, _, _, _, _, _, _, _, g, rfl, ?_⟩
 exact ⟨kp H.f0, kp H.f1, kp H.f2, kp H.f3, kp H.f4, kp H.f5, kp H.f6, kp H.f7, kp H.f8, kp H.f9, kp H.f10, kp H.f11, fun _ => rfl, kp H.f13, kp H.f14, kp H.f15, kp H.f18, fun h => H.cells hN, kp H.sA, fun h h2 => H.sB (gk h) (gk h2), fun h h2 => H.sC (gk h) (gk h2), fun h h2 => H.sD (gk h) (gk h2), (fun h => absurd (show L.getD 19 false = true from gk h) (by rw [hN]; decide)), (fun h => absurd (show L.getD 19 false = true from gk h) (by rw [hN]; decide)), fun h => gmono (H.c15 (gk h)), fun h => gmono (H.c16 (gk h)), fun h => gmono (H.c17 (gk h)), fun h => gmono (H.c19 (gk h))⟩

theorem step13 (w V0 : World) (k : Nat) (l0 : List S42) (s14 s22 : Value) (row14 row22 : Array Value) (c0 : Nat) (b1 b2 : Value) (gb gr g3 g14 g22 gB cap : Nat) (ad : Addr) (A1 : Option Addr) (c1 : Nat) (u5 u6 u7 u8 u9 u10 u11 u12 u13 u14 u15 u16 u17 u18 u19 u20 u21 u22 u23 u24 u25 u26 u27 u28 u29 u30 u31 u32 u33 u53 : Value) {Q : Exit → Act → World → Prop} {L : Array Bool} {a : Act} {W : World} (hI : Inv w V0 k l0 s14 s22 row14 row22 c0 b1 b2 gb gr g3 g14 g22 gB cap ad A1 c1 u5 u6 u7 u8 u9 u10 u11 u12 u13 u14 u15 u16 u17 u18 u19 u20 u21 u22 u23 u24 u25 u26 u27 u28 u29 u30 u31 u32 u33 u53 L a W) (hu : L.getD 13 false = false) (hL : 13 < L.size) (hN : L.getD 19 false = false) (d12 : L.getD 12 false = true) :
 wpOp Tryd.prog ops5 Q 13 (fun a' w' => Inv w V0 k l0 s14 s22 row14 row22 c0 b1 b2 gb gr g3 g14 g22 gB cap ad A1 c1 u5 u6 u7 u8 u9 u10 u11 u12 u13 u14 u15 u16 u17 u18 u19 u20 u21 u22 u23 u24 u25 u26 u27 u28 u29 u30 u31 u32 u33 u53 (L.setIfInBounds 13 true) a' w') a W := by
 obtain ⟨x34, x35, x36, x37, x38, x39, x40, x41, x42, x43, x44, x45, x46, x47, x48, x49, x50, x51, x52, g, rfl, H⟩ := hI
 have e12_ := H.f12 d12
 subst e12_
 obtain ⟨q0, y0, q1, q2, q3⟩ := H.cells hN
 refine wpOp_step (o := { dst := some 47, op := Op.load 33 (Operand.tmp 46), type := 33, pos := "law.go:200", after := #[{ on := 12, ground := Ground.data }], guard := none }) rfl (fun K' hK => ?_)
 go_simp
 refine hK _ _ ⟨_, _, _, _, _, _, _, _, _, _, _, _, _, _, _, _, _, _, _, g, rfl, ?_⟩
 exact ⟨kp H.f0, kp H.f1, kp H.f2, kp H.f3, kp H.f4, kp H.f5, kp H.f6, kp H.f7, kp H.f8, kp H.f9, kp H.f10, kp H.f11, kp H.f12, fun _ => rfl, kp H.f14, kp H.f15, kp H.f18, fun h => H.cells hN, kp H.sA, fun h h2 => H.sB (gk h) (gk h2), fun h h2 => H.sC (gk h) (gk h2), fun h h2 => H.sD (gk h) (gk h2), (fun h => absurd (show L.getD 19 false = true from gk h) (by rw [hN]; decide)), (fun h => absurd (show L.getD 19 false = true from gk h) (by rw [hN]; decide)), fun h => gmono (H.c15 (gk h)), fun h => gmono (H.c16 (gk h)), fun h => gmono (H.c17 (gk h)), fun h => gmono (H.c19 (gk h))⟩

theorem step14 (w V0 : World) (k : Nat) (l0 : List S42) (s14 s22 : Value) (row14 row22 : Array Value) (c0 : Nat) (b1 b2 : Value) (gb gr g3 g14 g22 gB cap : Nat) (ad : Addr) (A1 : Option Addr) (c1 : Nat) (u5 u6 u7 u8 u9 u10 u11 u12 u13 u14 u15 u16 u17 u18 u19 u20 u21 u22 u23 u24 u25 u26 u27 u28 u29 u30 u31 u32 u33 u53 : Value) {Q : Exit → Act → World → Prop} {L : Array Bool} {a : Act} {W : World} (hI : Inv w V0 k l0 s14 s22 row14 row22 c0 b1 b2 gb gr g3 g14 g22 gB cap ad A1 c1 u5 u6 u7 u8 u9 u10 u11 u12 u13 u14 u15 u16 u17 u18 u19 u20 u21 u22 u23 u24 u25 u26 u27 u28 u29 u30 u31 u32 u33 u53 L a W) (hu : L.getD 14 false = false) (hL : 14 < L.size) (hN : L.getD 19 false = false) (d13 : L.getD 13 false = true) (hS0 : St w V0 k l0 s14 s22 row14 row22 #[.slice (some ad) l0.length c0, b1, b2] gb gr g3 g14 g22 gB cap) (hC : kb.C w A1 (rd_T42 l0 k).f1.length (rd_T42 l0 k).f1) (hc : (rd_T42 l0 k).f1.length ≤ c1) (hl : (rd_T42 l0 k).f1.length ≤ 100000000000) (e0 : w.cell? (ad.add (k * 2)) = some (.int .i64 (rd_T42 l0 k).f0)) (e1 : w.cell? ⟨(ad.add (k * 2)).block, (ad.add (k * 2)).off + 1, none⟩ = some (.slice A1 (rd_T42 l0 k).f1.length c1)) :
 wpOp Tryd.prog ops5 Q 14 (fun a' w' => Inv w V0 k l0 s14 s22 row14 row22 c0 b1 b2 gb gr g3 g14 g22 gB cap ad A1 c1 u5 u6 u7 u8 u9 u10 u11 u12 u13 u14 u15 u16 u17 u18 u19 u20 u21 u22 u23 u24 u25 u26 u27 u28 u29 u30 u31 u32 u33 u53 (L.setIfInBounds 14 true) a' w') a W := by
 obtain ⟨x34, x35, x36, x37, x38, x39, x40, x41, x42, x43, x44, x45, x46, x47, x48, x49, x50, x51, x52, g, rfl, H⟩ := hI
 have e13_ := H.f13 d13
 subst e13_
 obtain rfl := H.sA hu
 refine wpOp_step (o := { dst := some 48, op := Op.call { callee := Callee.value (Operand.func 15), args := #[Operand.tmp 47], argTypes := #[33] }, type := 33, pos := "law.go:200", after := #[{ on := 13, ground := Ground.data }], guard := none }) rfl (fun K' hK => ?_)
 go_simp
 go_at_call 15
 refine (room_calls A1 c1 (rd_T42 l0 k).f1 W (Kd.C_below hC hS0.below) hc hl).mono ?_
 rintro e w1 ⟨g1, hg, rfl, hrm, hb1⟩
 go_simp
 refine hK _ _ ⟨_, _, _, _, _, _, _, _, _, _, _, _, _, _, _, _, _, _, _, g1, rfl, ?_⟩
 exact ⟨kp H.f0, kp H.f1, kp H.f2, kp H.f3, kp H.f4, kp H.f5, kp H.f6, kp H.f7, kp H.f8, kp H.f9, kp H.f10, kp H.f11, kp H.f12, kp H.f13, fun _ => rfl, (fun h => absurd (H.c15 (gk h)) (by rw [hu]; decide)), kp H.f18, fun h => cells_mk e0 e1 (up1 hb1 hS0.h3) (up1 hb1 hS0.hb) (below_step hS0.below hb1), (fun h => by rw [gset hL] at h; cases h), fun _ _ => ⟨hrm, hb1⟩, (fun h _ => absurd (H.c16 (gk h)) (by rw [hu]; decide)), (fun h _ => absurd (H.c16 (H.c17 (gk h))) (by rw [hu]; decide)), (fun h => absurd (show L.getD 19 false = true from gk h) (by rw [hN]; decide)), (fun h => absurd (show L.getD 19 false = true from gk h) (by rw [hN]; decide)), fun h => gmono (H.c15 (gk h)), fun h => gmono (H.c16 (gk h)), fun h => gmono (H.c17 (gk h)), fun h => gmono (H.c19 (gk h))⟩

theorem step15 (w V0 : World) (k : Nat) (l0 : List S42) (s14 s22 : Value) (row14 row22 : Array Value) (c0 : Nat) (b1 b2 : Value) (gb gr g3 g14 g22 gB cap : Nat) (ad : Addr) (A1 : Option Addr) (c1 : Nat) (u5 u6 u7 u8 u9 u10 u11 u12 u13 u14 u15 u16 u17 u18 u19 u20 u21 u22 u23 u24 u25 u26 u27 u28 u29 u30 u31 u32 u33 u53 : Value) {Q : Exit → Act → World → Prop} {L : Array Bool} {a : Act} {W : World} (hI : Inv w V0 k l0 s14 s22 row14 row22 c0 b1 b2 gb gr g3 g14 g22 gB cap ad A1 c1 u5 u6 u7 u8 u9 u10 u11 u12 u13 u14 u15 u16 u17 u18 u19 u20 u21 u22 u23 u24 u25 u26 u27 u28 u29 u30 u31 u32 u33 u53 L a W) (hu : L.getD 15 false = false) (hL : 15 < L.size) (hN : L.getD 19 false = false) (d7 : L.getD 7 false = true) (d14 : L.getD 14 false = true) :
 wpOp Tryd.prog ops5 Q 15 (fun a' w' => Inv w V0 k l0 s14 s22 row14 row22 c0 b1 b2 gb gr g3 g14 g22 gB cap ad A1 c1 u5 u6 u7 u8 u9 u10 u11 u12 u13 u14 u15 u16 u17 u18 u19 u20 u21 u22 u23 u24 u25 u26 u27 u28 u29 u30 u31 u32 u33 u53 (L.setIfInBounds 15 true) a' w') a W := by
 obtain ⟨x34, x35, x36, x37, x38, x39, x40, x41, x42, x43, x44, x45, x46, x47, x48, x49, x50, x51, x52, g, rfl, H⟩ := hI
 have e7_ := H.f7 d7
 have e14_ := H.f14 d14
 subst e7_
 subst e14_
 refine wpOp_step (o := { dst := some 49, op := Op.build 42 #[(0, Operand.tmp 41), (1, Operand.tmp 48)], type := 42, pos := "law.go:200", after := #[{ on := 7, ground := Ground.data }, { on := 14, ground := Ground.data }], guard := none }) rfl (fun K' hK => ?_)
 go_simp
 refine hK _ _ ⟨_, _, _, _, _, _, _, _, _, _, _, _, _, _, _, _, _, _, _, g, rfl, ?_⟩
 exact ⟨kp H.f0, kp H.f1, kp H.f2, kp H.f3, kp H.f4, kp H.f5, kp H.f6, kp H.f7, kp H.f8, kp H.f9, kp H.f10, kp H.f11, kp H.f12, kp H.f13, kp H.f14, fun _ => rfl, kp H.f18, fun h => H.cells hN, kp H.sA, fun h h2 => H.sB (gk h) (gk h2), fun h h2 => H.sC (gk h) (gk h2), fun h h2 => H.sD (gk h) (gk h2), (fun h => absurd (show L.getD 19 false = true from gk h) (by rw [hN]; decide)), (fun h => absurd (show L.getD 19 false = true from gk h) (by rw [hN]; decide)), fun _ => gmono (d14), fun h => gmono (H.c16 (gk h)), fun h => gmono (H.c17 (gk h)), fun h => gmono (H.c19 (gk h))⟩

theorem step16 (w V0 : World) (k : Nat) (l0 : List S42) (s14 s22 : Value) (row14 row22 : Array Value) (c0 : Nat) (b1 b2 : Value) (gb gr g3 g14 g22 gB cap : Nat) (ad : Addr) (A1 : Option Addr) (c1 : Nat) (u5 u6 u7 u8 u9 u10 u11 u12 u13 u14 u15 u16 u17 u18 u19 u20 u21 u22 u23 u24 u25 u26 u27 u28 u29 u30 u31 u32 u33 u53 : Value) {Q : Exit → Act → World → Prop} {L : Array Bool} {a : Act} {W : World} (hI : Inv w V0 k l0 s14 s22 row14 row22 c0 b1 b2 gb gr g3 g14 g22 gB cap ad A1 c1 u5 u6 u7 u8 u9 u10 u11 u12 u13 u14 u15 u16 u17 u18 u19 u20 u21 u22 u23 u24 u25 u26 u27 u28 u29 u30 u31 u32 u33 u53 L a W) (hu : L.getD 16 false = false) (hL : 16 < L.size) (hN : L.getD 19 false = false) (d15 : L.getD 15 false = true) (hS0 : St w V0 k l0 s14 s22 row14 row22 #[.slice (some ad) l0.length c0, b1, b2] gb gr g3 g14 g22 gB cap) (e0 : w.cell? (ad.add (k * 2)) = some (.int .i64 (rd_T42 l0 k).f0)) (e1 : w.cell? ⟨(ad.add (k * 2)).block, (ad.add (k * 2)).off + 1, none⟩ = some (.slice A1 (rd_T42 l0 k).f1.length c1)) :
 wpOp Tryd.prog ops5 Q 16 (fun a' w' => Inv w V0 k l0 s14 s22 row14 row22 c0 b1 b2 gb gr g3 g14 g22 gB cap ad A1 c1 u5 u6 u7 u8 u9 u10 u11 u12 u13 u14 u15 u16 u17 u18 u19 u20 u21 u22 u23 u24 u25 u26 u27 u28 u29 u30 u31 u32 u33 u53 (L.setIfInBounds 16 true) a' w') a W := by
 obtain ⟨x34, x35, x36, x37, x38, x39, x40, x41, x42, x43, x44, x45, x46, x47, x48, x49, x50, x51, x52, g, rfl, H⟩ := hI
 have e15_ := H.f15 d15
 subst e15_
 obtain ⟨hrm, hb1⟩ := H.sB (H.c15 d15) hu
 refine wpOp_step (o := { dst := some 50, op := Op.buildSlice 22 1 #[(0, Operand.tmp 49)], type := 22, pos := "law.go:200", after := #[{ on := 15, ground := Ground.data }], guard := none }) rfl (fun K' hK => ?_)
 go_simp
 refine hK _ _ ⟨_, _, _, _, _, _, _, _, _, _, _, _, _, _, _, _, _, _, _, g, rfl, ?_⟩
 exact ⟨kp H.f0, kp H.f1, kp H.f2, kp H.f3, kp H.f4, kp H.f5, kp H.f6, kp H.f7, kp H.f8, kp H.f9, kp H.f10, kp H.f11, kp H.f12, kp H.f13, kp H.f14, kp H.f15, kp H.f18, fun h => cells_mk e0 e1 (heap_old' (up1 hb1 hS0.h3)) (heap_old' (up1 hb1 hS0.hb)) (below_alloc (below_step hS0.below hb1) _), (fun h => absurd (H.c15 d15) (by rw [show L.getD 14 false = false from gk h]; decide)), (fun _ h => by rw [gset hL] at h; cases h), fun _ _ => ⟨W, rfl, ⟨hrm, hb1⟩, rfl⟩, (fun h _ => absurd (H.c17 (gk h)) (by rw [hu]; decide)), (fun h => absurd (show L.getD 19 false = true from gk h) (by rw [hN]; decide)), (fun h => absurd (show L.getD 19 false = true from gk h) (by rw [hN]; decide)), fun h => gmono (H.c15 (gk h)), fun _ => gmono (H.c15 d15), fun h => gmono (H.c17 (gk h)), fun h => gmono (H.c19 (gk h))⟩

theorem step17 (w V0 : World) (k : Nat) (l0 : List S42) (s14 s22 : Value) (row14 row22 : Array Value) (c0 : Nat) (b1 b2 : Value) (gb gr g3 g14 g22 gB cap : Nat) (ad : Addr) (A1 : Option Addr) (c1 : Nat) (u5 u6 u7 u8 u9 u10 u11 u12 u13 u14 u15 u16 u17 u18 u19 u20 u21 u22 u23 u24 u25 u26 u27 u28 u29 u30 u31 u32 u33 u53 : Value) {Q : Exit → Act → World → Prop} {L : Array Bool} {a : Act} {W : World} (hI : Inv w V0 k l0 s14 s22 row14 row22 c0 b1 b2 gb gr g3 g14 g22 gB cap ad A1 c1 u5 u6 u7 u8 u9 u10 u11 u12 u13 u14 u15 u16 u17 u18 u19 u20 u21 u22 u23 u24 u25 u26 u27 u28 u29 u30 u31 u32 u33 u53 L a W) (hu : L.getD 17 false = false) (hL : 17 < L.size) (hN : L.getD 19 false = false) (d1 : L.getD 1 false = true) (d16 : L.getD 16 false = true) (hS0 : St w V0 k l0 s14 s22 row14 row22 #[.slice (some ad) l0.length c0, b1, b2] gb gr g3 g14 g22 gB cap) (hk : k < l0.length) (hl : l0.length ≤ 100000000000) (e0 : w.cell? (ad.add (k * 2)) = some (.int .i64 (rd_T42 l0 k).f0)) (e1 : w.cell? ⟨(ad.add (k * 2)).block, (ad.add (k * 2)).off + 1, none⟩ = some (.slice A1 (rd_T42 l0 k).f1.length c1)) :
 wpOp Tryd.prog ops5 Q 17 (fun a' w' => Inv w V0 k l0 s14 s22 row14 row22 c0 b1 b2 gb gr g3 g14 g22 gB cap ad A1 c1 u5 u6 u7 u8 u9 u10 u11 u12 u13 u14 u15 u16 u17 u18 u19 u20 u21 u22 u23 u24 u25 u26 u27 u28 u29 u30 u31 u32 u33 u53 (L.setIfInBounds 17 true) a' w') a W := by
 obtain ⟨x34, x35, x36, x37, x38, x39, x40, x41, x42, x43, x44, x45, x46, x47, x48, x49, x50, x51, x52, g, rfl, H⟩ := hI
 have e1_ := H.f1 d1
 subst e1_
 obtain ⟨W1, rfl, ⟨hrm, hb1⟩, e50⟩ := H.sC d16 hu
 subst e50
 obtain ⟨gB', cap', W2, hrun, x31, x32, xb1, xb2, b1_, b2_, hS2⟩ := St.step hS0 hk hl g hrm hb1
 refine wpOp_step (o := { dst := some 51, op := Op.call { callee := Callee.builtin Builtin.append, args := #[Operand.tmp 35, Operand.tmp 50], argTypes := #[22, 22] }, type := 22, pos := "law.go:200", after := #[{ on := 1, ground := Ground.data }, { on := 16, ground := Ground.data }, { on := 14, ground := Ground.chain }], guard := none }) rfl (fun K' hK => ?_)
 refine step_app_run rfl (.tmp 35) (.tmp 50) 22 rfl rfl _ _ _ _ rfl rfl hrun ?_
 simp only [Act.put, List.setIfInBounds_toArray, List.set_cons_zero, List.set_cons_succ]
 refine hK _ _ ⟨_, _, _, _, _, _, _, _, _, _, _, _, _, _, _, _, _, _, _, g, rfl, ?_⟩
 exact ⟨kp H.f0, kp H.f1, kp H.f2, kp H.f3, kp H.f4, kp H.f5, kp H.f6, kp H.f7, kp H.f8, kp H.f9, kp H.f10, kp H.f11, kp H.f12, kp H.f13, kp H.f14, kp H.f15, kp H.f18, fun h => cells_mk e0 e1 x32 xb2 b2_, (fun h => absurd (H.c16 d16) (by rw [show L.getD 14 false = false from gk h]; decide)), (fun _ h => absurd d16 (by rw [show L.getD 16 false = false from gk h]; decide)), (fun _ h => by rw [gset hL] at h; cases h), fun _ _ => ⟨gB', cap', rfl, hS2⟩, (fun h => absurd (show L.getD 19 false = true from gk h) (by rw [hN]; decide)), (fun h => absurd (show L.getD 19 false = true from gk h) (by rw [hN]; decide)), fun h => gmono (H.c15 (gk h)), fun h => gmono (H.c16 (gk h)), fun _ => gmono (d16), fun h => gmono (H.c19 (gk h))⟩

theorem step18 (w V0 : World) (k : Nat) (l0 : List S42) (s14 s22 : Value) (row14 row22 : Array Value) (c0 : Nat) (b1 b2 : Value) (gb gr g3 g14 g22 gB cap : Nat) (ad : Addr) (A1 : Option Addr) (c1 : Nat) (u5 u6 u7 u8 u9 u10 u11 u12 u13 u14 u15 u16 u17 u18 u19 u20 u21 u22 u23 u24 u25 u26 u27 u28 u29 u30 u31 u32 u33 u53 : Value) {Q : Exit → Act → World → Prop} {L : Array Bool} {a : Act} {W : World} (hI : Inv w V0 k l0 s14 s22 row14 row22 c0 b1 b2 gb gr g3 g14 g22 gB cap ad A1 c1 u5 u6 u7 u8 u9 u10 u11 u12 u13 u14 u15 u16 u17 u18 u19 u20 u21 u22 u23 u24 u25 u26 u27 u28 u29 u30 u31 u32 u33 u53 L a W) (hu : L.getD 18 false = false) (hL : 18 < L.size) (hN : L.getD 19 false = false) :
 wpOp Tryd.prog ops5 Q 18 (fun a' w' => Inv w V0 k l0 s14 s22 row14 row22 c0 b1 b2 gb gr g3 g14 g22 gB cap ad A1 c1 u5 u6 u7 u8 u9 u10 u11 u12 u13 u14 u15 u16 u17 u18 u19 u20 u21 u22 u23 u24 u25 u26 u27 u28 u29 u30 u31 u32 u33 u53 (L.setIfInBounds 18 true) a' w') a W := by
 obtain ⟨x34, x35, x36, x37, x38, x39, x40, x41, x42, x43, x44, x45, x46, x47, x48, x49, x50, x51, x52, g, rfl, H⟩ := hI
 refine wpOp_step (o := { dst := some 52, op := Op.fieldAddr 26 (Operand.tmp 3) 0, type := 0, pos := "law.go:200", after := #[{ on := 0, ground := Ground.phase }, { on := 1, ground := Ground.phase }, { on := 2, ground := Ground.phase }, { on := 3, ground := Ground.phase }, { on := 4, ground := Ground.phase }, { on := 5, ground := Ground.phase }, { on := 6, ground := Ground.phase }, { on := 7, ground := Ground.phase }, { on := 8, ground := Ground.phase }, { on := 9, ground := Ground.phase }, { on := 10, ground := Ground.phase }, { on := 11, ground := Ground.phase }, { on := 12, ground := Ground.phase }, { on := 13, ground := Ground.phase }, { on := 14, ground := Ground.phase }, { on := 15, ground := Ground.phase }, { on := 16, ground := Ground.phase }, { on := 17, ground := Ground.phase }], guard := none }) rfl (fun K' hK => ?_)
 go_simp
 refine hK _ _ ⟨_, _, _, _, _, _, _, _, _, _, _, _, _, _, _, _, _, _, _, g, rfl, ?_⟩
 exact ⟨kp H.f0, kp H.f1, kp H.f2, kp H.f3, kp H.f4, kp H.f5, kp H.f6, kp H.f7, kp H.f8, kp H.f9, kp H.f10, kp H.f11, kp H.f12, kp H.f13, kp H.f14, kp H.f15, fun _ => rfl, fun h => H.cells hN, kp H.sA, fun h h2 => H.sB (gk h) (gk h2), fun h h2 => H.sC (gk h) (gk h2), fun h h2 => H.sD (gk h) (gk h2), (fun h => absurd (show L.getD 19 false = true from gk h) (by rw [hN]; decide)), (fun h => absurd (show L.getD 19 false = true from gk h) (by rw [hN]; decide)), fun h => gmono (H.c15 (gk h)), fun h => gmono (H.c16 (gk h)), fun h => gmono (H.c17 (gk h)), fun h => gmono (H.c19 (gk h))⟩

theorem step19 (w V0 : World) (k : Nat) (l0 : List S42) (s14 s22 : Value) (row14 row22 : Array Value) (c0 : Nat) (b1 b2 : Value) (gb gr g3 g14 g22 gB cap : Nat) (ad : Addr) (A1 : Option Addr) (c1 : Nat) (u5 u6 u7 u8 u9 u10 u11 u12 u13 u14 u15 u16 u17 u18 u19 u20 u21 u22 u23 u24 u25 u26 u27 u28 u29 u30 u31 u32 u33 u53 : Value) {Q : Exit → Act → World → Prop} {L : Array Bool} {a : Act} {W : World} (hI : Inv w V0 k l0 s14 s22 row14 row22 c0 b1 b2 gb gr g3 g14 g22 gB cap ad A1 c1 u5 u6 u7 u8 u9 u10 u11 u12 u13 u14 u15 u16 u17 u18 u19 u20 u21 u22 u23 u24 u25 u26 u27 u28 u29 u30 u31 u32 u33 u53 L a W) (hu : L.getD 19 false = false) (hL : 19 < L.size) (hN : L.getD 19 false = false) (d17 : L.getD 17 false = true) (d18 : L.getD 18 false = true) (hall : ∀ j, j < 19 → L.getD j false = true) :
 wpOp Tryd.prog ops5 Q 19 (fun a' w' => Inv w V0 k l0 s14 s22 row14 row22 c0 b1 b2 gb gr g3 g14 g22 gB cap ad A1 c1 u5 u6 u7 u8 u9 u10 u11 u12 u13 u14 u15 u16 u17 u18 u19 u20 u21 u22 u23 u24 u25 u26 u27 u28 u29 u30 u31 u32 u33 u53 (L.setIfInBounds 19 true) a' w') a W := by
 obtain ⟨x34, x35, x36, x37, x38, x39, x40, x41, x42, x43, x44, x45, x46, x47, x48, x49, x50, x51, x52, g, rfl, H⟩ := hI
 have e18_ := H.f18 d18
 subst e18_
 obtain ⟨q0, y0, q1, q2, q3⟩ := H.cells hN
 obtain ⟨gB', cap', e51, hS2⟩ := H.sD d17 hu
 subst e51
 refine wpOp_step (o := { dst := none, op := Op.store 22 (Operand.tmp 52) (Operand.tmp 51), type := 0, pos := "law.go:200", after := #[{ on := 18, ground := Ground.data }, { on := 17, ground := Ground.data }, { on := 17, ground := Ground.chain }, { on := 0, ground := Ground.phase }, { on := 1, ground := Ground.phase }, { on := 2, ground := Ground.phase }, { on := 3, ground := Ground.phase }, { on := 4, ground := Ground.phase }, { on := 5, ground := Ground.phase }, { on := 6, ground := Ground.phase }, { on := 7, ground := Ground.phase }, { on := 8, ground := Ground.phase }, { on := 9, ground := Ground.phase }, { on := 10, ground := Ground.phase }, { on := 11, ground := Ground.phase }, { on := 12, ground := Ground.phase }, { on := 13, ground := Ground.phase }, { on := 14, ground := Ground.phase }, { on := 15, ground := Ground.phase }, { on := 16, ground := Ground.phase }, { on := 17, ground := Ground.phase }], guard := none }) rfl (fun K' hK => ?_)
 go_simp
 refine hK _ _ ⟨_, _, _, _, _, _, _, _, _, _, _, _, _, _, _, _, _, _, _, g, rfl, ?_⟩
 exact ⟨kp H.f0, kp H.f1, kp H.f2, kp H.f3, kp H.f4, kp H.f5, kp H.f6, kp H.f7, kp H.f8, kp H.f9, kp H.f10, kp H.f11, kp H.f12, kp H.f13, kp H.f14, kp H.f15, kp H.f18, (fun h => by rw [gset hL] at h; cases h), (fun h => absurd (H.c16 (H.c17 d17)) (by rw [show L.getD 14 false = false from gk h]; decide)), (fun _ h => absurd (H.c17 d17) (by rw [show L.getD 16 false = false from gk h]; decide)), (fun _ h => absurd d17 (by rw [show L.getD 17 false = false from gk h]; decide)), (fun _ h => by rw [gset hL] at h; cases h), fun _ => ⟨gB', cap', hS2⟩, fun _ j hj => gmono (hall j hj), fun h => gmono (H.c15 (gk h)), fun h => gmono (H.c16 (gk h)), fun h => gmono (H.c17 (gk h)), fun _ => gmono (d17)⟩

theorem ops5_cases {i : Nat} (h : i < 20) : i = 0 ∨ i = 1 ∨ i = 2 ∨ i = 3 ∨ i = 4 ∨ i = 5 ∨ i = 6 ∨ i = 7 ∨ i = 8 ∨ i = 9 ∨ i = 10 ∨ i = 11 ∨ i = 12 ∨ i = 13 ∨ i = 14 ∨ i = 15 ∨ i = 16 ∨ i = 17 ∨ i = 18 ∨ i = 19 := by omega
theorem ops5_ac : ∀ (i : Nat) (o : Oper), ops5[i]? = some o → ∀ e ∈ o.after, e.on < i := by
 intro i o ho
 have hi : i < 20 := (Array.getElem?_eq_some_iff.1 ho).1
 rcases ops5_cases hi with rfl | rfl | rfl | rfl | rfl | rfl | rfl | rfl | rfl | rfl | rfl | rfl | rfl | rfl | rfl | rfl | rfl | rfl | rfl | rfl <;> (obtain rfl := Option.some.inj ho; decide)

theorem region5 (w V0 : World) (k : Nat) (l0 : List S42) (s14 s22 : Value) (row14 row22 : Array Value) (c0 : Nat) (b1 b2 : Value) (gb gr g3 g14 g22 gB cap : Nat) (ad : Addr) (A1 : Option Addr) (c1 : Nat) (u5 u6 u7 u8 u9 u10 u11 u12 u13 u14 u15 u16 u17 u18 u19 u20 u21 u22 u23 u24 u25 u26 u27 u28 u29 u30 u31 u32 u33 u53 x34 x35 x36 x37 x38 x39 x40 x41 x42 x43 x44 x45 x46 x47 x48 x49 x50 x51 x52 : Value) {Q : Exit → Act → World → Prop}
 (hk : k < l0.length) (hl : l0.length ≤ 100000000000) (hS0 : St w V0 k l0 s14 s22 row14 row22 #[.slice (some ad) l0.length c0, b1, b2] gb gr g3 g14 g22 gB cap) (hC : kb.C w A1 (rd_T42 l0 k).f1.length (rd_T42 l0 k).f1) (hc : (rd_T42 l0 k).f1.length ≤ c1) (hln : (rd_T42 l0 k).f1.length ≤ 100000000000)
 (e0 : w.cell? (ad.add (k * 2)) = some (.int .i64 (rd_T42 l0 k).f0)) (e1 : w.cell? ⟨(ad.add (k * 2)).block, (ad.add (k * 2)).off + 1, none⟩ = some (.slice A1 (rd_T42 l0 k).f1.length c1))
 (hQ : ∀ (x34 x35 x36 x37 x38 x39 x40 x41 x42 x43 x44 x45 x46 x47 x48 x49 x50 x51 x52 : Value) (gB' cap' : Nat) (W : World), St w W (k + 1) l0 s14 s22 row14 row22 #[.slice (some ad) l0.length c0, b1, b2] gb gr g3 g14 g22 gB' cap' → ∀ a', a' = Act.mk #[.agg #[.slice (some ad) l0.length c0, b1, b2], .pointer (some ⟨gb, 0, none⟩), .pointer (some ⟨gr, 0, none⟩), .pointer (some ⟨g3, 0, none⟩), .int .i64 (k : Int), u5, u6, u7, u8, u9, u10, u11, u12, u13, u14, u15, u16, u17, u18, u19, u20, u21, u22, u23, u24, u25, u26, u27, u28, u29, u30, u31, u32, u33, x34, x35, x36, x37, x38, x39, x40, x41, x42, x43, x44, x45, x46, x47, x48, x49, x50, x51, x52, u53] [] → Q .normal a' W) {a : Act} (ha : a = Act.mk #[.agg #[.slice (some ad) l0.length c0, b1, b2], .pointer (some ⟨gb, 0, none⟩), .pointer (some ⟨gr, 0, none⟩), .pointer (some ⟨g3, 0, none⟩), .int .i64 (k : Int), u5, u6, u7, u8, u9, u10, u11, u12, u13, u14, u15, u16, u17, u18, u19, u20, u21, u22, u23, u24, u25, u26, u27, u28, u29, u30, u31, u32, u33, x34, x35, x36, x37, x38, x39, x40, x41, x42, x43, x44, x45, x46, x47, x48, x49, x50, x51, x52, u53] []) : (Code.region 5 ops5 true).wp Tryd.prog Q a V0 := by
 subst ha
 have hS1 : St w V0.drew k l0 s14 s22 row14 row22 #[.slice (some ad) l0.length c0, b1, b2] gb gr g3 g14 g22 gB cap := { R := Kd.R_below hS0.R (below_drew1 (Below.refl _ _)), h3 := hS0.h3, hb := hS0.hb, hr := hS0.hr, h14 := hS0.h14, h22 := hS0.h22, nb := hS0.nb, nr := hS0.nr, base := hS0.base, ge3 := hS0.ge3, ger := hS0.ger, below := below_drew1 hS0.below }
 have pn := hS1
 refine wp_region_any (by kernel_rfl) (wpAny_inv (Inv w V0.drew k l0 s14 s22 row14 row22 c0 b1 b2 gb gr g3 g14 g22 gB cap ad A1 c1 u5 u6 u7 u8 u9 u10 u11 u12 u13 u14 u15 u16 u17 u18 u19 u20 u21 u22 u23 u24 u25 u26 u27 u28 u29 u30 u31 u32 u33 u53) ops5_ac ?_ ?_ 20 (Array.replicate 20 false) _ _ rfl (by decide) ?_)
 ·intro L a W i o hI ho hu hd
  have hi : i < 20 := (Array.getElem?_eq_some_iff.1 ho).1
  have hL : i < L.size := by
   rcases Nat.lt_or_ge i L.size with h | h
   ·exact h
   rw [show L.getD i true = true by simp [Array.getD, Nat.not_lt.2 h]] at hu; cases hu
  have hu' : L.getD i false = false := by simp [Array.getD, hL] at hu ⊢; exact hu
  have hd2 : ∀ (k : Nat) (e : Edge), o.after[k]? = some e → Region.binds .any e = true → L.getD e.on false = true := fun k e he hb => hd e (Array.mem_of_getElem? he) hb
  have hN : L.getD 19 false = false := by
   rcases Bool.eq_false_or_eq_true (L.getD 19 false) with h | h
   ·exfalso
    have hall := hI
    obtain ⟨x34, x35, x36, x37, x38, x39, x40, x41, x42, x43, x44, x45, x46, x47, x48, x49, x50, x51, x52, g, _, H⟩ := hall
    by_cases h19 : i = 19
    ·subst h19; rw [hu'] at h; cases h
    have := H.all19 h i (by omega)
    rw [hu'] at this; cases this
   exact h
  have hall : i = 19 → ∀ j, j < 19 → L.getD j false = true := by
   rintro rfl
   obtain rfl := Option.some.inj ho
   intro j hj
   have hj2 : j = 0 ∨ j = 1 ∨ j = 2 ∨ j = 3 ∨ j = 4 ∨ j = 5 ∨ j = 6 ∨ j = 7 ∨ j = 8 ∨ j = 9 ∨ j = 10 ∨ j = 11 ∨ j = 12 ∨ j = 13 ∨ j = 14 ∨ j = 15 ∨ j = 16 ∨ j = 17 ∨ j = 18 := by omega
   rcases hj2 with rfl | rfl | rfl | rfl | rfl | rfl | rfl | rfl | rfl | rfl | rfl | rfl | rfl | rfl | rfl | rfl | rfl | rfl | rfl
   ·exact hd2 3 ⟨0, .phase⟩ rfl rfl
   ·exact hd2 4 ⟨1, .phase⟩ rfl rfl
   ·exact hd2 5 ⟨2, .phase⟩ rfl rfl
   ·exact hd2 6 ⟨3, .phase⟩ rfl rfl
   ·exact hd2 7 ⟨4, .phase⟩ rfl rfl
   ·exact hd2 8 ⟨5, .phase⟩ rfl rfl
   ·exact hd2 9 ⟨6, .phase⟩ rfl rfl
   ·exact hd2 10 ⟨7, .phase⟩ rfl rfl
   ·exact hd2 11 ⟨8, .phase⟩ rfl rfl
   ·exact hd2 12 ⟨9, .phase⟩ rfl rfl
   ·exact hd2 13 ⟨10, .phase⟩ rfl rfl
   ·exact hd2 14 ⟨11, .phase⟩ rfl rfl
   ·exact hd2 15 ⟨12, .phase⟩ rfl rfl
   ·exact hd2 16 ⟨13, .phase⟩ rfl rfl
   ·exact hd2 17 ⟨14, .phase⟩ rfl rfl
   ·exact hd2 18 ⟨15, .phase⟩ rfl rfl
   ·exact hd2 19 ⟨16, .phase⟩ rfl rfl
   ·exact hd2 1 ⟨17, .data⟩ rfl rfl
   exact hd2 0 ⟨18, .data⟩ rfl rfl
  rcases ops5_cases hi with rfl | rfl | rfl | rfl | rfl | rfl | rfl | rfl | rfl | rfl | rfl | rfl | rfl | rfl | rfl | rfl | rfl | rfl | rfl | rfl <;> obtain rfl := Option.some.inj ho
  ·exact step0 w V0.drew k l0 s14 s22 row14 row22 c0 b1 b2 gb gr g3 g14 g22 gB cap ad A1 c1 u5 u6 u7 u8 u9 u10 u11 u12 u13 u14 u15 u16 u17 u18 u19 u20 u21 u22 u23 u24 u25 u26 u27 u28 u29 u30 u31 u32 u33 u53 hI hu' hL hN
  ·exact step1 w V0.drew k l0 s14 s22 row14 row22 c0 b1 b2 gb gr g3 g14 g22 gB cap ad A1 c1 u5 u6 u7 u8 u9 u10 u11 u12 u13 u14 u15 u16 u17 u18 u19 u20 u21 u22 u23 u24 u25 u26 u27 u28 u29 u30 u31 u32 u33 u53 hI hu' hL hN (hd2 0 ⟨0, .data⟩ rfl rfl)
  ·exact step2 w V0.drew k l0 s14 s22 row14 row22 c0 b1 b2 gb gr g3 g14 g22 gB cap ad A1 c1 u5 u6 u7 u8 u9 u10 u11 u12 u13 u14 u15 u16 u17 u18 u19 u20 u21 u22 u23 u24 u25 u26 u27 u28 u29 u30 u31 u32 u33 u53 hI hu' hL hN
  ·exact step3 w V0.drew k l0 s14 s22 row14 row22 c0 b1 b2 gb gr g3 g14 g22 gB cap ad A1 c1 u5 u6 u7 u8 u9 u10 u11 u12 u13 u14 u15 u16 u17 u18 u19 u20 u21 u22 u23 u24 u25 u26 u27 u28 u29 u30 u31 u32 u33 u53 hI hu' hL hN (hd2 0 ⟨2, .data⟩ rfl rfl)
  ·exact step4 w V0.drew k l0 s14 s22 row14 row22 c0 b1 b2 gb gr g3 g14 g22 gB cap ad A1 c1 u5 u6 u7 u8 u9 u10 u11 u12 u13 u14 u15 u16 u17 u18 u19 u20 u21 u22 u23 u24 u25 u26 u27 u28 u29 u30 u31 u32 u33 u53 hI hu' hL hN
  ·exact step5 w V0.drew k l0 s14 s22 row14 row22 c0 b1 b2 gb gr g3 g14 g22 gB cap ad A1 c1 u5 u6 u7 u8 u9 u10 u11 u12 u13 u14 u15 u16 u17 u18 u19 u20 u21 u22 u23 u24 u25 u26 u27 u28 u29 u30 u31 u32 u33 u53 hI hu' hL hN (hd2 0 ⟨3, .data⟩ rfl rfl) (hd2 1 ⟨4, .data⟩ rfl rfl) (by omega)
  ·exact step6 w V0.drew k l0 s14 s22 row14 row22 c0 b1 b2 gb gr g3 g14 g22 gB cap ad A1 c1 u5 u6 u7 u8 u9 u10 u11 u12 u13 u14 u15 u16 u17 u18 u19 u20 u21 u22 u23 u24 u25 u26 u27 u28 u29 u30 u31 u32 u33 u53 hI hu' hL hN (hd2 0 ⟨5, .data⟩ rfl rfl)
  ·exact step7 w V0.drew k l0 s14 s22 row14 row22 c0 b1 b2 gb gr g3 g14 g22 gB cap ad A1 c1 u5 u6 u7 u8 u9 u10 u11 u12 u13 u14 u15 u16 u17 u18 u19 u20 u21 u22 u23 u24 u25 u26 u27 u28 u29 u30 u31 u32 u33 u53 hI hu' hL hN (hd2 0 ⟨6, .data⟩ rfl rfl)
  ·exact step8 w V0.drew k l0 s14 s22 row14 row22 c0 b1 b2 gb gr g3 g14 g22 gB cap ad A1 c1 u5 u6 u7 u8 u9 u10 u11 u12 u13 u14 u15 u16 u17 u18 u19 u20 u21 u22 u23 u24 u25 u26 u27 u28 u29 u30 u31 u32 u33 u53 hI hu' hL hN
  ·exact step9 w V0.drew k l0 s14 s22 row14 row22 c0 b1 b2 gb gr g3 g14 g22 gB cap ad A1 c1 u5 u6 u7 u8 u9 u10 u11 u12 u13 u14 u15 u16 u17 u18 u19 u20 u21 u22 u23 u24 u25 u26 u27 u28 u29 u30 u31 u32 u33 u53 hI hu' hL hN (hd2 0 ⟨8, .data⟩ rfl rfl)
  ·exact step10 w V0.drew k l0 s14 s22 row14 row22 c0 b1 b2 gb gr g3 g14 g22 gB cap ad A1 c1 u5 u6 u7 u8 u9 u10 u11 u12 u13 u14 u15 u16 u17 u18 u19 u20 u21 u22 u23 u24 u25 u26 u27 u28 u29 u30 u31 u32 u33 u53 hI hu' hL hN
  ·exact step11 w V0.drew k l0 s14 s22 row14 row22 c0 b1 b2 gb gr g3 g14 g22 gB cap ad A1 c1 u5 u6 u7 u8 u9 u10 u11 u12 u13 u14 u15 u16 u17 u18 u19 u20 u21 u22 u23 u24 u25 u26 u27 u28 u29 u30 u31 u32 u33 u53 hI hu' hL hN (hd2 0 ⟨9, .data⟩ rfl rfl) (hd2 1 ⟨10, .data⟩ rfl rfl) (by omega)
  ·exact step12 w V0.drew k l0 s14 s22 row14 row22 c0 b1 b2 gb gr g3 g14 g22 gB cap ad A1 c1 u5 u6 u7 u8 u9 u10 u11 u12 u13 u14 u15 u16 u17 u18 u19 u20 u21 u22 u23 u24 u25 u26 u27 u28 u29 u30 u31 u32 u33 u53 hI hu' hL hN (hd2 0 ⟨11, .data⟩ rfl rfl)
  ·exact step13 w V0.drew k l0 s14 s22 row14 row22 c0 b1 b2 gb gr g3 g14 g22 gB cap ad A1 c1 u5 u6 u7 u8 u9 u10 u11 u12 u13 u14 u15 u16 u17 u18 u19 u20 u21 u22 u23 u24 u25 u26 u27 u28 u29 u30 u31 u32 u33 u53 hI hu' hL hN (hd2 0 ⟨12, .data⟩ rfl rfl)
  ·exact step14 w V0.drew k l0 s14 s22 row14 row22 c0 b1 b2 gb gr g3 g14 g22 gB cap ad A1 c1 u5 u6 u7 u8 u9 u10 u11 u12 u13 u14 u15 u16 u17 u18 u19 u20 u21 u22 u23 u24 u25 u26 u27 u28 u29 u30 u31 u32 u33 u53 hI hu' hL hN (hd2 0 ⟨13, .data⟩ rfl rfl) hS1 hC hc hln e0 e1
  ·exact step15 w V0.drew k l0 s14 s22 row14 row22 c0 b1 b2 gb gr g3 g14 g22 gB cap ad A1 c1 u5 u6 u7 u8 u9 u10 u11 u12 u13 u14 u15 u16 u17 u18 u19 u20 u21 u22 u23 u24 u25 u26 u27 u28 u29 u30 u31 u32 u33 u53 hI hu' hL hN (hd2 0 ⟨7, .data⟩ rfl rfl) (hd2 1 ⟨14, .data⟩ rfl rfl)
  ·exact step16 w V0.drew k l0 s14 s22 row14 row22 c0 b1 b2 gb gr g3 g14 g22 gB cap ad A1 c1 u5 u6 u7 u8 u9 u10 u11 u12 u13 u14 u15 u16 u17 u18 u19 u20 u21 u22 u23 u24 u25 u26 u27 u28 u29 u30 u31 u32 u33 u53 hI hu' hL hN (hd2 0 ⟨15, .data⟩ rfl rfl) hS1 e0 e1
  ·exact step17 w V0.drew k l0 s14 s22 row14 row22 c0 b1 b2 gb gr g3 g14 g22 gB cap ad A1 c1 u5 u6 u7 u8 u9 u10 u11 u12 u13 u14 u15 u16 u17 u18 u19 u20 u21 u22 u23 u24 u25 u26 u27 u28 u29 u30 u31 u32 u33 u53 hI hu' hL hN (hd2 0 ⟨1, .data⟩ rfl rfl) (hd2 1 ⟨16, .data⟩ rfl rfl) hS1 hk hl e0 e1
  ·exact step18 w V0.drew k l0 s14 s22 row14 row22 c0 b1 b2 gb gr g3 g14 g22 gB cap ad A1 c1 u5 u6 u7 u8 u9 u10 u11 u12 u13 u14 u15 u16 u17 u18 u19 u20 u21 u22 u23 u24 u25 u26 u27 u28 u29 u30 u31 u32 u33 u53 hI hu' hL hN
  exact step19 w V0.drew k l0 s14 s22 row14 row22 c0 b1 b2 gb gr g3 g14 g22 gB cap ad A1 c1 u5 u6 u7 u8 u9 u10 u11 u12 u13 u14 u15 u16 u17 u18 u19 u20 u21 u22 u23 u24 u25 u26 u27 u28 u29 u30 u31 u32 u33 u53 hI hu' hL hN (hd2 1 ⟨17, .data⟩ rfl rfl) (hd2 0 ⟨18, .data⟩ rfl rfl) (hall rfl)
 ·rintro L a W hL ⟨x34, x35, x36, x37, x38, x39, x40, x41, x42, x43, x44, x45, x46, x47, x48, x49, x50, x51, x52, g, rfl, H⟩
  obtain ⟨gB', cap', hS⟩ := H.sE (hL 19 (by decide))
  exact hQ _ _ _ _ _ _ _ _ _ _ _ _ _ _ _ _ _ _ _ gB' cap' W hS _ rfl
 refine ⟨_, _, _, _, _, _, _, _, _, _, _, _, _, _, _, _, _, _, _, 0, rfl, ?_⟩
 exact {
  f0 := fun h => by cases h
  f1 := fun h => by cases h
  f2 := fun h => by cases h
  f3 := fun h => by cases h
  f4 := fun h => by cases h
  f5 := fun h => by cases h
  f6 := fun h => by cases h
  f7 := fun h => by cases h
  f8 := fun h => by cases h
  f9 := fun h => by cases h
  f10 := fun h => by cases h
  f11 := fun h => by cases h
  f12 := fun h => by cases h
  f13 := fun h => by cases h
  f14 := fun h => by cases h
  f15 := fun h => by cases h
  f18 := fun h => by cases h
  cells := fun _ => cells_mk e0 e1 hS1.h3 hS1.hb hS1.below
  sA := fun _ => rfl
  sB := fun h => by cases h
  sC := fun h => by cases h
  sD := fun h => by cases h
  sE := fun h => by cases h
  all19 := fun h => by cases h
  c15 := fun h => by cases h
  c16 := fun h => by cases h
  c17 := fun h => by cases h
  c19 := fun h => by cases h }
end Go.Proofs.YtbffmfeflcdgbaaDoor.Obj5
