/- The region of asm.Check's second loop that draws its order: 36 operations, most behind a guard. By one condition that each operation keeps. Printed by wip/tools/genreg15.py. -/
import Derived.Test.YtbffmfeflcdgbaaDoorAsmMp
import Derived.Test.YtbffmfeflcdgbaaDoorAsmReg
set_option linter.unusedVariables false
set_option linter.unusedSimpArgs false
namespace Go.Proofs.YtbffmfeflcdgbaaDoor.Chk15
open Go Go.RowKit Go.Maps Go.WideMaps
open Go.Proofs.YtbffmfeflcdgbaaDoorW.PrintWords Go.Proofs.YtbffmfeflcdgbaaDoor.POb Go.Proofs.YtbffmfeflcdgbaaDoor.Nm Go.Proofs.YtbffmfeflcdgbaaDoor.Chk
open Go.Proofs.YtbffmfeflcdgbaaDoor.Obj (wpAny_inv gsn gmono gset)

theorem put {L : Array Bool} {xs V : Array Value} {i : Nat} {v : Value} (H : ∀ j, L.getD j false = true → xs.getD j undef = V.getD j undef) (hi : i < xs.size) (hv : V.getD i undef = v) :
 ∀ j, (L.setIfInBounds i true).getD j false = true → (xs.setIfInBounds i v).getD j undef = V.getD j undef := by
 intro j h
 by_cases e : i = j
 ·subst e; rw [hv]; simp [Array.getD, hi]
 rw [gsn e] at h
 rw [← H j h]
 by_cases hj : j < xs.size
 ·have := Array.getElem_setIfInBounds (xs := xs) (i := i) (a := v) (j := j) hj
  simp [Array.getD, hj, this, e]
 simp [Array.getD, hj]
def o0 : Oper := { dst := some 64, op := Op.fieldAddr 47 (Operand.tmp 8) 0, type := 0, pos := "asm.go:220", after := #[], guard := none }
def o1 : Oper := { dst := some 65, op := Op.load 9 (Operand.tmp 64), type := 9, pos := "asm.go:220", after := #[{ on := 0, ground := Ground.data }], guard := none }
def o2 : Oper := { dst := some 66, op := Op.call { callee := Callee.value (Operand.func 17), args := #[Operand.tmp 65], argTypes := #[9] }, type := 4, pos := "asm.go:220", after := #[{ on := 1, ground := Ground.data }], guard := none }
def o3 : Oper := { dst := some 67, op := Op.unOp UnOp.not 4 (Operand.tmp 66), type := 4, pos := "asm.go:220", after := #[{ on := 2, ground := Ground.data }], guard := none }
def o4 : Oper := { dst := some 68, op := Op.move (Operand.tmp 67), type := 4, pos := "asm.go:220", after := #[{ on := 3, ground := Ground.data }, { on := 2, ground := Ground.chain }], guard := none }
def o5 : Oper := { dst := some 69, op := Op.fieldAddr 47 (Operand.tmp 8) 1, type := 0, pos := "asm.go:220", after := #[{ on := 4, ground := Ground.guard }], guard := some (4, false) }
def o6 : Oper := { dst := some 70, op := Op.load 3 (Operand.tmp 69), type := 3, pos := "asm.go:220", after := #[{ on := 5, ground := Ground.data }, { on := 4, ground := Ground.guard }], guard := some (4, false) }
def o7 : Oper := { dst := some 71, op := Op.binOp BinOp.lss 3 (Operand.tmp 70) (Operand.const (Value.int IntKind.i64 0)) 3, type := 4, pos := "asm.go:220", after := #[{ on := 6, ground := Ground.data }, { on := 4, ground := Ground.guard }], guard := some (4, false) }
def o8 : Oper := { dst := some 72, op := Op.pick (Operand.tmp 68) (Operand.const (Value.bool true)) (Operand.tmp 71), type := 4, pos := "asm.go:220", after := #[{ on := 4, ground := Ground.data }, { on := 7, ground := Ground.data }], guard := none }
def o9 : Oper := { dst := some 73, op := Op.move (Operand.tmp 72), type := 4, pos := "asm.go:220", after := #[{ on := 8, ground := Ground.data }, { on := 4, ground := Ground.chain }], guard := none }
def o10 : Oper := { dst := some 74, op := Op.fieldAddr 47 (Operand.tmp 8) 1, type := 0, pos := "asm.go:220", after := #[{ on := 9, ground := Ground.guard }], guard := some (9, false) }
def o11 : Oper := { dst := some 75, op := Op.load 3 (Operand.tmp 74), type := 3, pos := "asm.go:220", after := #[{ on := 10, ground := Ground.data }, { on := 9, ground := Ground.guard }], guard := some (9, false) }
def o12 : Oper := { dst := some 76, op := Op.binOp BinOp.geq 3 (Operand.tmp 75) (Operand.const (Value.int IntKind.i64 65536)) 3, type := 4, pos := "asm.go:220", after := #[{ on := 11, ground := Ground.data }, { on := 9, ground := Ground.guard }], guard := some (9, false) }
def o13 : Oper := { dst := some 77, op := Op.pick (Operand.tmp 73) (Operand.const (Value.bool true)) (Operand.tmp 76), type := 4, pos := "asm.go:220", after := #[{ on := 9, ground := Ground.data }, { on := 12, ground := Ground.data }], guard := none }
def o14 : Oper := { dst := some 78, op := Op.move (Operand.tmp 77), type := 4, pos := "asm.go:220", after := #[{ on := 13, ground := Ground.data }, { on := 9, ground := Ground.chain }], guard := none }
def o15 : Oper := { dst := some 79, op := Op.move (Operand.tmp 6), type := 45, pos := "asm.go:220", after := #[{ on := 14, ground := Ground.guard }], guard := some (14, false) }
def o16 : Oper := { dst := some 80, op := Op.fieldAddr 47 (Operand.tmp 8) 0, type := 0, pos := "asm.go:220", after := #[{ on := 14, ground := Ground.guard }], guard := some (14, false) }
def o17 : Oper := { dst := some 81, op := Op.load 9 (Operand.tmp 80), type := 9, pos := "asm.go:220", after := #[{ on := 16, ground := Ground.data }, { on := 14, ground := Ground.guard }], guard := some (14, false) }
def o18 : Oper := { dst := some 82, op := Op.lookup 45 (Operand.tmp 79) (Operand.tmp 81) false, type := 3, pos := "asm.go:220", after := #[{ on := 15, ground := Ground.data }, { on := 17, ground := Ground.data }, { on := 14, ground := Ground.guard }], guard := some (14, false) }
def o19 : Oper := { dst := some 83, op := Op.binOp BinOp.gtr 3 (Operand.tmp 82) (Operand.const (Value.int IntKind.i64 0)) 3, type := 4, pos := "asm.go:220", after := #[{ on := 18, ground := Ground.data }, { on := 14, ground := Ground.guard }], guard := some (14, false) }
def o20 : Oper := { dst := some 84, op := Op.pick (Operand.tmp 78) (Operand.const (Value.bool true)) (Operand.tmp 83), type := 4, pos := "asm.go:220", after := #[{ on := 14, ground := Ground.data }, { on := 19, ground := Ground.data }], guard := none }
def o21 : Oper := { dst := some 85, op := Op.move (Operand.tmp 84), type := 4, pos := "asm.go:220", after := #[{ on := 20, ground := Ground.data }, { on := 14, ground := Ground.chain }], guard := none }
def o22 : Oper := { dst := some 86, op := Op.move (Operand.tmp 7), type := 3, pos := "asm.go:220", after := #[{ on := 21, ground := Ground.guard }], guard := some (21, false) }
def o23 : Oper := { dst := some 87, op := Op.binOp BinOp.gtr 3 (Operand.tmp 86) (Operand.const (Value.int IntKind.i64 0)) 3, type := 4, pos := "asm.go:220", after := #[{ on := 22, ground := Ground.data }, { on := 21, ground := Ground.guard }], guard := some (21, false) }
def o24 : Oper := { dst := some 88, op := Op.move (Operand.tmp 87), type := 4, pos := "asm.go:220", after := #[{ on := 23, ground := Ground.data }, { on := 21, ground := Ground.chain }, { on := 21, ground := Ground.guard }], guard := some (21, false) }
def o25 : Oper := { dst := some 89, op := Op.fieldAddr 26 (Operand.tmp 1) 2, type := 0, pos := "asm.go:220", after := #[{ on := 24, ground := Ground.guard }], guard := some (24, true) }
def o26 : Oper := { dst := some 90, op := Op.load 24 (Operand.tmp 89), type := 24, pos := "asm.go:220", after := #[{ on := 25, ground := Ground.data }, { on := 24, ground := Ground.guard }], guard := some (24, true) }
def o27 : Oper := { dst := some 91, op := Op.move (Operand.tmp 7), type := 3, pos := "asm.go:220", after := #[{ on := 24, ground := Ground.guard }], guard := some (24, true) }
def o28 : Oper := { dst := some 92, op := Op.binOp BinOp.sub 3 (Operand.tmp 91) (Operand.const (Value.int IntKind.i64 1)) 3, type := 3, pos := "asm.go:220", after := #[{ on := 27, ground := Ground.data }, { on := 24, ground := Ground.guard }], guard := some (24, true) }
def o29 : Oper := { dst := some 93, op := Op.indexAddr 24 (Operand.tmp 90) (Operand.tmp 92), type := 0, pos := "asm.go:220", after := #[{ on := 26, ground := Ground.data }, { on := 28, ground := Ground.data }, { on := 24, ground := Ground.guard }], guard := some (24, true) }
def o30 : Oper := { dst := some 94, op := Op.load 47 (Operand.tmp 93), type := 47, pos := "asm.go:220", after := #[{ on := 29, ground := Ground.data }, { on := 24, ground := Ground.guard }], guard := some (24, true) }
def o31 : Oper := { dst := some 95, op := Op.load 47 (Operand.tmp 8), type := 47, pos := "asm.go:220", after := #[{ on := 24, ground := Ground.guard }], guard := some (24, true) }
def o32 : Oper := { dst := some 96, op := Op.call { callee := Callee.value (Operand.func 18), args := #[Operand.tmp 94, Operand.tmp 95], argTypes := #[47, 47] }, type := 3, pos := "asm.go:220", after := #[{ on := 30, ground := Ground.data }, { on := 31, ground := Ground.data }, { on := 24, ground := Ground.chain }, { on := 24, ground := Ground.guard }], guard := some (24, true) }
def o33 : Oper := { dst := some 97, op := Op.binOp BinOp.gtr 3 (Operand.tmp 96) (Operand.const (Value.int IntKind.i64 0)) 3, type := 4, pos := "asm.go:220", after := #[{ on := 32, ground := Ground.data }, { on := 24, ground := Ground.guard }], guard := some (24, true) }
def o34 : Oper := { dst := some 98, op := Op.pick (Operand.tmp 88) (Operand.tmp 97) (Operand.const (Value.bool false)), type := 4, pos := "asm.go:220", after := #[{ on := 24, ground := Ground.data }, { on := 33, ground := Ground.data }, { on := 21, ground := Ground.guard }], guard := some (21, false) }
def o35 : Oper := { dst := some 99, op := Op.pick (Operand.tmp 85) (Operand.const (Value.bool true)) (Operand.tmp 98), type := 4, pos := "asm.go:220", after := #[{ on := 21, ground := Ground.data }, { on := 34, ground := Ground.data }], guard := none }
def ops15 : Array Oper := #[o0, o1, o2, o3, o4, o5, o6, o7, o8, o9, o10, o11, o12, o13, o14, o15, o16, o17, o18, o19, o20, o21, o22, o23, o24, o25, o26, o27, o28, o29, o30, o31, o32, o33, o34, o35]

structure Fa (w V0 : World) (k : Nat) (l2 : List S47) (c2 : Nat) (x p : S47) (n a b s z o : Bool) (sv ov : Int) (gb b8 B : Nat) (ad : Addr) (seen : List (List UInt8)) : Prop where
 e0 : V0.cell? ⟨b8, 0, none⟩ = some (.string x.f0)
 e1 : V0.cell? ⟨b8, 1, none⟩ = some (.int .i64 x.f1)
 e2 : V0.cell? ⟨gb, 2, none⟩ = some (.slice (some ad) l2.length c2)
 m : MapIs V0 B k seen
 hn : nameB x.f0 = n
 ha : decide (x.f1 < 0) = a
 hb : decide (x.f1 ≥ 65536) = b
 hsv : sv = seenV x.f0 seen
 hs : decide (sv > 0) = s
 hz : decide (0 < k) = z
 hk : k < l2.length
 hl : l2.length ≤ 100000000000
 p0 : z = true → V0.cell? ((ad.add ((k - 1) * 2))) = some (.string p.f0)
 p1 : z = true → V0.cell? ⟨(ad.add ((k - 1) * 2)).block, (ad.add ((k - 1) * 2)).off + 1, none⟩ = some (.int .i64 p.f1)
 hov : ov = ordR (cmpI p.f1 x.f1) (Lib.compareBytes p.f0.data.toList x.f0.data.toList)
 ho : decide (ov > 0) = o

def VV (k : Nat) (l2 : List S47) (c2 : Nat) (x p : S47) (n a b s z o : Bool) (sv ov : Int) (gb b8 B : Nat) (ad : Addr) : Array Value := #[Value.pointer (some ⟨b8, 0, none⟩),
 Value.string x.f0,
 Value.bool n,
 Value.bool (!n),
 Value.bool (!n),
 (if (!n) = false then Value.pointer (some ⟨b8, 1, none⟩) else undef),
 (if (!n) = false then Value.int .i64 x.f1 else undef),
 (if (!n) = false then Value.bool a else undef),
 Value.bool (!n || a),
 Value.bool (!n || a),
 (if (!n || a) = false then Value.pointer (some ⟨b8, 1, none⟩) else undef),
 (if (!n || a) = false then Value.int .i64 x.f1 else undef),
 (if (!n || a) = false then Value.bool b else undef),
 Value.bool (!n || a || b),
 Value.bool (!n || a || b),
 (if (!n || a || b) = false then Value.map (some B) else undef),
 (if (!n || a || b) = false then Value.pointer (some ⟨b8, 0, none⟩) else undef),
 (if (!n || a || b) = false then Value.string x.f0 else undef),
 (if (!n || a || b) = false then Value.int .i64 sv else undef),
 (if (!n || a || b) = false then Value.bool s else undef),
 Value.bool (!n || a || b || s),
 Value.bool (!n || a || b || s),
 (if (!n || a || b || s) = false then Value.int .i64 (k : Int) else undef),
 (if (!n || a || b || s) = false then Value.bool z else undef),
 (if (!n || a || b || s) = false then Value.bool z else undef),
 (if (!(!n || a || b || s) && z) = true then Value.pointer (some ⟨gb, 2, none⟩) else undef),
 (if (!(!n || a || b || s) && z) = true then Value.slice (some ad) l2.length c2 else undef),
 (if (!(!n || a || b || s) && z) = true then Value.int .i64 (k : Int) else undef),
 (if (!(!n || a || b || s) && z) = true then Value.int .i64 ((k : Int) - 1) else undef),
 (if (!(!n || a || b || s) && z) = true then Value.pointer (some (ad.add ((k - 1) * 2))) else undef),
 (if (!(!n || a || b || s) && z) = true then Value.agg #[.string p.f0, .int .i64 p.f1] else undef),
 (if (!(!n || a || b || s) && z) = true then Value.agg #[.string x.f0, .int .i64 x.f1] else undef),
 (if (!(!n || a || b || s) && z) = true then Value.int .i64 ov else undef),
 (if (!(!n || a || b || s) && z) = true then Value.bool o else undef),
 (if (!n || a || b || s) = false then Value.bool (z && o) else undef),
 Value.bool ((!n || a || b || s) || (z && o))]
structure In (w V0 : World) (k : Nat) (l2 : List S47) (c2 : Nat) (x p : S47) (n a b s z o : Bool) (sv ov : Int) (gb b8 B : Nat) (ad : Addr) (seen : List (List UInt8)) (L : Array Bool) (xs : Array Value) (W : World) : Prop where
 f : ∀ j, L.getD j false = true → xs.getD j undef = (VV k l2 c2 x p n a b s z o sv ov gb b8 B ad).getD j undef
 below : Below V0.heap.size V0 W
structure Us where
 u0 : Value
 u2 : Value
 u3 : Value
 u5 : Value
 u9 : Value
 u10 : Value
 u11 : Value
 u12 : Value
 u13 : Value
 u14 : Value
 u15 : Value
 u16 : Value
 u17 : Value
 u18 : Value
 u19 : Value
 u20 : Value
 u21 : Value
 u22 : Value
 u23 : Value
 u24 : Value
 u25 : Value
 u26 : Value
 u27 : Value
 u28 : Value
 u29 : Value
 u30 : Value
 u31 : Value
 u32 : Value
 u33 : Value
 u34 : Value
 u35 : Value
 u36 : Value
 u37 : Value
 u38 : Value
 u39 : Value
 u40 : Value
 u41 : Value
 u42 : Value
 u43 : Value
 u44 : Value
 u45 : Value
 u46 : Value
 u47 : Value
 u48 : Value
 u49 : Value
 u50 : Value
 u51 : Value
 u52 : Value
 u53 : Value
 u54 : Value
 u55 : Value
 u56 : Value
 u57 : Value
 u58 : Value
 u59 : Value
 u60 : Value
 u61 : Value
 u62 : Value
 u63 : Value
 u100 : Value
 u101 : Value
 u102 : Value
 u103 : Value
def Inv (w V0 : World) (k : Nat) (l2 : List S47) (c2 : Nat) (x p : S47) (n a b s z o : Bool) (sv ov : Int) (gb b8 B : Nat) (ad : Addr) (seen : List (List UInt8)) (U : Us) (L : Array Bool) (c : Act) (W : World) : Prop := ∃ (x64 x65 x66 x67 x68 x69 x70 x71 x72 x73 x74 x75 x76 x77 x78 x79 x80 x81 x82 x83 x84 x85 x86 x87 x88 x89 x90 x91 x92 x93 x94 x95 x96 x97 x98 x99 : Value), c = Act.mk #[U.u0, Value.pointer (some ⟨gb, 0, none⟩), U.u2, U.u3, undef, U.u5, Value.map (some B), Value.int .i64 (k : Int), Value.pointer (some ⟨b8, 0, none⟩), U.u9, U.u10, U.u11, U.u12, U.u13, U.u14, U.u15, U.u16, U.u17, U.u18, U.u19, U.u20, U.u21, U.u22, U.u23, U.u24, U.u25, U.u26, U.u27, U.u28, U.u29, U.u30, U.u31, U.u32, U.u33, U.u34, U.u35, U.u36, U.u37, U.u38, U.u39, U.u40, U.u41, U.u42, U.u43, U.u44, U.u45, U.u46, U.u47, U.u48, U.u49, U.u50, U.u51, U.u52, U.u53, U.u54, U.u55, U.u56, U.u57, U.u58, U.u59, U.u60, U.u61, U.u62, U.u63, x64, x65, x66, x67, x68, x69, x70, x71, x72, x73, x74, x75, x76, x77, x78, x79, x80, x81, x82, x83, x84, x85, x86, x87, x88, x89, x90, x91, x92, x93, x94, x95, x96, x97, x98, x99, U.u100, U.u101, U.u102, U.u103] [] ∧ In w V0 k l2 c2 x p n a b s z o sv ov gb b8 B ad seen L #[x64, x65, x66, x67, x68, x69, x70, x71, x72, x73, x74, x75, x76, x77, x78, x79, x80, x81, x82, x83, x84, x85, x86, x87, x88, x89, x90, x91, x92, x93, x94, x95, x96, x97, x98, x99] W

set_option maxRecDepth 100000
set_option maxHeartbeats 1000000
section
variable {w V0 : World} {k : Nat} {l2 : List S47} {c2 : Nat} {x p : S47} {n a b s z o : Bool} {sv ov : Int} {gb b8 B : Nat} {ad : Addr} {seen : List (List UInt8)} {U : Us} {Q : Exit → Act → World → Prop} {L : Array Bool} {c : Act} {W : World}
theorem step0 (hI : Inv w V0 k l2 c2 x p n a b s z o sv ov gb b8 B ad seen U L c W) (hu : L.getD 0 false = false) (hL : 0 < L.size) (hF : Fa w V0 k l2 c2 x p n a b s z o sv ov gb b8 B ad seen) :
 wpOp Tryd.prog ops15 Q 0 (fun a' w' => Inv w V0 k l2 c2 x p n a b s z o sv ov gb b8 B ad seen U (L.setIfInBounds 0 true) a' w') c W := by
 obtain ⟨x64, x65, x66, x67, x68, x69, x70, x71, x72, x73, x74, x75, x76, x77, x78, x79, x80, x81, x82, x83, x84, x85, x86, x87, x88, x89, x90, x91, x92, x93, x94, x95, x96, x97, x98, x99, rfl, H⟩ := hI
 refine wpOp_step (o := o0) rfl (fun K' hK => ?_)
 unfold o0
 go_simp
 refine hK _ _ ⟨_, _, _, _, _, _, _, _, _, _, _, _, _, _, _, _, _, _, _, _, _, _, _, _, _, _, _, _, _, _, _, _, _, _, _, _, rfl, by have h := put (i := 0) (v := _) H.f (show 0 < 36 by decide) (show Value.pointer (some ⟨b8, 0, none⟩) = _ from rfl); exact h, H.below⟩

theorem step1 (hI : Inv w V0 k l2 c2 x p n a b s z o sv ov gb b8 B ad seen U L c W) (hu : L.getD 1 false = false) (hL : 1 < L.size) (hF : Fa w V0 k l2 c2 x p n a b s z o sv ov gb b8 B ad seen) (d0 : L.getD 0 false = true) :
 wpOp Tryd.prog ops15 Q 1 (fun a' w' => Inv w V0 k l2 c2 x p n a b s z o sv ov gb b8 B ad seen U (L.setIfInBounds 1 true) a' w') c W := by
 obtain ⟨x64, x65, x66, x67, x68, x69, x70, x71, x72, x73, x74, x75, x76, x77, x78, x79, x80, x81, x82, x83, x84, x85, x86, x87, x88, x89, x90, x91, x92, x93, x94, x95, x96, x97, x98, x99, rfl, H⟩ := hI
 have e0_ : x64 = Value.pointer (some ⟨b8, 0, none⟩) := H.f 0 d0
 refine wpOp_step (o := o1) rfl (fun K' hK => ?_)
 unfold o1
 subst e0_
 have q0 := (H.below.cell (World.block_lt_of_cell? V0 _ (hF.e0))).trans (hF.e0)
 go_simp
 refine hK _ _ ⟨_, _, _, _, _, _, _, _, _, _, _, _, _, _, _, _, _, _, _, _, _, _, _, _, _, _, _, _, _, _, _, _, _, _, _, _, rfl, by have h := put (i := 1) (v := _) H.f (show 1 < 36 by decide) (show Value.string x.f0 = _ from rfl); exact h, H.below⟩

theorem step2 (hI : Inv w V0 k l2 c2 x p n a b s z o sv ov gb b8 B ad seen U L c W) (hu : L.getD 2 false = false) (hL : 2 < L.size) (hF : Fa w V0 k l2 c2 x p n a b s z o sv ov gb b8 B ad seen) (d1 : L.getD 1 false = true) :
 wpOp Tryd.prog ops15 Q 2 (fun a' w' => Inv w V0 k l2 c2 x p n a b s z o sv ov gb b8 B ad seen U (L.setIfInBounds 2 true) a' w') c W := by
 obtain ⟨x64, x65, x66, x67, x68, x69, x70, x71, x72, x73, x74, x75, x76, x77, x78, x79, x80, x81, x82, x83, x84, x85, x86, x87, x88, x89, x90, x91, x92, x93, x94, x95, x96, x97, x98, x99, rfl, H⟩ := hI
 have e1_ : x65 = Value.string x.f0 := H.f 1 d1
 refine wpOp_step (o := o2) rfl (fun K' hK => ?_)
 unfold o2
 subst e1_
 have hnc := named_calls x.f0 W
 rw [hF.hn] at hnc
 go_simp
 go_at_call 17
 refine hnc.mono ?_
 rintro e w2 ⟨rfl, hb2⟩
 go_simp
 refine hK _ _ ⟨_, _, _, _, _, _, _, _, _, _, _, _, _, _, _, _, _, _, _, _, _, _, _, _, _, _, _, _, _, _, _, _, _, _, _, _, rfl, by have h := put (i := 2) (v := _) H.f (show 2 < 36 by decide) (show Value.bool n = _ from rfl); exact h, below_step H.below hb2⟩

theorem step3 (hI : Inv w V0 k l2 c2 x p n a b s z o sv ov gb b8 B ad seen U L c W) (hu : L.getD 3 false = false) (hL : 3 < L.size) (hF : Fa w V0 k l2 c2 x p n a b s z o sv ov gb b8 B ad seen) (d2 : L.getD 2 false = true) :
 wpOp Tryd.prog ops15 Q 3 (fun a' w' => Inv w V0 k l2 c2 x p n a b s z o sv ov gb b8 B ad seen U (L.setIfInBounds 3 true) a' w') c W := by
 obtain ⟨x64, x65, x66, x67, x68, x69, x70, x71, x72, x73, x74, x75, x76, x77, x78, x79, x80, x81, x82, x83, x84, x85, x86, x87, x88, x89, x90, x91, x92, x93, x94, x95, x96, x97, x98, x99, rfl, H⟩ := hI
 have e2_ : x66 = Value.bool n := H.f 2 d2
 refine wpOp_step (o := o3) rfl (fun K' hK => ?_)
 unfold o3
 subst e2_
 go_simp
 refine hK _ _ ⟨_, _, _, _, _, _, _, _, _, _, _, _, _, _, _, _, _, _, _, _, _, _, _, _, _, _, _, _, _, _, _, _, _, _, _, _, rfl, by have h := put (i := 3) (v := _) H.f (show 3 < 36 by decide) (show Value.bool (!n) = _ from rfl); exact h, H.below⟩

theorem step4 (hI : Inv w V0 k l2 c2 x p n a b s z o sv ov gb b8 B ad seen U L c W) (hu : L.getD 4 false = false) (hL : 4 < L.size) (hF : Fa w V0 k l2 c2 x p n a b s z o sv ov gb b8 B ad seen) (d3 : L.getD 3 false = true) :
 wpOp Tryd.prog ops15 Q 4 (fun a' w' => Inv w V0 k l2 c2 x p n a b s z o sv ov gb b8 B ad seen U (L.setIfInBounds 4 true) a' w') c W := by
 obtain ⟨x64, x65, x66, x67, x68, x69, x70, x71, x72, x73, x74, x75, x76, x77, x78, x79, x80, x81, x82, x83, x84, x85, x86, x87, x88, x89, x90, x91, x92, x93, x94, x95, x96, x97, x98, x99, rfl, H⟩ := hI
 have e3_ : x67 = Value.bool (!n) := H.f 3 d3
 refine wpOp_step (o := o4) rfl (fun K' hK => ?_)
 unfold o4
 subst e3_
 go_simp
 refine hK _ _ ⟨_, _, _, _, _, _, _, _, _, _, _, _, _, _, _, _, _, _, _, _, _, _, _, _, _, _, _, _, _, _, _, _, _, _, _, _, rfl, by have h := put (i := 4) (v := _) H.f (show 4 < 36 by decide) (show Value.bool (!n) = _ from rfl); exact h, H.below⟩

theorem step5 (hI : Inv w V0 k l2 c2 x p n a b s z o sv ov gb b8 B ad seen U L c W) (hu : L.getD 5 false = false) (hL : 5 < L.size) (hF : Fa w V0 k l2 c2 x p n a b s z o sv ov gb b8 B ad seen) (d4 : L.getD 4 false = true) :
 wpOp Tryd.prog ops15 Q 5 (fun a' w' => Inv w V0 k l2 c2 x p n a b s z o sv ov gb b8 B ad seen U (L.setIfInBounds 5 true) a' w') c W := by
 obtain ⟨x64, x65, x66, x67, x68, x69, x70, x71, x72, x73, x74, x75, x76, x77, x78, x79, x80, x81, x82, x83, x84, x85, x86, x87, x88, x89, x90, x91, x92, x93, x94, x95, x96, x97, x98, x99, rfl, H⟩ := hI
 have e4_ : x68 = Value.bool (!n) := H.f 4 d4
 refine wpOp_step (o := o5) rfl (fun K' hK => ?_)
 unfold o5
 cases hg : (!n) with
 | true =>
  rw [hg] at e4_
  subst e4_
  go_simp
  refine hK _ _ ⟨_, _, _, _, _, _, _, _, _, _, _, _, _, _, _, _, _, _, _, _, _, _, _, _, _, _, _, _, _, _, _, _, _, _, _, _, rfl, by have h := put (i := 5) (v := _) H.f (show 5 < 36 by decide) (show (if (!n) = false then Value.pointer (some ⟨b8, 1, none⟩) else undef) = _ from by rw [hg] <;> rfl); exact h, H.below⟩
 | false =>
  rw [hg] at e4_
  subst e4_
  go_simp
  refine hK _ _ ⟨_, _, _, _, _, _, _, _, _, _, _, _, _, _, _, _, _, _, _, _, _, _, _, _, _, _, _, _, _, _, _, _, _, _, _, _, rfl, by have h := put (i := 5) (v := _) H.f (show 5 < 36 by decide) (show (if (!n) = false then Value.pointer (some ⟨b8, 1, none⟩) else undef) = _ from by rw [hg] <;> rfl); exact h, H.below⟩

theorem step6 (hI : Inv w V0 k l2 c2 x p n a b s z o sv ov gb b8 B ad seen U L c W) (hu : L.getD 6 false = false) (hL : 6 < L.size) (hF : Fa w V0 k l2 c2 x p n a b s z o sv ov gb b8 B ad seen) (d4 : L.getD 4 false = true) (d5 : L.getD 5 false = true) :
 wpOp Tryd.prog ops15 Q 6 (fun a' w' => Inv w V0 k l2 c2 x p n a b s z o sv ov gb b8 B ad seen U (L.setIfInBounds 6 true) a' w') c W := by
 obtain ⟨x64, x65, x66, x67, x68, x69, x70, x71, x72, x73, x74, x75, x76, x77, x78, x79, x80, x81, x82, x83, x84, x85, x86, x87, x88, x89, x90, x91, x92, x93, x94, x95, x96, x97, x98, x99, rfl, H⟩ := hI
 have e4_ : x68 = Value.bool (!n) := H.f 4 d4
 have e5_ : x69 = (if (!n) = false then Value.pointer (some ⟨b8, 1, none⟩) else undef) := H.f 5 d5
 refine wpOp_step (o := o6) rfl (fun K' hK => ?_)
 unfold o6
 cases hg : (!n) with
 | true =>
  rw [hg] at e4_
  rw [hg] at e5_
  subst e4_
  subst e5_
  go_simp
  refine hK _ _ ⟨_, _, _, _, _, _, _, _, _, _, _, _, _, _, _, _, _, _, _, _, _, _, _, _, _, _, _, _, _, _, _, _, _, _, _, _, rfl, by have h := put (i := 6) (v := _) H.f (show 6 < 36 by decide) (show (if (!n) = false then Value.int .i64 x.f1 else undef) = _ from by rw [hg] <;> rfl); exact h, H.below⟩
 | false =>
  rw [hg] at e4_
  rw [hg] at e5_
  subst e4_
  subst e5_
  have q1 := (H.below.cell (World.block_lt_of_cell? V0 _ (hF.e1))).trans (hF.e1)
  go_simp
  refine hK _ _ ⟨_, _, _, _, _, _, _, _, _, _, _, _, _, _, _, _, _, _, _, _, _, _, _, _, _, _, _, _, _, _, _, _, _, _, _, _, rfl, by have h := put (i := 6) (v := _) H.f (show 6 < 36 by decide) (show (if (!n) = false then Value.int .i64 x.f1 else undef) = _ from by rw [hg] <;> rfl); exact h, H.below⟩

theorem step7 (hI : Inv w V0 k l2 c2 x p n a b s z o sv ov gb b8 B ad seen U L c W) (hu : L.getD 7 false = false) (hL : 7 < L.size) (hF : Fa w V0 k l2 c2 x p n a b s z o sv ov gb b8 B ad seen) (d4 : L.getD 4 false = true) (d6 : L.getD 6 false = true) :
 wpOp Tryd.prog ops15 Q 7 (fun a' w' => Inv w V0 k l2 c2 x p n a b s z o sv ov gb b8 B ad seen U (L.setIfInBounds 7 true) a' w') c W := by
 obtain ⟨x64, x65, x66, x67, x68, x69, x70, x71, x72, x73, x74, x75, x76, x77, x78, x79, x80, x81, x82, x83, x84, x85, x86, x87, x88, x89, x90, x91, x92, x93, x94, x95, x96, x97, x98, x99, rfl, H⟩ := hI
 have e4_ : x68 = Value.bool (!n) := H.f 4 d4
 have e6_ : x70 = (if (!n) = false then Value.int .i64 x.f1 else undef) := H.f 6 d6
 refine wpOp_step (o := o7) rfl (fun K' hK => ?_)
 unfold o7
 cases hg : (!n) with
 | true =>
  rw [hg] at e4_
  rw [hg] at e6_
  subst e4_
  subst e6_
  go_simp
  refine hK _ _ ⟨_, _, _, _, _, _, _, _, _, _, _, _, _, _, _, _, _, _, _, _, _, _, _, _, _, _, _, _, _, _, _, _, _, _, _, _, rfl, by have h := put (i := 7) (v := _) H.f (show 7 < 36 by decide) (show (if (!n) = false then Value.bool a else undef) = _ from by rw [hg] <;> rfl); exact h, H.below⟩
 | false =>
  rw [hg] at e4_
  rw [hg] at e6_
  subst e4_
  subst e6_
  have hd := hF.ha
  go_simp
  refine hK _ _ ⟨_, _, _, _, _, _, _, _, _, _, _, _, _, _, _, _, _, _, _, _, _, _, _, _, _, _, _, _, _, _, _, _, _, _, _, _, rfl, by have h := put (i := 7) (v := _) H.f (show 7 < 36 by decide) (show (if (!n) = false then Value.bool a else undef) = _ from by rw [hg] <;> rfl); exact h, H.below⟩

theorem step8 (hI : Inv w V0 k l2 c2 x p n a b s z o sv ov gb b8 B ad seen U L c W) (hu : L.getD 8 false = false) (hL : 8 < L.size) (hF : Fa w V0 k l2 c2 x p n a b s z o sv ov gb b8 B ad seen) (d4 : L.getD 4 false = true) (d7 : L.getD 7 false = true) :
 wpOp Tryd.prog ops15 Q 8 (fun a' w' => Inv w V0 k l2 c2 x p n a b s z o sv ov gb b8 B ad seen U (L.setIfInBounds 8 true) a' w') c W := by
 obtain ⟨x64, x65, x66, x67, x68, x69, x70, x71, x72, x73, x74, x75, x76, x77, x78, x79, x80, x81, x82, x83, x84, x85, x86, x87, x88, x89, x90, x91, x92, x93, x94, x95, x96, x97, x98, x99, rfl, H⟩ := hI
 have e4_ : x68 = Value.bool (!n) := H.f 4 d4
 have e7_ : x71 = (if (!n) = false then Value.bool a else undef) := H.f 7 d7
 refine wpOp_step (o := o8) rfl (fun K' hK => ?_)
 unfold o8
 cases hg : (!n) with
 | true =>
  rw [hg] at e4_
  rw [hg] at e7_
  subst e4_
  subst e7_
  go_simp
  refine hK _ _ ⟨_, _, _, _, _, _, _, _, _, _, _, _, _, _, _, _, _, _, _, _, _, _, _, _, _, _, _, _, _, _, _, _, _, _, _, _, rfl, by have h := put (i := 8) (v := _) H.f (show 8 < 36 by decide) (show Value.bool (!n || a) = _ from by rw [hg] <;> rfl); exact h, H.below⟩
 | false =>
  rw [hg] at e4_
  rw [hg] at e7_
  subst e4_
  subst e7_
  go_simp
  refine hK _ _ ⟨_, _, _, _, _, _, _, _, _, _, _, _, _, _, _, _, _, _, _, _, _, _, _, _, _, _, _, _, _, _, _, _, _, _, _, _, rfl, by have h := put (i := 8) (v := _) H.f (show 8 < 36 by decide) (show Value.bool (!n || a) = _ from by rw [hg] <;> rfl); exact h, H.below⟩

theorem step9 (hI : Inv w V0 k l2 c2 x p n a b s z o sv ov gb b8 B ad seen U L c W) (hu : L.getD 9 false = false) (hL : 9 < L.size) (hF : Fa w V0 k l2 c2 x p n a b s z o sv ov gb b8 B ad seen) (d8 : L.getD 8 false = true) :
 wpOp Tryd.prog ops15 Q 9 (fun a' w' => Inv w V0 k l2 c2 x p n a b s z o sv ov gb b8 B ad seen U (L.setIfInBounds 9 true) a' w') c W := by
 obtain ⟨x64, x65, x66, x67, x68, x69, x70, x71, x72, x73, x74, x75, x76, x77, x78, x79, x80, x81, x82, x83, x84, x85, x86, x87, x88, x89, x90, x91, x92, x93, x94, x95, x96, x97, x98, x99, rfl, H⟩ := hI
 have e8_ : x72 = Value.bool (!n || a) := H.f 8 d8
 refine wpOp_step (o := o9) rfl (fun K' hK => ?_)
 unfold o9
 subst e8_
 go_simp
 refine hK _ _ ⟨_, _, _, _, _, _, _, _, _, _, _, _, _, _, _, _, _, _, _, _, _, _, _, _, _, _, _, _, _, _, _, _, _, _, _, _, rfl, by have h := put (i := 9) (v := _) H.f (show 9 < 36 by decide) (show Value.bool (!n || a) = _ from rfl); exact h, H.below⟩

theorem step10 (hI : Inv w V0 k l2 c2 x p n a b s z o sv ov gb b8 B ad seen U L c W) (hu : L.getD 10 false = false) (hL : 10 < L.size) (hF : Fa w V0 k l2 c2 x p n a b s z o sv ov gb b8 B ad seen) (d9 : L.getD 9 false = true) :
 wpOp Tryd.prog ops15 Q 10 (fun a' w' => Inv w V0 k l2 c2 x p n a b s z o sv ov gb b8 B ad seen U (L.setIfInBounds 10 true) a' w') c W := by
 obtain ⟨x64, x65, x66, x67, x68, x69, x70, x71, x72, x73, x74, x75, x76, x77, x78, x79, x80, x81, x82, x83, x84, x85, x86, x87, x88, x89, x90, x91, x92, x93, x94, x95, x96, x97, x98, x99, rfl, H⟩ := hI
 have e9_ : x73 = Value.bool (!n || a) := H.f 9 d9
 refine wpOp_step (o := o10) rfl (fun K' hK => ?_)
 unfold o10
 cases hg : (!n || a) with
 | true =>
  rw [hg] at e9_
  subst e9_
  go_simp
  refine hK _ _ ⟨_, _, _, _, _, _, _, _, _, _, _, _, _, _, _, _, _, _, _, _, _, _, _, _, _, _, _, _, _, _, _, _, _, _, _, _, rfl, by have h := put (i := 10) (v := _) H.f (show 10 < 36 by decide) (show (if (!n || a) = false then Value.pointer (some ⟨b8, 1, none⟩) else undef) = _ from by rw [hg] <;> rfl); exact h, H.below⟩
 | false =>
  rw [hg] at e9_
  subst e9_
  go_simp
  refine hK _ _ ⟨_, _, _, _, _, _, _, _, _, _, _, _, _, _, _, _, _, _, _, _, _, _, _, _, _, _, _, _, _, _, _, _, _, _, _, _, rfl, by have h := put (i := 10) (v := _) H.f (show 10 < 36 by decide) (show (if (!n || a) = false then Value.pointer (some ⟨b8, 1, none⟩) else undef) = _ from by rw [hg] <;> rfl); exact h, H.below⟩

theorem step11 (hI : Inv w V0 k l2 c2 x p n a b s z o sv ov gb b8 B ad seen U L c W) (hu : L.getD 11 false = false) (hL : 11 < L.size) (hF : Fa w V0 k l2 c2 x p n a b s z o sv ov gb b8 B ad seen) (d9 : L.getD 9 false = true) (d10 : L.getD 10 false = true) :
 wpOp Tryd.prog ops15 Q 11 (fun a' w' => Inv w V0 k l2 c2 x p n a b s z o sv ov gb b8 B ad seen U (L.setIfInBounds 11 true) a' w') c W := by
 obtain ⟨x64, x65, x66, x67, x68, x69, x70, x71, x72, x73, x74, x75, x76, x77, x78, x79, x80, x81, x82, x83, x84, x85, x86, x87, x88, x89, x90, x91, x92, x93, x94, x95, x96, x97, x98, x99, rfl, H⟩ := hI
 have e9_ : x73 = Value.bool (!n || a) := H.f 9 d9
 have e10_ : x74 = (if (!n || a) = false then Value.pointer (some ⟨b8, 1, none⟩) else undef) := H.f 10 d10
 refine wpOp_step (o := o11) rfl (fun K' hK => ?_)
 unfold o11
 cases hg : (!n || a) with
 | true =>
  rw [hg] at e9_
  rw [hg] at e10_
  subst e9_
  subst e10_
  go_simp
  refine hK _ _ ⟨_, _, _, _, _, _, _, _, _, _, _, _, _, _, _, _, _, _, _, _, _, _, _, _, _, _, _, _, _, _, _, _, _, _, _, _, rfl, by have h := put (i := 11) (v := _) H.f (show 11 < 36 by decide) (show (if (!n || a) = false then Value.int .i64 x.f1 else undef) = _ from by rw [hg] <;> rfl); exact h, H.below⟩
 | false =>
  rw [hg] at e9_
  rw [hg] at e10_
  subst e9_
  subst e10_
  have q1 := (H.below.cell (World.block_lt_of_cell? V0 _ (hF.e1))).trans (hF.e1)
  go_simp
  refine hK _ _ ⟨_, _, _, _, _, _, _, _, _, _, _, _, _, _, _, _, _, _, _, _, _, _, _, _, _, _, _, _, _, _, _, _, _, _, _, _, rfl, by have h := put (i := 11) (v := _) H.f (show 11 < 36 by decide) (show (if (!n || a) = false then Value.int .i64 x.f1 else undef) = _ from by rw [hg] <;> rfl); exact h, H.below⟩

theorem step12 (hI : Inv w V0 k l2 c2 x p n a b s z o sv ov gb b8 B ad seen U L c W) (hu : L.getD 12 false = false) (hL : 12 < L.size) (hF : Fa w V0 k l2 c2 x p n a b s z o sv ov gb b8 B ad seen) (d9 : L.getD 9 false = true) (d11 : L.getD 11 false = true) :
 wpOp Tryd.prog ops15 Q 12 (fun a' w' => Inv w V0 k l2 c2 x p n a b s z o sv ov gb b8 B ad seen U (L.setIfInBounds 12 true) a' w') c W := by
 obtain ⟨x64, x65, x66, x67, x68, x69, x70, x71, x72, x73, x74, x75, x76, x77, x78, x79, x80, x81, x82, x83, x84, x85, x86, x87, x88, x89, x90, x91, x92, x93, x94, x95, x96, x97, x98, x99, rfl, H⟩ := hI
 have e9_ : x73 = Value.bool (!n || a) := H.f 9 d9
 have e11_ : x75 = (if (!n || a) = false then Value.int .i64 x.f1 else undef) := H.f 11 d11
 refine wpOp_step (o := o12) rfl (fun K' hK => ?_)
 unfold o12
 cases hg : (!n || a) with
 | true =>
  rw [hg] at e9_
  rw [hg] at e11_
  subst e9_
  subst e11_
  go_simp
  refine hK _ _ ⟨_, _, _, _, _, _, _, _, _, _, _, _, _, _, _, _, _, _, _, _, _, _, _, _, _, _, _, _, _, _, _, _, _, _, _, _, rfl, by have h := put (i := 12) (v := _) H.f (show 12 < 36 by decide) (show (if (!n || a) = false then Value.bool b else undef) = _ from by rw [hg] <;> rfl); exact h, H.below⟩
 | false =>
  rw [hg] at e9_
  rw [hg] at e11_
  subst e9_
  subst e11_
  have hd := hF.hb
  go_simp
  refine hK _ _ ⟨_, _, _, _, _, _, _, _, _, _, _, _, _, _, _, _, _, _, _, _, _, _, _, _, _, _, _, _, _, _, _, _, _, _, _, _, rfl, by have h := put (i := 12) (v := _) H.f (show 12 < 36 by decide) (show (if (!n || a) = false then Value.bool b else undef) = _ from by rw [hg] <;> rfl); exact h, H.below⟩

theorem step13 (hI : Inv w V0 k l2 c2 x p n a b s z o sv ov gb b8 B ad seen U L c W) (hu : L.getD 13 false = false) (hL : 13 < L.size) (hF : Fa w V0 k l2 c2 x p n a b s z o sv ov gb b8 B ad seen) (d9 : L.getD 9 false = true) (d12 : L.getD 12 false = true) :
 wpOp Tryd.prog ops15 Q 13 (fun a' w' => Inv w V0 k l2 c2 x p n a b s z o sv ov gb b8 B ad seen U (L.setIfInBounds 13 true) a' w') c W := by
 obtain ⟨x64, x65, x66, x67, x68, x69, x70, x71, x72, x73, x74, x75, x76, x77, x78, x79, x80, x81, x82, x83, x84, x85, x86, x87, x88, x89, x90, x91, x92, x93, x94, x95, x96, x97, x98, x99, rfl, H⟩ := hI
 have e9_ : x73 = Value.bool (!n || a) := H.f 9 d9
 have e12_ : x76 = (if (!n || a) = false then Value.bool b else undef) := H.f 12 d12
 refine wpOp_step (o := o13) rfl (fun K' hK => ?_)
 unfold o13
 cases hg : (!n || a) with
 | true =>
  rw [hg] at e9_
  rw [hg] at e12_
  subst e9_
  subst e12_
  go_simp
  refine hK _ _ ⟨_, _, _, _, _, _, _, _, _, _, _, _, _, _, _, _, _, _, _, _, _, _, _, _, _, _, _, _, _, _, _, _, _, _, _, _, rfl, by have h := put (i := 13) (v := _) H.f (show 13 < 36 by decide) (show Value.bool (!n || a || b) = _ from by rw [hg] <;> rfl); exact h, H.below⟩
 | false =>
  rw [hg] at e9_
  rw [hg] at e12_
  subst e9_
  subst e12_
  go_simp
  refine hK _ _ ⟨_, _, _, _, _, _, _, _, _, _, _, _, _, _, _, _, _, _, _, _, _, _, _, _, _, _, _, _, _, _, _, _, _, _, _, _, rfl, by have h := put (i := 13) (v := _) H.f (show 13 < 36 by decide) (show Value.bool (!n || a || b) = _ from by rw [hg] <;> rfl); exact h, H.below⟩

theorem step14 (hI : Inv w V0 k l2 c2 x p n a b s z o sv ov gb b8 B ad seen U L c W) (hu : L.getD 14 false = false) (hL : 14 < L.size) (hF : Fa w V0 k l2 c2 x p n a b s z o sv ov gb b8 B ad seen) (d13 : L.getD 13 false = true) :
 wpOp Tryd.prog ops15 Q 14 (fun a' w' => Inv w V0 k l2 c2 x p n a b s z o sv ov gb b8 B ad seen U (L.setIfInBounds 14 true) a' w') c W := by
 obtain ⟨x64, x65, x66, x67, x68, x69, x70, x71, x72, x73, x74, x75, x76, x77, x78, x79, x80, x81, x82, x83, x84, x85, x86, x87, x88, x89, x90, x91, x92, x93, x94, x95, x96, x97, x98, x99, rfl, H⟩ := hI
 have e13_ : x77 = Value.bool (!n || a || b) := H.f 13 d13
 refine wpOp_step (o := o14) rfl (fun K' hK => ?_)
 unfold o14
 subst e13_
 go_simp
 refine hK _ _ ⟨_, _, _, _, _, _, _, _, _, _, _, _, _, _, _, _, _, _, _, _, _, _, _, _, _, _, _, _, _, _, _, _, _, _, _, _, rfl, by have h := put (i := 14) (v := _) H.f (show 14 < 36 by decide) (show Value.bool (!n || a || b) = _ from rfl); exact h, H.below⟩

theorem step15 (hI : Inv w V0 k l2 c2 x p n a b s z o sv ov gb b8 B ad seen U L c W) (hu : L.getD 15 false = false) (hL : 15 < L.size) (hF : Fa w V0 k l2 c2 x p n a b s z o sv ov gb b8 B ad seen) (d14 : L.getD 14 false = true) :
 wpOp Tryd.prog ops15 Q 15 (fun a' w' => Inv w V0 k l2 c2 x p n a b s z o sv ov gb b8 B ad seen U (L.setIfInBounds 15 true) a' w') c W := by
 obtain ⟨x64, x65, x66, x67, x68, x69, x70, x71, x72, x73, x74, x75, x76, x77, x78, x79, x80, x81, x82, x83, x84, x85, x86, x87, x88, x89, x90, x91, x92, x93, x94, x95, x96, x97, x98, x99, rfl, H⟩ := hI
 have e14_ : x78 = Value.bool (!n || a || b) := H.f 14 d14
 refine wpOp_step (o := o15) rfl (fun K' hK => ?_)
 unfold o15
 cases hg : (!n || a || b) with
 | true =>
  rw [hg] at e14_
  subst e14_
  go_simp
  refine hK _ _ ⟨_, _, _, _, _, _, _, _, _, _, _, _, _, _, _, _, _, _, _, _, _, _, _, _, _, _, _, _, _, _, _, _, _, _, _, _, rfl, by have h := put (i := 15) (v := _) H.f (show 15 < 36 by decide) (show (if (!n || a || b) = false then Value.map (some B) else undef) = _ from by rw [hg] <;> rfl); exact h, H.below⟩
 | false =>
  rw [hg] at e14_
  subst e14_
  go_simp
  refine hK _ _ ⟨_, _, _, _, _, _, _, _, _, _, _, _, _, _, _, _, _, _, _, _, _, _, _, _, _, _, _, _, _, _, _, _, _, _, _, _, rfl, by have h := put (i := 15) (v := _) H.f (show 15 < 36 by decide) (show (if (!n || a || b) = false then Value.map (some B) else undef) = _ from by rw [hg] <;> rfl); exact h, H.below⟩

theorem step16 (hI : Inv w V0 k l2 c2 x p n a b s z o sv ov gb b8 B ad seen U L c W) (hu : L.getD 16 false = false) (hL : 16 < L.size) (hF : Fa w V0 k l2 c2 x p n a b s z o sv ov gb b8 B ad seen) (d14 : L.getD 14 false = true) :
 wpOp Tryd.prog ops15 Q 16 (fun a' w' => Inv w V0 k l2 c2 x p n a b s z o sv ov gb b8 B ad seen U (L.setIfInBounds 16 true) a' w') c W := by
 obtain ⟨x64, x65, x66, x67, x68, x69, x70, x71, x72, x73, x74, x75, x76, x77, x78, x79, x80, x81, x82, x83, x84, x85, x86, x87, x88, x89, x90, x91, x92, x93, x94, x95, x96, x97, x98, x99, rfl, H⟩ := hI
 have e14_ : x78 = Value.bool (!n || a || b) := H.f 14 d14
 refine wpOp_step (o := o16) rfl (fun K' hK => ?_)
 unfold o16
 cases hg : (!n || a || b) with
 | true =>
  rw [hg] at e14_
  subst e14_
  go_simp
  refine hK _ _ ⟨_, _, _, _, _, _, _, _, _, _, _, _, _, _, _, _, _, _, _, _, _, _, _, _, _, _, _, _, _, _, _, _, _, _, _, _, rfl, by have h := put (i := 16) (v := _) H.f (show 16 < 36 by decide) (show (if (!n || a || b) = false then Value.pointer (some ⟨b8, 0, none⟩) else undef) = _ from by rw [hg] <;> rfl); exact h, H.below⟩
 | false =>
  rw [hg] at e14_
  subst e14_
  go_simp
  refine hK _ _ ⟨_, _, _, _, _, _, _, _, _, _, _, _, _, _, _, _, _, _, _, _, _, _, _, _, _, _, _, _, _, _, _, _, _, _, _, _, rfl, by have h := put (i := 16) (v := _) H.f (show 16 < 36 by decide) (show (if (!n || a || b) = false then Value.pointer (some ⟨b8, 0, none⟩) else undef) = _ from by rw [hg] <;> rfl); exact h, H.below⟩

theorem step17 (hI : Inv w V0 k l2 c2 x p n a b s z o sv ov gb b8 B ad seen U L c W) (hu : L.getD 17 false = false) (hL : 17 < L.size) (hF : Fa w V0 k l2 c2 x p n a b s z o sv ov gb b8 B ad seen) (d14 : L.getD 14 false = true) (d16 : L.getD 16 false = true) :
 wpOp Tryd.prog ops15 Q 17 (fun a' w' => Inv w V0 k l2 c2 x p n a b s z o sv ov gb b8 B ad seen U (L.setIfInBounds 17 true) a' w') c W := by
 obtain ⟨x64, x65, x66, x67, x68, x69, x70, x71, x72, x73, x74, x75, x76, x77, x78, x79, x80, x81, x82, x83, x84, x85, x86, x87, x88, x89, x90, x91, x92, x93, x94, x95, x96, x97, x98, x99, rfl, H⟩ := hI
 have e14_ : x78 = Value.bool (!n || a || b) := H.f 14 d14
 have e16_ : x80 = (if (!n || a || b) = false then Value.pointer (some ⟨b8, 0, none⟩) else undef) := H.f 16 d16
 refine wpOp_step (o := o17) rfl (fun K' hK => ?_)
 unfold o17
 cases hg : (!n || a || b) with
 | true =>
  rw [hg] at e14_
  rw [hg] at e16_
  subst e14_
  subst e16_
  go_simp
  refine hK _ _ ⟨_, _, _, _, _, _, _, _, _, _, _, _, _, _, _, _, _, _, _, _, _, _, _, _, _, _, _, _, _, _, _, _, _, _, _, _, rfl, by have h := put (i := 17) (v := _) H.f (show 17 < 36 by decide) (show (if (!n || a || b) = false then Value.string x.f0 else undef) = _ from by rw [hg] <;> rfl); exact h, H.below⟩
 | false =>
  rw [hg] at e14_
  rw [hg] at e16_
  subst e14_
  subst e16_
  have q0 := (H.below.cell (World.block_lt_of_cell? V0 _ (hF.e0))).trans (hF.e0)
  go_simp
  refine hK _ _ ⟨_, _, _, _, _, _, _, _, _, _, _, _, _, _, _, _, _, _, _, _, _, _, _, _, _, _, _, _, _, _, _, _, _, _, _, _, rfl, by have h := put (i := 17) (v := _) H.f (show 17 < 36 by decide) (show (if (!n || a || b) = false then Value.string x.f0 else undef) = _ from by rw [hg] <;> rfl); exact h, H.below⟩

theorem step18 (hI : Inv w V0 k l2 c2 x p n a b s z o sv ov gb b8 B ad seen U L c W) (hu : L.getD 18 false = false) (hL : 18 < L.size) (hF : Fa w V0 k l2 c2 x p n a b s z o sv ov gb b8 B ad seen) (d14 : L.getD 14 false = true) (d15 : L.getD 15 false = true) (d17 : L.getD 17 false = true) :
 wpOp Tryd.prog ops15 Q 18 (fun a' w' => Inv w V0 k l2 c2 x p n a b s z o sv ov gb b8 B ad seen U (L.setIfInBounds 18 true) a' w') c W := by
 obtain ⟨x64, x65, x66, x67, x68, x69, x70, x71, x72, x73, x74, x75, x76, x77, x78, x79, x80, x81, x82, x83, x84, x85, x86, x87, x88, x89, x90, x91, x92, x93, x94, x95, x96, x97, x98, x99, rfl, H⟩ := hI
 have e14_ : x78 = Value.bool (!n || a || b) := H.f 14 d14
 have e15_ : x79 = (if (!n || a || b) = false then Value.map (some B) else undef) := H.f 15 d15
 have e17_ : x81 = (if (!n || a || b) = false then Value.string x.f0 else undef) := H.f 17 d17
 refine wpOp_step (o := o18) rfl (fun K' hK => ?_)
 unfold o18
 cases hg : (!n || a || b) with
 | true =>
  rw [hg] at e14_
  rw [hg] at e15_
  rw [hg] at e17_
  subst e14_
  subst e15_
  subst e17_
  go_simp
  refine hK _ _ ⟨_, _, _, _, _, _, _, _, _, _, _, _, _, _, _, _, _, _, _, _, _, _, _, _, _, _, _, _, _, _, _, _, _, _, _, _, rfl, by have h := put (i := 18) (v := _) H.f (show 18 < 36 by decide) (show (if (!n || a || b) = false then Value.int .i64 sv else undef) = _ from by rw [hg] <;> rfl); exact h, H.below⟩
 | false =>
  have hgn : n = true := by revert hg; cases n <;> simp
  rw [hg] at e14_
  rw [hg] at e15_
  rw [hg] at e17_
  subst e14_
  subst e15_
  subst e17_
  have hlk := (MapIs.below hF.m H.below).look (s := x.f0) (by have := nameB_size (s := x.f0) (by rw [hF.hn]; simpa using hgn); simp only [maxLen]; omega)
  rw [← hF.hsv] at hlk
  go_simp
  refine hK _ _ ⟨_, _, _, _, _, _, _, _, _, _, _, _, _, _, _, _, _, _, _, _, _, _, _, _, _, _, _, _, _, _, _, _, _, _, _, _, rfl, by have h := put (i := 18) (v := _) H.f (show 18 < 36 by decide) (show (if (!n || a || b) = false then Value.int .i64 sv else undef) = _ from by rw [hg] <;> rfl); exact h, H.below⟩

theorem step19 (hI : Inv w V0 k l2 c2 x p n a b s z o sv ov gb b8 B ad seen U L c W) (hu : L.getD 19 false = false) (hL : 19 < L.size) (hF : Fa w V0 k l2 c2 x p n a b s z o sv ov gb b8 B ad seen) (d14 : L.getD 14 false = true) (d18 : L.getD 18 false = true) :
 wpOp Tryd.prog ops15 Q 19 (fun a' w' => Inv w V0 k l2 c2 x p n a b s z o sv ov gb b8 B ad seen U (L.setIfInBounds 19 true) a' w') c W := by
 obtain ⟨x64, x65, x66, x67, x68, x69, x70, x71, x72, x73, x74, x75, x76, x77, x78, x79, x80, x81, x82, x83, x84, x85, x86, x87, x88, x89, x90, x91, x92, x93, x94, x95, x96, x97, x98, x99, rfl, H⟩ := hI
 have e14_ : x78 = Value.bool (!n || a || b) := H.f 14 d14
 have e18_ : x82 = (if (!n || a || b) = false then Value.int .i64 sv else undef) := H.f 18 d18
 refine wpOp_step (o := o19) rfl (fun K' hK => ?_)
 unfold o19
 cases hg : (!n || a || b) with
 | true =>
  rw [hg] at e14_
  rw [hg] at e18_
  subst e14_
  subst e18_
  go_simp
  refine hK _ _ ⟨_, _, _, _, _, _, _, _, _, _, _, _, _, _, _, _, _, _, _, _, _, _, _, _, _, _, _, _, _, _, _, _, _, _, _, _, rfl, by have h := put (i := 19) (v := _) H.f (show 19 < 36 by decide) (show (if (!n || a || b) = false then Value.bool s else undef) = _ from by rw [hg] <;> rfl); exact h, H.below⟩
 | false =>
  rw [hg] at e14_
  rw [hg] at e18_
  subst e14_
  subst e18_
  have hd := hF.hs
  go_simp
  refine hK _ _ ⟨_, _, _, _, _, _, _, _, _, _, _, _, _, _, _, _, _, _, _, _, _, _, _, _, _, _, _, _, _, _, _, _, _, _, _, _, rfl, by have h := put (i := 19) (v := _) H.f (show 19 < 36 by decide) (show (if (!n || a || b) = false then Value.bool s else undef) = _ from by rw [hg] <;> rfl); exact h, H.below⟩

theorem step20 (hI : Inv w V0 k l2 c2 x p n a b s z o sv ov gb b8 B ad seen U L c W) (hu : L.getD 20 false = false) (hL : 20 < L.size) (hF : Fa w V0 k l2 c2 x p n a b s z o sv ov gb b8 B ad seen) (d14 : L.getD 14 false = true) (d19 : L.getD 19 false = true) :
 wpOp Tryd.prog ops15 Q 20 (fun a' w' => Inv w V0 k l2 c2 x p n a b s z o sv ov gb b8 B ad seen U (L.setIfInBounds 20 true) a' w') c W := by
 obtain ⟨x64, x65, x66, x67, x68, x69, x70, x71, x72, x73, x74, x75, x76, x77, x78, x79, x80, x81, x82, x83, x84, x85, x86, x87, x88, x89, x90, x91, x92, x93, x94, x95, x96, x97, x98, x99, rfl, H⟩ := hI
 have e14_ : x78 = Value.bool (!n || a || b) := H.f 14 d14
 have e19_ : x83 = (if (!n || a || b) = false then Value.bool s else undef) := H.f 19 d19
 refine wpOp_step (o := o20) rfl (fun K' hK => ?_)
 unfold o20
 cases hg : (!n || a || b) with
 | true =>
  rw [hg] at e14_
  rw [hg] at e19_
  subst e14_
  subst e19_
  go_simp
  refine hK _ _ ⟨_, _, _, _, _, _, _, _, _, _, _, _, _, _, _, _, _, _, _, _, _, _, _, _, _, _, _, _, _, _, _, _, _, _, _, _, rfl, by have h := put (i := 20) (v := _) H.f (show 20 < 36 by decide) (show Value.bool (!n || a || b || s) = _ from by rw [hg] <;> rfl); exact h, H.below⟩
 | false =>
  rw [hg] at e14_
  rw [hg] at e19_
  subst e14_
  subst e19_
  go_simp
  refine hK _ _ ⟨_, _, _, _, _, _, _, _, _, _, _, _, _, _, _, _, _, _, _, _, _, _, _, _, _, _, _, _, _, _, _, _, _, _, _, _, rfl, by have h := put (i := 20) (v := _) H.f (show 20 < 36 by decide) (show Value.bool (!n || a || b || s) = _ from by rw [hg] <;> rfl); exact h, H.below⟩

theorem step21 (hI : Inv w V0 k l2 c2 x p n a b s z o sv ov gb b8 B ad seen U L c W) (hu : L.getD 21 false = false) (hL : 21 < L.size) (hF : Fa w V0 k l2 c2 x p n a b s z o sv ov gb b8 B ad seen) (d20 : L.getD 20 false = true) :
 wpOp Tryd.prog ops15 Q 21 (fun a' w' => Inv w V0 k l2 c2 x p n a b s z o sv ov gb b8 B ad seen U (L.setIfInBounds 21 true) a' w') c W := by
 obtain ⟨x64, x65, x66, x67, x68, x69, x70, x71, x72, x73, x74, x75, x76, x77, x78, x79, x80, x81, x82, x83, x84, x85, x86, x87, x88, x89, x90, x91, x92, x93, x94, x95, x96, x97, x98, x99, rfl, H⟩ := hI
 have e20_ : x84 = Value.bool (!n || a || b || s) := H.f 20 d20
 refine wpOp_step (o := o21) rfl (fun K' hK => ?_)
 unfold o21
 subst e20_
 go_simp
 refine hK _ _ ⟨_, _, _, _, _, _, _, _, _, _, _, _, _, _, _, _, _, _, _, _, _, _, _, _, _, _, _, _, _, _, _, _, _, _, _, _, rfl, by have h := put (i := 21) (v := _) H.f (show 21 < 36 by decide) (show Value.bool (!n || a || b || s) = _ from rfl); exact h, H.below⟩

theorem step22 (hI : Inv w V0 k l2 c2 x p n a b s z o sv ov gb b8 B ad seen U L c W) (hu : L.getD 22 false = false) (hL : 22 < L.size) (hF : Fa w V0 k l2 c2 x p n a b s z o sv ov gb b8 B ad seen) (d21 : L.getD 21 false = true) :
 wpOp Tryd.prog ops15 Q 22 (fun a' w' => Inv w V0 k l2 c2 x p n a b s z o sv ov gb b8 B ad seen U (L.setIfInBounds 22 true) a' w') c W := by
 obtain ⟨x64, x65, x66, x67, x68, x69, x70, x71, x72, x73, x74, x75, x76, x77, x78, x79, x80, x81, x82, x83, x84, x85, x86, x87, x88, x89, x90, x91, x92, x93, x94, x95, x96, x97, x98, x99, rfl, H⟩ := hI
 have e21_ : x85 = Value.bool (!n || a || b || s) := H.f 21 d21
 refine wpOp_step (o := o22) rfl (fun K' hK => ?_)
 unfold o22
 cases hg : (!n || a || b || s) with
 | true =>
  rw [hg] at e21_
  subst e21_
  go_simp
  refine hK _ _ ⟨_, _, _, _, _, _, _, _, _, _, _, _, _, _, _, _, _, _, _, _, _, _, _, _, _, _, _, _, _, _, _, _, _, _, _, _, rfl, by have h := put (i := 22) (v := _) H.f (show 22 < 36 by decide) (show (if (!n || a || b || s) = false then Value.int .i64 (k : Int) else undef) = _ from by rw [hg] <;> rfl); exact h, H.below⟩
 | false =>
  rw [hg] at e21_
  subst e21_
  go_simp
  refine hK _ _ ⟨_, _, _, _, _, _, _, _, _, _, _, _, _, _, _, _, _, _, _, _, _, _, _, _, _, _, _, _, _, _, _, _, _, _, _, _, rfl, by have h := put (i := 22) (v := _) H.f (show 22 < 36 by decide) (show (if (!n || a || b || s) = false then Value.int .i64 (k : Int) else undef) = _ from by rw [hg] <;> rfl); exact h, H.below⟩

theorem step23 (hI : Inv w V0 k l2 c2 x p n a b s z o sv ov gb b8 B ad seen U L c W) (hu : L.getD 23 false = false) (hL : 23 < L.size) (hF : Fa w V0 k l2 c2 x p n a b s z o sv ov gb b8 B ad seen) (d21 : L.getD 21 false = true) (d22 : L.getD 22 false = true) :
 wpOp Tryd.prog ops15 Q 23 (fun a' w' => Inv w V0 k l2 c2 x p n a b s z o sv ov gb b8 B ad seen U (L.setIfInBounds 23 true) a' w') c W := by
 obtain ⟨x64, x65, x66, x67, x68, x69, x70, x71, x72, x73, x74, x75, x76, x77, x78, x79, x80, x81, x82, x83, x84, x85, x86, x87, x88, x89, x90, x91, x92, x93, x94, x95, x96, x97, x98, x99, rfl, H⟩ := hI
 have e21_ : x85 = Value.bool (!n || a || b || s) := H.f 21 d21
 have e22_ : x86 = (if (!n || a || b || s) = false then Value.int .i64 (k : Int) else undef) := H.f 22 d22
 refine wpOp_step (o := o23) rfl (fun K' hK => ?_)
 unfold o23
 cases hg : (!n || a || b || s) with
 | true =>
  rw [hg] at e21_
  rw [hg] at e22_
  subst e21_
  subst e22_
  go_simp
  refine hK _ _ ⟨_, _, _, _, _, _, _, _, _, _, _, _, _, _, _, _, _, _, _, _, _, _, _, _, _, _, _, _, _, _, _, _, _, _, _, _, rfl, by have h := put (i := 23) (v := _) H.f (show 23 < 36 by decide) (show (if (!n || a || b || s) = false then Value.bool z else undef) = _ from by rw [hg] <;> rfl); exact h, H.below⟩
 | false =>
  rw [hg] at e21_
  rw [hg] at e22_
  subst e21_
  subst e22_
  have hd := hF.hz
  go_simp
  refine hK _ _ ⟨_, _, _, _, _, _, _, _, _, _, _, _, _, _, _, _, _, _, _, _, _, _, _, _, _, _, _, _, _, _, _, _, _, _, _, _, rfl, by have h := put (i := 23) (v := _) H.f (show 23 < 36 by decide) (show (if (!n || a || b || s) = false then Value.bool z else undef) = _ from by rw [hg] <;> rfl); exact h, H.below⟩

theorem step24 (hI : Inv w V0 k l2 c2 x p n a b s z o sv ov gb b8 B ad seen U L c W) (hu : L.getD 24 false = false) (hL : 24 < L.size) (hF : Fa w V0 k l2 c2 x p n a b s z o sv ov gb b8 B ad seen) (d21 : L.getD 21 false = true) (d23 : L.getD 23 false = true) :
 wpOp Tryd.prog ops15 Q 24 (fun a' w' => Inv w V0 k l2 c2 x p n a b s z o sv ov gb b8 B ad seen U (L.setIfInBounds 24 true) a' w') c W := by
 obtain ⟨x64, x65, x66, x67, x68, x69, x70, x71, x72, x73, x74, x75, x76, x77, x78, x79, x80, x81, x82, x83, x84, x85, x86, x87, x88, x89, x90, x91, x92, x93, x94, x95, x96, x97, x98, x99, rfl, H⟩ := hI
 have e21_ : x85 = Value.bool (!n || a || b || s) := H.f 21 d21
 have e23_ : x87 = (if (!n || a || b || s) = false then Value.bool z else undef) := H.f 23 d23
 refine wpOp_step (o := o24) rfl (fun K' hK => ?_)
 unfold o24
 cases hg : (!n || a || b || s) with
 | true =>
  rw [hg] at e21_
  rw [hg] at e23_
  subst e21_
  subst e23_
  go_simp
  refine hK _ _ ⟨_, _, _, _, _, _, _, _, _, _, _, _, _, _, _, _, _, _, _, _, _, _, _, _, _, _, _, _, _, _, _, _, _, _, _, _, rfl, by have h := put (i := 24) (v := _) H.f (show 24 < 36 by decide) (show (if (!n || a || b || s) = false then Value.bool z else undef) = _ from by rw [hg] <;> rfl); exact h, H.below⟩
 | false =>
  rw [hg] at e21_
  rw [hg] at e23_
  subst e21_
  subst e23_
  go_simp
  refine hK _ _ ⟨_, _, _, _, _, _, _, _, _, _, _, _, _, _, _, _, _, _, _, _, _, _, _, _, _, _, _, _, _, _, _, _, _, _, _, _, rfl, by have h := put (i := 24) (v := _) H.f (show 24 < 36 by decide) (show (if (!n || a || b || s) = false then Value.bool z else undef) = _ from by rw [hg] <;> rfl); exact h, H.below⟩

theorem step25 (hI : Inv w V0 k l2 c2 x p n a b s z o sv ov gb b8 B ad seen U L c W) (hu : L.getD 25 false = false) (hL : 25 < L.size) (hF : Fa w V0 k l2 c2 x p n a b s z o sv ov gb b8 B ad seen) (d24 : L.getD 24 false = true) :
 wpOp Tryd.prog ops15 Q 25 (fun a' w' => Inv w V0 k l2 c2 x p n a b s z o sv ov gb b8 B ad seen U (L.setIfInBounds 25 true) a' w') c W := by
 obtain ⟨x64, x65, x66, x67, x68, x69, x70, x71, x72, x73, x74, x75, x76, x77, x78, x79, x80, x81, x82, x83, x84, x85, x86, x87, x88, x89, x90, x91, x92, x93, x94, x95, x96, x97, x98, x99, rfl, H⟩ := hI
 have e24_ : x88 = (if (!n || a || b || s) = false then Value.bool z else undef) := H.f 24 d24
 refine wpOp_step (o := o25) rfl (fun K' hK => ?_)
 unfold o25
 cases hg : (!n || a || b || s) with
 | true =>
  rw [hg] at e24_
  subst e24_
  go_simp
  refine hK _ _ ⟨_, _, _, _, _, _, _, _, _, _, _, _, _, _, _, _, _, _, _, _, _, _, _, _, _, _, _, _, _, _, _, _, _, _, _, _, rfl, by have h := put (i := 25) (v := _) H.f (show 25 < 36 by decide) (show (if (!(!n || a || b || s) && z) = true then Value.pointer (some ⟨gb, 2, none⟩) else undef) = _ from by rw [hg] <;> rfl); exact h, H.below⟩
 | false =>
  cases hzz : z with
  | false =>
   rw [hg] at e24_
   rw [hzz] at e24_
   subst e24_
   go_simp
   refine hK _ _ ⟨_, _, _, _, _, _, _, _, _, _, _, _, _, _, _, _, _, _, _, _, _, _, _, _, _, _, _, _, _, _, _, _, _, _, _, _, rfl, by have h := put (i := 25) (v := _) H.f (show 25 < 36 by decide) (show (if (!(!n || a || b || s) && z) = true then Value.pointer (some ⟨gb, 2, none⟩) else undef) = _ from by rw [hg, hzz] <;> rfl); exact h, H.below⟩
  | true =>
   rw [hg] at e24_
   rw [hzz] at e24_
   subst e24_
   go_simp
   refine hK _ _ ⟨_, _, _, _, _, _, _, _, _, _, _, _, _, _, _, _, _, _, _, _, _, _, _, _, _, _, _, _, _, _, _, _, _, _, _, _, rfl, by have h := put (i := 25) (v := _) H.f (show 25 < 36 by decide) (show (if (!(!n || a || b || s) && z) = true then Value.pointer (some ⟨gb, 2, none⟩) else undef) = _ from by rw [hg, hzz] <;> rfl); exact h, H.below⟩

theorem step26 (hI : Inv w V0 k l2 c2 x p n a b s z o sv ov gb b8 B ad seen U L c W) (hu : L.getD 26 false = false) (hL : 26 < L.size) (hF : Fa w V0 k l2 c2 x p n a b s z o sv ov gb b8 B ad seen) (d24 : L.getD 24 false = true) (d25 : L.getD 25 false = true) :
 wpOp Tryd.prog ops15 Q 26 (fun a' w' => Inv w V0 k l2 c2 x p n a b s z o sv ov gb b8 B ad seen U (L.setIfInBounds 26 true) a' w') c W := by
 obtain ⟨x64, x65, x66, x67, x68, x69, x70, x71, x72, x73, x74, x75, x76, x77, x78, x79, x80, x81, x82, x83, x84, x85, x86, x87, x88, x89, x90, x91, x92, x93, x94, x95, x96, x97, x98, x99, rfl, H⟩ := hI
 have e24_ : x88 = (if (!n || a || b || s) = false then Value.bool z else undef) := H.f 24 d24
 have e25_ : x89 = (if (!(!n || a || b || s) && z) = true then Value.pointer (some ⟨gb, 2, none⟩) else undef) := H.f 25 d25
 refine wpOp_step (o := o26) rfl (fun K' hK => ?_)
 unfold o26
 cases hg : (!n || a || b || s) with
 | true =>
  rw [hg] at e24_
  rw [hg] at e25_
  subst e24_
  subst e25_
  go_simp
  refine hK _ _ ⟨_, _, _, _, _, _, _, _, _, _, _, _, _, _, _, _, _, _, _, _, _, _, _, _, _, _, _, _, _, _, _, _, _, _, _, _, rfl, by have h := put (i := 26) (v := _) H.f (show 26 < 36 by decide) (show (if (!(!n || a || b || s) && z) = true then Value.slice (some ad) l2.length c2 else undef) = _ from by rw [hg] <;> rfl); exact h, H.below⟩
 | false =>
  cases hzz : z with
  | false =>
   rw [hg] at e24_
   rw [hzz] at e24_
   rw [hg] at e25_
   rw [hzz] at e25_
   subst e24_
   subst e25_
   go_simp
   refine hK _ _ ⟨_, _, _, _, _, _, _, _, _, _, _, _, _, _, _, _, _, _, _, _, _, _, _, _, _, _, _, _, _, _, _, _, _, _, _, _, rfl, by have h := put (i := 26) (v := _) H.f (show 26 < 36 by decide) (show (if (!(!n || a || b || s) && z) = true then Value.slice (some ad) l2.length c2 else undef) = _ from by rw [hg, hzz] <;> rfl); exact h, H.below⟩
  | true =>
   rw [hg] at e24_
   rw [hzz] at e24_
   rw [hg] at e25_
   rw [hzz] at e25_
   subst e24_
   subst e25_
   have q2 := (H.below.cell (World.block_lt_of_cell? V0 _ (hF.e2))).trans (hF.e2)
   go_simp
   refine hK _ _ ⟨_, _, _, _, _, _, _, _, _, _, _, _, _, _, _, _, _, _, _, _, _, _, _, _, _, _, _, _, _, _, _, _, _, _, _, _, rfl, by have h := put (i := 26) (v := _) H.f (show 26 < 36 by decide) (show (if (!(!n || a || b || s) && z) = true then Value.slice (some ad) l2.length c2 else undef) = _ from by rw [hg, hzz] <;> rfl); exact h, H.below⟩

theorem step27 (hI : Inv w V0 k l2 c2 x p n a b s z o sv ov gb b8 B ad seen U L c W) (hu : L.getD 27 false = false) (hL : 27 < L.size) (hF : Fa w V0 k l2 c2 x p n a b s z o sv ov gb b8 B ad seen) (d24 : L.getD 24 false = true) :
 wpOp Tryd.prog ops15 Q 27 (fun a' w' => Inv w V0 k l2 c2 x p n a b s z o sv ov gb b8 B ad seen U (L.setIfInBounds 27 true) a' w') c W := by
 obtain ⟨x64, x65, x66, x67, x68, x69, x70, x71, x72, x73, x74, x75, x76, x77, x78, x79, x80, x81, x82, x83, x84, x85, x86, x87, x88, x89, x90, x91, x92, x93, x94, x95, x96, x97, x98, x99, rfl, H⟩ := hI
 have e24_ : x88 = (if (!n || a || b || s) = false then Value.bool z else undef) := H.f 24 d24
 refine wpOp_step (o := o27) rfl (fun K' hK => ?_)
 unfold o27
 cases hg : (!n || a || b || s) with
 | true =>
  rw [hg] at e24_
  subst e24_
  go_simp
  refine hK _ _ ⟨_, _, _, _, _, _, _, _, _, _, _, _, _, _, _, _, _, _, _, _, _, _, _, _, _, _, _, _, _, _, _, _, _, _, _, _, rfl, by have h := put (i := 27) (v := _) H.f (show 27 < 36 by decide) (show (if (!(!n || a || b || s) && z) = true then Value.int .i64 (k : Int) else undef) = _ from by rw [hg] <;> rfl); exact h, H.below⟩
 | false =>
  cases hzz : z with
  | false =>
   rw [hg] at e24_
   rw [hzz] at e24_
   subst e24_
   go_simp
   refine hK _ _ ⟨_, _, _, _, _, _, _, _, _, _, _, _, _, _, _, _, _, _, _, _, _, _, _, _, _, _, _, _, _, _, _, _, _, _, _, _, rfl, by have h := put (i := 27) (v := _) H.f (show 27 < 36 by decide) (show (if (!(!n || a || b || s) && z) = true then Value.int .i64 (k : Int) else undef) = _ from by rw [hg, hzz] <;> rfl); exact h, H.below⟩
  | true =>
   rw [hg] at e24_
   rw [hzz] at e24_
   subst e24_
   go_simp
   refine hK _ _ ⟨_, _, _, _, _, _, _, _, _, _, _, _, _, _, _, _, _, _, _, _, _, _, _, _, _, _, _, _, _, _, _, _, _, _, _, _, rfl, by have h := put (i := 27) (v := _) H.f (show 27 < 36 by decide) (show (if (!(!n || a || b || s) && z) = true then Value.int .i64 (k : Int) else undef) = _ from by rw [hg, hzz] <;> rfl); exact h, H.below⟩

theorem step28 (hI : Inv w V0 k l2 c2 x p n a b s z o sv ov gb b8 B ad seen U L c W) (hu : L.getD 28 false = false) (hL : 28 < L.size) (hF : Fa w V0 k l2 c2 x p n a b s z o sv ov gb b8 B ad seen) (d24 : L.getD 24 false = true) (d27 : L.getD 27 false = true) :
 wpOp Tryd.prog ops15 Q 28 (fun a' w' => Inv w V0 k l2 c2 x p n a b s z o sv ov gb b8 B ad seen U (L.setIfInBounds 28 true) a' w') c W := by
 obtain ⟨x64, x65, x66, x67, x68, x69, x70, x71, x72, x73, x74, x75, x76, x77, x78, x79, x80, x81, x82, x83, x84, x85, x86, x87, x88, x89, x90, x91, x92, x93, x94, x95, x96, x97, x98, x99, rfl, H⟩ := hI
 have e24_ : x88 = (if (!n || a || b || s) = false then Value.bool z else undef) := H.f 24 d24
 have e27_ : x91 = (if (!(!n || a || b || s) && z) = true then Value.int .i64 (k : Int) else undef) := H.f 27 d27
 refine wpOp_step (o := o28) rfl (fun K' hK => ?_)
 unfold o28
 cases hg : (!n || a || b || s) with
 | true =>
  rw [hg] at e24_
  rw [hg] at e27_
  subst e24_
  subst e27_
  go_simp
  refine hK _ _ ⟨_, _, _, _, _, _, _, _, _, _, _, _, _, _, _, _, _, _, _, _, _, _, _, _, _, _, _, _, _, _, _, _, _, _, _, _, rfl, by have h := put (i := 28) (v := _) H.f (show 28 < 36 by decide) (show (if (!(!n || a || b || s) && z) = true then Value.int .i64 ((k : Int) - 1) else undef) = _ from by rw [hg] <;> rfl); exact h, H.below⟩
 | false =>
  cases hzz : z with
  | false =>
   rw [hg] at e24_
   rw [hzz] at e24_
   rw [hg] at e27_
   rw [hzz] at e27_
   subst e24_
   subst e27_
   go_simp
   refine hK _ _ ⟨_, _, _, _, _, _, _, _, _, _, _, _, _, _, _, _, _, _, _, _, _, _, _, _, _, _, _, _, _, _, _, _, _, _, _, _, rfl, by have h := put (i := 28) (v := _) H.f (show 28 < 36 by decide) (show (if (!(!n || a || b || s) && z) = true then Value.int .i64 ((k : Int) - 1) else undef) = _ from by rw [hg, hzz] <;> rfl); exact h, H.below⟩
  | true =>
   rw [hg] at e24_
   rw [hzz] at e24_
   rw [hg] at e27_
   rw [hzz] at e27_
   subst e24_
   subst e27_
   have hw : IntKind.i64.wrap ((k : Int) - 1) = (k : Int) - 1 := by have := hF.hk; have := hF.hl; rw [IntKind.wrap_i64]; omega
   go_simp
   refine hK _ _ ⟨_, _, _, _, _, _, _, _, _, _, _, _, _, _, _, _, _, _, _, _, _, _, _, _, _, _, _, _, _, _, _, _, _, _, _, _, rfl, by have h := put (i := 28) (v := _) H.f (show 28 < 36 by decide) (show (if (!(!n || a || b || s) && z) = true then Value.int .i64 ((k : Int) - 1) else undef) = _ from by rw [hg, hzz] <;> rfl); exact h, H.below⟩

theorem step29 (hI : Inv w V0 k l2 c2 x p n a b s z o sv ov gb b8 B ad seen U L c W) (hu : L.getD 29 false = false) (hL : 29 < L.size) (hF : Fa w V0 k l2 c2 x p n a b s z o sv ov gb b8 B ad seen) (d24 : L.getD 24 false = true) (d26 : L.getD 26 false = true) (d28 : L.getD 28 false = true) :
 wpOp Tryd.prog ops15 Q 29 (fun a' w' => Inv w V0 k l2 c2 x p n a b s z o sv ov gb b8 B ad seen U (L.setIfInBounds 29 true) a' w') c W := by
 obtain ⟨x64, x65, x66, x67, x68, x69, x70, x71, x72, x73, x74, x75, x76, x77, x78, x79, x80, x81, x82, x83, x84, x85, x86, x87, x88, x89, x90, x91, x92, x93, x94, x95, x96, x97, x98, x99, rfl, H⟩ := hI
 have e24_ : x88 = (if (!n || a || b || s) = false then Value.bool z else undef) := H.f 24 d24
 have e26_ : x90 = (if (!(!n || a || b || s) && z) = true then Value.slice (some ad) l2.length c2 else undef) := H.f 26 d26
 have e28_ : x92 = (if (!(!n || a || b || s) && z) = true then Value.int .i64 ((k : Int) - 1) else undef) := H.f 28 d28
 refine wpOp_step (o := o29) rfl (fun K' hK => ?_)
 unfold o29
 cases hg : (!n || a || b || s) with
 | true =>
  rw [hg] at e24_
  rw [hg] at e26_
  rw [hg] at e28_
  subst e24_
  subst e26_
  subst e28_
  go_simp
  refine hK _ _ ⟨_, _, _, _, _, _, _, _, _, _, _, _, _, _, _, _, _, _, _, _, _, _, _, _, _, _, _, _, _, _, _, _, _, _, _, _, rfl, by have h := put (i := 29) (v := _) H.f (show 29 < 36 by decide) (show (if (!(!n || a || b || s) && z) = true then Value.pointer (some (ad.add ((k - 1) * 2))) else undef) = _ from by rw [hg] <;> rfl); exact h, H.below⟩
 | false =>
  cases hzz : z with
  | false =>
   rw [hg] at e24_
   rw [hzz] at e24_
   rw [hg] at e26_
   rw [hzz] at e26_
   rw [hg] at e28_
   rw [hzz] at e28_
   subst e24_
   subst e26_
   subst e28_
   go_simp
   refine hK _ _ ⟨_, _, _, _, _, _, _, _, _, _, _, _, _, _, _, _, _, _, _, _, _, _, _, _, _, _, _, _, _, _, _, _, _, _, _, _, rfl, by have h := put (i := 29) (v := _) H.f (show 29 < 36 by decide) (show (if (!(!n || a || b || s) && z) = true then Value.pointer (some (ad.add ((k - 1) * 2))) else undef) = _ from by rw [hg, hzz] <;> rfl); exact h, H.below⟩
  | true =>
   rw [hg] at e24_
   rw [hzz] at e24_
   rw [hg] at e26_
   rw [hzz] at e26_
   rw [hg] at e28_
   rw [hzz] at e28_
   subst e24_
   subst e26_
   subst e28_
   have hk := hF.hk
   have j0 : (0 : Int) ≤ (k : Int) - 1 := by have := hF.hz; have hz1 : decide (0 < k) = true := this.trans hzz; have := of_decide_eq_true hz1; omega
   have j1 : (k : Int) - 1 < (l2.length : Int) := by omega
   have jt : ((k : Int) - 1).toNat = k - 1 := by omega
   clear hk
   have j2 : (1 : Int) ≤ (k : Int) := by omega
   rw [if_pos (by rfl)]
   go_simp
   refine hK _ _ ⟨_, _, _, _, _, _, _, _, _, _, _, _, _, _, _, _, _, _, _, _, _, _, _, _, _, _, _, _, _, _, _, _, _, _, _, _, rfl, by have h := put (i := 29) (v := _) H.f (show 29 < 36 by decide) (show (if (!(!n || a || b || s) && z) = true then Value.pointer (some (ad.add ((k - 1) * 2))) else undef) = _ from by rw [hg, hzz] <;> rfl); exact h, H.below⟩

theorem step30 (hI : Inv w V0 k l2 c2 x p n a b s z o sv ov gb b8 B ad seen U L c W) (hu : L.getD 30 false = false) (hL : 30 < L.size) (hF : Fa w V0 k l2 c2 x p n a b s z o sv ov gb b8 B ad seen) (d24 : L.getD 24 false = true) (d29 : L.getD 29 false = true) :
 wpOp Tryd.prog ops15 Q 30 (fun a' w' => Inv w V0 k l2 c2 x p n a b s z o sv ov gb b8 B ad seen U (L.setIfInBounds 30 true) a' w') c W := by
 obtain ⟨x64, x65, x66, x67, x68, x69, x70, x71, x72, x73, x74, x75, x76, x77, x78, x79, x80, x81, x82, x83, x84, x85, x86, x87, x88, x89, x90, x91, x92, x93, x94, x95, x96, x97, x98, x99, rfl, H⟩ := hI
 have e24_ : x88 = (if (!n || a || b || s) = false then Value.bool z else undef) := H.f 24 d24
 have e29_ : x93 = (if (!(!n || a || b || s) && z) = true then Value.pointer (some (ad.add ((k - 1) * 2))) else undef) := H.f 29 d29
 refine wpOp_step (o := o30) rfl (fun K' hK => ?_)
 unfold o30
 cases hg : (!n || a || b || s) with
 | true =>
  rw [hg] at e24_
  rw [hg] at e29_
  subst e24_
  subst e29_
  go_simp
  refine hK _ _ ⟨_, _, _, _, _, _, _, _, _, _, _, _, _, _, _, _, _, _, _, _, _, _, _, _, _, _, _, _, _, _, _, _, _, _, _, _, rfl, by have h := put (i := 30) (v := _) H.f (show 30 < 36 by decide) (show (if (!(!n || a || b || s) && z) = true then Value.agg #[.string p.f0, .int .i64 p.f1] else undef) = _ from by rw [hg] <;> rfl); exact h, H.below⟩
 | false =>
  cases hzz : z with
  | false =>
   rw [hg] at e24_
   rw [hzz] at e24_
   rw [hg] at e29_
   rw [hzz] at e29_
   subst e24_
   subst e29_
   go_simp
   refine hK _ _ ⟨_, _, _, _, _, _, _, _, _, _, _, _, _, _, _, _, _, _, _, _, _, _, _, _, _, _, _, _, _, _, _, _, _, _, _, _, rfl, by have h := put (i := 30) (v := _) H.f (show 30 < 36 by decide) (show (if (!(!n || a || b || s) && z) = true then Value.agg #[.string p.f0, .int .i64 p.f1] else undef) = _ from by rw [hg, hzz] <;> rfl); exact h, H.below⟩
  | true =>
   rw [hg] at e24_
   rw [hzz] at e24_
   rw [hg] at e29_
   rw [hzz] at e29_
   subst e24_
   subst e29_
   have hp0 := hF.p0 hzz
   have hp1 := hF.p1 hzz
   have q3 := (H.below.cell (World.block_lt_of_cell? V0 _ hp0)).trans hp0
   have q4 := (H.below.cell (World.block_lt_of_cell? V0 _ hp1)).trans hp1
   go_simp
   refine hK _ _ ⟨_, _, _, _, _, _, _, _, _, _, _, _, _, _, _, _, _, _, _, _, _, _, _, _, _, _, _, _, _, _, _, _, _, _, _, _, rfl, by have h := put (i := 30) (v := _) H.f (show 30 < 36 by decide) (show (if (!(!n || a || b || s) && z) = true then Value.agg #[.string p.f0, .int .i64 p.f1] else undef) = _ from by rw [hg, hzz] <;> rfl); exact h, H.below⟩

theorem step31 (hI : Inv w V0 k l2 c2 x p n a b s z o sv ov gb b8 B ad seen U L c W) (hu : L.getD 31 false = false) (hL : 31 < L.size) (hF : Fa w V0 k l2 c2 x p n a b s z o sv ov gb b8 B ad seen) (d24 : L.getD 24 false = true) :
 wpOp Tryd.prog ops15 Q 31 (fun a' w' => Inv w V0 k l2 c2 x p n a b s z o sv ov gb b8 B ad seen U (L.setIfInBounds 31 true) a' w') c W := by
 obtain ⟨x64, x65, x66, x67, x68, x69, x70, x71, x72, x73, x74, x75, x76, x77, x78, x79, x80, x81, x82, x83, x84, x85, x86, x87, x88, x89, x90, x91, x92, x93, x94, x95, x96, x97, x98, x99, rfl, H⟩ := hI
 have e24_ : x88 = (if (!n || a || b || s) = false then Value.bool z else undef) := H.f 24 d24
 refine wpOp_step (o := o31) rfl (fun K' hK => ?_)
 unfold o31
 cases hg : (!n || a || b || s) with
 | true =>
  rw [hg] at e24_
  subst e24_
  go_simp
  refine hK _ _ ⟨_, _, _, _, _, _, _, _, _, _, _, _, _, _, _, _, _, _, _, _, _, _, _, _, _, _, _, _, _, _, _, _, _, _, _, _, rfl, by have h := put (i := 31) (v := _) H.f (show 31 < 36 by decide) (show (if (!(!n || a || b || s) && z) = true then Value.agg #[.string x.f0, .int .i64 x.f1] else undef) = _ from by rw [hg] <;> rfl); exact h, H.below⟩
 | false =>
  cases hzz : z with
  | false =>
   rw [hg] at e24_
   rw [hzz] at e24_
   subst e24_
   go_simp
   refine hK _ _ ⟨_, _, _, _, _, _, _, _, _, _, _, _, _, _, _, _, _, _, _, _, _, _, _, _, _, _, _, _, _, _, _, _, _, _, _, _, rfl, by have h := put (i := 31) (v := _) H.f (show 31 < 36 by decide) (show (if (!(!n || a || b || s) && z) = true then Value.agg #[.string x.f0, .int .i64 x.f1] else undef) = _ from by rw [hg, hzz] <;> rfl); exact h, H.below⟩
  | true =>
   rw [hg] at e24_
   rw [hzz] at e24_
   subst e24_
   have q0 := (H.below.cell (World.block_lt_of_cell? V0 _ (hF.e0))).trans (hF.e0)
   have q1 := (H.below.cell (World.block_lt_of_cell? V0 _ (hF.e1))).trans (hF.e1)
   go_simp
   refine hK _ _ ⟨_, _, _, _, _, _, _, _, _, _, _, _, _, _, _, _, _, _, _, _, _, _, _, _, _, _, _, _, _, _, _, _, _, _, _, _, rfl, by have h := put (i := 31) (v := _) H.f (show 31 < 36 by decide) (show (if (!(!n || a || b || s) && z) = true then Value.agg #[.string x.f0, .int .i64 x.f1] else undef) = _ from by rw [hg, hzz] <;> rfl); exact h, H.below⟩

theorem step32 (hI : Inv w V0 k l2 c2 x p n a b s z o sv ov gb b8 B ad seen U L c W) (hu : L.getD 32 false = false) (hL : 32 < L.size) (hF : Fa w V0 k l2 c2 x p n a b s z o sv ov gb b8 B ad seen) (d24 : L.getD 24 false = true) (d30 : L.getD 30 false = true) (d31 : L.getD 31 false = true) :
 wpOp Tryd.prog ops15 Q 32 (fun a' w' => Inv w V0 k l2 c2 x p n a b s z o sv ov gb b8 B ad seen U (L.setIfInBounds 32 true) a' w') c W := by
 obtain ⟨x64, x65, x66, x67, x68, x69, x70, x71, x72, x73, x74, x75, x76, x77, x78, x79, x80, x81, x82, x83, x84, x85, x86, x87, x88, x89, x90, x91, x92, x93, x94, x95, x96, x97, x98, x99, rfl, H⟩ := hI
 have e24_ : x88 = (if (!n || a || b || s) = false then Value.bool z else undef) := H.f 24 d24
 have e30_ : x94 = (if (!(!n || a || b || s) && z) = true then Value.agg #[.string p.f0, .int .i64 p.f1] else undef) := H.f 30 d30
 have e31_ : x95 = (if (!(!n || a || b || s) && z) = true then Value.agg #[.string x.f0, .int .i64 x.f1] else undef) := H.f 31 d31
 refine wpOp_step (o := o32) rfl (fun K' hK => ?_)
 unfold o32
 cases hg : (!n || a || b || s) with
 | true =>
  rw [hg] at e24_
  rw [hg] at e30_
  rw [hg] at e31_
  subst e24_
  subst e30_
  subst e31_
  go_simp
  refine hK _ _ ⟨_, _, _, _, _, _, _, _, _, _, _, _, _, _, _, _, _, _, _, _, _, _, _, _, _, _, _, _, _, _, _, _, _, _, _, _, rfl, by have h := put (i := 32) (v := _) H.f (show 32 < 36 by decide) (show (if (!(!n || a || b || s) && z) = true then Value.int .i64 ov else undef) = _ from by rw [hg] <;> rfl); exact h, H.below⟩
 | false =>
  cases hzz : z with
  | false =>
   rw [hg] at e24_
   rw [hzz] at e24_
   rw [hg] at e30_
   rw [hzz] at e30_
   rw [hg] at e31_
   rw [hzz] at e31_
   subst e24_
   subst e30_
   subst e31_
   go_simp
   refine hK _ _ ⟨_, _, _, _, _, _, _, _, _, _, _, _, _, _, _, _, _, _, _, _, _, _, _, _, _, _, _, _, _, _, _, _, _, _, _, _, rfl, by have h := put (i := 32) (v := _) H.f (show 32 < 36 by decide) (show (if (!(!n || a || b || s) && z) = true then Value.int .i64 ov else undef) = _ from by rw [hg, hzz] <;> rfl); exact h, H.below⟩
  | true =>
   rw [hg] at e24_
   rw [hzz] at e24_
   rw [hg] at e30_
   rw [hzz] at e30_
   rw [hg] at e31_
   rw [hzz] at e31_
   subst e24_
   subst e30_
   subst e31_
   rw [if_pos (by rfl)]
   go_simp
   go_at_call 18
   refine (ordered_calls p.f0 x.f0 p.f1 x.f1 W).mono ?_
   rintro e w3 ⟨rfl, hb3⟩
   rw [← hF.hov]
   go_simp
   refine hK _ _ ⟨_, _, _, _, _, _, _, _, _, _, _, _, _, _, _, _, _, _, _, _, _, _, _, _, _, _, _, _, _, _, _, _, _, _, _, _, rfl, by have h := put (i := 32) (v := _) H.f (show 32 < 36 by decide) (show (if (!(!n || a || b || s) && z) = true then Value.int .i64 ov else undef) = _ from by rw [hg, hzz] <;> rfl); exact h, below_step H.below hb3⟩

theorem step33 (hI : Inv w V0 k l2 c2 x p n a b s z o sv ov gb b8 B ad seen U L c W) (hu : L.getD 33 false = false) (hL : 33 < L.size) (hF : Fa w V0 k l2 c2 x p n a b s z o sv ov gb b8 B ad seen) (d24 : L.getD 24 false = true) (d32 : L.getD 32 false = true) :
 wpOp Tryd.prog ops15 Q 33 (fun a' w' => Inv w V0 k l2 c2 x p n a b s z o sv ov gb b8 B ad seen U (L.setIfInBounds 33 true) a' w') c W := by
 obtain ⟨x64, x65, x66, x67, x68, x69, x70, x71, x72, x73, x74, x75, x76, x77, x78, x79, x80, x81, x82, x83, x84, x85, x86, x87, x88, x89, x90, x91, x92, x93, x94, x95, x96, x97, x98, x99, rfl, H⟩ := hI
 have e24_ : x88 = (if (!n || a || b || s) = false then Value.bool z else undef) := H.f 24 d24
 have e32_ : x96 = (if (!(!n || a || b || s) && z) = true then Value.int .i64 ov else undef) := H.f 32 d32
 refine wpOp_step (o := o33) rfl (fun K' hK => ?_)
 unfold o33
 cases hg : (!n || a || b || s) with
 | true =>
  rw [hg] at e24_
  rw [hg] at e32_
  subst e24_
  subst e32_
  go_simp
  refine hK _ _ ⟨_, _, _, _, _, _, _, _, _, _, _, _, _, _, _, _, _, _, _, _, _, _, _, _, _, _, _, _, _, _, _, _, _, _, _, _, rfl, by have h := put (i := 33) (v := _) H.f (show 33 < 36 by decide) (show (if (!(!n || a || b || s) && z) = true then Value.bool o else undef) = _ from by rw [hg] <;> rfl); exact h, H.below⟩
 | false =>
  cases hzz : z with
  | false =>
   rw [hg] at e24_
   rw [hzz] at e24_
   rw [hg] at e32_
   rw [hzz] at e32_
   subst e24_
   subst e32_
   go_simp
   refine hK _ _ ⟨_, _, _, _, _, _, _, _, _, _, _, _, _, _, _, _, _, _, _, _, _, _, _, _, _, _, _, _, _, _, _, _, _, _, _, _, rfl, by have h := put (i := 33) (v := _) H.f (show 33 < 36 by decide) (show (if (!(!n || a || b || s) && z) = true then Value.bool o else undef) = _ from by rw [hg, hzz] <;> rfl); exact h, H.below⟩
  | true =>
   rw [hg] at e24_
   rw [hzz] at e24_
   rw [hg] at e32_
   rw [hzz] at e32_
   subst e24_
   subst e32_
   have hd := hF.ho
   go_simp
   refine hK _ _ ⟨_, _, _, _, _, _, _, _, _, _, _, _, _, _, _, _, _, _, _, _, _, _, _, _, _, _, _, _, _, _, _, _, _, _, _, _, rfl, by have h := put (i := 33) (v := _) H.f (show 33 < 36 by decide) (show (if (!(!n || a || b || s) && z) = true then Value.bool o else undef) = _ from by rw [hg, hzz] <;> rfl); exact h, H.below⟩

theorem step34 (hI : Inv w V0 k l2 c2 x p n a b s z o sv ov gb b8 B ad seen U L c W) (hu : L.getD 34 false = false) (hL : 34 < L.size) (hF : Fa w V0 k l2 c2 x p n a b s z o sv ov gb b8 B ad seen) (d21 : L.getD 21 false = true) (d24 : L.getD 24 false = true) (d33 : L.getD 33 false = true) :
 wpOp Tryd.prog ops15 Q 34 (fun a' w' => Inv w V0 k l2 c2 x p n a b s z o sv ov gb b8 B ad seen U (L.setIfInBounds 34 true) a' w') c W := by
 obtain ⟨x64, x65, x66, x67, x68, x69, x70, x71, x72, x73, x74, x75, x76, x77, x78, x79, x80, x81, x82, x83, x84, x85, x86, x87, x88, x89, x90, x91, x92, x93, x94, x95, x96, x97, x98, x99, rfl, H⟩ := hI
 have e21_ : x85 = Value.bool (!n || a || b || s) := H.f 21 d21
 have e24_ : x88 = (if (!n || a || b || s) = false then Value.bool z else undef) := H.f 24 d24
 have e33_ : x97 = (if (!(!n || a || b || s) && z) = true then Value.bool o else undef) := H.f 33 d33
 refine wpOp_step (o := o34) rfl (fun K' hK => ?_)
 unfold o34
 cases hg : (!n || a || b || s) with
 | true =>
  rw [hg] at e21_
  rw [hg] at e24_
  rw [hg] at e33_
  subst e21_
  subst e24_
  subst e33_
  go_simp
  refine hK _ _ ⟨_, _, _, _, _, _, _, _, _, _, _, _, _, _, _, _, _, _, _, _, _, _, _, _, _, _, _, _, _, _, _, _, _, _, _, _, rfl, by have h := put (i := 34) (v := _) H.f (show 34 < 36 by decide) (show (if (!n || a || b || s) = false then Value.bool (z && o) else undef) = _ from by rw [hg] <;> rfl); exact h, H.below⟩
 | false =>
  cases hzz : z with
  | true =>
   rw [hg] at e21_
   rw [hg] at e24_
   rw [hzz] at e24_
   rw [hg] at e33_
   rw [hzz] at e33_
   subst e21_
   subst e24_
   subst e33_
   go_simp
   refine hK _ _ ⟨_, _, _, _, _, _, _, _, _, _, _, _, _, _, _, _, _, _, _, _, _, _, _, _, _, _, _, _, _, _, _, _, _, _, _, _, rfl, by have h := put (i := 34) (v := _) H.f (show 34 < 36 by decide) (show (if (!n || a || b || s) = false then Value.bool (z && o) else undef) = _ from by rw [hg, hzz] <;> rfl); exact h, H.below⟩
  | false =>
   rw [hg] at e21_
   rw [hg] at e24_
   rw [hzz] at e24_
   rw [hg] at e33_
   rw [hzz] at e33_
   subst e21_
   subst e24_
   subst e33_
   go_simp
   refine hK _ _ ⟨_, _, _, _, _, _, _, _, _, _, _, _, _, _, _, _, _, _, _, _, _, _, _, _, _, _, _, _, _, _, _, _, _, _, _, _, rfl, by have h := put (i := 34) (v := _) H.f (show 34 < 36 by decide) (show (if (!n || a || b || s) = false then Value.bool (z && o) else undef) = _ from by rw [hg, hzz] <;> rfl); exact h, H.below⟩

theorem step35 (hI : Inv w V0 k l2 c2 x p n a b s z o sv ov gb b8 B ad seen U L c W) (hu : L.getD 35 false = false) (hL : 35 < L.size) (hF : Fa w V0 k l2 c2 x p n a b s z o sv ov gb b8 B ad seen) (d21 : L.getD 21 false = true) (d34 : L.getD 34 false = true) :
 wpOp Tryd.prog ops15 Q 35 (fun a' w' => Inv w V0 k l2 c2 x p n a b s z o sv ov gb b8 B ad seen U (L.setIfInBounds 35 true) a' w') c W := by
 obtain ⟨x64, x65, x66, x67, x68, x69, x70, x71, x72, x73, x74, x75, x76, x77, x78, x79, x80, x81, x82, x83, x84, x85, x86, x87, x88, x89, x90, x91, x92, x93, x94, x95, x96, x97, x98, x99, rfl, H⟩ := hI
 have e21_ : x85 = Value.bool (!n || a || b || s) := H.f 21 d21
 have e34_ : x98 = (if (!n || a || b || s) = false then Value.bool (z && o) else undef) := H.f 34 d34
 refine wpOp_step (o := o35) rfl (fun K' hK => ?_)
 unfold o35
 cases hg : (!n || a || b || s) with
 | true =>
  rw [hg] at e21_
  rw [hg] at e34_
  subst e21_
  subst e34_
  go_simp
  refine hK _ _ ⟨_, _, _, _, _, _, _, _, _, _, _, _, _, _, _, _, _, _, _, _, _, _, _, _, _, _, _, _, _, _, _, _, _, _, _, _, rfl, by have h := put (i := 35) (v := _) H.f (show 35 < 36 by decide) (show Value.bool ((!n || a || b || s) || (z && o)) = _ from by rw [hg] <;> rfl); exact h, H.below⟩
 | false =>
  rw [hg] at e21_
  rw [hg] at e34_
  subst e21_
  subst e34_
  go_simp
  refine hK _ _ ⟨_, _, _, _, _, _, _, _, _, _, _, _, _, _, _, _, _, _, _, _, _, _, _, _, _, _, _, _, _, _, _, _, _, _, _, _, rfl, by have h := put (i := 35) (v := _) H.f (show 35 < 36 by decide) (show Value.bool ((!n || a || b || s) || (z && o)) = _ from by rw [hg] <;> rfl); exact h, H.below⟩

end

theorem ops15_cases {i : Nat} (h : i < 36) : i = 0 ∨ i = 1 ∨ i = 2 ∨ i = 3 ∨ i = 4 ∨ i = 5 ∨ i = 6 ∨ i = 7 ∨ i = 8 ∨ i = 9 ∨ i = 10 ∨ i = 11 ∨ i = 12 ∨ i = 13 ∨ i = 14 ∨ i = 15 ∨ i = 16 ∨ i = 17 ∨ i = 18 ∨ i = 19 ∨ i = 20 ∨ i = 21 ∨ i = 22 ∨ i = 23 ∨ i = 24 ∨ i = 25 ∨ i = 26 ∨ i = 27 ∨ i = 28 ∨ i = 29 ∨ i = 30 ∨ i = 31 ∨ i = 32 ∨ i = 33 ∨ i = 34 ∨ i = 35 := by omega
theorem ops15_ac : ∀ (i : Nat) (o : Oper), ops15[i]? = some o → ∀ e ∈ o.after, e.on < i := by
 intro i o ho
 have hi : i < 36 := (Array.getElem?_eq_some_iff.1 ho).1
 rcases ops15_cases hi with rfl | rfl | rfl | rfl | rfl | rfl | rfl | rfl | rfl | rfl | rfl | rfl | rfl | rfl | rfl | rfl | rfl | rfl | rfl | rfl | rfl | rfl | rfl | rfl | rfl | rfl | rfl | rfl | rfl | rfl | rfl | rfl | rfl | rfl | rfl | rfl <;> (obtain rfl := Option.some.inj ho; decide)

theorem rep_false {n j : Nat} : (Array.replicate n false).getD j false = false := by simp [Array.getD]

theorem region15 (w V0 : World) (k : Nat) (l2 : List S47) (c2 : Nat) (x p : S47) (n a b s z o : Bool) (sv ov : Int) (gb b8 B : Nat) (ad : Addr) (seen : List (List UInt8)) (u0 u2 u3 u5 u9 u10 u11 u12 u13 u14 u15 u16 u17 u18 u19 u20 u21 u22 u23 u24 u25 u26 u27 u28 u29 u30 u31 u32 u33 u34 u35 u36 u37 u38 u39 u40 u41 u42 u43 u44 u45 u46 u47 u48 u49 u50 u51 u52 u53 u54 u55 u56 u57 u58 u59 u60 u61 u62 u63 u100 u101 u102 u103 x64 x65 x66 x67 x68 x69 x70 x71 x72 x73 x74 x75 x76 x77 x78 x79 x80 x81 x82 x83 x84 x85 x86 x87 x88 x89 x90 x91 x92 x93 x94 x95 x96 x97 x98 x99 : Value) {Q : Exit → Act → World → Prop} (hF : Fa w V0 k l2 c2 x p n a b s z o sv ov gb b8 B ad seen)
 (hQ : ∀ (x64 x65 x66 x67 x68 x69 x70 x71 x72 x73 x74 x75 x76 x77 x78 x79 x80 x81 x82 x83 x84 x85 x86 x87 x88 x89 x90 x91 x92 x93 x94 x95 x96 x97 x98 : Value) (W : World), Below V0.heap.size V0 W → ∀ c', c' = Act.mk #[u0, Value.pointer (some ⟨gb, 0, none⟩), u2, u3, undef, u5, Value.map (some B), Value.int .i64 (k : Int), Value.pointer (some ⟨b8, 0, none⟩), u9, u10, u11, u12, u13, u14, u15, u16, u17, u18, u19, u20, u21, u22, u23, u24, u25, u26, u27, u28, u29, u30, u31, u32, u33, u34, u35, u36, u37, u38, u39, u40, u41, u42, u43, u44, u45, u46, u47, u48, u49, u50, u51, u52, u53, u54, u55, u56, u57, u58, u59, u60, u61, u62, u63, x64, x65, x66, x67, x68, x69, x70, x71, x72, x73, x74, x75, x76, x77, x78, x79, x80, x81, x82, x83, x84, x85, x86, x87, x88, x89, x90, x91, x92, x93, x94, x95, x96, x97, x98, Value.bool ((!n || a || b || s) || (z && o)), u100, u101, u102, u103] [] → Q .normal c' W) {c : Act} (hc : c = Act.mk #[u0, Value.pointer (some ⟨gb, 0, none⟩), u2, u3, undef, u5, Value.map (some B), Value.int .i64 (k : Int), Value.pointer (some ⟨b8, 0, none⟩), u9, u10, u11, u12, u13, u14, u15, u16, u17, u18, u19, u20, u21, u22, u23, u24, u25, u26, u27, u28, u29, u30, u31, u32, u33, u34, u35, u36, u37, u38, u39, u40, u41, u42, u43, u44, u45, u46, u47, u48, u49, u50, u51, u52, u53, u54, u55, u56, u57, u58, u59, u60, u61, u62, u63, x64, x65, x66, x67, x68, x69, x70, x71, x72, x73, x74, x75, x76, x77, x78, x79, x80, x81, x82, x83, x84, x85, x86, x87, x88, x89, x90, x91, x92, x93, x94, x95, x96, x97, x98, x99, u100, u101, u102, u103] []) : (Code.region 15 ops15 true).wp Tryd.prog Q c V0 := by
 subst hc
 refine wp_region_any (by kernel_rfl) (wpAny_inv (Inv w V0 k l2 c2 x p n a b s z o sv ov gb b8 B ad seen ⟨u0, u2, u3, u5, u9, u10, u11, u12, u13, u14, u15, u16, u17, u18, u19, u20, u21, u22, u23, u24, u25, u26, u27, u28, u29, u30, u31, u32, u33, u34, u35, u36, u37, u38, u39, u40, u41, u42, u43, u44, u45, u46, u47, u48, u49, u50, u51, u52, u53, u54, u55, u56, u57, u58, u59, u60, u61, u62, u63, u100, u101, u102, u103⟩) ops15_ac ?_ ?_ 36 (Array.replicate 36 false) _ _ rfl (by decide) ?_)
 ·intro L c W i o hI ho hu hd
  have hi : i < 36 := (Array.getElem?_eq_some_iff.1 ho).1
  have hL : i < L.size := by
   rcases Nat.lt_or_ge i L.size with h | h
   ·exact h
   rw [show L.getD i true = true by simp [Array.getD, Nat.not_lt.2 h]] at hu; cases hu
  have hu' : L.getD i false = false := by simp [Array.getD, hL] at hu ⊢; exact hu
  have hd2 : ∀ (k : Nat) (e : Edge), o.after[k]? = some e → Region.binds .any e = true → L.getD e.on false = true := fun k e he hb => hd e (Array.mem_of_getElem? he) hb
  rcases ops15_cases hi with rfl | rfl | rfl | rfl | rfl | rfl | rfl | rfl | rfl | rfl | rfl | rfl | rfl | rfl | rfl | rfl | rfl | rfl | rfl | rfl | rfl | rfl | rfl | rfl | rfl | rfl | rfl | rfl | rfl | rfl | rfl | rfl | rfl | rfl | rfl | rfl <;> obtain rfl := Option.some.inj ho
  ·exact step0 hI hu' hL hF
  ·exact step1 hI hu' hL hF (hd2 0 ⟨0, .data⟩ rfl rfl)
  ·exact step2 hI hu' hL hF (hd2 0 ⟨1, .data⟩ rfl rfl)
  ·exact step3 hI hu' hL hF (hd2 0 ⟨2, .data⟩ rfl rfl)
  ·exact step4 hI hu' hL hF (hd2 0 ⟨3, .data⟩ rfl rfl)
  ·exact step5 hI hu' hL hF (hd2 0 ⟨4, .guard⟩ rfl rfl)
  ·exact step6 hI hu' hL hF (hd2 1 ⟨4, .guard⟩ rfl rfl) (hd2 0 ⟨5, .data⟩ rfl rfl)
  ·exact step7 hI hu' hL hF (hd2 1 ⟨4, .guard⟩ rfl rfl) (hd2 0 ⟨6, .data⟩ rfl rfl)
  ·exact step8 hI hu' hL hF (hd2 0 ⟨4, .data⟩ rfl rfl) (hd2 1 ⟨7, .data⟩ rfl rfl)
  ·exact step9 hI hu' hL hF (hd2 0 ⟨8, .data⟩ rfl rfl)
  ·exact step10 hI hu' hL hF (hd2 0 ⟨9, .guard⟩ rfl rfl)
  ·exact step11 hI hu' hL hF (hd2 1 ⟨9, .guard⟩ rfl rfl) (hd2 0 ⟨10, .data⟩ rfl rfl)
  ·exact step12 hI hu' hL hF (hd2 1 ⟨9, .guard⟩ rfl rfl) (hd2 0 ⟨11, .data⟩ rfl rfl)
  ·exact step13 hI hu' hL hF (hd2 0 ⟨9, .data⟩ rfl rfl) (hd2 1 ⟨12, .data⟩ rfl rfl)
  ·exact step14 hI hu' hL hF (hd2 0 ⟨13, .data⟩ rfl rfl)
  ·exact step15 hI hu' hL hF (hd2 0 ⟨14, .guard⟩ rfl rfl)
  ·exact step16 hI hu' hL hF (hd2 0 ⟨14, .guard⟩ rfl rfl)
  ·exact step17 hI hu' hL hF (hd2 1 ⟨14, .guard⟩ rfl rfl) (hd2 0 ⟨16, .data⟩ rfl rfl)
  ·exact step18 hI hu' hL hF (hd2 2 ⟨14, .guard⟩ rfl rfl) (hd2 0 ⟨15, .data⟩ rfl rfl) (hd2 1 ⟨17, .data⟩ rfl rfl)
  ·exact step19 hI hu' hL hF (hd2 1 ⟨14, .guard⟩ rfl rfl) (hd2 0 ⟨18, .data⟩ rfl rfl)
  ·exact step20 hI hu' hL hF (hd2 0 ⟨14, .data⟩ rfl rfl) (hd2 1 ⟨19, .data⟩ rfl rfl)
  ·exact step21 hI hu' hL hF (hd2 0 ⟨20, .data⟩ rfl rfl)
  ·exact step22 hI hu' hL hF (hd2 0 ⟨21, .guard⟩ rfl rfl)
  ·exact step23 hI hu' hL hF (hd2 1 ⟨21, .guard⟩ rfl rfl) (hd2 0 ⟨22, .data⟩ rfl rfl)
  ·exact step24 hI hu' hL hF (hd2 1 ⟨21, .chain⟩ rfl rfl) (hd2 0 ⟨23, .data⟩ rfl rfl)
  ·exact step25 hI hu' hL hF (hd2 0 ⟨24, .guard⟩ rfl rfl)
  ·exact step26 hI hu' hL hF (hd2 1 ⟨24, .guard⟩ rfl rfl) (hd2 0 ⟨25, .data⟩ rfl rfl)
  ·exact step27 hI hu' hL hF (hd2 0 ⟨24, .guard⟩ rfl rfl)
  ·exact step28 hI hu' hL hF (hd2 1 ⟨24, .guard⟩ rfl rfl) (hd2 0 ⟨27, .data⟩ rfl rfl)
  ·exact step29 hI hu' hL hF (hd2 2 ⟨24, .guard⟩ rfl rfl) (hd2 0 ⟨26, .data⟩ rfl rfl) (hd2 1 ⟨28, .data⟩ rfl rfl)
  ·exact step30 hI hu' hL hF (hd2 1 ⟨24, .guard⟩ rfl rfl) (hd2 0 ⟨29, .data⟩ rfl rfl)
  ·exact step31 hI hu' hL hF (hd2 0 ⟨24, .guard⟩ rfl rfl)
  ·exact step32 hI hu' hL hF (hd2 2 ⟨24, .chain⟩ rfl rfl) (hd2 0 ⟨30, .data⟩ rfl rfl) (hd2 1 ⟨31, .data⟩ rfl rfl)
  ·exact step33 hI hu' hL hF (hd2 1 ⟨24, .guard⟩ rfl rfl) (hd2 0 ⟨32, .data⟩ rfl rfl)
  ·exact step34 hI hu' hL hF (hd2 2 ⟨21, .guard⟩ rfl rfl) (hd2 0 ⟨24, .data⟩ rfl rfl) (hd2 1 ⟨33, .data⟩ rfl rfl)
  exact step35 hI hu' hL hF (hd2 0 ⟨21, .data⟩ rfl rfl) (hd2 1 ⟨34, .data⟩ rfl rfl)
 ·rintro L c W hL ⟨x64, x65, x66, x67, x68, x69, x70, x71, x72, x73, x74, x75, x76, x77, x78, x79, x80, x81, x82, x83, x84, x85, x86, x87, x88, x89, x90, x91, x92, x93, x94, x95, x96, x97, x98, x99, rfl, H⟩
  have e99 : x99 = Value.bool ((!n || a || b || s) || (z && o)) := H.f 35 (hL 35 (by decide))
  subst e99
  exact hQ _ _ _ _ _ _ _ _ _ _ _ _ _ _ _ _ _ _ _ _ _ _ _ _ _ _ _ _ _ _ _ _ _ _ _ W H.below _ rfl
 refine ⟨_, _, _, _, _, _, _, _, _, _, _, _, _, _, _, _, _, _, _, _, _, _, _, _, _, _, _, _, _, _, _, _, _, _, _, _, rfl, ?_⟩
 exact ⟨fun j h => absurd (h.symm.trans rep_false) (by decide), below_drew1 (Below.refl _ _)⟩
end Go.Proofs.YtbffmfeflcdgbaaDoor.Chk15
