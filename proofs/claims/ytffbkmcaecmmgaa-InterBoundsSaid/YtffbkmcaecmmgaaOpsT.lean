/- ops.rows: what stands in memory behind it, and what its small functions do to an order. -/
import Derived.Test.YtffbkmcaecmmgaaOpsD
set_option linter.unusedVariables false
set_option linter.unusedSimpArgs false
namespace Go.Proofs.Ytffbkmcaecmmgaa.Ops
open Go Go.RowKit
open Go.Proofs.YtffbkmcaecmmgaaW.PrintWords

/-- An order. -/
structure Ord where
  op : Int
  x : Int
  y : Int
  n : Int
  b : Int
  a : Int
structure Ord.Ok (o : Ord) : Prop where
  op0 : 0 ≤ o.op
  op1 : o.op < 256
  x0 : 0 ≤ o.x
  x1 : o.x < 256
  y0 : 0 ≤ o.y
  y1 : o.y < 256
  n0 : 0 ≤ o.n
  n1 : o.n < 256
  b0 : 0 ≤ o.b
  b1 : o.b < 256
  a0 : 0 ≤ o.a
  a1 : o.a < 65536
inductive Fd where
  | x
  | y
  | n
  | b
  | a
def Fd.get : Fd → Ord → Int
  | .x, o => o.x
  | .y, o => o.y
  | .n, o => o.n
  | .b, o => o.b
  | .a, o => o.a
def Fd.put : Fd → Int → Ord → Ord
  | .x, v, o => { o with x := v }
  | .y, v, o => { o with y := v }
  | .n, v, o => { o with n := v }
  | .b, v, o => { o with b := v }
  | .a, v, o => { o with a := v }
def Fd.shift : Fd → Int
  | .x => 8
  | .y => 4
  | .n => 0
  | .b => 0
  | .a => 0
def Fd.digits : Fd → Int
  | .x => 1
  | .y => 1
  | .n => 1
  | .b => 2
  | .a => 3
def Fd.ahead : Fd → ByteArray
  | .x => ⟨#[118]⟩
  | .y => ⟨#[118]⟩
  | .n => ⟨#[]⟩
  | .b => ⟨#[]⟩
  | .a => ⟨#[]⟩
def Fd.getN : Fd → Nat
  | .x => 15
  | .y => 17
  | .n => 19
  | .b => 21
  | .a => 23
def Fd.putN : Fd → Nat
  | .x => 16
  | .y => 18
  | .n => 20
  | .b => 22
  | .a => 24
def Fd.most : Fd → Int
  | .x => 15
  | .y => 15
  | .n => 15
  | .b => 255
  | .a => 4095
def Fd.off : Fd → Nat
  | .x => 1
  | .y => 2
  | .n => 3
  | .b => 4
  | .a => 5
def Fd.val : Fd → Int → Value
  | .a, v => .int .u16 v
  | _, v => .int .u8 v
structure Rw where
  op : Int
  mask : Int
  word : Int
  name : ByteArray
  fds : List Fd
def tbl : List Rw := [
  ⟨2, 65535, 224, ⟨#[99, 108, 101, 97, 114]⟩, []⟩,
  ⟨3, 65535, 238, ⟨#[114, 101, 116, 117, 114, 110]⟩, []⟩,
  ⟨1, 61440, 0, ⟨#[109, 97, 99, 104, 105, 110, 101]⟩, [.a]⟩,
  ⟨4, 61440, 4096, ⟨#[106, 117, 109, 112]⟩, [.a]⟩,
  ⟨5, 61440, 8192, ⟨#[99, 97, 108, 108]⟩, [.a]⟩,
  ⟨6, 61440, 12288, ⟨#[115, 107, 105, 112, 45, 105, 115]⟩, [.x, .b]⟩,
  ⟨7, 61440, 16384, ⟨#[115, 107, 105, 112, 45, 110, 111, 116]⟩, [.x, .b]⟩,
  ⟨8, 61455, 20480, ⟨#[115, 107, 105, 112, 45, 115, 97, 109, 101]⟩, [.x, .y]⟩,
  ⟨9, 61440, 24576, ⟨#[115, 101, 116]⟩, [.x, .b]⟩,
  ⟨10, 61440, 28672, ⟨#[97, 100, 100]⟩, [.x, .b]⟩,
  ⟨11, 61455, 32768, ⟨#[109, 111, 118, 101]⟩, [.x, .y]⟩,
  ⟨12, 61455, 32769, ⟨#[111, 114]⟩, [.x, .y]⟩,
  ⟨13, 61455, 32770, ⟨#[97, 110, 100]⟩, [.x, .y]⟩,
  ⟨14, 61455, 32772, ⟨#[112, 108, 117, 115]⟩, [.x, .y]⟩,
  ⟨15, 61455, 32773, ⟨#[109, 105, 110, 117, 115]⟩, [.x, .y]⟩,
  ⟨16, 61455, 36864, ⟨#[115, 107, 105, 112, 45, 111, 116, 104, 101, 114]⟩, [.x, .y]⟩,
  ⟨17, 61440, 40960, ⟨#[112, 111, 105, 110, 116]⟩, [.a]⟩,
  ⟨18, 61440, 45056, ⟨#[106, 117, 109, 112, 45, 98, 121]⟩, [.a]⟩,
  ⟨19, 61440, 49152, ⟨#[114, 97, 110, 100, 111, 109]⟩, [.x, .b]⟩,
  ⟨20, 61440, 53248, ⟨#[100, 114, 97, 119]⟩, [.x, .y, .n]⟩,
  ⟨21, 61695, 57502, ⟨#[115, 107, 105, 112, 45, 100, 111, 119, 110]⟩, [.x]⟩,
  ⟨22, 61695, 57505, ⟨#[115, 107, 105, 112, 45, 117, 112]⟩, [.x]⟩,
  ⟨23, 61695, 61447, ⟨#[116, 105, 109, 101, 114]⟩, [.x]⟩,
  ⟨24, 61695, 61450, ⟨#[107, 101, 121]⟩, [.x]⟩,
  ⟨25, 61695, 61461, ⟨#[100, 101, 108, 97, 121]⟩, [.x]⟩,
  ⟨26, 61695, 61464, ⟨#[115, 111, 117, 110, 100]⟩, [.x]⟩,
  ⟨27, 61695, 61470, ⟨#[111, 110]⟩, [.x]⟩,
  ⟨28, 61695, 61481, ⟨#[100, 105, 103, 105, 116]⟩, [.x]⟩,
  ⟨29, 61695, 61491, ⟨#[116, 104, 114, 101, 101]⟩, [.x]⟩,
  ⟨30, 61695, 61525, ⟨#[115, 116, 111, 114, 101]⟩, [.x]⟩,
  ⟨31, 61695, 61541, ⟨#[102, 105, 108, 108]⟩, [.x]⟩]

structure FdAt (g j : Nat) (f : Fd) (w : World) : Prop where
  c0 : w.cell? ⟨g, j, none⟩ = some (.int .i64 f.shift)
  c1 : w.cell? ⟨g, j + 1, none⟩ = some (.int .i64 f.digits)
  c2 : w.cell? ⟨g, j + 2, none⟩ = some (.string f.ahead)
  c3 : w.cell? ⟨g, j + 3, none⟩ = some (.func (.func f.getN) #[] #[])
  c4 : w.cell? ⟨g, j + 4, none⟩ = some (.func (.func f.putN) #[] #[])
def FdsAt (m : Nat) (v : Value) (fds : List Fd) (w : World) : Prop := (fds = [] ∧ v = .slice none 0 0) ∨ ∃ g, m ≤ g ∧ v = .slice (some ⟨g, 0, none⟩) fds.length fds.length ∧ ∀ j (h : j < fds.length), FdAt g (j * 5) fds[j] w
structure RowAt (m T j : Nat) (r : Rw) (w : World) : Prop where
  c0 : w.cell? ⟨T, j, none⟩ = some (.int .u8 r.op)
  c1 : w.cell? ⟨T, j + 1, none⟩ = some (.int .u16 r.mask)
  c2 : w.cell? ⟨T, j + 2, none⟩ = some (.int .u16 r.word)
  c3 : w.cell? ⟨T, j + 3, none⟩ = some (.string r.name)
  fd : ∃ v, w.cell? ⟨T, j + 4, none⟩ = some v ∧ FdsAt m v r.fds w
def RowsAt (m T : Nat) (w : World) : Prop := ∀ i (h : i < tbl.length), RowAt m T (i * 5) tbl[i] w
theorem cell_below {w w1 : World} (hb : Below w.heap.size w w1) {a : Addr} {v : Value} (h : w.cell? a = some v) : w1.cell? a = some v := (hb.cell (World.block_lt_of_cell? w _ h)).trans h
theorem FdAt.below {g j : Nat} {f : Fd} {w w1 : World} (h : FdAt g j f w) (hb : Below w.heap.size w w1) : FdAt g j f w1 := ⟨cell_below hb h.c0, cell_below hb h.c1, cell_below hb h.c2, cell_below hb h.c3, cell_below hb h.c4⟩
theorem FdsAt.below {m : Nat} {v : Value} {fds : List Fd} {w w1 : World} (h : FdsAt m v fds w) (hb : Below w.heap.size w w1) : FdsAt m v fds w1 := by
  rcases h with h | ⟨g, h0, h1, h2⟩
  · exact .inl h
  · exact .inr ⟨g, h0, h1, fun j hj => (h2 j hj).below hb⟩
theorem FdAt.set {g j : Nat} {f : Fd} {w : World} (h : FdAt g j f w) {p : Addr} (hne : g ≠ p.block) (u : Value) : FdAt g j f (w.setCell p u) := ⟨(cell_far hne u).trans h.c0, (cell_far hne u).trans h.c1, (cell_far hne u).trans h.c2, (cell_far hne u).trans h.c3, (cell_far hne u).trans h.c4⟩
theorem FdsAt.set {m : Nat} {v : Value} {fds : List Fd} {w : World} (h : FdsAt m v fds w) {p : Addr} (hlt : p.block < m) (u : Value) : FdsAt m v fds (w.setCell p u) := by
  rcases h with h | ⟨g, h0, h1, h2⟩
  · exact .inl h
  · exact .inr ⟨g, h0, h1, fun j hj => (h2 j hj).set (by omega) u⟩
theorem FdsAt.mono {m m' : Nat} {v : Value} {fds : List Fd} {w : World} (h : FdsAt m v fds w) (hm : m' ≤ m) : FdsAt m' v fds w := by
  rcases h with h | ⟨g, h0, h1, h2⟩
  · exact .inl h
  · exact .inr ⟨g, Nat.le_trans hm h0, h1, h2⟩
theorem FdsAt.sl {m : Nat} {v : Value} {fds : List Fd} {w : World} (h : FdsAt m v fds w) : ∃ A, v = .slice A fds.length fds.length := by
  rcases h with ⟨rfl, h⟩ | ⟨g, h0, h1, h2⟩
  · exact ⟨none, h⟩
  · exact ⟨_, h1⟩
theorem RowAt.below {m T j : Nat} {r : Rw} {w w1 : World} (h : RowAt m T j r w) (hb : Below w.heap.size w w1) : RowAt m T j r w1 := by
  obtain ⟨v, h1, h2⟩ := h.fd
  exact ⟨cell_below hb h.c0, cell_below hb h.c1, cell_below hb h.c2, cell_below hb h.c3, v, cell_below hb h1, h2.below hb⟩
theorem RowsAt.below {m T : Nat} {w w1 : World} (h : RowsAt m T w) (hb : Below w.heap.size w w1) : RowsAt m T w1 := fun i hi => (h i hi).below hb

/-- Some blocks, one behind another. -/
def allocs : World → List (Array Value) → World
  | W, [] => W
  | W, c :: l => allocs (W.alloc (.cells c 48)) l
theorem allocs_below : ∀ (l : List (Array Value)) (W w : World), Below w.heap.size w W → Below w.heap.size w (allocs W l)
  | [], _, _, h => h
  | c :: l, W, w, h => allocs_below l _ _ (below_alloc h _)
theorem allocs_at : ∀ (l : List (Array Value)) (W : World) (k : Nat) (c : Array Value), l[k]? = some c → (allocs W l).heap[W.heap.size + k]? = some (.cells c 48 (0, 0))
  | [], _, _, _, h => by simp at h
  | d :: l, W, 0, c, h => by
    have e : d = c := by simpa using h
    subst e
    rw [allocs, Nat.add_zero]
    rw [(allocs_below l _ _ (Below.refl _ _)).block W.heap.size (by simp)]
    exact heap_alloc_new W _
  | d :: l, W, k + 1, c, h => by
    have h2 := allocs_at l (W.alloc (.cells d 48)) k c (by simpa using h)
    rw [World.size_alloc] at h2
    rw [allocs]
    have e : W.heap.size + 1 + k = W.heap.size + (k + 1) := by omega
    rw [e] at h2
    exact h2
def parts : List (Array Value) := [#[.int .i64 0, .int .i64 3, .string ⟨#[]⟩, .func (.func 23) #[] #[], .func (.func 24) #[] #[]], #[.int .i64 0, .int .i64 3, .string ⟨#[]⟩, .func (.func 23) #[] #[], .func (.func 24) #[] #[]], #[.int .i64 0, .int .i64 3, .string ⟨#[]⟩, .func (.func 23) #[] #[], .func (.func 24) #[] #[]], #[.int .i64 8, .int .i64 1, .string ⟨#[118]⟩, .func (.func 15) #[] #[], .func (.func 16) #[] #[], .int .i64 0, .int .i64 2, .string ⟨#[]⟩, .func (.func 21) #[] #[], .func (.func 22) #[] #[]], #[.int .i64 8, .int .i64 1, .string ⟨#[118]⟩, .func (.func 15) #[] #[], .func (.func 16) #[] #[], .int .i64 0, .int .i64 2, .string ⟨#[]⟩, .func (.func 21) #[] #[], .func (.func 22) #[] #[]], #[.int .i64 8, .int .i64 1, .string ⟨#[118]⟩, .func (.func 15) #[] #[], .func (.func 16) #[] #[], .int .i64 4, .int .i64 1, .string ⟨#[118]⟩, .func (.func 17) #[] #[], .func (.func 18) #[] #[]], #[.int .i64 8, .int .i64 1, .string ⟨#[118]⟩, .func (.func 15) #[] #[], .func (.func 16) #[] #[], .int .i64 0, .int .i64 2, .string ⟨#[]⟩, .func (.func 21) #[] #[], .func (.func 22) #[] #[]], #[.int .i64 8, .int .i64 1, .string ⟨#[118]⟩, .func (.func 15) #[] #[], .func (.func 16) #[] #[], .int .i64 0, .int .i64 2, .string ⟨#[]⟩, .func (.func 21) #[] #[], .func (.func 22) #[] #[]], #[.int .i64 8, .int .i64 1, .string ⟨#[118]⟩, .func (.func 15) #[] #[], .func (.func 16) #[] #[], .int .i64 4, .int .i64 1, .string ⟨#[118]⟩, .func (.func 17) #[] #[], .func (.func 18) #[] #[]], #[.int .i64 8, .int .i64 1, .string ⟨#[118]⟩, .func (.func 15) #[] #[], .func (.func 16) #[] #[], .int .i64 4, .int .i64 1, .string ⟨#[118]⟩, .func (.func 17) #[] #[], .func (.func 18) #[] #[]], #[.int .i64 8, .int .i64 1, .string ⟨#[118]⟩, .func (.func 15) #[] #[], .func (.func 16) #[] #[], .int .i64 4, .int .i64 1, .string ⟨#[118]⟩, .func (.func 17) #[] #[], .func (.func 18) #[] #[]], #[.int .i64 8, .int .i64 1, .string ⟨#[118]⟩, .func (.func 15) #[] #[], .func (.func 16) #[] #[], .int .i64 4, .int .i64 1, .string ⟨#[118]⟩, .func (.func 17) #[] #[], .func (.func 18) #[] #[]], #[.int .i64 8, .int .i64 1, .string ⟨#[118]⟩, .func (.func 15) #[] #[], .func (.func 16) #[] #[], .int .i64 4, .int .i64 1, .string ⟨#[118]⟩, .func (.func 17) #[] #[], .func (.func 18) #[] #[]], #[.int .i64 8, .int .i64 1, .string ⟨#[118]⟩, .func (.func 15) #[] #[], .func (.func 16) #[] #[], .int .i64 4, .int .i64 1, .string ⟨#[118]⟩, .func (.func 17) #[] #[], .func (.func 18) #[] #[]], #[.int .i64 0, .int .i64 3, .string ⟨#[]⟩, .func (.func 23) #[] #[], .func (.func 24) #[] #[]], #[.int .i64 0, .int .i64 3, .string ⟨#[]⟩, .func (.func 23) #[] #[], .func (.func 24) #[] #[]], #[.int .i64 8, .int .i64 1, .string ⟨#[118]⟩, .func (.func 15) #[] #[], .func (.func 16) #[] #[], .int .i64 0, .int .i64 2, .string ⟨#[]⟩, .func (.func 21) #[] #[], .func (.func 22) #[] #[]], #[.int .i64 8, .int .i64 1, .string ⟨#[118]⟩, .func (.func 15) #[] #[], .func (.func 16) #[] #[], .int .i64 4, .int .i64 1, .string ⟨#[118]⟩, .func (.func 17) #[] #[], .func (.func 18) #[] #[], .int .i64 0, .int .i64 1, .string ⟨#[]⟩, .func (.func 19) #[] #[], .func (.func 20) #[] #[]], #[.int .i64 8, .int .i64 1, .string ⟨#[118]⟩, .func (.func 15) #[] #[], .func (.func 16) #[] #[]], #[.int .i64 8, .int .i64 1, .string ⟨#[118]⟩, .func (.func 15) #[] #[], .func (.func 16) #[] #[]], #[.int .i64 8, .int .i64 1, .string ⟨#[118]⟩, .func (.func 15) #[] #[], .func (.func 16) #[] #[]], #[.int .i64 8, .int .i64 1, .string ⟨#[118]⟩, .func (.func 15) #[] #[], .func (.func 16) #[] #[]], #[.int .i64 8, .int .i64 1, .string ⟨#[118]⟩, .func (.func 15) #[] #[], .func (.func 16) #[] #[]], #[.int .i64 8, .int .i64 1, .string ⟨#[118]⟩, .func (.func 15) #[] #[], .func (.func 16) #[] #[]], #[.int .i64 8, .int .i64 1, .string ⟨#[118]⟩, .func (.func 15) #[] #[], .func (.func 16) #[] #[]], #[.int .i64 8, .int .i64 1, .string ⟨#[118]⟩, .func (.func 15) #[] #[], .func (.func 16) #[] #[]], #[.int .i64 8, .int .i64 1, .string ⟨#[118]⟩, .func (.func 15) #[] #[], .func (.func 16) #[] #[]], #[.int .i64 8, .int .i64 1, .string ⟨#[118]⟩, .func (.func 15) #[] #[], .func (.func 16) #[] #[]], #[.int .i64 8, .int .i64 1, .string ⟨#[118]⟩, .func (.func 15) #[] #[], .func (.func 16) #[] #[]]]
theorem fin_parts (W : World) : fin29 W = allocs W parts := rfl
theorem fds_at {w : World} {g : Nat} {t : TypeId} {cs : Array Value} (h : w.heap[g]? = some (.cells cs t (0, 0))) (j : Nat) (f : Fd) (e0 : cs[j]? = some (.int .i64 f.shift)) (e1 : cs[j + 1]? = some (.int .i64 f.digits)) (e2 : cs[j + 2]? = some (.string f.ahead)) (e3 : cs[j + 3]? = some (.func (.func f.getN) #[] #[])) (e4 : cs[j + 4]? = some (.func (.func f.putN) #[] #[])) : FdAt g j f w := ⟨(blk_cell h _).trans e0, (blk_cell h _).trans e1, (blk_cell h _).trans e2, (blk_cell h _).trans e3, (blk_cell h _).trans e4⟩
theorem rows_at (m : Nat) (W w : World) (hm : m ≤ W.heap.size) (hT : w.heap[(fin29 W).heap.size]? = some (.cells (rowCells W) 44 (0, 0))) (hP : ∀ k c, parts[k]? = some c → w.heap[W.heap.size + k]? = some (.cells c 48 (0, 0))) : RowsAt m (fin29 W).heap.size w := by
  intro i h
  match i, h with
  | 0, _ => exact ⟨(blk_cell hT _).trans rfl, (blk_cell hT _).trans rfl, (blk_cell hT _).trans rfl, (blk_cell hT _).trans rfl, _, (blk_cell hT _).trans rfl, .inl ⟨rfl, rfl⟩⟩
  | 1, _ => exact ⟨(blk_cell hT _).trans rfl, (blk_cell hT _).trans rfl, (blk_cell hT _).trans rfl, (blk_cell hT _).trans rfl, _, (blk_cell hT _).trans rfl, .inl ⟨rfl, rfl⟩⟩
  | 2, _ => exact ⟨(blk_cell hT _).trans rfl, (blk_cell hT _).trans rfl, (blk_cell hT _).trans rfl, (blk_cell hT _).trans rfl, _, (blk_cell hT _).trans rfl, .inr ⟨W.heap.size + 0, Nat.le_trans hm (Nat.le_add_right _ _), rfl, fun j hj => by
    have q := hP 0 _ rfl
    match j, hj with
    | 0, _ => exact fds_at q _ _ rfl rfl rfl rfl rfl
    | j + 1, hj => exact absurd hj (by simp [tbl])⟩⟩
  | 3, _ => exact ⟨(blk_cell hT _).trans rfl, (blk_cell hT _).trans rfl, (blk_cell hT _).trans rfl, (blk_cell hT _).trans rfl, _, (blk_cell hT _).trans rfl, .inr ⟨W.heap.size + 1, Nat.le_trans hm (Nat.le_add_right _ _), rfl, fun j hj => by
    have q := hP 1 _ rfl
    match j, hj with
    | 0, _ => exact fds_at q _ _ rfl rfl rfl rfl rfl
    | j + 1, hj => exact absurd hj (by simp [tbl])⟩⟩
  | 4, _ => exact ⟨(blk_cell hT _).trans rfl, (blk_cell hT _).trans rfl, (blk_cell hT _).trans rfl, (blk_cell hT _).trans rfl, _, (blk_cell hT _).trans rfl, .inr ⟨W.heap.size + 2, Nat.le_trans hm (Nat.le_add_right _ _), rfl, fun j hj => by
    have q := hP 2 _ rfl
    match j, hj with
    | 0, _ => exact fds_at q _ _ rfl rfl rfl rfl rfl
    | j + 1, hj => exact absurd hj (by simp [tbl])⟩⟩
  | 5, _ => exact ⟨(blk_cell hT _).trans rfl, (blk_cell hT _).trans rfl, (blk_cell hT _).trans rfl, (blk_cell hT _).trans rfl, _, (blk_cell hT _).trans rfl, .inr ⟨W.heap.size + 3, Nat.le_trans hm (Nat.le_add_right _ _), rfl, fun j hj => by
    have q := hP 3 _ rfl
    match j, hj with
    | 0, _ => exact fds_at q _ _ rfl rfl rfl rfl rfl
    | 1, _ => exact fds_at q _ _ rfl rfl rfl rfl rfl
    | j + 2, hj => exact absurd hj (by simp [tbl])⟩⟩
  | 6, _ => exact ⟨(blk_cell hT _).trans rfl, (blk_cell hT _).trans rfl, (blk_cell hT _).trans rfl, (blk_cell hT _).trans rfl, _, (blk_cell hT _).trans rfl, .inr ⟨W.heap.size + 4, Nat.le_trans hm (Nat.le_add_right _ _), rfl, fun j hj => by
    have q := hP 4 _ rfl
    match j, hj with
    | 0, _ => exact fds_at q _ _ rfl rfl rfl rfl rfl
    | 1, _ => exact fds_at q _ _ rfl rfl rfl rfl rfl
    | j + 2, hj => exact absurd hj (by simp [tbl])⟩⟩
  | 7, _ => exact ⟨(blk_cell hT _).trans rfl, (blk_cell hT _).trans rfl, (blk_cell hT _).trans rfl, (blk_cell hT _).trans rfl, _, (blk_cell hT _).trans rfl, .inr ⟨W.heap.size + 5, Nat.le_trans hm (Nat.le_add_right _ _), rfl, fun j hj => by
    have q := hP 5 _ rfl
    match j, hj with
    | 0, _ => exact fds_at q _ _ rfl rfl rfl rfl rfl
    | 1, _ => exact fds_at q _ _ rfl rfl rfl rfl rfl
    | j + 2, hj => exact absurd hj (by simp [tbl])⟩⟩
  | 8, _ => exact ⟨(blk_cell hT _).trans rfl, (blk_cell hT _).trans rfl, (blk_cell hT _).trans rfl, (blk_cell hT _).trans rfl, _, (blk_cell hT _).trans rfl, .inr ⟨W.heap.size + 6, Nat.le_trans hm (Nat.le_add_right _ _), rfl, fun j hj => by
    have q := hP 6 _ rfl
    match j, hj with
    | 0, _ => exact fds_at q _ _ rfl rfl rfl rfl rfl
    | 1, _ => exact fds_at q _ _ rfl rfl rfl rfl rfl
    | j + 2, hj => exact absurd hj (by simp [tbl])⟩⟩
  | 9, _ => exact ⟨(blk_cell hT _).trans rfl, (blk_cell hT _).trans rfl, (blk_cell hT _).trans rfl, (blk_cell hT _).trans rfl, _, (blk_cell hT _).trans rfl, .inr ⟨W.heap.size + 7, Nat.le_trans hm (Nat.le_add_right _ _), rfl, fun j hj => by
    have q := hP 7 _ rfl
    match j, hj with
    | 0, _ => exact fds_at q _ _ rfl rfl rfl rfl rfl
    | 1, _ => exact fds_at q _ _ rfl rfl rfl rfl rfl
    | j + 2, hj => exact absurd hj (by simp [tbl])⟩⟩
  | 10, _ => exact ⟨(blk_cell hT _).trans rfl, (blk_cell hT _).trans rfl, (blk_cell hT _).trans rfl, (blk_cell hT _).trans rfl, _, (blk_cell hT _).trans rfl, .inr ⟨W.heap.size + 8, Nat.le_trans hm (Nat.le_add_right _ _), rfl, fun j hj => by
    have q := hP 8 _ rfl
    match j, hj with
    | 0, _ => exact fds_at q _ _ rfl rfl rfl rfl rfl
    | 1, _ => exact fds_at q _ _ rfl rfl rfl rfl rfl
    | j + 2, hj => exact absurd hj (by simp [tbl])⟩⟩
  | 11, _ => exact ⟨(blk_cell hT _).trans rfl, (blk_cell hT _).trans rfl, (blk_cell hT _).trans rfl, (blk_cell hT _).trans rfl, _, (blk_cell hT _).trans rfl, .inr ⟨W.heap.size + 9, Nat.le_trans hm (Nat.le_add_right _ _), rfl, fun j hj => by
    have q := hP 9 _ rfl
    match j, hj with
    | 0, _ => exact fds_at q _ _ rfl rfl rfl rfl rfl
    | 1, _ => exact fds_at q _ _ rfl rfl rfl rfl rfl
    | j + 2, hj => exact absurd hj (by simp [tbl])⟩⟩
  | 12, _ => exact ⟨(blk_cell hT _).trans rfl, (blk_cell hT _).trans rfl, (blk_cell hT _).trans rfl, (blk_cell hT _).trans rfl, _, (blk_cell hT _).trans rfl, .inr ⟨W.heap.size + 10, Nat.le_trans hm (Nat.le_add_right _ _), rfl, fun j hj => by
    have q := hP 10 _ rfl
    match j, hj with
    | 0, _ => exact fds_at q _ _ rfl rfl rfl rfl rfl
    | 1, _ => exact fds_at q _ _ rfl rfl rfl rfl rfl
    | j + 2, hj => exact absurd hj (by simp [tbl])⟩⟩
  | 13, _ => exact ⟨(blk_cell hT _).trans rfl, (blk_cell hT _).trans rfl, (blk_cell hT _).trans rfl, (blk_cell hT _).trans rfl, _, (blk_cell hT _).trans rfl, .inr ⟨W.heap.size + 11, Nat.le_trans hm (Nat.le_add_right _ _), rfl, fun j hj => by
    have q := hP 11 _ rfl
    match j, hj with
    | 0, _ => exact fds_at q _ _ rfl rfl rfl rfl rfl
    | 1, _ => exact fds_at q _ _ rfl rfl rfl rfl rfl
    | j + 2, hj => exact absurd hj (by simp [tbl])⟩⟩
  | 14, _ => exact ⟨(blk_cell hT _).trans rfl, (blk_cell hT _).trans rfl, (blk_cell hT _).trans rfl, (blk_cell hT _).trans rfl, _, (blk_cell hT _).trans rfl, .inr ⟨W.heap.size + 12, Nat.le_trans hm (Nat.le_add_right _ _), rfl, fun j hj => by
    have q := hP 12 _ rfl
    match j, hj with
    | 0, _ => exact fds_at q _ _ rfl rfl rfl rfl rfl
    | 1, _ => exact fds_at q _ _ rfl rfl rfl rfl rfl
    | j + 2, hj => exact absurd hj (by simp [tbl])⟩⟩
  | 15, _ => exact ⟨(blk_cell hT _).trans rfl, (blk_cell hT _).trans rfl, (blk_cell hT _).trans rfl, (blk_cell hT _).trans rfl, _, (blk_cell hT _).trans rfl, .inr ⟨W.heap.size + 13, Nat.le_trans hm (Nat.le_add_right _ _), rfl, fun j hj => by
    have q := hP 13 _ rfl
    match j, hj with
    | 0, _ => exact fds_at q _ _ rfl rfl rfl rfl rfl
    | 1, _ => exact fds_at q _ _ rfl rfl rfl rfl rfl
    | j + 2, hj => exact absurd hj (by simp [tbl])⟩⟩
  | 16, _ => exact ⟨(blk_cell hT _).trans rfl, (blk_cell hT _).trans rfl, (blk_cell hT _).trans rfl, (blk_cell hT _).trans rfl, _, (blk_cell hT _).trans rfl, .inr ⟨W.heap.size + 14, Nat.le_trans hm (Nat.le_add_right _ _), rfl, fun j hj => by
    have q := hP 14 _ rfl
    match j, hj with
    | 0, _ => exact fds_at q _ _ rfl rfl rfl rfl rfl
    | j + 1, hj => exact absurd hj (by simp [tbl])⟩⟩
  | 17, _ => exact ⟨(blk_cell hT _).trans rfl, (blk_cell hT _).trans rfl, (blk_cell hT _).trans rfl, (blk_cell hT _).trans rfl, _, (blk_cell hT _).trans rfl, .inr ⟨W.heap.size + 15, Nat.le_trans hm (Nat.le_add_right _ _), rfl, fun j hj => by
    have q := hP 15 _ rfl
    match j, hj with
    | 0, _ => exact fds_at q _ _ rfl rfl rfl rfl rfl
    | j + 1, hj => exact absurd hj (by simp [tbl])⟩⟩
  | 18, _ => exact ⟨(blk_cell hT _).trans rfl, (blk_cell hT _).trans rfl, (blk_cell hT _).trans rfl, (blk_cell hT _).trans rfl, _, (blk_cell hT _).trans rfl, .inr ⟨W.heap.size + 16, Nat.le_trans hm (Nat.le_add_right _ _), rfl, fun j hj => by
    have q := hP 16 _ rfl
    match j, hj with
    | 0, _ => exact fds_at q _ _ rfl rfl rfl rfl rfl
    | 1, _ => exact fds_at q _ _ rfl rfl rfl rfl rfl
    | j + 2, hj => exact absurd hj (by simp [tbl])⟩⟩
  | 19, _ => exact ⟨(blk_cell hT _).trans rfl, (blk_cell hT _).trans rfl, (blk_cell hT _).trans rfl, (blk_cell hT _).trans rfl, _, (blk_cell hT _).trans rfl, .inr ⟨W.heap.size + 17, Nat.le_trans hm (Nat.le_add_right _ _), rfl, fun j hj => by
    have q := hP 17 _ rfl
    match j, hj with
    | 0, _ => exact fds_at q _ _ rfl rfl rfl rfl rfl
    | 1, _ => exact fds_at q _ _ rfl rfl rfl rfl rfl
    | 2, _ => exact fds_at q _ _ rfl rfl rfl rfl rfl
    | j + 3, hj => exact absurd hj (by simp [tbl])⟩⟩
  | 20, _ => exact ⟨(blk_cell hT _).trans rfl, (blk_cell hT _).trans rfl, (blk_cell hT _).trans rfl, (blk_cell hT _).trans rfl, _, (blk_cell hT _).trans rfl, .inr ⟨W.heap.size + 18, Nat.le_trans hm (Nat.le_add_right _ _), rfl, fun j hj => by
    have q := hP 18 _ rfl
    match j, hj with
    | 0, _ => exact fds_at q _ _ rfl rfl rfl rfl rfl
    | j + 1, hj => exact absurd hj (by simp [tbl])⟩⟩
  | 21, _ => exact ⟨(blk_cell hT _).trans rfl, (blk_cell hT _).trans rfl, (blk_cell hT _).trans rfl, (blk_cell hT _).trans rfl, _, (blk_cell hT _).trans rfl, .inr ⟨W.heap.size + 19, Nat.le_trans hm (Nat.le_add_right _ _), rfl, fun j hj => by
    have q := hP 19 _ rfl
    match j, hj with
    | 0, _ => exact fds_at q _ _ rfl rfl rfl rfl rfl
    | j + 1, hj => exact absurd hj (by simp [tbl])⟩⟩
  | 22, _ => exact ⟨(blk_cell hT _).trans rfl, (blk_cell hT _).trans rfl, (blk_cell hT _).trans rfl, (blk_cell hT _).trans rfl, _, (blk_cell hT _).trans rfl, .inr ⟨W.heap.size + 20, Nat.le_trans hm (Nat.le_add_right _ _), rfl, fun j hj => by
    have q := hP 20 _ rfl
    match j, hj with
    | 0, _ => exact fds_at q _ _ rfl rfl rfl rfl rfl
    | j + 1, hj => exact absurd hj (by simp [tbl])⟩⟩
  | 23, _ => exact ⟨(blk_cell hT _).trans rfl, (blk_cell hT _).trans rfl, (blk_cell hT _).trans rfl, (blk_cell hT _).trans rfl, _, (blk_cell hT _).trans rfl, .inr ⟨W.heap.size + 21, Nat.le_trans hm (Nat.le_add_right _ _), rfl, fun j hj => by
    have q := hP 21 _ rfl
    match j, hj with
    | 0, _ => exact fds_at q _ _ rfl rfl rfl rfl rfl
    | j + 1, hj => exact absurd hj (by simp [tbl])⟩⟩
  | 24, _ => exact ⟨(blk_cell hT _).trans rfl, (blk_cell hT _).trans rfl, (blk_cell hT _).trans rfl, (blk_cell hT _).trans rfl, _, (blk_cell hT _).trans rfl, .inr ⟨W.heap.size + 22, Nat.le_trans hm (Nat.le_add_right _ _), rfl, fun j hj => by
    have q := hP 22 _ rfl
    match j, hj with
    | 0, _ => exact fds_at q _ _ rfl rfl rfl rfl rfl
    | j + 1, hj => exact absurd hj (by simp [tbl])⟩⟩
  | 25, _ => exact ⟨(blk_cell hT _).trans rfl, (blk_cell hT _).trans rfl, (blk_cell hT _).trans rfl, (blk_cell hT _).trans rfl, _, (blk_cell hT _).trans rfl, .inr ⟨W.heap.size + 23, Nat.le_trans hm (Nat.le_add_right _ _), rfl, fun j hj => by
    have q := hP 23 _ rfl
    match j, hj with
    | 0, _ => exact fds_at q _ _ rfl rfl rfl rfl rfl
    | j + 1, hj => exact absurd hj (by simp [tbl])⟩⟩
  | 26, _ => exact ⟨(blk_cell hT _).trans rfl, (blk_cell hT _).trans rfl, (blk_cell hT _).trans rfl, (blk_cell hT _).trans rfl, _, (blk_cell hT _).trans rfl, .inr ⟨W.heap.size + 24, Nat.le_trans hm (Nat.le_add_right _ _), rfl, fun j hj => by
    have q := hP 24 _ rfl
    match j, hj with
    | 0, _ => exact fds_at q _ _ rfl rfl rfl rfl rfl
    | j + 1, hj => exact absurd hj (by simp [tbl])⟩⟩
  | 27, _ => exact ⟨(blk_cell hT _).trans rfl, (blk_cell hT _).trans rfl, (blk_cell hT _).trans rfl, (blk_cell hT _).trans rfl, _, (blk_cell hT _).trans rfl, .inr ⟨W.heap.size + 25, Nat.le_trans hm (Nat.le_add_right _ _), rfl, fun j hj => by
    have q := hP 25 _ rfl
    match j, hj with
    | 0, _ => exact fds_at q _ _ rfl rfl rfl rfl rfl
    | j + 1, hj => exact absurd hj (by simp [tbl])⟩⟩
  | 28, _ => exact ⟨(blk_cell hT _).trans rfl, (blk_cell hT _).trans rfl, (blk_cell hT _).trans rfl, (blk_cell hT _).trans rfl, _, (blk_cell hT _).trans rfl, .inr ⟨W.heap.size + 26, Nat.le_trans hm (Nat.le_add_right _ _), rfl, fun j hj => by
    have q := hP 26 _ rfl
    match j, hj with
    | 0, _ => exact fds_at q _ _ rfl rfl rfl rfl rfl
    | j + 1, hj => exact absurd hj (by simp [tbl])⟩⟩
  | 29, _ => exact ⟨(blk_cell hT _).trans rfl, (blk_cell hT _).trans rfl, (blk_cell hT _).trans rfl, (blk_cell hT _).trans rfl, _, (blk_cell hT _).trans rfl, .inr ⟨W.heap.size + 27, Nat.le_trans hm (Nat.le_add_right _ _), rfl, fun j hj => by
    have q := hP 27 _ rfl
    match j, hj with
    | 0, _ => exact fds_at q _ _ rfl rfl rfl rfl rfl
    | j + 1, hj => exact absurd hj (by simp [tbl])⟩⟩
  | 30, _ => exact ⟨(blk_cell hT _).trans rfl, (blk_cell hT _).trans rfl, (blk_cell hT _).trans rfl, (blk_cell hT _).trans rfl, _, (blk_cell hT _).trans rfl, .inr ⟨W.heap.size + 28, Nat.le_trans hm (Nat.le_add_right _ _), rfl, fun j hj => by
    have q := hP 28 _ rfl
    match j, hj with
    | 0, _ => exact fds_at q _ _ rfl rfl rfl rfl rfl
    | j + 1, hj => exact absurd hj (by simp [tbl])⟩⟩
  | i + 31, h => exact absurd h (by simp [tbl])
theorem below_five (w : World) : Below w.heap.size w (five w) := below_alloc (below_alloc (below_alloc (below_alloc (below_alloc (Below.refl _ _) _) _) _) _) _
/-- An order's box. -/
def OBox (q : Nat) (o : Ord) (w : World) : Prop := w.heap[q]? = some (.cells #[.int .u8 o.op, .int .u8 o.x, .int .u8 o.y, .int .u8 o.n, .int .u8 o.b, .int .u16 o.a] 25 (0, 0))

set_option maxRecDepth 100000 in
theorem get_x (q : Nat) (o : Ord) (w : World) (ho : o.Ok) (h : OBox q o w) : Calls Try.prog 15 #[.pointer (some ⟨q, 0, none⟩)] w fun e w' => e = .returned (.int .i64 o.x) ∧ w = w' := by
  have c : w.cell? ⟨q, 1, none⟩ = some (.int .u8 o.x) := (blk_cell h 1).trans rfl
  have h0 := ho.x0
  have h1 := ho.x1
  clear h
  go_enter Try.func15, Try.ntmps15
  go_wp2
  go_ret
  exact ⟨rfl, rfl⟩
set_option maxRecDepth 100000 in
theorem put_x (q : Nat) (o : Ord) (v : Int) (w : World) (h0 : 0 ≤ v) (h1 : v ≤ 15) (h : OBox q o w) : Calls Try.prog 16 #[.pointer (some ⟨q, 0, none⟩), .int .i64 v] w fun e w' => e = .returned (.tuple #[]) ∧ w' = w.setCell ⟨q, 1, none⟩ (.int .u8 v) := by
  have c : w.cell? ⟨q, 1, none⟩ = some (.int .u8 o.x) := (blk_cell h 1).trans rfl
  have y : w.frozen? ⟨q, 1, none⟩ = false := blk_frozen h 1
  clear h
  go_enter Try.func16, Try.ntmps16
  go_wp2
  go_end0
  exact ⟨rfl, rfl⟩
set_option maxRecDepth 100000 in
theorem get_y (q : Nat) (o : Ord) (w : World) (ho : o.Ok) (h : OBox q o w) : Calls Try.prog 17 #[.pointer (some ⟨q, 0, none⟩)] w fun e w' => e = .returned (.int .i64 o.y) ∧ w = w' := by
  have c : w.cell? ⟨q, 2, none⟩ = some (.int .u8 o.y) := (blk_cell h 2).trans rfl
  have h0 := ho.y0
  have h1 := ho.y1
  clear h
  go_enter Try.func17, Try.ntmps17
  go_wp2
  go_ret
  exact ⟨rfl, rfl⟩
set_option maxRecDepth 100000 in
theorem put_y (q : Nat) (o : Ord) (v : Int) (w : World) (h0 : 0 ≤ v) (h1 : v ≤ 15) (h : OBox q o w) : Calls Try.prog 18 #[.pointer (some ⟨q, 0, none⟩), .int .i64 v] w fun e w' => e = .returned (.tuple #[]) ∧ w' = w.setCell ⟨q, 2, none⟩ (.int .u8 v) := by
  have c : w.cell? ⟨q, 2, none⟩ = some (.int .u8 o.y) := (blk_cell h 2).trans rfl
  have y : w.frozen? ⟨q, 2, none⟩ = false := blk_frozen h 2
  clear h
  go_enter Try.func18, Try.ntmps18
  go_wp2
  go_end0
  exact ⟨rfl, rfl⟩
set_option maxRecDepth 100000 in
theorem get_n (q : Nat) (o : Ord) (w : World) (ho : o.Ok) (h : OBox q o w) : Calls Try.prog 19 #[.pointer (some ⟨q, 0, none⟩)] w fun e w' => e = .returned (.int .i64 o.n) ∧ w = w' := by
  have c : w.cell? ⟨q, 3, none⟩ = some (.int .u8 o.n) := (blk_cell h 3).trans rfl
  have h0 := ho.n0
  have h1 := ho.n1
  clear h
  go_enter Try.func19, Try.ntmps19
  go_wp2
  go_ret
  exact ⟨rfl, rfl⟩
set_option maxRecDepth 100000 in
theorem put_n (q : Nat) (o : Ord) (v : Int) (w : World) (h0 : 0 ≤ v) (h1 : v ≤ 15) (h : OBox q o w) : Calls Try.prog 20 #[.pointer (some ⟨q, 0, none⟩), .int .i64 v] w fun e w' => e = .returned (.tuple #[]) ∧ w' = w.setCell ⟨q, 3, none⟩ (.int .u8 v) := by
  have c : w.cell? ⟨q, 3, none⟩ = some (.int .u8 o.n) := (blk_cell h 3).trans rfl
  have y : w.frozen? ⟨q, 3, none⟩ = false := blk_frozen h 3
  clear h
  go_enter Try.func20, Try.ntmps20
  go_wp2
  go_end0
  exact ⟨rfl, rfl⟩
set_option maxRecDepth 100000 in
theorem get_b (q : Nat) (o : Ord) (w : World) (ho : o.Ok) (h : OBox q o w) : Calls Try.prog 21 #[.pointer (some ⟨q, 0, none⟩)] w fun e w' => e = .returned (.int .i64 o.b) ∧ w = w' := by
  have c : w.cell? ⟨q, 4, none⟩ = some (.int .u8 o.b) := (blk_cell h 4).trans rfl
  have h0 := ho.b0
  have h1 := ho.b1
  clear h
  go_enter Try.func21, Try.ntmps21
  go_wp2
  go_ret
  exact ⟨rfl, rfl⟩
set_option maxRecDepth 100000 in
theorem put_b (q : Nat) (o : Ord) (v : Int) (w : World) (h0 : 0 ≤ v) (h1 : v ≤ 255) (h : OBox q o w) : Calls Try.prog 22 #[.pointer (some ⟨q, 0, none⟩), .int .i64 v] w fun e w' => e = .returned (.tuple #[]) ∧ w' = w.setCell ⟨q, 4, none⟩ (.int .u8 v) := by
  have c : w.cell? ⟨q, 4, none⟩ = some (.int .u8 o.b) := (blk_cell h 4).trans rfl
  have y : w.frozen? ⟨q, 4, none⟩ = false := blk_frozen h 4
  clear h
  go_enter Try.func22, Try.ntmps22
  go_wp2
  go_end0
  exact ⟨rfl, rfl⟩
set_option maxRecDepth 100000 in
theorem get_a (q : Nat) (o : Ord) (w : World) (ho : o.Ok) (h : OBox q o w) : Calls Try.prog 23 #[.pointer (some ⟨q, 0, none⟩)] w fun e w' => e = .returned (.int .i64 o.a) ∧ w = w' := by
  have c : w.cell? ⟨q, 5, none⟩ = some (.int .u16 o.a) := (blk_cell h 5).trans rfl
  have h0 := ho.a0
  have h1 := ho.a1
  clear h
  go_enter Try.func23, Try.ntmps23
  go_wp2
  go_ret
  exact ⟨rfl, rfl⟩
set_option maxRecDepth 100000 in
theorem put_a (q : Nat) (o : Ord) (v : Int) (w : World) (h0 : 0 ≤ v) (h1 : v ≤ 4095) (h : OBox q o w) : Calls Try.prog 24 #[.pointer (some ⟨q, 0, none⟩), .int .i64 v] w fun e w' => e = .returned (.tuple #[]) ∧ w' = w.setCell ⟨q, 5, none⟩ (.int .u16 v) := by
  have c : w.cell? ⟨q, 5, none⟩ = some (.int .u16 o.a) := (blk_cell h 5).trans rfl
  have y : w.frozen? ⟨q, 5, none⟩ = false := blk_frozen h 5
  clear h
  go_enter Try.func24, Try.ntmps24
  go_wp2
  go_end0
  exact ⟨rfl, rfl⟩
end Go.Proofs.Ytffbkmcaecmmgaa.Ops
