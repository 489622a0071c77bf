/- The calls of reflectlite that errors.As makes of a *tape.fault and a **tape.fault: what each gives. Closed facts, by the kernel. -/
import Derived.Test.YtdibgdiiamcmfaaDoorPTapex0
import Derived.RangeFuncBox
import Derived.Lib.Hide
set_option linter.unusedVariables false
set_option linter.unusedSimpArgs false
namespace Go.Proofs.YtdibgdiiamcmfaaDoor.As
open Go.RowKit
def hd (t : Nat) : Value := .pointer (some ⟨1, t, none⟩)
def rv66 (p : Addr) : Value := .agg #[hd 66, .pointer (some p), .int .u64 150]
def rv64 (p : Addr) : Value := .agg #[hd 64, .pointer (some p), .int .u64 150]
def rv64a (p : Addr) : Value := .agg #[hd 64, .pointer (some p), .int .u64 406]
def rt (t : Nat) : Value := .iface 91 (.agg #[hd t])
theorem c34a (f : Addr) (w : World) : (callFunc 34 #[.iface 66 (.pointer (some f))]).run Tryd.prog w = .ok (.value (rv66 ⟨w.heap.size, 0, none⟩)) (w.alloc (.cells #[.pointer (some f)] 66)) := by kernel_rfl
theorem c34b (a : Addr) (w : World) : (callFunc 34 #[.iface 64 (.pointer (some a))]).run Tryd.prog w = .ok (.value (rv64 ⟨w.heap.size, 0, none⟩)) (w.alloc (.cells #[.pointer (some a)] 64)) := by kernel_rfl
theorem c35 (p : Addr) (w : World) : (callFunc 35 #[rv66 p]).run Tryd.prog w = .ok (.value (rt 66)) w := by kernel_rfl
theorem c40 (a : Addr) (w : World) : (callFunc 40 #[.iface 64 (.pointer (some a))]).run Tryd.prog w = .ok (.value (rt 64)) w := by kernel_rfl
/-- A load, and what becomes of the value: the cell is looked up once. -/
theorem run_load_of {α : Type} {P : Program} {w : World} {p : Addr} {v : Value} (s : Sem α) (k : Value → Sem α) (r : Result α) (hc : w.cell? p = some v)
    (h1 : ∀ W : World, s.run P W = (Sem.load .plain p k).run P W) (h2 : (k v).run P w = r) : s.run P w = r := by
  rw [h1]
  simp only [Sem.run, hc]
  exact h2
def isNilK (v : Value) : Sem Next := do
  let x ← (match v with
    | .chan none | .nilFunc | .nilIface | .map none | .pointer none | .slice none _ _ => pure (.bool true)
    | _ => pure (.bool false) : Sem Value)
  pure (.value x)
theorem c36 (p f : Addr) (w : World) (hc : w.cell? p = some (.pointer (some f))) : (callFunc 36 #[rv66 p]).run Tryd.prog w = .ok (.value (.bool false)) w := by
  refine run_load_of _ isNilK _ hc (fun W => ?_) rfl
  kernel_rfl
theorem mA (w : World) : (method 233 91 (.agg #[hd 64]) "AssignableTo").run Tryd.prog w = .ok (65, .agg #[hd 64]) w := by kernel_rfl
theorem fA (w : World) : (callFunc 65 #[.agg #[hd 64], rt 64]).run Tryd.prog w = .ok (.value (.bool true)) w := by kernel_rfl
theorem mK66 (w : World) : (method 233 91 (.agg #[hd 66]) "Kind").run Tryd.prog w = .ok (57, hd 66) w := by kernel_rfl
theorem mK64 (w : World) : (method 233 91 (.agg #[hd 64]) "Kind").run Tryd.prog w = .ok (57, hd 64) w := by kernel_rfl
theorem fK66 (w : World) : (callFunc 57 #[hd 66]).run Tryd.prog w = .ok (.value (.int .u8 22)) w := by kernel_rfl
theorem fK64 (w : World) : (callFunc 57 #[hd 64]).run Tryd.prog w = .ok (.value (.int .u8 22)) w := by kernel_rfl
theorem mE66 (w : World) : (method 233 91 (.agg #[hd 66]) "Elem").run Tryd.prog w = .ok (67, .agg #[hd 66]) w := by kernel_rfl
theorem fE66 (w : World) : (callFunc 67 #[.agg #[hd 66]]).run Tryd.prog w = .ok (.value (rt 64)) w := by kernel_rfl
theorem mI64 (w : World) : (method 233 91 (.agg #[hd 64]) "Implements").run Tryd.prog w = .ok (68, .agg #[hd 64]) w := by kernel_rfl
theorem fI64 (w : World) : (callFunc 68 #[.agg #[hd 64], rt 61]).run Tryd.prog w = .ok (.value (.bool true)) w := by kernel_rfl
def elemK (v : Value) : Sem Next := do
  let x ← (do
    match 22, v, ← Extern.Rtype.elem? 66 with
    | 20, i, _ => Extern.ReflectliteValue.unpack i
    | 22, .pointer none, _ => pure Extern.ReflectliteValue.zeroV
    | 22, .pointer (some p), some e => Extern.ReflectliteValue.mk e p Extern.ReflectliteValue.flagAddr
    | _, _, _ => Extern.ReflectliteValue.valueError "reflectlite.Value.Elem" 22 : Sem Value)
  pure (.value x)
theorem c41 (p f : Addr) (w : World) (hc : w.cell? p = some (.pointer (some f))) : (callFunc 41 #[rv66 p]).run Tryd.prog w = .ok (.value (rv64a f)) w := by
  refine run_load_of _ elemK _ hc (fun W => ?_) (by kernel_rfl)
  kernel_rfl
def setK (f : Addr) (val : Value) : Sem Next := do
  let x ← (do storeVar 64 f val; pure (.tuple #[]) : Sem Value)
  pure (.value x)
theorem c42 (q f a : Addr) (w : World) (hc : w.cell? q = some (.pointer (some a))) (hf : (w.cell? f).isSome = true) (hz : w.frozen? f = false) : (callFunc 42 #[rv64a f, rv64 q]).run Tryd.prog w = .ok (.value (.tuple #[])) (w.setCell f (.pointer (some a))) := by
  refine run_load_of _ (setK f) _ hc (fun W => ?_) ?_
  · kernel_rfl
  · have h : ∀ W : World, (setK f (.pointer (some a))).run Tryd.prog W = (Sem.store .plain f (.pointer (some a)) (Sem.pure (Next.value (.tuple #[])))).run Tryd.prog W := fun W => by kernel_rfl
    rw [h]
    obtain ⟨x, hx⟩ := Option.isSome_iff_exists.1 hf
    simp only [Sem.run, hx, hz]
    rfl
end Go.Proofs.YtdibgdiiamcmfaaDoor.As
