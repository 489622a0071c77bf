/- What the row's listed variable gives a walk: errors.errorType holds the handle of the type error. -/
import Derived.Test.YtdibgdiiamcmfaaDoorRows
import Derived.Test.YtdibgdiiamcmfaaDoorTapeReadC
import Derived.ProofKit
import Derived.LaidMore
import Derived.LaidHandle
import Derived.OpenShut
import Derived.ChangeOld
import Derived.Stop.Joined
set_option linter.unusedVariables false
set_option linter.unusedSimpArgs false
namespace Go.Proofs.YtdibgdiiamcmfaaDoor.Laid
open Go.ChangeShapes Go.WideShapes Go.ChangeAt Go.RowKit
open Go.Proofs.YtdibgdiiamcmfaaDoor.Reader (GOk)
abbrev lst : List (String × DataW Unit) := [("errors.errorType", Rows.laid_errors_errorType)]
theorem own : ownKnob Tryd.prog.godebug = none := by kernel_rfl
theorem gErr : Tryd.prog.globalNamed "errors.errorType" = some 0 := by kernel_rfl
theorem cutT : (Tryd.prog.cutTypes.find? (·.1 == "internal/reflectlite.rtype")).map (·.2) = some 91 := by kernel_rfl
theorem nameOf : (Rows.laid_errors_errorType (H := Unit)).handleName? = some [101, 114, 114, 111, 114] := by kernel_rfl
theorem noFuncs : (Rows.laid_errors_errorType (H := Unit)).funcsIn? = none := by kernel_rfl
theorem only : ∀ ty, ty < Tryd.prog.types.size → Tryd.prog.rowNamed ty [101, 114, 114, 111, 114] = true → ty = 61 := by
  have h : ((List.range Tryd.prog.types.size).all fun ty => !Tryd.prog.rowNamed ty [101, 114, 114, 111, 114] || ty == 61) = true := by kernel_rfl
  intro ty hlt hr
  have := List.all_eq_true.1 h ty (List.mem_range.2 hlt)
  rw [hr] at this
  simpa using this
theorem gsz : Tryd.prog.globals.size = 1 := by kernel_rfl

theorem gok {W : World} (h : laidMetH Tryd.prog lst W) : GOk W := by
  have hf : (lst.filter fun x => x.2.handleName?.isSome) = [("errors.errorType", Rows.laid_errors_errorType)] := by
    simp [lst, nameOf]
  unfold laidMetH at h
  rw [hf] at h
  obtain ⟨_, hh⟩ := h
  have h1 := hh ("errors.errorType", Rows.laid_errors_errorType) List.mem_cons_self
  simp only [noFuncs] at h1
  obtain ⟨name, u, ty, hn, hu, hlt, hr, hv⟩ := h1
  rw [nameOf] at hn
  rw [cutT] at hu
  obtain rfl := Option.some.inj hn
  obtain rfl := Option.some.inj hu
  obtain rfl := only ty hlt hr
  have h2 := World.var?_cell gErr hv 0
  have h3 : typeHandle Tryd.prog 61 = .pointer (some ⟨1, 61, none⟩) := by kernel_rfl
  rw [h3] at h2
  simpa [GOk] using h2

/-- The door's own heap meets the condition: closed facts. -/
theorem door_met (os : Os) (args : Array Value) : laidMetH Tryd.prog lst ((World.doorLaid Tryd.prog 400 os).forCall (fun _ _ => 0) ⟨#[], args, []⟩).memory :=
  laidMetH_of_parts3 (fuel := 8) (by
    have : (lst.filter fun x => x.2.handleName?.isNone) = [] := by simp [lst, nameOf]
    rw [this]; exact laidMet_nil _ _) (by kernel_rfl) (by kernel_rfl)
end Go.Proofs.YtdibgdiiamcmfaaDoor.Laid
