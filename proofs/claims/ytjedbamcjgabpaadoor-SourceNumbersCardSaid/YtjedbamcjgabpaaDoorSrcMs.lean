/- source.must and source.number, walked: what holds goes on, what does not panics with the package's own value. -/
import Derived.Test.YtjedbamcjgabpaaDoorSrcNum
import Derived.Test.YtjedbamcjgabpaaDoorSrcNm
import Derived.WalkLawsBesides
import Derived.Deep.QuietTactic
import Derived.BigQuiet
set_option linter.unusedVariables false
set_option linter.unusedSimpArgs false
namespace Go.Proofs.YtjedbamcjgabpaaDoor.PSo
open Go Go.RowKit
open Go.Proofs.YtjedbamcjgabpaaDoorW.PrintWords
open Go.Proofs.YtjedbamcjgabpaaDoor.Src

/-- The package's own panic. -/
def PN : List PanicEntry := [{ v := Value.iface 85 (Value.agg #[]), recovered := false }]
theorem bodyPost_panic {P : Program} {fn : Func} {post : Ending → World → Prop} {c : List PanicEntry} {a : Act} {w : World} (hd : a.defers = []) (h : post (.panicked c) w) : bodyPost P fn post (Exit.panic c) a w := by
  simp [bodyPost, hd, h]
theorem must_yes (w : World) : Calls Tryd.prog 50 #[.bool true] w fun e w' => e = .returned (.tuple #[]) ∧ w = w' := by
  go_enter Tryd.func50, Tryd.ntmps50
  go_wp2
  go_end0
  exact ⟨rfl, rfl⟩
theorem must_no (w : World) : Calls Tryd.prog 50 #[.bool false] w fun e w' => e = .panicked PN ∧ w = w' := by
  go_enter Tryd.func50, Tryd.ntmps50
  go_wp2
  exact bodyPost_panic rfl ⟨rfl, rfl⟩
set_option maxRecDepth 100000 in
theorem num_yes (s : ByteArray) (many : Int) (w : World) (h : (numR s).2 = 0) (hl : (s.size : Int) = many) : Calls Tryd.prog 63 #[.string s, .int .i64 many] w fun e w' => e = .returned (.int .i64 (numR s).1) ∧ Below w.heap.size w w' := by
  obtain ⟨v, hv⟩ : ∃ v, (numR s).1 = v := ⟨_, rfl⟩
  have HV := Aside0.mk (And.intro hv h)
  rw [hv]
  clear hv h
  subst hl
  go_enter Tryd.func63, Tryd.ntmps63
  go_wp2_with fail
  (with_reducible refine (number_calls s w).mono ?_)
  rintro e w1 ⟨rfl, hb⟩
  rw [HV.out.1, HV.out.2]
  have HB := Aside0.mk hb
  clear hb
  go_wp2_with fail
  (with_reducible refine (must_yes _).mono ?_)
  rintro e w2 ⟨rfl, rfl⟩
  go_wp2
  go_ret
  exact ⟨rfl, HB.out⟩
set_option maxRecDepth 100000 in
theorem num_no (s : ByteArray) (many : Int) (w : World) (h : ¬ ((numR s).2 = 0 ∧ (s.size : Int) = many)) : Calls Tryd.prog 63 #[.string s, .int .i64 many] w fun e w' => e = .panicked PN ∧ Below w.heap.size w w' := by
  obtain ⟨v, hv⟩ : ∃ v, (numR s).1 = v := ⟨_, rfl⟩
  obtain ⟨ve, hve⟩ : ∃ ve, (numR s).2 = ve := ⟨_, rfl⟩
  have HV := Aside0.mk (And.intro hv hve)
  rw [hve] at h
  clear hv hve
  by_cases h1 : ve = 0
  · subst h1
    have t1 : ((s.size : Int) == many) = false := beq_eq_false_iff_ne.2 (fun e => h ⟨rfl, e⟩)
    clear h
    go_enter Tryd.func63, Tryd.ntmps63
    go_wp2_with fail
    (with_reducible refine (number_calls s w).mono ?_)
    rintro e w1 ⟨rfl, hb⟩
    rw [HV.out.1, HV.out.2]
    have HB := Aside0.mk hb
    clear hb
    go_wp2_with fail
    (with_reducible refine (must_no _).mono ?_)
    rintro e w2 ⟨rfl, rfl⟩
    exact bodyPost_panic rfl ⟨rfl, HB.out⟩
  · have t1 : (ve == 0) = false := beq_eq_false_iff_ne.2 h1
    clear h h1
    go_enter Tryd.func63, Tryd.ntmps63
    go_wp2_with fail
    (with_reducible refine (number_calls s w).mono ?_)
    rintro e w1 ⟨rfl, hb⟩
    rw [HV.out.1, HV.out.2]
    have HB := Aside0.mk hb
    clear hb
    go_wp2_with fail
    (with_reducible refine (must_no _).mono ?_)
    rintro e w2 ⟨rfl, rfl⟩
    exact bodyPost_panic rfl ⟨rfl, HB.out⟩
def source_number.f (s : ByteArray) (many : Int) : Option Int := if (numR s).2 = 0 ∧ (s.size : Int) = many then some (numR s).1 else none
theorem source_number.calls (a0 : ByteArray) (a1 : Int) (r : Int) (w : World) (h : source_number.f a0 a1 = some r) : Calls Tryd.prog 63 #[.string a0, .int .i64 a1] w fun e w' => e = .returned (.int .i64 r) ∧ Below w.heap.size w w' := by
  unfold source_number.f at h
  by_cases c : (numR a0).2 = 0 ∧ (a0.size : Int) = a1
  · rw [if_pos c] at h
    obtain rfl := Option.some.inj h
    exact num_yes a0 a1 w c.1 c.2
  · rw [if_neg c] at h; cases h
theorem source_number.none_ (a0 : ByteArray) (a1 : Int) (w : World) (h : source_number.f a0 a1 = none) : Calls Tryd.prog 63 #[.string a0, .int .i64 a1] w fun e w' => e = .panicked PN ∧ Below w.heap.size w w' := by
  unfold source_number.f at h
  by_cases c : (numR a0).2 = 0 ∧ (a0.size : Int) = a1
  · rw [if_pos c] at h; cases h
  · exact num_no a0 a1 w c
end Go.Proofs.YtjedbamcjgabpaaDoor.PSo
