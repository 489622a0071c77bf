/- What a walk of this seat knows of the library's own variables; strconv.Itoa in the printed form. -/
import Derived.Test.YtdjffafcmomalaaDoorShelf
import Derived.Test.YtdjffafcmomalaaDoorPScrx0
import Derived.Lib.LaidTab
import Derived.Lib.AppendIntMem
set_option linter.unusedVariables false
set_option linter.unusedSimpArgs false
namespace Go.Proofs.YtdjffafcmomalaaDoor.Scr
open Go Go.RowKit
open Go.Proofs.YtdjffafcmomalaaDoorW.PrintWords Go.Proofs.YtdjffafcmomalaaDoor.PScr

/-- What is known of the library's variables: MaxLen holds some int, the table of powers of ten is what the text lays, the two errors hold some pointer each. -/
structure GOk (w : World) : Prop where
  max : ∃ m, w.cell? ⟨0, 0, none⟩ = some (.int .i64 m)
  pow : Lib.TabIs Tryd.prog w "internal/strconv.uint64pow10" .u64 Lib.pow10Tab
  syn : ∃ tp p, w.var? Tryd.prog "strconv.ErrSyntax" = some #[.iface tp p]
  rng : ∃ tp p, w.var? Tryd.prog "strconv.ErrRange" = some #[.iface tp p]

theorem var_kept {w w1 : World} {name : String} {cs : Array Value} (h : w.var? Tryd.prog name = some cs) (hb : ∀ k, k < w.heap.size → w1.heap[k]? = w.heap[k]?) : w1.var? Tryd.prog name = some cs := by
  unfold World.var? at h ⊢
  obtain ⟨g, hg, hv⟩ := Option.bind_eq_some_iff.1 h
  rw [hg]
  simp only [Option.bind_some]
  have hlt : g < w.heap.size := by
    rcases Nat.lt_or_ge g w.heap.size with h' | h'
    · exact h'
    · rw [Array.getElem?_eq_none h'] at hv; cases hv
  rw [hb g hlt]
  exact hv

theorem GOk.kept {w w1 : World} (h : GOk w) (hb : ∀ k, k < w.heap.size → w1.heap[k]? = w.heap[k]?) : GOk w1 := by
  obtain ⟨⟨m, hm⟩, hp, ⟨t1, p1, h1⟩, ⟨t2, p2, h2⟩⟩ := h
  refine ⟨⟨m, ?_⟩, var_kept hp hb, ⟨t1, p1, var_kept h1 hb⟩, ⟨t2, p2, var_kept h2 hb⟩⟩
  rw [World.cell?_of_block (hb 0 (World.block_lt_of_cell? w _ hm))]
  exact hm
theorem GOk.below {w0 w1 : World} (h : GOk w0) (hb : Below w0.heap.size w0 w1) : GOk w1 := h.kept (fun k hk => hb.block k hk)

end Go.Proofs.YtdjffafcmomalaaDoor.Scr
namespace Go.Proofs.YtdjffafcmomalaaDoor.PScr
open Go Go.RowKit
open Go.Proofs.YtdjffafcmomalaaDoorW.PrintWords
open Go.Proofs.YtdjffafcmomalaaDoor.Scr (GOk)

def strconv_Itoa_52.f (a0 : Int) : Option ByteArray := if -9223372036854775808 ≤ a0 then (if a0 ≤ 9223372036854775807 then some ⟨(Lib.itoa a0).toArray⟩ else none) else none
theorem strconv_Itoa_52.calls (a0 : Int) (r : ByteArray) (w : World) (h : strconv_Itoa_52.f a0 = some r)
    (hG : GOk w := by first | exact HG.out | exact GOk.below HG.out HB.out | exact GOk.below HG.out (by repeat (first | (with_reducible first | exact HB.out | apply below_alloc | apply pw_below_drewN | apply below_drew1) | exact HB.out))) :
    Calls Tryd.prog 52 #[.int .i64 a0] w fun e w' => e = .returned (.string r) ∧ Below w.heap.size w w' := by
  unfold strconv_Itoa_52.f at h
  by_cases h0 : -9223372036854775808 ≤ a0
  · rw [if_pos h0] at h
    by_cases h1 : a0 ≤ 9223372036854775807
    · rw [if_pos h1] at h
      obtain rfl := Option.some.inj h
      refine (Tryd.strconv_Itoa a0 h0 h1 w hG.pow).mono ?_
      rintro e w' ⟨he, k, os, rfl⟩
      exact ⟨he, Lib.below_grow w.heap.size w (Nat.le_refl _) k os⟩
    · rw [if_neg h1] at h; cases h
  · rw [if_neg h0] at h; cases h
end Go.Proofs.YtdjffafcmomalaaDoor.PScr
