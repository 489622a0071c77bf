-- PRINTED BY print.sh 35421559b90ae4d0a3588c463048766b98c2df88dd9212a6774a882060cdf62d: not written by this session
import Derived.Test.YtffbkmcaecmmgaaPInterBoundsx0
namespace Go.Proofs.Ytffbkmcaecmmgaa.PInterBounds
open Go.RowKit Go.Proofs.YtffbkmcaecmmgaaW.PrintWords Go.Proofs.YtffbkmcaecmmgaaW.PrintLast Go.Proofs.YtffbkmcaecmmgaaW.PrintMore
attribute [local go_sem] max2_int min2_int max_two min_two max_three min_three max_four min_four   -- for this text's walks alone
set_option linter.unusedVariables false
set_option linter.unusedSimpArgs false

-- NOT PRINTED: function 11 (ops_rows)

-- NOT PRINTED: function 25 (ops_rowOf)

-- NOT PRINTED: function 12 (ops_Decode)

-- NOT PRINTED: function 6 (ops_Encode)

-- NOT PRINTED: function 7 (inter_bounds)

-- NOT PRINTED: function 4 (inter_Bound)

/-! ### vesperref16_Words: function 8 -/
def vesperref16_Words.f  : Option ((List (S36))) := some (([(⟨1, 0, (⟨#[97]⟩ : ByteArray), (⟨#[109, 97, 99, 104, 105, 110, 101]⟩ : ByteArray)⟩ : S36), (⟨2, 224, (⟨#[]⟩ : ByteArray), (⟨#[99, 108, 101, 97, 114]⟩ : ByteArray)⟩ : S36), (⟨3, 238, (⟨#[]⟩ : ByteArray), (⟨#[114, 101, 116, 117, 114, 110]⟩ : ByteArray)⟩ : S36), (⟨4, 4096, (⟨#[97]⟩ : ByteArray), (⟨#[106, 117, 109, 112]⟩ : ByteArray)⟩ : S36), (⟨5, 8192, (⟨#[97]⟩ : ByteArray), (⟨#[99, 97, 108, 108]⟩ : ByteArray)⟩ : S36), (⟨6, 12288, (⟨#[120, 98]⟩ : ByteArray), (⟨#[115, 107, 105, 112, 45, 105, 115]⟩ : ByteArray)⟩ : S36), (⟨7, 16384, (⟨#[120, 98]⟩ : ByteArray), (⟨#[115, 107, 105, 112, 45, 110, 111, 116]⟩ : ByteArray)⟩ : S36), (⟨8, 20480, (⟨#[120, 121]⟩ : ByteArray), (⟨#[115, 107, 105, 112, 45, 115, 97, 109, 101]⟩ : ByteArray)⟩ : S36), (⟨9, 24576, (⟨#[120, 98]⟩ : ByteArray), (⟨#[115, 101, 116]⟩ : ByteArray)⟩ : S36), (⟨10, 28672, (⟨#[120, 98]⟩ : ByteArray), (⟨#[97, 100, 100]⟩ : ByteArray)⟩ : S36), (⟨11, 32768, (⟨#[120, 121]⟩ : ByteArray), (⟨#[109, 111, 118, 101]⟩ : ByteArray)⟩ : S36), (⟨12, 32769, (⟨#[120, 121]⟩ : ByteArray), (⟨#[111, 114]⟩ : ByteArray)⟩ : S36), (⟨13, 32770, (⟨#[120, 121]⟩ : ByteArray), (⟨#[97, 110, 100]⟩ : ByteArray)⟩ : S36), (⟨14, 32772, (⟨#[120, 121]⟩ : ByteArray), (⟨#[112, 108, 117, 115]⟩ : ByteArray)⟩ : S36), (⟨15, 32773, (⟨#[120, 121]⟩ : ByteArray), (⟨#[109, 105, 110, 117, 115]⟩ : ByteArray)⟩ : S36), (⟨16, 36864, (⟨#[120, 121]⟩ : ByteArray), (⟨#[115, 107, 105, 112, 45, 111, 116, 104, 101, 114]⟩ : ByteArray)⟩ : S36), (⟨17, 40960, (⟨#[97]⟩ : ByteArray), (⟨#[112, 111, 105, 110, 116]⟩ : ByteArray)⟩ : S36), (⟨18, 45056, (⟨#[97]⟩ : ByteArray), (⟨#[106, 117, 109, 112, 45, 98, 121]⟩ : ByteArray)⟩ : S36), (⟨19, 49152, (⟨#[120, 98]⟩ : ByteArray), (⟨#[114, 97, 110, 100, 111, 109]⟩ : ByteArray)⟩ : S36), (⟨20, 53248, (⟨#[120, 121, 110]⟩ : ByteArray), (⟨#[100, 114, 97, 119]⟩ : ByteArray)⟩ : S36), (⟨21, 57502, (⟨#[120]⟩ : ByteArray), (⟨#[115, 107, 105, 112, 45, 100, 111, 119, 110]⟩ : ByteArray)⟩ : S36), (⟨22, 57505, (⟨#[120]⟩ : ByteArray), (⟨#[115, 107, 105, 112, 45, 117, 112]⟩ : ByteArray)⟩ : S36), (⟨23, 61447, (⟨#[120]⟩ : ByteArray), (⟨#[116, 105, 109, 101, 114]⟩ : ByteArray)⟩ : S36), (⟨24, 61450, (⟨#[120]⟩ : ByteArray), (⟨#[107, 101, 121]⟩ : ByteArray)⟩ : S36), (⟨25, 61461, (⟨#[120]⟩ : ByteArray), (⟨#[100, 101, 108, 97, 121]⟩ : ByteArray)⟩ : S36), (⟨26, 61464, (⟨#[120]⟩ : ByteArray), (⟨#[115, 111, 117, 110, 100]⟩ : ByteArray)⟩ : S36), (⟨27, 61470, (⟨#[120]⟩ : ByteArray), (⟨#[111, 110]⟩ : ByteArray)⟩ : S36), (⟨28, 61481, (⟨#[120]⟩ : ByteArray), (⟨#[100, 105, 103, 105, 116]⟩ : ByteArray)⟩ : S36), (⟨29, 61491, (⟨#[120]⟩ : ByteArray), (⟨#[116, 104, 114, 101, 101]⟩ : ByteArray)⟩ : S36), (⟨30, 61525, (⟨#[120]⟩ : ByteArray), (⟨#[115, 116, 111, 114, 101]⟩ : ByteArray)⟩ : S36), (⟨31, 61541, (⟨#[120]⟩ : ByteArray), (⟨#[102, 105, 108, 108]⟩ : ByteArray)⟩ : S36)] : List (S36)))
set_option maxHeartbeats 8000000 in
set_option maxRecDepth 100000 in
theorem vesperref16_Words.calls  (r : List (S36)) (w : World) (h : vesperref16_Words.f  = some r) :
    Calls Try.prog 8 #[] w fun e w' => ∃ v0_ : Value, e = .returned (v0_) ∧ Kd.R k36 36 w' w.heap.size (fun _ => True) v0_ r ∧ Below w.heap.size w w' := by
  have hu36 := Try.underlying36
  have HB := Aside0.mk (Below.refl w.heap.size w)
  have H : (some (([(⟨1, 0, (⟨#[97]⟩ : ByteArray), (⟨#[109, 97, 99, 104, 105, 110, 101]⟩ : ByteArray)⟩ : S36), (⟨2, 224, (⟨#[]⟩ : ByteArray), (⟨#[99, 108, 101, 97, 114]⟩ : ByteArray)⟩ : S36), (⟨3, 238, (⟨#[]⟩ : ByteArray), (⟨#[114, 101, 116, 117, 114, 110]⟩ : ByteArray)⟩ : S36), (⟨4, 4096, (⟨#[97]⟩ : ByteArray), (⟨#[106, 117, 109, 112]⟩ : ByteArray)⟩ : S36), (⟨5, 8192, (⟨#[97]⟩ : ByteArray), (⟨#[99, 97, 108, 108]⟩ : ByteArray)⟩ : S36), (⟨6, 12288, (⟨#[120, 98]⟩ : ByteArray), (⟨#[115, 107, 105, 112, 45, 105, 115]⟩ : ByteArray)⟩ : S36), (⟨7, 16384, (⟨#[120, 98]⟩ : ByteArray), (⟨#[115, 107, 105, 112, 45, 110, 111, 116]⟩ : ByteArray)⟩ : S36), (⟨8, 20480, (⟨#[120, 121]⟩ : ByteArray), (⟨#[115, 107, 105, 112, 45, 115, 97, 109, 101]⟩ : ByteArray)⟩ : S36), (⟨9, 24576, (⟨#[120, 98]⟩ : ByteArray), (⟨#[115, 101, 116]⟩ : ByteArray)⟩ : S36), (⟨10, 28672, (⟨#[120, 98]⟩ : ByteArray), (⟨#[97, 100, 100]⟩ : ByteArray)⟩ : S36), (⟨11, 32768, (⟨#[120, 121]⟩ : ByteArray), (⟨#[109, 111, 118, 101]⟩ : ByteArray)⟩ : S36), (⟨12, 32769, (⟨#[120, 121]⟩ : ByteArray), (⟨#[111, 114]⟩ : ByteArray)⟩ : S36), (⟨13, 32770, (⟨#[120, 121]⟩ : ByteArray), (⟨#[97, 110, 100]⟩ : ByteArray)⟩ : S36), (⟨14, 32772, (⟨#[120, 121]⟩ : ByteArray), (⟨#[112, 108, 117, 115]⟩ : ByteArray)⟩ : S36), (⟨15, 32773, (⟨#[120, 121]⟩ : ByteArray), (⟨#[109, 105, 110, 117, 115]⟩ : ByteArray)⟩ : S36), (⟨16, 36864, (⟨#[120, 121]⟩ : ByteArray), (⟨#[115, 107, 105, 112, 45, 111, 116, 104, 101, 114]⟩ : ByteArray)⟩ : S36), (⟨17, 40960, (⟨#[97]⟩ : ByteArray), (⟨#[112, 111, 105, 110, 116]⟩ : ByteArray)⟩ : S36), (⟨18, 45056, (⟨#[97]⟩ : ByteArray), (⟨#[106, 117, 109, 112, 45, 98, 121]⟩ : ByteArray)⟩ : S36), (⟨19, 49152, (⟨#[120, 98]⟩ : ByteArray), (⟨#[114, 97, 110, 100, 111, 109]⟩ : ByteArray)⟩ : S36), (⟨20, 53248, (⟨#[120, 121, 110]⟩ : ByteArray), (⟨#[100, 114, 97, 119]⟩ : ByteArray)⟩ : S36), (⟨21, 57502, (⟨#[120]⟩ : ByteArray), (⟨#[115, 107, 105, 112, 45, 100, 111, 119, 110]⟩ : ByteArray)⟩ : S36), (⟨22, 57505, (⟨#[120]⟩ : ByteArray), (⟨#[115, 107, 105, 112, 45, 117, 112]⟩ : ByteArray)⟩ : S36), (⟨23, 61447, (⟨#[120]⟩ : ByteArray), (⟨#[116, 105, 109, 101, 114]⟩ : ByteArray)⟩ : S36), (⟨24, 61450, (⟨#[120]⟩ : ByteArray), (⟨#[107, 101, 121]⟩ : ByteArray)⟩ : S36), (⟨25, 61461, (⟨#[120]⟩ : ByteArray), (⟨#[100, 101, 108, 97, 121]⟩ : ByteArray)⟩ : S36), (⟨26, 61464, (⟨#[120]⟩ : ByteArray), (⟨#[115, 111, 117, 110, 100]⟩ : ByteArray)⟩ : S36), (⟨27, 61470, (⟨#[120]⟩ : ByteArray), (⟨#[111, 110]⟩ : ByteArray)⟩ : S36), (⟨28, 61481, (⟨#[120]⟩ : ByteArray), (⟨#[100, 105, 103, 105, 116]⟩ : ByteArray)⟩ : S36), (⟨29, 61491, (⟨#[120]⟩ : ByteArray), (⟨#[116, 104, 114, 101, 101]⟩ : ByteArray)⟩ : S36), (⟨30, 61525, (⟨#[120]⟩ : ByteArray), (⟨#[115, 116, 111, 114, 101]⟩ : ByteArray)⟩ : S36), (⟨31, 61541, (⟨#[120]⟩ : ByteArray), (⟨#[102, 105, 108, 108]⟩ : ByteArray)⟩ : S36)] : List (S36)))) = some r := h
  clear h
  obtain ⟨y104, hy104⟩ : ∃ y_ : List (S36), y_ = (([(⟨1, 0, (⟨#[97]⟩ : ByteArray), (⟨#[109, 97, 99, 104, 105, 110, 101]⟩ : ByteArray)⟩ : S36), (⟨2, 224, (⟨#[]⟩ : ByteArray), (⟨#[99, 108, 101, 97, 114]⟩ : ByteArray)⟩ : S36), (⟨3, 238, (⟨#[]⟩ : ByteArray), (⟨#[114, 101, 116, 117, 114, 110]⟩ : ByteArray)⟩ : S36), (⟨4, 4096, (⟨#[97]⟩ : ByteArray), (⟨#[106, 117, 109, 112]⟩ : ByteArray)⟩ : S36), (⟨5, 8192, (⟨#[97]⟩ : ByteArray), (⟨#[99, 97, 108, 108]⟩ : ByteArray)⟩ : S36), (⟨6, 12288, (⟨#[120, 98]⟩ : ByteArray), (⟨#[115, 107, 105, 112, 45, 105, 115]⟩ : ByteArray)⟩ : S36), (⟨7, 16384, (⟨#[120, 98]⟩ : ByteArray), (⟨#[115, 107, 105, 112, 45, 110, 111, 116]⟩ : ByteArray)⟩ : S36), (⟨8, 20480, (⟨#[120, 121]⟩ : ByteArray), (⟨#[115, 107, 105, 112, 45, 115, 97, 109, 101]⟩ : ByteArray)⟩ : S36), (⟨9, 24576, (⟨#[120, 98]⟩ : ByteArray), (⟨#[115, 101, 116]⟩ : ByteArray)⟩ : S36), (⟨10, 28672, (⟨#[120, 98]⟩ : ByteArray), (⟨#[97, 100, 100]⟩ : ByteArray)⟩ : S36), (⟨11, 32768, (⟨#[120, 121]⟩ : ByteArray), (⟨#[109, 111, 118, 101]⟩ : ByteArray)⟩ : S36), (⟨12, 32769, (⟨#[120, 121]⟩ : ByteArray), (⟨#[111, 114]⟩ : ByteArray)⟩ : S36), (⟨13, 32770, (⟨#[120, 121]⟩ : ByteArray), (⟨#[97, 110, 100]⟩ : ByteArray)⟩ : S36), (⟨14, 32772, (⟨#[120, 121]⟩ : ByteArray), (⟨#[112, 108, 117, 115]⟩ : ByteArray)⟩ : S36), (⟨15, 32773, (⟨#[120, 121]⟩ : ByteArray), (⟨#[109, 105, 110, 117, 115]⟩ : ByteArray)⟩ : S36), (⟨16, 36864, (⟨#[120, 121]⟩ : ByteArray), (⟨#[115, 107, 105, 112, 45, 111, 116, 104, 101, 114]⟩ : ByteArray)⟩ : S36), (⟨17, 40960, (⟨#[97]⟩ : ByteArray), (⟨#[112, 111, 105, 110, 116]⟩ : ByteArray)⟩ : S36), (⟨18, 45056, (⟨#[97]⟩ : ByteArray), (⟨#[106, 117, 109, 112, 45, 98, 121]⟩ : ByteArray)⟩ : S36), (⟨19, 49152, (⟨#[120, 98]⟩ : ByteArray), (⟨#[114, 97, 110, 100, 111, 109]⟩ : ByteArray)⟩ : S36), (⟨20, 53248, (⟨#[120, 121, 110]⟩ : ByteArray), (⟨#[100, 114, 97, 119]⟩ : ByteArray)⟩ : S36), (⟨21, 57502, (⟨#[120]⟩ : ByteArray), (⟨#[115, 107, 105, 112, 45, 100, 111, 119, 110]⟩ : ByteArray)⟩ : S36), (⟨22, 57505, (⟨#[120]⟩ : ByteArray), (⟨#[115, 107, 105, 112, 45, 117, 112]⟩ : ByteArray)⟩ : S36), (⟨23, 61447, (⟨#[120]⟩ : ByteArray), (⟨#[116, 105, 109, 101, 114]⟩ : ByteArray)⟩ : S36), (⟨24, 61450, (⟨#[120]⟩ : ByteArray), (⟨#[107, 101, 121]⟩ : ByteArray)⟩ : S36), (⟨25, 61461, (⟨#[120]⟩ : ByteArray), (⟨#[100, 101, 108, 97, 121]⟩ : ByteArray)⟩ : S36), (⟨26, 61464, (⟨#[120]⟩ : ByteArray), (⟨#[115, 111, 117, 110, 100]⟩ : ByteArray)⟩ : S36), (⟨27, 61470, (⟨#[120]⟩ : ByteArray), (⟨#[111, 110]⟩ : ByteArray)⟩ : S36), (⟨28, 61481, (⟨#[120]⟩ : ByteArray), (⟨#[100, 105, 103, 105, 116]⟩ : ByteArray)⟩ : S36), (⟨29, 61491, (⟨#[120]⟩ : ByteArray), (⟨#[116, 104, 114, 101, 101]⟩ : ByteArray)⟩ : S36), (⟨30, 61525, (⟨#[120]⟩ : ByteArray), (⟨#[115, 116, 111, 114, 101]⟩ : ByteArray)⟩ : S36), (⟨31, 61541, (⟨#[120]⟩ : ByteArray), (⟨#[102, 105, 108, 108]⟩ : ByteArray)⟩ : S36)] : List (S36))) := ⟨_, rfl⟩
  replace H : (some y104) = some r := by first | (rw [hy104]; with_reducible exact H) | (have H2_ := (Option.bind_some _ _).symm.trans H; rw [hy104]; with_reducible exact H2_) | (have H2_ := (Option.bind_some _ _).symm.trans H; with_reducible exact H2_) | with_reducible exact H | (rw [hy104]; exact H) | exact H
  have Ny104 := Aside0.mk hy104
  clear hy104
  obtain rfl := Option.some.inj H
  go_enter Try.func8, Try.ntmps8
  go_wp2_with (first | ((with_reducible refine gate_dst (N := 32) rfl ?_); refine Kd.R_lit k36 _ 36 ?hg (N := 32) ?hd (xs := ([(⟨1, 0, (⟨#[97]⟩ : ByteArray), (⟨#[109, 97, 99, 104, 105, 110, 101]⟩ : ByteArray)⟩ : S36), (⟨2, 224, (⟨#[]⟩ : ByteArray), (⟨#[99, 108, 101, 97, 114]⟩ : ByteArray)⟩ : S36), (⟨3, 238, (⟨#[]⟩ : ByteArray), (⟨#[114, 101, 116, 117, 114, 110]⟩ : ByteArray)⟩ : S36), (⟨4, 4096, (⟨#[97]⟩ : ByteArray), (⟨#[106, 117, 109, 112]⟩ : ByteArray)⟩ : S36), (⟨5, 8192, (⟨#[97]⟩ : ByteArray), (⟨#[99, 97, 108, 108]⟩ : ByteArray)⟩ : S36), (⟨6, 12288, (⟨#[120, 98]⟩ : ByteArray), (⟨#[115, 107, 105, 112, 45, 105, 115]⟩ : ByteArray)⟩ : S36), (⟨7, 16384, (⟨#[120, 98]⟩ : ByteArray), (⟨#[115, 107, 105, 112, 45, 110, 111, 116]⟩ : ByteArray)⟩ : S36), (⟨8, 20480, (⟨#[120, 121]⟩ : ByteArray), (⟨#[115, 107, 105, 112, 45, 115, 97, 109, 101]⟩ : ByteArray)⟩ : S36), (⟨9, 24576, (⟨#[120, 98]⟩ : ByteArray), (⟨#[115, 101, 116]⟩ : ByteArray)⟩ : S36), (⟨10, 28672, (⟨#[120, 98]⟩ : ByteArray), (⟨#[97, 100, 100]⟩ : ByteArray)⟩ : S36), (⟨11, 32768, (⟨#[120, 121]⟩ : ByteArray), (⟨#[109, 111, 118, 101]⟩ : ByteArray)⟩ : S36), (⟨12, 32769, (⟨#[120, 121]⟩ : ByteArray), (⟨#[111, 114]⟩ : ByteArray)⟩ : S36), (⟨13, 32770, (⟨#[120, 121]⟩ : ByteArray), (⟨#[97, 110, 100]⟩ : ByteArray)⟩ : S36), (⟨14, 32772, (⟨#[120, 121]⟩ : ByteArray), (⟨#[112, 108, 117, 115]⟩ : ByteArray)⟩ : S36), (⟨15, 32773, (⟨#[120, 121]⟩ : ByteArray), (⟨#[109, 105, 110, 117, 115]⟩ : ByteArray)⟩ : S36), (⟨16, 36864, (⟨#[120, 121]⟩ : ByteArray), (⟨#[115, 107, 105, 112, 45, 111, 116, 104, 101, 114]⟩ : ByteArray)⟩ : S36), (⟨17, 40960, (⟨#[97]⟩ : ByteArray), (⟨#[112, 111, 105, 110, 116]⟩ : ByteArray)⟩ : S36), (⟨18, 45056, (⟨#[97]⟩ : ByteArray), (⟨#[106, 117, 109, 112, 45, 98, 121]⟩ : ByteArray)⟩ : S36), (⟨19, 49152, (⟨#[120, 98]⟩ : ByteArray), (⟨#[114, 97, 110, 100, 111, 109]⟩ : ByteArray)⟩ : S36), (⟨20, 53248, (⟨#[120, 121, 110]⟩ : ByteArray), (⟨#[100, 114, 97, 119]⟩ : ByteArray)⟩ : S36), (⟨21, 57502, (⟨#[120]⟩ : ByteArray), (⟨#[115, 107, 105, 112, 45, 100, 111, 119, 110]⟩ : ByteArray)⟩ : S36), (⟨22, 57505, (⟨#[120]⟩ : ByteArray), (⟨#[115, 107, 105, 112, 45, 117, 112]⟩ : ByteArray)⟩ : S36), (⟨23, 61447, (⟨#[120]⟩ : ByteArray), (⟨#[116, 105, 109, 101, 114]⟩ : ByteArray)⟩ : S36), (⟨24, 61450, (⟨#[120]⟩ : ByteArray), (⟨#[107, 101, 121]⟩ : ByteArray)⟩ : S36), (⟨25, 61461, (⟨#[120]⟩ : ByteArray), (⟨#[100, 101, 108, 97, 121]⟩ : ByteArray)⟩ : S36), (⟨26, 61464, (⟨#[120]⟩ : ByteArray), (⟨#[115, 111, 117, 110, 100]⟩ : ByteArray)⟩ : S36), (⟨27, 61470, (⟨#[120]⟩ : ByteArray), (⟨#[111, 110]⟩ : ByteArray)⟩ : S36), (⟨28, 61481, (⟨#[120]⟩ : ByteArray), (⟨#[100, 105, 103, 105, 116]⟩ : ByteArray)⟩ : S36), (⟨29, 61491, (⟨#[120]⟩ : ByteArray), (⟨#[116, 104, 114, 101, 101]⟩ : ByteArray)⟩ : S36), (⟨30, 61525, (⟨#[120]⟩ : ByteArray), (⟨#[115, 116, 111, 114, 101]⟩ : ByteArray)⟩ : S36), (⟨31, 61541, (⟨#[120]⟩ : ByteArray), (⟨#[102, 105, 108, 108]⟩ : ByteArray)⟩ : S36)] : List (S36))) (inner := [.int .u8 1, .int .u16 0, .string (⟨#[97]⟩ : ByteArray), .string (⟨#[109, 97, 99, 104, 105, 110, 101]⟩ : ByteArray), .int .u8 2, .int .u16 224, .string (⟨#[]⟩ : ByteArray), .string (⟨#[99, 108, 101, 97, 114]⟩ : ByteArray), .int .u8 3, .int .u16 238, .string (⟨#[]⟩ : ByteArray), .string (⟨#[114, 101, 116, 117, 114, 110]⟩ : ByteArray), .int .u8 4, .int .u16 4096, .string (⟨#[97]⟩ : ByteArray), .string (⟨#[106, 117, 109, 112]⟩ : ByteArray), .int .u8 5, .int .u16 8192, .string (⟨#[97]⟩ : ByteArray), .string (⟨#[99, 97, 108, 108]⟩ : ByteArray), .int .u8 6, .int .u16 12288, .string (⟨#[120, 98]⟩ : ByteArray), .string (⟨#[115, 107, 105, 112, 45, 105, 115]⟩ : ByteArray), .int .u8 7, .int .u16 16384, .string (⟨#[120, 98]⟩ : ByteArray), .string (⟨#[115, 107, 105, 112, 45, 110, 111, 116]⟩ : ByteArray), .int .u8 8, .int .u16 20480, .string (⟨#[120, 121]⟩ : ByteArray), .string (⟨#[115, 107, 105, 112, 45, 115, 97, 109, 101]⟩ : ByteArray), .int .u8 9, .int .u16 24576, .string (⟨#[120, 98]⟩ : ByteArray), .string (⟨#[115, 101, 116]⟩ : ByteArray), .int .u8 10, .int .u16 28672, .string (⟨#[120, 98]⟩ : ByteArray), .string (⟨#[97, 100, 100]⟩ : ByteArray), .int .u8 11, .int .u16 32768, .string (⟨#[120, 121]⟩ : ByteArray), .string (⟨#[109, 111, 118, 101]⟩ : ByteArray), .int .u8 12, .int .u16 32769, .string (⟨#[120, 121]⟩ : ByteArray), .string (⟨#[111, 114]⟩ : ByteArray), .int .u8 13, .int .u16 32770, .string (⟨#[120, 121]⟩ : ByteArray), .string (⟨#[97, 110, 100]⟩ : ByteArray), .int .u8 14, .int .u16 32772, .string (⟨#[120, 121]⟩ : ByteArray), .string (⟨#[112, 108, 117, 115]⟩ : ByteArray), .int .u8 15, .int .u16 32773, .string (⟨#[120, 121]⟩ : ByteArray), .string (⟨#[109, 105, 110, 117, 115]⟩ : ByteArray), .int .u8 16, .int .u16 36864, .string (⟨#[120, 121]⟩ : ByteArray), .string (⟨#[115, 107, 105, 112, 45, 111, 116, 104, 101, 114]⟩ : ByteArray), .int .u8 17, .int .u16 40960, .string (⟨#[97]⟩ : ByteArray), .string (⟨#[112, 111, 105, 110, 116]⟩ : ByteArray), .int .u8 18, .int .u16 45056, .string (⟨#[97]⟩ : ByteArray), .string (⟨#[106, 117, 109, 112, 45, 98, 121]⟩ : ByteArray), .int .u8 19, .int .u16 49152, .string (⟨#[120, 98]⟩ : ByteArray), .string (⟨#[114, 97, 110, 100, 111, 109]⟩ : ByteArray), .int .u8 20, .int .u16 53248, .string (⟨#[120, 121, 110]⟩ : ByteArray), .string (⟨#[100, 114, 97, 119]⟩ : ByteArray), .int .u8 21, .int .u16 57502, .string (⟨#[120]⟩ : ByteArray), .string (⟨#[115, 107, 105, 112, 45, 100, 111, 119, 110]⟩ : ByteArray), .int .u8 22, .int .u16 57505, .string (⟨#[120]⟩ : ByteArray), .string (⟨#[115, 107, 105, 112, 45, 117, 112]⟩ : ByteArray), .int .u8 23, .int .u16 61447, .string (⟨#[120]⟩ : ByteArray), .string (⟨#[116, 105, 109, 101, 114]⟩ : ByteArray), .int .u8 24, .int .u16 61450, .string (⟨#[120]⟩ : ByteArray), .string (⟨#[107, 101, 121]⟩ : ByteArray), .int .u8 25, .int .u16 61461, .string (⟨#[120]⟩ : ByteArray), .string (⟨#[100, 101, 108, 97, 121]⟩ : ByteArray), .int .u8 26, .int .u16 61464, .string (⟨#[120]⟩ : ByteArray), .string (⟨#[115, 111, 117, 110, 100]⟩ : ByteArray), .int .u8 27, .int .u16 61470, .string (⟨#[120]⟩ : ByteArray), .string (⟨#[111, 110]⟩ : ByteArray), .int .u8 28, .int .u16 61481, .string (⟨#[120]⟩ : ByteArray), .string (⟨#[100, 105, 103, 105, 116]⟩ : ByteArray), .int .u8 29, .int .u16 61491, .string (⟨#[120]⟩ : ByteArray), .string (⟨#[116, 104, 114, 101, 101]⟩ : ByteArray), .int .u8 30, .int .u16 61525, .string (⟨#[120]⟩ : ByteArray), .string (⟨#[115, 116, 111, 114, 101]⟩ : ByteArray), .int .u8 31, .int .u16 61541, .string (⟨#[120]⟩ : ByteArray), .string (⟨#[102, 105, 108, 108]⟩ : ByteArray)]) (ok := fun _ => True) (okp := fun _ => True) ?hr ?hp (fun _ hk => hk) trivial (Below.refl _ _) (Nat.le_refl _) (by simp) ?_; (case hd => rfl); (case hg => rfl); (case hr => first | (go_simp; done) | (go_simp; rfl)); (case hp => exact (Reps.c4 (show Kd.M k36 _ _ _ (⟨1, 0, (⟨#[97]⟩ : ByteArray), (⟨#[109, 97, 99, 104, 105, 110, 101]⟩ : ByteArray)⟩ : S36) [.int .u8 1, .int .u16 0, .string (⟨#[97]⟩ : ByteArray), .string (⟨#[109, 97, 99, 104, 105, 110, 101]⟩ : ByteArray)] from (k36_mkM _ _ _ (⟨1, 0, (⟨#[97]⟩ : ByteArray), (⟨#[109, 97, 99, 104, 105, 110, 101]⟩ : ByteArray)⟩ : S36) )) (Reps.c4 (show Kd.M k36 _ _ _ (⟨2, 224, (⟨#[]⟩ : ByteArray), (⟨#[99, 108, 101, 97, 114]⟩ : ByteArray)⟩ : S36) [.int .u8 2, .int .u16 224, .string (⟨#[]⟩ : ByteArray), .string (⟨#[99, 108, 101, 97, 114]⟩ : ByteArray)] from (k36_mkM _ _ _ (⟨2, 224, (⟨#[]⟩ : ByteArray), (⟨#[99, 108, 101, 97, 114]⟩ : ByteArray)⟩ : S36) )) (Reps.c4 (show Kd.M k36 _ _ _ (⟨3, 238, (⟨#[]⟩ : ByteArray), (⟨#[114, 101, 116, 117, 114, 110]⟩ : ByteArray)⟩ : S36) [.int .u8 3, .int .u16 238, .string (⟨#[]⟩ : ByteArray), .string (⟨#[114, 101, 116, 117, 114, 110]⟩ : ByteArray)] from (k36_mkM _ _ _ (⟨3, 238, (⟨#[]⟩ : ByteArray), (⟨#[114, 101, 116, 117, 114, 110]⟩ : ByteArray)⟩ : S36) )) (Reps.c4 (show Kd.M k36 _ _ _ (⟨4, 4096, (⟨#[97]⟩ : ByteArray), (⟨#[106, 117, 109, 112]⟩ : ByteArray)⟩ : S36) [.int .u8 4, .int .u16 4096, .string (⟨#[97]⟩ : ByteArray), .string (⟨#[106, 117, 109, 112]⟩ : ByteArray)] from (k36_mkM _ _ _ (⟨4, 4096, (⟨#[97]⟩ : ByteArray), (⟨#[106, 117, 109, 112]⟩ : ByteArray)⟩ : S36) )) (Reps.c4 (show Kd.M k36 _ _ _ (⟨5, 8192, (⟨#[97]⟩ : ByteArray), (⟨#[99, 97, 108, 108]⟩ : ByteArray)⟩ : S36) [.int .u8 5, .int .u16 8192, .string (⟨#[97]⟩ : ByteArray), .string (⟨#[99, 97, 108, 108]⟩ : ByteArray)] from (k36_mkM _ _ _ (⟨5, 8192, (⟨#[97]⟩ : ByteArray), (⟨#[99, 97, 108, 108]⟩ : ByteArray)⟩ : S36) )) (Reps.c4 (show Kd.M k36 _ _ _ (⟨6, 12288, (⟨#[120, 98]⟩ : ByteArray), (⟨#[115, 107, 105, 112, 45, 105, 115]⟩ : ByteArray)⟩ : S36) [.int .u8 6, .int .u16 12288, .string (⟨#[120, 98]⟩ : ByteArray), .string (⟨#[115, 107, 105, 112, 45, 105, 115]⟩ : ByteArray)] from (k36_mkM _ _ _ (⟨6, 12288, (⟨#[120, 98]⟩ : ByteArray), (⟨#[115, 107, 105, 112, 45, 105, 115]⟩ : ByteArray)⟩ : S36) )) (Reps.c4 (show Kd.M k36 _ _ _ (⟨7, 16384, (⟨#[120, 98]⟩ : ByteArray), (⟨#[115, 107, 105, 112, 45, 110, 111, 116]⟩ : ByteArray)⟩ : S36) [.int .u8 7, .int .u16 16384, .string (⟨#[120, 98]⟩ : ByteArray), .string (⟨#[115, 107, 105, 112, 45, 110, 111, 116]⟩ : ByteArray)] from (k36_mkM _ _ _ (⟨7, 16384, (⟨#[120, 98]⟩ : ByteArray), (⟨#[115, 107, 105, 112, 45, 110, 111, 116]⟩ : ByteArray)⟩ : S36) )) (Reps.c4 (show Kd.M k36 _ _ _ (⟨8, 20480, (⟨#[120, 121]⟩ : ByteArray), (⟨#[115, 107, 105, 112, 45, 115, 97, 109, 101]⟩ : ByteArray)⟩ : S36) [.int .u8 8, .int .u16 20480, .string (⟨#[120, 121]⟩ : ByteArray), .string (⟨#[115, 107, 105, 112, 45, 115, 97, 109, 101]⟩ : ByteArray)] from (k36_mkM _ _ _ (⟨8, 20480, (⟨#[120, 121]⟩ : ByteArray), (⟨#[115, 107, 105, 112, 45, 115, 97, 109, 101]⟩ : ByteArray)⟩ : S36) )) (Reps.c4 (show Kd.M k36 _ _ _ (⟨9, 24576, (⟨#[120, 98]⟩ : ByteArray), (⟨#[115, 101, 116]⟩ : ByteArray)⟩ : S36) [.int .u8 9, .int .u16 24576, .string (⟨#[120, 98]⟩ : ByteArray), .string (⟨#[115, 101, 116]⟩ : ByteArray)] from (k36_mkM _ _ _ (⟨9, 24576, (⟨#[120, 98]⟩ : ByteArray), (⟨#[115, 101, 116]⟩ : ByteArray)⟩ : S36) )) (Reps.c4 (show Kd.M k36 _ _ _ (⟨10, 28672, (⟨#[120, 98]⟩ : ByteArray), (⟨#[97, 100, 100]⟩ : ByteArray)⟩ : S36) [.int .u8 10, .int .u16 28672, .string (⟨#[120, 98]⟩ : ByteArray), .string (⟨#[97, 100, 100]⟩ : ByteArray)] from (k36_mkM _ _ _ (⟨10, 28672, (⟨#[120, 98]⟩ : ByteArray), (⟨#[97, 100, 100]⟩ : ByteArray)⟩ : S36) )) (Reps.c4 (show Kd.M k36 _ _ _ (⟨11, 32768, (⟨#[120, 121]⟩ : ByteArray), (⟨#[109, 111, 118, 101]⟩ : ByteArray)⟩ : S36) [.int .u8 11, .int .u16 32768, .string (⟨#[120, 121]⟩ : ByteArray), .string (⟨#[109, 111, 118, 101]⟩ : ByteArray)] from (k36_mkM _ _ _ (⟨11, 32768, (⟨#[120, 121]⟩ : ByteArray), (⟨#[109, 111, 118, 101]⟩ : ByteArray)⟩ : S36) )) (Reps.c4 (show Kd.M k36 _ _ _ (⟨12, 32769, (⟨#[120, 121]⟩ : ByteArray), (⟨#[111, 114]⟩ : ByteArray)⟩ : S36) [.int .u8 12, .int .u16 32769, .string (⟨#[120, 121]⟩ : ByteArray), .string (⟨#[111, 114]⟩ : ByteArray)] from (k36_mkM _ _ _ (⟨12, 32769, (⟨#[120, 121]⟩ : ByteArray), (⟨#[111, 114]⟩ : ByteArray)⟩ : S36) )) (Reps.c4 (show Kd.M k36 _ _ _ (⟨13, 32770, (⟨#[120, 121]⟩ : ByteArray), (⟨#[97, 110, 100]⟩ : ByteArray)⟩ : S36) [.int .u8 13, .int .u16 32770, .string (⟨#[120, 121]⟩ : ByteArray), .string (⟨#[97, 110, 100]⟩ : ByteArray)] from (k36_mkM _ _ _ (⟨13, 32770, (⟨#[120, 121]⟩ : ByteArray), (⟨#[97, 110, 100]⟩ : ByteArray)⟩ : S36) )) (Reps.c4 (show Kd.M k36 _ _ _ (⟨14, 32772, (⟨#[120, 121]⟩ : ByteArray), (⟨#[112, 108, 117, 115]⟩ : ByteArray)⟩ : S36) [.int .u8 14, .int .u16 32772, .string (⟨#[120, 121]⟩ : ByteArray), .string (⟨#[112, 108, 117, 115]⟩ : ByteArray)] from (k36_mkM _ _ _ (⟨14, 32772, (⟨#[120, 121]⟩ : ByteArray), (⟨#[112, 108, 117, 115]⟩ : ByteArray)⟩ : S36) )) (Reps.c4 (show Kd.M k36 _ _ _ (⟨15, 32773, (⟨#[120, 121]⟩ : ByteArray), (⟨#[109, 105, 110, 117, 115]⟩ : ByteArray)⟩ : S36) [.int .u8 15, .int .u16 32773, .string (⟨#[120, 121]⟩ : ByteArray), .string (⟨#[109, 105, 110, 117, 115]⟩ : ByteArray)] from (k36_mkM _ _ _ (⟨15, 32773, (⟨#[120, 121]⟩ : ByteArray), (⟨#[109, 105, 110, 117, 115]⟩ : ByteArray)⟩ : S36) )) (Reps.c4 (show Kd.M k36 _ _ _ (⟨16, 36864, (⟨#[120, 121]⟩ : ByteArray), (⟨#[115, 107, 105, 112, 45, 111, 116, 104, 101, 114]⟩ : ByteArray)⟩ : S36) [.int .u8 16, .int .u16 36864, .string (⟨#[120, 121]⟩ : ByteArray), .string (⟨#[115, 107, 105, 112, 45, 111, 116, 104, 101, 114]⟩ : ByteArray)] from (k36_mkM _ _ _ (⟨16, 36864, (⟨#[120, 121]⟩ : ByteArray), (⟨#[115, 107, 105, 112, 45, 111, 116, 104, 101, 114]⟩ : ByteArray)⟩ : S36) )) (Reps.c4 (show Kd.M k36 _ _ _ (⟨17, 40960, (⟨#[97]⟩ : ByteArray), (⟨#[112, 111, 105, 110, 116]⟩ : ByteArray)⟩ : S36) [.int .u8 17, .int .u16 40960, .string (⟨#[97]⟩ : ByteArray), .string (⟨#[112, 111, 105, 110, 116]⟩ : ByteArray)] from (k36_mkM _ _ _ (⟨17, 40960, (⟨#[97]⟩ : ByteArray), (⟨#[112, 111, 105, 110, 116]⟩ : ByteArray)⟩ : S36) )) (Reps.c4 (show Kd.M k36 _ _ _ (⟨18, 45056, (⟨#[97]⟩ : ByteArray), (⟨#[106, 117, 109, 112, 45, 98, 121]⟩ : ByteArray)⟩ : S36) [.int .u8 18, .int .u16 45056, .string (⟨#[97]⟩ : ByteArray), .string (⟨#[106, 117, 109, 112, 45, 98, 121]⟩ : ByteArray)] from (k36_mkM _ _ _ (⟨18, 45056, (⟨#[97]⟩ : ByteArray), (⟨#[106, 117, 109, 112, 45, 98, 121]⟩ : ByteArray)⟩ : S36) )) (Reps.c4 (show Kd.M k36 _ _ _ (⟨19, 49152, (⟨#[120, 98]⟩ : ByteArray), (⟨#[114, 97, 110, 100, 111, 109]⟩ : ByteArray)⟩ : S36) [.int .u8 19, .int .u16 49152, .string (⟨#[120, 98]⟩ : ByteArray), .string (⟨#[114, 97, 110, 100, 111, 109]⟩ : ByteArray)] from (k36_mkM _ _ _ (⟨19, 49152, (⟨#[120, 98]⟩ : ByteArray), (⟨#[114, 97, 110, 100, 111, 109]⟩ : ByteArray)⟩ : S36) )) (Reps.c4 (show Kd.M k36 _ _ _ (⟨20, 53248, (⟨#[120, 121, 110]⟩ : ByteArray), (⟨#[100, 114, 97, 119]⟩ : ByteArray)⟩ : S36) [.int .u8 20, .int .u16 53248, .string (⟨#[120, 121, 110]⟩ : ByteArray), .string (⟨#[100, 114, 97, 119]⟩ : ByteArray)] from (k36_mkM _ _ _ (⟨20, 53248, (⟨#[120, 121, 110]⟩ : ByteArray), (⟨#[100, 114, 97, 119]⟩ : ByteArray)⟩ : S36) )) (Reps.c4 (show Kd.M k36 _ _ _ (⟨21, 57502, (⟨#[120]⟩ : ByteArray), (⟨#[115, 107, 105, 112, 45, 100, 111, 119, 110]⟩ : ByteArray)⟩ : S36) [.int .u8 21, .int .u16 57502, .string (⟨#[120]⟩ : ByteArray), .string (⟨#[115, 107, 105, 112, 45, 100, 111, 119, 110]⟩ : ByteArray)] from (k36_mkM _ _ _ (⟨21, 57502, (⟨#[120]⟩ : ByteArray), (⟨#[115, 107, 105, 112, 45, 100, 111, 119, 110]⟩ : ByteArray)⟩ : S36) )) (Reps.c4 (show Kd.M k36 _ _ _ (⟨22, 57505, (⟨#[120]⟩ : ByteArray), (⟨#[115, 107, 105, 112, 45, 117, 112]⟩ : ByteArray)⟩ : S36) [.int .u8 22, .int .u16 57505, .string (⟨#[120]⟩ : ByteArray), .string (⟨#[115, 107, 105, 112, 45, 117, 112]⟩ : ByteArray)] from (k36_mkM _ _ _ (⟨22, 57505, (⟨#[120]⟩ : ByteArray), (⟨#[115, 107, 105, 112, 45, 117, 112]⟩ : ByteArray)⟩ : S36) )) (Reps.c4 (show Kd.M k36 _ _ _ (⟨23, 61447, (⟨#[120]⟩ : ByteArray), (⟨#[116, 105, 109, 101, 114]⟩ : ByteArray)⟩ : S36) [.int .u8 23, .int .u16 61447, .string (⟨#[120]⟩ : ByteArray), .string (⟨#[116, 105, 109, 101, 114]⟩ : ByteArray)] from (k36_mkM _ _ _ (⟨23, 61447, (⟨#[120]⟩ : ByteArray), (⟨#[116, 105, 109, 101, 114]⟩ : ByteArray)⟩ : S36) )) (Reps.c4 (show Kd.M k36 _ _ _ (⟨24, 61450, (⟨#[120]⟩ : ByteArray), (⟨#[107, 101, 121]⟩ : ByteArray)⟩ : S36) [.int .u8 24, .int .u16 61450, .string (⟨#[120]⟩ : ByteArray), .string (⟨#[107, 101, 121]⟩ : ByteArray)] from (k36_mkM _ _ _ (⟨24, 61450, (⟨#[120]⟩ : ByteArray), (⟨#[107, 101, 121]⟩ : ByteArray)⟩ : S36) )) (Reps.c4 (show Kd.M k36 _ _ _ (⟨25, 61461, (⟨#[120]⟩ : ByteArray), (⟨#[100, 101, 108, 97, 121]⟩ : ByteArray)⟩ : S36) [.int .u8 25, .int .u16 61461, .string (⟨#[120]⟩ : ByteArray), .string (⟨#[100, 101, 108, 97, 121]⟩ : ByteArray)] from (k36_mkM _ _ _ (⟨25, 61461, (⟨#[120]⟩ : ByteArray), (⟨#[100, 101, 108, 97, 121]⟩ : ByteArray)⟩ : S36) )) (Reps.c4 (show Kd.M k36 _ _ _ (⟨26, 61464, (⟨#[120]⟩ : ByteArray), (⟨#[115, 111, 117, 110, 100]⟩ : ByteArray)⟩ : S36) [.int .u8 26, .int .u16 61464, .string (⟨#[120]⟩ : ByteArray), .string (⟨#[115, 111, 117, 110, 100]⟩ : ByteArray)] from (k36_mkM _ _ _ (⟨26, 61464, (⟨#[120]⟩ : ByteArray), (⟨#[115, 111, 117, 110, 100]⟩ : ByteArray)⟩ : S36) )) (Reps.c4 (show Kd.M k36 _ _ _ (⟨27, 61470, (⟨#[120]⟩ : ByteArray), (⟨#[111, 110]⟩ : ByteArray)⟩ : S36) [.int .u8 27, .int .u16 61470, .string (⟨#[120]⟩ : ByteArray), .string (⟨#[111, 110]⟩ : ByteArray)] from (k36_mkM _ _ _ (⟨27, 61470, (⟨#[120]⟩ : ByteArray), (⟨#[111, 110]⟩ : ByteArray)⟩ : S36) )) (Reps.c4 (show Kd.M k36 _ _ _ (⟨28, 61481, (⟨#[120]⟩ : ByteArray), (⟨#[100, 105, 103, 105, 116]⟩ : ByteArray)⟩ : S36) [.int .u8 28, .int .u16 61481, .string (⟨#[120]⟩ : ByteArray), .string (⟨#[100, 105, 103, 105, 116]⟩ : ByteArray)] from (k36_mkM _ _ _ (⟨28, 61481, (⟨#[120]⟩ : ByteArray), (⟨#[100, 105, 103, 105, 116]⟩ : ByteArray)⟩ : S36) )) (Reps.c4 (show Kd.M k36 _ _ _ (⟨29, 61491, (⟨#[120]⟩ : ByteArray), (⟨#[116, 104, 114, 101, 101]⟩ : ByteArray)⟩ : S36) [.int .u8 29, .int .u16 61491, .string (⟨#[120]⟩ : ByteArray), .string (⟨#[116, 104, 114, 101, 101]⟩ : ByteArray)] from (k36_mkM _ _ _ (⟨29, 61491, (⟨#[120]⟩ : ByteArray), (⟨#[116, 104, 114, 101, 101]⟩ : ByteArray)⟩ : S36) )) (Reps.c4 (show Kd.M k36 _ _ _ (⟨30, 61525, (⟨#[120]⟩ : ByteArray), (⟨#[115, 116, 111, 114, 101]⟩ : ByteArray)⟩ : S36) [.int .u8 30, .int .u16 61525, .string (⟨#[120]⟩ : ByteArray), .string (⟨#[115, 116, 111, 114, 101]⟩ : ByteArray)] from (k36_mkM _ _ _ (⟨30, 61525, (⟨#[120]⟩ : ByteArray), (⟨#[115, 116, 111, 114, 101]⟩ : ByteArray)⟩ : S36) )) (Reps.c4 (show Kd.M k36 _ _ _ (⟨31, 61541, (⟨#[120]⟩ : ByteArray), (⟨#[102, 105, 108, 108]⟩ : ByteArray)⟩ : S36) [.int .u8 31, .int .u16 61541, .string (⟨#[120]⟩ : ByteArray), .string (⟨#[102, 105, 108, 108]⟩ : ByteArray)] from (k36_mkM _ _ _ (⟨31, 61541, (⟨#[120]⟩ : ByteArray), (⟨#[102, 105, 108, 108]⟩ : ByteArray)⟩ : S36) )) (Reps.none _ _))))))))))))))))))))))))))))))))); intro v105 w1 ho2 hb hg_ hnew_; clear hg_ hnew_; (first | rw [← Ny104.out] at ho2 | (simp only [Int.reduceToNat] at ho2; rw [← Ny104.out] at ho2)); have n0_ := Aside0.mk (Kd.R_lower ho2 (below_size (by repeat (first | (with_reducible first | exact HB.out | apply below_alloc | apply pw_below_drewN | apply below_drew1) | exact HB.out)))); have n1_ := Aside0.mk (below_step (by repeat (first | (with_reducible first | exact HB.out | apply below_alloc | apply pw_below_drewN | apply below_drew1) | exact HB.out)) hb); clear HB; have HO106 := n0_; have HB := n1_; clear n0_ n1_; clear hb ho2))
  go_ret
  exact ⟨_, by first | rfl | (simp [errW_none, errW_some] <;> rfl) | (simp [*, errW_none, errW_some] <;> rfl), by (with_reducible repeat (first | apply Kd.R_alloc | apply Kd.R_drewN | apply Kd.R_drew)); exact HO106.out, by repeat (first | (with_reducible first | exact HB.out | apply below_alloc | apply pw_below_drewN | apply below_drew1) | exact HB.out)⟩

/-! ### vesperref16_Word_has: function 13 -/
def vesperref16_Word_has.l0 : Nat → Int → Int → Int → Int → ByteArray → ByteArray → Option (Bool)
  | 0, _, _, _, _, _, _ => none
  | k + 1, x1, x5, x108000, x108001, x108002, x108003 => if x5 < (x108002.size : Int) then (if 0 ≤ x5 then (if (bt x108002 x5) = x1 then (some true) else (vesperref16_Word_has.l0 k x1 (wrap64 (x5 + 1)) x108000 x108001 x108002 x108003)) else (none)) else (some false)
def vesperref16_Word_has.f (k : Nat) (a0_0 : Int) (a0_1 : Int) (a0_2 : ByteArray) (a0_3 : ByteArray) (a1 : Int) : Option (Bool) := vesperref16_Word_has.l0 k a1 0 a0_0 a0_1 a0_2 a0_3
theorem vesperref16_Word_has.mono_l : ∀ k, (∀ y0 y1 y2 y3 y4 y5, LeO (vesperref16_Word_has.l0 k y0 y1 y2 y3 y4 y5) (vesperref16_Word_has.l0 (k + 1) y0 y1 y2 y3 y4 y5))
  | 0 => fun _ _ _ _ _ _ r h => by simp [vesperref16_Word_has.l0] at h
  | k + 1 => by
    have ih0 := vesperref16_Word_has.mono_l k
    · intro y0 y1 y2 y3 y4 y5
      unfold vesperref16_Word_has.l0
      repeat' first
      | (with_reducible exact ih0 _ _ _ _ _ _)
      | (with_reducible exact LeO.refl _)
      | (with_reducible exact LeO.none _)
      | (with_reducible refine LeO.ite ?_ ?_)
      | (with_reducible refine LeO.bind ?_ (fun _ => ?_))
      | exact ih0 _ _ _ _ _ _
      | exact LeO.none _
      | refine LeO.ite ?_ ?_
      | refine LeO.bind ?_ (fun _ => ?_)
theorem vesperref16_Word_has.mono : ∀ a0 a1 a2 a3 a4 k, LeO (vesperref16_Word_has.f k a0 a1 a2 a3 a4) (vesperref16_Word_has.f (k + 1) a0 a1 a2 a3 a4) := by
  intro a0 a1 a2 a3 a4 k
  have ih0 := vesperref16_Word_has.mono_l k
  unfold vesperref16_Word_has.f
  repeat' first
      | (with_reducible exact ih0 _ _ _ _ _ _)
      | (with_reducible exact LeO.refl _)
      | (with_reducible exact LeO.none _)
      | (with_reducible refine LeO.ite ?_ ?_)
      | (with_reducible refine LeO.bind ?_ (fun _ => ?_))
      | exact ih0 _ _ _ _ _ _
      | exact LeO.none _
      | refine LeO.ite ?_ ?_
      | refine LeO.bind ?_ (fun _ => ?_)
set_option maxHeartbeats 8000000 in
set_option maxRecDepth 100000 in
theorem vesperref16_Word_has.calls (k : Nat) (a0_0 : Int) (a0_1 : Int) (a0_2 : ByteArray) (a0_3 : ByteArray) (a1 : Int) (r : Bool) (w : World) (h : vesperref16_Word_has.f k a0_0 a0_1 a0_2 a0_3 a1 = some r) :
    Calls Try.prog 13 #[.agg #[.int .u8 a0_0, .int .u16 a0_1, .string a0_2, .string a0_3], .int .u8 a1] w fun e w' => e = .returned (.bool r) ∧ Below w.heap.size w w' := by
  have hu36 := Try.underlying36
  have HB := Aside0.mk (Below.refl w.heap.size w)
  have H : (vesperref16_Word_has.l0 k a1 0 a0_0 a0_1 a0_2 a0_3) = some r := h
  clear h
  have H' := Aside0.mk H
  clear H
  go_enter Try.func13, Try.ntmps13
  go_wp2_with (first | ((with_reducible refine gate_dst (N := 2) rfl ?_); refine box_event ?hg (N := 2) ?hd (cs := #[.int .u8 a0_0, .int .u16 a0_1, .string a0_2, .string a0_3]) (t := 36) ?hr ?_; (case hd => rfl); (case hg => rfl); (case hr => first | (go_simp; done) | (go_simp; rfl)); intro gb107 hg w3 hbox hb; have n0_ := Aside0.mk (below_step (by repeat (first | (with_reducible first | exact HB.out | apply below_alloc | apply pw_below_drewN | apply below_drew1) | exact HB.out)) hb); have n1_ := Aside0.mk (hbox); have n2_ := Aside0.mk ((by rw [hg]; exact (below_size (by repeat (first | (with_reducible first | exact HB.out | apply below_alloc | apply pw_below_drewN | apply below_drew1) | exact HB.out))) : w.heap.size ≤ gb107)); have n3_ := Aside0.mk ((by rw [hg]; exact (below_size (by repeat (first | (with_reducible first | exact HB.out | apply below_alloc | apply pw_below_drewN | apply below_drew1) | exact HB.out))) : w.heap.size ≤ gb107)); clear HB; have HB := n0_; have BK107 := n1_; have GW107 := n2_; have GE107 := n3_; clear n0_ n1_ n2_ n3_; clear hb hbox hg))
  go_loopg [5] k (fun kq v5 w' => ∃ (x5_1 : Int), v5 = .int .i64 x5_1 ∧ Aside0 (vesperref16_Word_has.l0 kq a1 x5_1 a0_0 a0_1 a0_2 a0_3 = some r) ∧ Aside0 (kq ≤ k) ∧ Aside0 (w'.heap[gb107]? = some (.cells #[.int .u8 a0_0, .int .u16 a0_1, .string a0_2, .string a0_3] 36 (0, 0))) ∧ Aside0 (Below w.heap.size w w'))
  case atStart => exact ⟨(0), (by first | rfl | (simp; done) | (simp [*]; done)), H', ⟨Nat.le_refl _⟩, ⟨by (with_reducible repeat (first | refine blk_drewN ?_ _ | refine blk_drew ?_ | refine blk_alloc ?_ _)); exact BK107.out⟩, ⟨by repeat (first | (with_reducible first | exact HB.out | apply below_alloc | apply pw_below_drewN | apply below_drew1 | refine below_set ?_ GE107.out) | exact HB.out)⟩⟩
  case round =>
    clear H'
    try clear c1
    try clear p2
    obtain ⟨x5_1, rfl, HA, HK1, BK107, HB⟩ := hrel
    cases gk with
    | zero => exact absurd HA.out (by simp [vesperref16_Word_has.l0])
    | succ k1 =>
      have H := HA.out
      clear HA
      simp only [vesperref16_Word_has.l0] at H
      by_cases c4 : x5_1 < (a0_2.size : Int)
      · rw [if_pos c4] at H
        have c4b0 : decide (x5_1 < (a0_2.size : Int)) = true := decide_eq_true c4
        clear c4
        by_cases c5 : 0 ≤ x5_1
        · rw [if_pos c5] at H
          have c5b0 : decide (0 ≤ x5_1) = true := decide_eq_true c5
          clear c5
          by_cases c7 : (bt a0_2 x5_1) = a1
          · rw [if_pos c7] at H
            have c7b0 : ((bt a0_2 x5_1) == a1) = true := beq_iff_eq.mpr c7
            have c7b1 : ((bt a0_2 x5_1) != a1) = false := bne_eq_false_iff_eq.mpr c7
            clear c7
            obtain rfl := Option.some.inj H
            have hcz8_0 : wr.cell? ⟨gb107, 0, none⟩ = some (.int .u8 a0_0) := (blk_cell BK107.out 0).trans rfl
            have hcz8_1 : wr.cell? ⟨gb107, 1, none⟩ = some (.int .u16 a0_1) := (blk_cell BK107.out 1).trans rfl
            have hcz8_2 : wr.cell? ⟨gb107, 2, none⟩ = some (.string a0_2) := (blk_cell BK107.out 2).trans rfl
            have hcz8_3 : wr.cell? ⟨gb107, 3, none⟩ = some (.string a0_3) := (blk_cell BK107.out 3).trans rfl
            have hfz8_0 := blk_frozen BK107.out 0
            have hfz8_1 := blk_frozen BK107.out 1
            have hfz8_2 := blk_frozen BK107.out 2
            have hfz8_3 := blk_frozen BK107.out 3
            have p6 : 0 ≤ (x5_1 : Int) := of_decide_eq_true (by first | (with_reducible assumption) | assumption)
            have q6 : x5_1 < (a0_2.size : Int) := of_decide_eq_true (by first | (with_reducible assumption) | assumption)
            have hx6 := bt_at a0_2 x5_1
            replace p6 := eq_true p6
            replace q6 := eq_true q6
            go_wp2
            go_ret
            exact ⟨by first | rfl | (simp [errW_none, errW_some] <;> rfl) | (simp [*, errW_none, errW_some] <;> rfl), by repeat (first | (with_reducible first | exact HB.out | apply below_alloc | apply pw_below_drewN | apply below_drew1 | refine below_set ?_ GE107.out) | exact HB.out)⟩
          · rw [if_neg c7] at H
            have c7b0 : ((bt a0_2 x5_1) == a1) = false := beq_eq_false_iff_ne.mpr c7
            have c7b1 : ((bt a0_2 x5_1) != a1) = true := bne_iff_ne.mpr c7
            have H' := Aside0.mk H
            clear H
            have hcz9_0 : wr.cell? ⟨gb107, 0, none⟩ = some (.int .u8 a0_0) := (blk_cell BK107.out 0).trans rfl
            have hcz9_1 : wr.cell? ⟨gb107, 1, none⟩ = some (.int .u16 a0_1) := (blk_cell BK107.out 1).trans rfl
            have hcz9_2 : wr.cell? ⟨gb107, 2, none⟩ = some (.string a0_2) := (blk_cell BK107.out 2).trans rfl
            have hcz9_3 : wr.cell? ⟨gb107, 3, none⟩ = some (.string a0_3) := (blk_cell BK107.out 3).trans rfl
            have hfz9_0 := blk_frozen BK107.out 0
            have hfz9_1 := blk_frozen BK107.out 1
            have hfz9_2 := blk_frozen BK107.out 2
            have hfz9_3 := blk_frozen BK107.out 3
            have p6 : 0 ≤ (x5_1 : Int) := of_decide_eq_true (by first | (with_reducible assumption) | assumption)
            have q6 : x5_1 < (a0_2.size : Int) := of_decide_eq_true (by first | (with_reducible assumption) | assumption)
            have hx6 := bt_at a0_2 x5_1
            replace p6 := eq_true p6
            replace q6 := eq_true q6
            go_wp2
            go_roundg k1
            case measure => have := HK1.out; omega
            case rel => exact ⟨(wrap64 (x5_1 + 1)), (by first | rfl | (simp; done) | (simp [*]; done)), H', ⟨by have := HK1.out; omega⟩, ⟨by (with_reducible repeat (first | refine blk_drewN ?_ _ | refine blk_drew ?_ | refine blk_alloc ?_ _)); exact BK107.out⟩, ⟨by repeat (first | (with_reducible first | exact HB.out | apply below_alloc | apply pw_below_drewN | apply below_drew1 | refine below_set ?_ GE107.out) | exact HB.out)⟩⟩
        · rw [if_neg c5] at H
          exact absurd H (by simp)
      · rw [if_neg c4] at H
        have c4b0 : decide (x5_1 < (a0_2.size : Int)) = false := decide_eq_false c4
        clear c4
        obtain rfl := Option.some.inj H
        have hcz10_0 : wr.cell? ⟨gb107, 0, none⟩ = some (.int .u8 a0_0) := (blk_cell BK107.out 0).trans rfl
        have hcz10_1 : wr.cell? ⟨gb107, 1, none⟩ = some (.int .u16 a0_1) := (blk_cell BK107.out 1).trans rfl
        have hcz10_2 : wr.cell? ⟨gb107, 2, none⟩ = some (.string a0_2) := (blk_cell BK107.out 2).trans rfl
        have hcz10_3 : wr.cell? ⟨gb107, 3, none⟩ = some (.string a0_3) := (blk_cell BK107.out 3).trans rfl
        have hfz10_0 := blk_frozen BK107.out 0
        have hfz10_1 := blk_frozen BK107.out 1
        have hfz10_2 := blk_frozen BK107.out 2
        have hfz10_3 := blk_frozen BK107.out 3
        go_wp2
        go_ret
        exact ⟨by first | rfl | (simp [errW_none, errW_some] <;> rfl) | (simp [*, errW_none, errW_some] <;> rfl), by repeat (first | (with_reducible first | exact HB.out | apply below_alloc | apply pw_below_drewN | apply below_drew1 | refine below_set ?_ GE107.out) | exact HB.out)⟩

/-! ### vesperref16_Word_word: function 9 -/
mutual
def vesperref16_Word_word.j0 : Nat → Int → Int → Int → ByteArray → ByteArray → Int → Int → Int → Int → Int → Int → Option (Int)
  | 0, _, _, _, _, _, _, _, _, _, _, _ => none
  | k + 1, x5, x109000, x109001, x109002, x109003, x110000, x110001, x110002, x110003, x110004, x110005 => (vesperref16_Word_has.f k x109000 x109001 x109002 x109003 121).bind fun t111 => (if t111 = true then (vesperref16_Word_word.j1 k (IntKind.u16.wrap (x5 + (IntKind.u16.wrap ((IntKind.u16.wrap (x110002)) * 16)))) x109000 x109001 x109002 x109003 x110000 x110001 x110002 x110003 x110004 x110005) else (vesperref16_Word_word.j1 k x5 x109000 x109001 x109002 x109003 x110000 x110001 x110002 x110003 x110004 x110005))
def vesperref16_Word_word.j1 : Nat → Int → Int → Int → ByteArray → ByteArray → Int → Int → Int → Int → Int → Int → Option (Int)
  | 0, _, _, _, _, _, _, _, _, _, _, _ => none
  | k + 1, x5, x109000, x109001, x109002, x109003, x110000, x110001, x110002, x110003, x110004, x110005 => (vesperref16_Word_has.f k x109000 x109001 x109002 x109003 110).bind fun t112 => (if t112 = true then (vesperref16_Word_word.j2 k (IntKind.u16.wrap (x5 + (IntKind.u16.wrap (x110003)))) x109000 x109001 x109002 x109003 x110000 x110001 x110002 x110003 x110004 x110005) else (vesperref16_Word_word.j2 k x5 x109000 x109001 x109002 x109003 x110000 x110001 x110002 x110003 x110004 x110005))
def vesperref16_Word_word.j2 : Nat → Int → Int → Int → ByteArray → ByteArray → Int → Int → Int → Int → Int → Int → Option (Int)
  | 0, _, _, _, _, _, _, _, _, _, _, _ => none
  | k + 1, x5, x109000, x109001, x109002, x109003, x110000, x110001, x110002, x110003, x110004, x110005 => (vesperref16_Word_has.f k x109000 x109001 x109002 x109003 98).bind fun t113 => (if t113 = true then ((vesperref16_Word_has.f k x109000 x109001 x109002 x109003 97).bind fun t114 => (if t114 = true then (some (IntKind.u16.wrap ((IntKind.u16.wrap (x5 + (IntKind.u16.wrap (x110004)))) + x110005))) else (some (IntKind.u16.wrap (x5 + (IntKind.u16.wrap (x110004))))))) else ((vesperref16_Word_has.f k x109000 x109001 x109002 x109003 97).bind fun t115 => (if t115 = true then (some (IntKind.u16.wrap (x5 + x110005))) else (some x5))))
end
def vesperref16_Word_word.f (k : Nat) (a0_0 : Int) (a0_1 : Int) (a0_2 : ByteArray) (a0_3 : ByteArray) (a1_0 : Int) (a1_1 : Int) (a1_2 : Int) (a1_3 : Int) (a1_4 : Int) (a1_5 : Int) : Option (Int) := (vesperref16_Word_has.f k a0_0 a0_1 a0_2 a0_3 120).bind fun t110 => (if t110 = true then (vesperref16_Word_word.j0 k (IntKind.u16.wrap (a0_1 + (IntKind.u16.wrap ((IntKind.u16.wrap (a1_1)) * 256)))) a0_0 a0_1 a0_2 a0_3 a1_0 a1_1 a1_2 a1_3 a1_4 a1_5) else (vesperref16_Word_word.j0 k a0_1 a0_0 a0_1 a0_2 a0_3 a1_0 a1_1 a1_2 a1_3 a1_4 a1_5))
theorem vesperref16_Word_word.mono_l : ∀ k, (∀ y0 y1 y2 y3 y4 y5 y6 y7 y8 y9 y10, LeO (vesperref16_Word_word.j0 k y0 y1 y2 y3 y4 y5 y6 y7 y8 y9 y10) (vesperref16_Word_word.j0 (k + 1) y0 y1 y2 y3 y4 y5 y6 y7 y8 y9 y10)) ∧ (∀ y0 y1 y2 y3 y4 y5 y6 y7 y8 y9 y10, LeO (vesperref16_Word_word.j1 k y0 y1 y2 y3 y4 y5 y6 y7 y8 y9 y10) (vesperref16_Word_word.j1 (k + 1) y0 y1 y2 y3 y4 y5 y6 y7 y8 y9 y10)) ∧ (∀ y0 y1 y2 y3 y4 y5 y6 y7 y8 y9 y10, LeO (vesperref16_Word_word.j2 k y0 y1 y2 y3 y4 y5 y6 y7 y8 y9 y10) (vesperref16_Word_word.j2 (k + 1) y0 y1 y2 y3 y4 y5 y6 y7 y8 y9 y10))
  | 0 => ⟨fun _ _ _ _ _ _ _ _ _ _ _ r h => by simp [vesperref16_Word_word.j0] at h, fun _ _ _ _ _ _ _ _ _ _ _ r h => by simp [vesperref16_Word_word.j1] at h, fun _ _ _ _ _ _ _ _ _ _ _ r h => by simp [vesperref16_Word_word.j2] at h⟩
  | k + 1 => by
    obtain ⟨ih0, ih1, ih2⟩ := vesperref16_Word_word.mono_l k
    refine ⟨?_, ?_, ?_⟩
    · intro y0 y1 y2 y3 y4 y5 y6 y7 y8 y9 y10
      unfold vesperref16_Word_word.j0
      repeat' first
      | (with_reducible exact ih0 _ _ _ _ _ _ _ _ _ _ _)
      | (with_reducible exact ih1 _ _ _ _ _ _ _ _ _ _ _)
      | (with_reducible exact ih2 _ _ _ _ _ _ _ _ _ _ _)
      | (with_reducible exact vesperref16_Word_has.mono _ _ _ _ _ _)
      | (with_reducible exact LeO.refl _)
      | (with_reducible exact LeO.none _)
      | (with_reducible refine LeO.ite ?_ ?_)
      | (with_reducible refine LeO.bind ?_ (fun _ => ?_))
      | exact ih0 _ _ _ _ _ _ _ _ _ _ _
      | exact ih1 _ _ _ _ _ _ _ _ _ _ _
      | exact ih2 _ _ _ _ _ _ _ _ _ _ _
      | exact vesperref16_Word_has.mono _ _ _ _ _ _
      | exact LeO.none _
      | refine LeO.ite ?_ ?_
      | refine LeO.bind ?_ (fun _ => ?_)
    · intro y0 y1 y2 y3 y4 y5 y6 y7 y8 y9 y10
      unfold vesperref16_Word_word.j1
      repeat' first
      | (with_reducible exact ih0 _ _ _ _ _ _ _ _ _ _ _)
      | (with_reducible exact ih1 _ _ _ _ _ _ _ _ _ _ _)
      | (with_reducible exact ih2 _ _ _ _ _ _ _ _ _ _ _)
      | (with_reducible exact vesperref16_Word_has.mono _ _ _ _ _ _)
      | (with_reducible exact LeO.refl _)
      | (with_reducible exact LeO.none _)
      | (with_reducible refine LeO.ite ?_ ?_)
      | (with_reducible refine LeO.bind ?_ (fun _ => ?_))
      | exact ih0 _ _ _ _ _ _ _ _ _ _ _
      | exact ih1 _ _ _ _ _ _ _ _ _ _ _
      | exact ih2 _ _ _ _ _ _ _ _ _ _ _
      | exact vesperref16_Word_has.mono _ _ _ _ _ _
      | exact LeO.none _
      | refine LeO.ite ?_ ?_
      | refine LeO.bind ?_ (fun _ => ?_)
    · intro y0 y1 y2 y3 y4 y5 y6 y7 y8 y9 y10
      unfold vesperref16_Word_word.j2
      repeat' first
      | (with_reducible exact ih0 _ _ _ _ _ _ _ _ _ _ _)
      | (with_reducible exact ih1 _ _ _ _ _ _ _ _ _ _ _)
      | (with_reducible exact ih2 _ _ _ _ _ _ _ _ _ _ _)
      | (with_reducible exact vesperref16_Word_has.mono _ _ _ _ _ _)
      | (with_reducible exact LeO.refl _)
      | (with_reducible exact LeO.none _)
      | (with_reducible refine LeO.ite ?_ ?_)
      | (with_reducible refine LeO.bind ?_ (fun _ => ?_))
      | exact ih0 _ _ _ _ _ _ _ _ _ _ _
      | exact ih1 _ _ _ _ _ _ _ _ _ _ _
      | exact ih2 _ _ _ _ _ _ _ _ _ _ _
      | exact vesperref16_Word_has.mono _ _ _ _ _ _
      | exact LeO.none _
      | refine LeO.ite ?_ ?_
      | refine LeO.bind ?_ (fun _ => ?_)
theorem vesperref16_Word_word.mono : ∀ a0 a1 a2 a3 a4 a5 a6 a7 a8 a9 k, LeO (vesperref16_Word_word.f k a0 a1 a2 a3 a4 a5 a6 a7 a8 a9) (vesperref16_Word_word.f (k + 1) a0 a1 a2 a3 a4 a5 a6 a7 a8 a9) := by
  intro a0 a1 a2 a3 a4 a5 a6 a7 a8 a9 k
  obtain ⟨ih0, ih1, ih2⟩ := vesperref16_Word_word.mono_l k
  unfold vesperref16_Word_word.f
  repeat' first
      | (with_reducible exact ih0 _ _ _ _ _ _ _ _ _ _ _)
      | (with_reducible exact ih1 _ _ _ _ _ _ _ _ _ _ _)
      | (with_reducible exact ih2 _ _ _ _ _ _ _ _ _ _ _)
      | (with_reducible exact vesperref16_Word_has.mono _ _ _ _ _ _)
      | (with_reducible exact LeO.refl _)
      | (with_reducible exact LeO.none _)
      | (with_reducible refine LeO.ite ?_ ?_)
      | (with_reducible refine LeO.bind ?_ (fun _ => ?_))
      | exact ih0 _ _ _ _ _ _ _ _ _ _ _
      | exact ih1 _ _ _ _ _ _ _ _ _ _ _
      | exact ih2 _ _ _ _ _ _ _ _ _ _ _
      | exact vesperref16_Word_has.mono _ _ _ _ _ _
      | exact LeO.none _
      | refine LeO.ite ?_ ?_
      | refine LeO.bind ?_ (fun _ => ?_)
set_option maxHeartbeats 8000000 in
set_option maxRecDepth 100000 in
theorem vesperref16_Word_word.calls (k : Nat) (a0_0 : Int) (a0_1 : Int) (a0_2 : ByteArray) (a0_3 : ByteArray) (a1_0 : Int) (a1_1 : Int) (a1_2 : Int) (a1_3 : Int) (a1_4 : Int) (a1_5 : Int) (r : Int) (w : World) (h : vesperref16_Word_word.f k a0_0 a0_1 a0_2 a0_3 a1_0 a1_1 a1_2 a1_3 a1_4 a1_5 = some r) :
    Calls Try.prog 9 #[.agg #[.int .u8 a0_0, .int .u16 a0_1, .string a0_2, .string a0_3], .agg #[.int .u8 a1_0, .int .u8 a1_1, .int .u8 a1_2, .int .u8 a1_3, .int .u8 a1_4, .int .u16 a1_5]] w fun e w' => e = .returned (.int .u16 r) ∧ Below w.heap.size w w' := by
  have hu36 := Try.underlying36
  have hu25 := Try.underlying25
  have HB := Aside0.mk (Below.refl w.heap.size w)
  have H : ((vesperref16_Word_has.f k a0_0 a0_1 a0_2 a0_3 120).bind fun t110 => (if t110 = true then (vesperref16_Word_word.j0 k (IntKind.u16.wrap (a0_1 + (IntKind.u16.wrap ((IntKind.u16.wrap (a1_1)) * 256)))) a0_0 a0_1 a0_2 a0_3 a1_0 a1_1 a1_2 a1_3 a1_4 a1_5) else (vesperref16_Word_word.j0 k a0_1 a0_0 a0_1 a0_2 a0_3 a1_0 a1_1 a1_2 a1_3 a1_4 a1_5))) = some r := h
  clear h
  replace H := Option.bind_eq_some_iff.mp H
  obtain ⟨t110, A30, H⟩ := H
  replace H : (if t110 = true then (vesperref16_Word_word.j0 k (IntKind.u16.wrap (a0_1 + (IntKind.u16.wrap ((IntKind.u16.wrap (a1_1)) * 256)))) a0_0 a0_1 a0_2 a0_3 a1_0 a1_1 a1_2 a1_3 a1_4 a1_5) else (vesperref16_Word_word.j0 k a0_1 a0_0 a0_1 a0_2 a0_3 a1_0 a1_1 a1_2 a1_3 a1_4 a1_5)) = some r := H
  have A3 := Aside0.mk A30
  clear A30
  have HC4 := Aside0.mk H
  clear H
  go_enter Try.func9, Try.ntmps9
  go_upto_if 9 with (first | ((with_reducible refine gate_dst (N := 2) rfl ?_); refine box_event ?hg (N := 2) ?hd (cs := #[.int .u8 a0_0, .int .u16 a0_1, .string a0_2, .string a0_3]) (t := 36) ?hr ?_; (case hd => rfl); (case hg => rfl); (case hr => first | (go_simp; done) | (go_simp; rfl)); intro gb108 hg w5 hbox hb; have n0_ := Aside0.mk (below_step (by repeat (first | (with_reducible first | exact HB.out | apply below_alloc | apply pw_below_drewN | apply below_drew1) | exact HB.out)) hb); have n1_ := Aside0.mk (hbox); have n2_ := Aside0.mk ((by rw [hg]; exact (below_size (by repeat (first | (with_reducible first | exact HB.out | apply below_alloc | apply pw_below_drewN | apply below_drew1) | exact HB.out))) : w.heap.size ≤ gb108)); have n3_ := Aside0.mk ((by rw [hg]; exact (below_size (by repeat (first | (with_reducible first | exact HB.out | apply below_alloc | apply pw_below_drewN | apply below_drew1) | exact HB.out))) : w.heap.size ≤ gb108)); clear HB; have HB := n0_; have BK108 := n1_; have GW108 := n2_; have GE108 := n3_; clear n0_ n1_ n2_ n3_; clear hb hbox hg) | ((with_reducible refine gate_dst (N := 3) rfl ?_); refine box_event ?hg (N := 3) ?hd (cs := #[.int .u8 a1_0, .int .u8 a1_1, .int .u8 a1_2, .int .u8 a1_3, .int .u8 a1_4, .int .u16 a1_5]) (t := 25) ?hr ?_; (case hd => rfl); (case hg => rfl); (case hr => first | (go_simp; done) | (go_simp; rfl)); intro gb109 hg w6 hbox hb; have n0_ := Aside0.mk (blk_below (g := gb108) (o := .cells #[.int .u8 a0_0, .int .u16 a0_1, .string a0_2, .string a0_3] 36 (0, 0)) (by (with_reducible repeat (first | refine blk_drewN ?_ _ | refine blk_drew ?_ | refine blk_alloc ?_ _)); exact BK108.out) hb); have n1_ := Aside0.mk (below_step (by repeat (first | (with_reducible first | exact HB.out | apply below_alloc | apply pw_below_drewN | apply below_drew1 | refine below_set ?_ GE108.out) | exact HB.out)) hb); have n2_ := Aside0.mk (hbox); have n3_ := Aside0.mk ((by rw [hg]; exact (below_size (by repeat (first | (with_reducible first | exact HB.out | apply below_alloc | apply pw_below_drewN | apply below_drew1 | refine below_set ?_ GE108.out) | exact HB.out))) : w.heap.size ≤ gb109)); have n4_ := Aside0.mk ((by rw [hg]; exact (below_size (by repeat (first | (with_reducible first | exact HB.out | apply below_alloc | apply pw_below_drewN | apply below_drew1 | refine below_set ?_ GE108.out) | exact HB.out))) : w.heap.size ≤ gb109)); have n5_ := Aside0.mk ((by rw [hg]; exact Nat.ne_of_lt (blk_lt (g := gb108) (o := .cells #[.int .u8 a0_0, .int .u16 a0_1, .string a0_2, .string a0_3] 36 (0, 0)) (by (with_reducible repeat (first | refine blk_drewN ?_ _ | refine blk_drew ?_ | refine blk_alloc ?_ _)); exact BK108.out)) : gb108 ≠ gb109)); have n6_ := Aside0.mk ((by rw [hg]; exact Nat.ne_of_gt (blk_lt (g := gb108) (o := .cells #[.int .u8 a0_0, .int .u16 a0_1, .string a0_2, .string a0_3] 36 (0, 0)) (by (with_reducible repeat (first | refine blk_drewN ?_ _ | refine blk_drew ?_ | refine blk_alloc ?_ _)); exact BK108.out)) : gb109 ≠ gb108)); clear BK108; clear HB; have BK108 := n0_; have HB := n1_; have BK109 := n2_; have GW109 := n3_; have GE109 := n4_; have NB108_109 := n5_; have NB109_108 := n6_; clear n0_ n1_ n2_ n3_ n4_ n5_ n6_; clear hb hbox hg; have hnb7 := NB108_109.out; have hnc7 := NB109_108.out; have hcz8_0 : w6.cell? ⟨gb108, 0, none⟩ = some (.int .u8 a0_0) := (blk_cell BK108.out 0).trans rfl; have hcz8_1 : w6.cell? ⟨gb108, 1, none⟩ = some (.int .u16 a0_1) := (blk_cell BK108.out 1).trans rfl; have hcz8_2 : w6.cell? ⟨gb108, 2, none⟩ = some (.string a0_2) := (blk_cell BK108.out 2).trans rfl; have hcz8_3 : w6.cell? ⟨gb108, 3, none⟩ = some (.string a0_3) := (blk_cell BK108.out 3).trans rfl; have hfz8_0 := blk_frozen BK108.out 0; have hfz8_1 := blk_frozen BK108.out 1; have hfz8_2 := blk_frozen BK108.out 2; have hfz8_3 := blk_frozen BK108.out 3) | ((with_reducible refine gate_callee (f := 13) rfl ?_); refine goesL_ (some 9) rfl rfl Try.func13 (by kernel_rfl) rfl #[.agg #[.int .u8 a0_0, .int .u16 a0_1, .string a0_2, .string a0_3], .int .u8 120] rfl (by (try simp only [List.map_toArray, List.map_cons, List.map_nil]); first | done | rfl | (simp only [List.length_drop, List.length_take]; rfl)) ?_; (with_reducible refine (vesperref16_Word_has.calls k a0_0 a0_1 a0_2 a0_3 120 t110 _ A3.out).mono ?_); rintro e w9 ⟨rfl, hb⟩; refine ⟨_, rfl, ?_⟩; have n0_ := Aside0.mk (blk_below (g := gb108) (o := .cells #[.int .u8 a0_0, .int .u16 a0_1, .string a0_2, .string a0_3] 36 (0, 0)) (by (with_reducible repeat (first | refine blk_drewN ?_ _ | refine blk_drew ?_ | refine blk_alloc ?_ _)); exact BK108.out) hb); have n1_ := Aside0.mk (blk_below (g := gb109) (o := .cells #[.int .u8 a1_0, .int .u8 a1_1, .int .u8 a1_2, .int .u8 a1_3, .int .u8 a1_4, .int .u16 a1_5] 25 (0, 0)) (by (with_reducible repeat (first | refine blk_drewN ?_ _ | refine blk_drew ?_ | refine blk_alloc ?_ _)); exact BK109.out) hb); have n2_ := Aside0.mk (below_step (by repeat (first | (with_reducible first | exact HB.out | apply below_alloc | apply pw_below_drewN | apply below_drew1 | refine below_set ?_ GE108.out | refine below_set ?_ GE109.out) | exact HB.out)) hb); clear BK108; clear BK109; clear HB; have BK108 := n0_; have BK109 := n1_; have HB := n2_; clear n0_ n1_ n2_; (try clear hb); (try clear hb2); (try clear hk); (try clear hi)))
  (try simp only [Act.put, List.setIfInBounds_toArray, List.set_cons_zero, List.set_cons_succ])
  go_cut [5] (fun v5 wc => ∃ (kq : Nat) (x5_3 : Int), v5 = .int .u16 x5_3 ∧ Aside0 (vesperref16_Word_word.j0 kq x5_3 a0_0 a0_1 a0_2 a0_3 a1_0 a1_1 a1_2 a1_3 a1_4 a1_5 = some r) ∧ Aside0 (kq ≤ k) ∧ Aside0 (wc.heap[gb108]? = some (.cells #[.int .u8 a0_0, .int .u16 a0_1, .string a0_2, .string a0_3] 36 (0, 0))) ∧ Aside0 (wc.heap[gb109]? = some (.cells #[.int .u8 a1_0, .int .u8 a1_1, .int .u8 a1_2, .int .u8 a1_3, .int .u8 a1_4, .int .u16 a1_5] 25 (0, 0))) ∧ Aside0 (Below w.heap.size w wc))
  case first =>
    have H := HC4.out
    clear HC4
    by_cases c10 : t110 = true
    · subst c10
      have H1 : (vesperref16_Word_word.j0 k (IntKind.u16.wrap (a0_1 + (IntKind.u16.wrap ((IntKind.u16.wrap (a1_1)) * 256)))) a0_0 a0_1 a0_2 a0_3 a1_0 a1_1 a1_2 a1_3 a1_4 a1_5) = some r := by rw [if_pos rfl] at H; exact H
      clear H
      have H := H1
      clear H1
      have H' := Aside0.mk H
      clear H
      have hnb11 := NB109_108.out
      have hnc11 := NB108_109.out
      have hcz12_0 : w9.cell? ⟨gb109, 0, none⟩ = some (.int .u8 a1_0) := (blk_cell BK109.out 0).trans rfl
      have hcz12_1 : w9.cell? ⟨gb109, 1, none⟩ = some (.int .u8 a1_1) := (blk_cell BK109.out 1).trans rfl
      have hcz12_2 : w9.cell? ⟨gb109, 2, none⟩ = some (.int .u8 a1_2) := (blk_cell BK109.out 2).trans rfl
      have hcz12_3 : w9.cell? ⟨gb109, 3, none⟩ = some (.int .u8 a1_3) := (blk_cell BK109.out 3).trans rfl
      have hcz12_4 : w9.cell? ⟨gb109, 4, none⟩ = some (.int .u8 a1_4) := (blk_cell BK109.out 4).trans rfl
      have hcz12_5 : w9.cell? ⟨gb109, 5, none⟩ = some (.int .u16 a1_5) := (blk_cell BK109.out 5).trans rfl
      have hfz12_0 := blk_frozen BK109.out 0
      have hfz12_1 := blk_frozen BK109.out 1
      have hfz12_2 := blk_frozen BK109.out 2
      have hfz12_3 := blk_frozen BK109.out 3
      have hfz12_4 := blk_frozen BK109.out 4
      have hfz12_5 := blk_frozen BK109.out 5
      go_wp2
      go_meet
      case rel => exact ⟨_, (IntKind.u16.wrap (a0_1 + (IntKind.u16.wrap ((IntKind.u16.wrap (a1_1)) * 256)))), (by first | rfl | (simp; done) | (simp [*]; done)), H', ⟨by first | omega | exact Nat.le_refl _⟩, ⟨by (with_reducible repeat (first | refine blk_drewN ?_ _ | refine blk_drew ?_ | refine blk_alloc ?_ _)); exact BK108.out⟩, ⟨by (with_reducible repeat (first | refine blk_drewN ?_ _ | refine blk_drew ?_ | refine blk_alloc ?_ _)); exact BK109.out⟩, ⟨by repeat (first | (with_reducible first | exact HB.out | apply below_alloc | apply pw_below_drewN | apply below_drew1 | refine below_set ?_ GE108.out | refine below_set ?_ GE109.out) | exact HB.out)⟩⟩
    · replace c10 := Bool.eq_false_iff.mpr c10
      subst c10
      have H1 : (vesperref16_Word_word.j0 k a0_1 a0_0 a0_1 a0_2 a0_3 a1_0 a1_1 a1_2 a1_3 a1_4 a1_5) = some r := by rw [if_neg (show ¬ (false = true) by decide)] at H; exact H
      clear H
      have H := H1
      clear H1
      have H' := Aside0.mk H
      clear H
      go_wp2
      go_meet
      case rel => exact ⟨_, (a0_1), (by first | rfl | (simp; done) | (simp [*]; done)), H', ⟨by first | omega | exact Nat.le_refl _⟩, ⟨by (with_reducible repeat (first | refine blk_drewN ?_ _ | refine blk_drew ?_ | refine blk_alloc ?_ _)); exact BK108.out⟩, ⟨by (with_reducible repeat (first | refine blk_drewN ?_ _ | refine blk_drew ?_ | refine blk_alloc ?_ _)); exact BK109.out⟩, ⟨by repeat (first | (with_reducible first | exact HB.out | apply below_alloc | apply pw_below_drewN | apply below_drew1 | refine below_set ?_ GE108.out | refine below_set ?_ GE109.out) | exact HB.out)⟩⟩
  case rest =>
    clear HC4
    try clear c1
    try clear p2
    try clear c7
    try clear c9
    try clear c10
    try clear c11
    try clear hcz12_0
    try clear hcz12_1
    try clear hcz12_2
    try clear hcz12_3
    try clear hcz12_4
    try clear hcz12_5
    try clear hcz8_0
    try clear hcz8_1
    try clear hcz8_2
    try clear hcz8_3
    try clear hfz12_0
    try clear hfz12_1
    try clear hfz12_2
    try clear hfz12_3
    try clear hfz12_4
    try clear hfz12_5
    try clear hfz8_0
    try clear hfz8_1
    try clear hfz8_2
    try clear hfz8_3
    obtain ⟨kq, x5_3, rfl, HA, HJ3, BK108, BK109, HB⟩ := hcut
    cases kq with
    | zero => exact absurd HA.out (by simp [vesperref16_Word_word.j0])
    | succ kj3 =>
      have H := HA.out
      clear HA
      simp only [vesperref16_Word_word.j0] at H
      replace H := Option.bind_eq_some_iff.mp H
      obtain ⟨t111, A130, H⟩ := H
      replace H : (if t111 = true then (vesperref16_Word_word.j1 kj3 (IntKind.u16.wrap (x5_3 + (IntKind.u16.wrap ((IntKind.u16.wrap (a1_2)) * 16)))) a0_0 a0_1 a0_2 a0_3 a1_0 a1_1 a1_2 a1_3 a1_4 a1_5) else (vesperref16_Word_word.j1 kj3 x5_3 a0_0 a0_1 a0_2 a0_3 a1_0 a1_1 a1_2 a1_3 a1_4 a1_5)) = some r := H
      have A13 := Aside0.mk A130
      clear A130
      have HC14 := Aside0.mk H
      clear H
      have hnb15 := NB108_109.out
      have hnc15 := NB109_108.out
      have hcz16_0 : wc.cell? ⟨gb108, 0, none⟩ = some (.int .u8 a0_0) := (blk_cell BK108.out 0).trans rfl
      have hcz16_1 : wc.cell? ⟨gb108, 1, none⟩ = some (.int .u16 a0_1) := (blk_cell BK108.out 1).trans rfl
      have hcz16_2 : wc.cell? ⟨gb108, 2, none⟩ = some (.string a0_2) := (blk_cell BK108.out 2).trans rfl
      have hcz16_3 : wc.cell? ⟨gb108, 3, none⟩ = some (.string a0_3) := (blk_cell BK108.out 3).trans rfl
      have hfz16_0 := blk_frozen BK108.out 0
      have hfz16_1 := blk_frozen BK108.out 1
      have hfz16_2 := blk_frozen BK108.out 2
      have hfz16_3 := blk_frozen BK108.out 3
      go_upto_if 17 with (first | ((with_reducible refine gate_callee (f := 13) rfl ?_); refine goesL_ (some 17) rfl rfl Try.func13 (by kernel_rfl) rfl #[.agg #[.int .u8 a0_0, .int .u16 a0_1, .string a0_2, .string a0_3], .int .u8 121] rfl (by (try simp only [List.map_toArray, List.map_cons, List.map_nil]); first | done | rfl | (simp only [List.length_drop, List.length_take]; rfl)) ?_; (with_reducible refine (vesperref16_Word_has.calls kj3 a0_0 a0_1 a0_2 a0_3 121 t111 _ A13.out).mono ?_); rintro e w17 ⟨rfl, hb⟩; refine ⟨_, rfl, ?_⟩; have n0_ := Aside0.mk (blk_below (g := gb108) (o := .cells #[.int .u8 a0_0, .int .u16 a0_1, .string a0_2, .string a0_3] 36 (0, 0)) (by (with_reducible repeat (first | refine blk_drewN ?_ _ | refine blk_drew ?_ | refine blk_alloc ?_ _)); exact BK108.out) hb); have n1_ := Aside0.mk (blk_below (g := gb109) (o := .cells #[.int .u8 a1_0, .int .u8 a1_1, .int .u8 a1_2, .int .u8 a1_3, .int .u8 a1_4, .int .u16 a1_5] 25 (0, 0)) (by (with_reducible repeat (first | refine blk_drewN ?_ _ | refine blk_drew ?_ | refine blk_alloc ?_ _)); exact BK109.out) hb); have n2_ := Aside0.mk (below_step (by repeat (first | (with_reducible first | exact HB.out | apply below_alloc | apply pw_below_drewN | apply below_drew1 | refine below_set ?_ GE108.out | refine below_set ?_ GE109.out) | exact HB.out)) hb); clear BK108; clear BK109; clear HB; have BK108 := n0_; have BK109 := n1_; have HB := n2_; clear n0_ n1_ n2_; (try clear hb); (try clear hb2); (try clear hk); (try clear hi)))
      (try simp only [Act.put, List.setIfInBounds_toArray, List.set_cons_zero, List.set_cons_succ])
      go_cut [5] (fun v5 wc => ∃ (kq : Nat) (x5_13 : Int), v5 = .int .u16 x5_13 ∧ Aside0 (vesperref16_Word_word.j1 kq x5_13 a0_0 a0_1 a0_2 a0_3 a1_0 a1_1 a1_2 a1_3 a1_4 a1_5 = some r) ∧ Aside0 (kq ≤ kj3) ∧ Aside0 (wc.heap[gb108]? = some (.cells #[.int .u8 a0_0, .int .u16 a0_1, .string a0_2, .string a0_3] 36 (0, 0))) ∧ Aside0 (wc.heap[gb109]? = some (.cells #[.int .u8 a1_0, .int .u8 a1_1, .int .u8 a1_2, .int .u8 a1_3, .int .u8 a1_4, .int .u16 a1_5] 25 (0, 0))) ∧ Aside0 (Below w.heap.size w wc))
      case first =>
        have H := HC14.out
        clear HC14
        by_cases c18 : t111 = true
        · subst c18
          have H1 : (vesperref16_Word_word.j1 kj3 (IntKind.u16.wrap (x5_3 + (IntKind.u16.wrap ((IntKind.u16.wrap (a1_2)) * 16)))) a0_0 a0_1 a0_2 a0_3 a1_0 a1_1 a1_2 a1_3 a1_4 a1_5) = some r := by rw [if_pos rfl] at H; exact H
          clear H
          have H := H1
          clear H1
          have H' := Aside0.mk H
          clear H
          have hnb19 := NB109_108.out
          have hnc19 := NB108_109.out
          have hcz20_0 : w17.cell? ⟨gb109, 0, none⟩ = some (.int .u8 a1_0) := (blk_cell BK109.out 0).trans rfl
          have hcz20_1 : w17.cell? ⟨gb109, 1, none⟩ = some (.int .u8 a1_1) := (blk_cell BK109.out 1).trans rfl
          have hcz20_2 : w17.cell? ⟨gb109, 2, none⟩ = some (.int .u8 a1_2) := (blk_cell BK109.out 2).trans rfl
          have hcz20_3 : w17.cell? ⟨gb109, 3, none⟩ = some (.int .u8 a1_3) := (blk_cell BK109.out 3).trans rfl
          have hcz20_4 : w17.cell? ⟨gb109, 4, none⟩ = some (.int .u8 a1_4) := (blk_cell BK109.out 4).trans rfl
          have hcz20_5 : w17.cell? ⟨gb109, 5, none⟩ = some (.int .u16 a1_5) := (blk_cell BK109.out 5).trans rfl
          have hfz20_0 := blk_frozen BK109.out 0
          have hfz20_1 := blk_frozen BK109.out 1
          have hfz20_2 := blk_frozen BK109.out 2
          have hfz20_3 := blk_frozen BK109.out 3
          have hfz20_4 := blk_frozen BK109.out 4
          have hfz20_5 := blk_frozen BK109.out 5
          go_wp2
          go_meet
          case rel => exact ⟨_, (IntKind.u16.wrap (x5_3 + (IntKind.u16.wrap ((IntKind.u16.wrap (a1_2)) * 16)))), (by first | rfl | (simp; done) | (simp [*]; done)), H', ⟨by have := HJ3.out; first | omega | exact Nat.le_refl _⟩, ⟨by (with_reducible repeat (first | refine blk_drewN ?_ _ | refine blk_drew ?_ | refine blk_alloc ?_ _)); exact BK108.out⟩, ⟨by (with_reducible repeat (first | refine blk_drewN ?_ _ | refine blk_drew ?_ | refine blk_alloc ?_ _)); exact BK109.out⟩, ⟨by repeat (first | (with_reducible first | exact HB.out | apply below_alloc | apply pw_below_drewN | apply below_drew1 | refine below_set ?_ GE108.out | refine below_set ?_ GE109.out) | exact HB.out)⟩⟩
        · replace c18 := Bool.eq_false_iff.mpr c18
          subst c18
          have H1 : (vesperref16_Word_word.j1 kj3 x5_3 a0_0 a0_1 a0_2 a0_3 a1_0 a1_1 a1_2 a1_3 a1_4 a1_5) = some r := by rw [if_neg (show ¬ (false = true) by decide)] at H; exact H
          clear H
          have H := H1
          clear H1
          have H' := Aside0.mk H
          clear H
          go_wp2
          go_meet
          case rel => exact ⟨_, (x5_3), (by first | rfl | (simp; done) | (simp [*]; done)), H', ⟨by have := HJ3.out; first | omega | exact Nat.le_refl _⟩, ⟨by (with_reducible repeat (first | refine blk_drewN ?_ _ | refine blk_drew ?_ | refine blk_alloc ?_ _)); exact BK108.out⟩, ⟨by (with_reducible repeat (first | refine blk_drewN ?_ _ | refine blk_drew ?_ | refine blk_alloc ?_ _)); exact BK109.out⟩, ⟨by repeat (first | (with_reducible first | exact HB.out | apply below_alloc | apply pw_below_drewN | apply below_drew1 | refine below_set ?_ GE108.out | refine below_set ?_ GE109.out) | exact HB.out)⟩⟩
      case rest =>
        clear HC14
        try clear c1
        try clear p2
        try clear c7
        try clear c9
        try clear c10
        try clear c11
        try clear c13
        try clear c15
        try clear c18
        try clear c19
        try clear hcz12_0
        try clear hcz12_1
        try clear hcz12_2
        try clear hcz12_3
        try clear hcz12_4
        try clear hcz12_5
        try clear hcz16_0
        try clear hcz16_1
        try clear hcz16_2
        try clear hcz16_3
        try clear hcz20_0
        try clear hcz20_1
        try clear hcz20_2
        try clear hcz20_3
        try clear hcz20_4
        try clear hcz20_5
        try clear hcz8_0
        try clear hcz8_1
        try clear hcz8_2
        try clear hcz8_3
        try clear hfz12_0
        try clear hfz12_1
        try clear hfz12_2
        try clear hfz12_3
        try clear hfz12_4
        try clear hfz12_5
        try clear hfz16_0
        try clear hfz16_1
        try clear hfz16_2
        try clear hfz16_3
        try clear hfz20_0
        try clear hfz20_1
        try clear hfz20_2
        try clear hfz20_3
        try clear hfz20_4
        try clear hfz20_5
        try clear hfz8_0
        try clear hfz8_1
        try clear hfz8_2
        try clear hfz8_3
        try clear p2
        obtain ⟨kq, x5_13, rfl, HA, HJ13, BK108, BK109, HB⟩ := hcut
        cases kq with
        | zero => exact absurd HA.out (by simp [vesperref16_Word_word.j1])
        | succ kj13 =>
          have H := HA.out
          clear HA
          simp only [vesperref16_Word_word.j1] at H
          replace H := Option.bind_eq_some_iff.mp H
          obtain ⟨t112, A210, H⟩ := H
          replace H : (if t112 = true then (vesperref16_Word_word.j2 kj13 (IntKind.u16.wrap (x5_13 + (IntKind.u16.wrap (a1_3)))) a0_0 a0_1 a0_2 a0_3 a1_0 a1_1 a1_2 a1_3 a1_4 a1_5) else (vesperref16_Word_word.j2 kj13 x5_13 a0_0 a0_1 a0_2 a0_3 a1_0 a1_1 a1_2 a1_3 a1_4 a1_5)) = some r := H
          have A21 := Aside0.mk A210
          clear A210
          have HC22 := Aside0.mk H
          clear H
          have hnb23 := NB108_109.out
          have hnc23 := NB109_108.out
          have hcz24_0 : wc.cell? ⟨gb108, 0, none⟩ = some (.int .u8 a0_0) := (blk_cell BK108.out 0).trans rfl
          have hcz24_1 : wc.cell? ⟨gb108, 1, none⟩ = some (.int .u16 a0_1) := (blk_cell BK108.out 1).trans rfl
          have hcz24_2 : wc.cell? ⟨gb108, 2, none⟩ = some (.string a0_2) := (blk_cell BK108.out 2).trans rfl
          have hcz24_3 : wc.cell? ⟨gb108, 3, none⟩ = some (.string a0_3) := (blk_cell BK108.out 3).trans rfl
          have hfz24_0 := blk_frozen BK108.out 0
          have hfz24_1 := blk_frozen BK108.out 1
          have hfz24_2 := blk_frozen BK108.out 2
          have hfz24_3 := blk_frozen BK108.out 3
          go_upto_if 25 with (first | ((with_reducible refine gate_callee (f := 13) rfl ?_); refine goesL_ (some 25) rfl rfl Try.func13 (by kernel_rfl) rfl #[.agg #[.int .u8 a0_0, .int .u16 a0_1, .string a0_2, .string a0_3], .int .u8 110] rfl (by (try simp only [List.map_toArray, List.map_cons, List.map_nil]); first | done | rfl | (simp only [List.length_drop, List.length_take]; rfl)) ?_; (with_reducible refine (vesperref16_Word_has.calls kj13 a0_0 a0_1 a0_2 a0_3 110 t112 _ A21.out).mono ?_); rintro e w25 ⟨rfl, hb⟩; refine ⟨_, rfl, ?_⟩; have n0_ := Aside0.mk (blk_below (g := gb108) (o := .cells #[.int .u8 a0_0, .int .u16 a0_1, .string a0_2, .string a0_3] 36 (0, 0)) (by (with_reducible repeat (first | refine blk_drewN ?_ _ | refine blk_drew ?_ | refine blk_alloc ?_ _)); exact BK108.out) hb); have n1_ := Aside0.mk (blk_below (g := gb109) (o := .cells #[.int .u8 a1_0, .int .u8 a1_1, .int .u8 a1_2, .int .u8 a1_3, .int .u8 a1_4, .int .u16 a1_5] 25 (0, 0)) (by (with_reducible repeat (first | refine blk_drewN ?_ _ | refine blk_drew ?_ | refine blk_alloc ?_ _)); exact BK109.out) hb); have n2_ := Aside0.mk (below_step (by repeat (first | (with_reducible first | exact HB.out | apply below_alloc | apply pw_below_drewN | apply below_drew1 | refine below_set ?_ GE108.out | refine below_set ?_ GE109.out) | exact HB.out)) hb); clear BK108; clear BK109; clear HB; have BK108 := n0_; have BK109 := n1_; have HB := n2_; clear n0_ n1_ n2_; (try clear hb); (try clear hb2); (try clear hk); (try clear hi)))
          (try simp only [Act.put, List.setIfInBounds_toArray, List.set_cons_zero, List.set_cons_succ])
          go_cut [5] (fun v5 wc => ∃ (kq : Nat) (x5_21 : Int), v5 = .int .u16 x5_21 ∧ Aside0 (vesperref16_Word_word.j2 kq x5_21 a0_0 a0_1 a0_2 a0_3 a1_0 a1_1 a1_2 a1_3 a1_4 a1_5 = some r) ∧ Aside0 (kq ≤ kj13) ∧ Aside0 (wc.heap[gb108]? = some (.cells #[.int .u8 a0_0, .int .u16 a0_1, .string a0_2, .string a0_3] 36 (0, 0))) ∧ Aside0 (wc.heap[gb109]? = some (.cells #[.int .u8 a1_0, .int .u8 a1_1, .int .u8 a1_2, .int .u8 a1_3, .int .u8 a1_4, .int .u16 a1_5] 25 (0, 0))) ∧ Aside0 (Below w.heap.size w wc))
          case first =>
            have H := HC22.out
            clear HC22
            by_cases c26 : t112 = true
            · subst c26
              have H1 : (vesperref16_Word_word.j2 kj13 (IntKind.u16.wrap (x5_13 + (IntKind.u16.wrap (a1_3)))) a0_0 a0_1 a0_2 a0_3 a1_0 a1_1 a1_2 a1_3 a1_4 a1_5) = some r := by rw [if_pos rfl] at H; exact H
              clear H
              have H := H1
              clear H1
              have H' := Aside0.mk H
              clear H
              have hnb27 := NB109_108.out
              have hnc27 := NB108_109.out
              have hcz28_0 : w25.cell? ⟨gb109, 0, none⟩ = some (.int .u8 a1_0) := (blk_cell BK109.out 0).trans rfl
              have hcz28_1 : w25.cell? ⟨gb109, 1, none⟩ = some (.int .u8 a1_1) := (blk_cell BK109.out 1).trans rfl
              have hcz28_2 : w25.cell? ⟨gb109, 2, none⟩ = some (.int .u8 a1_2) := (blk_cell BK109.out 2).trans rfl
              have hcz28_3 : w25.cell? ⟨gb109, 3, none⟩ = some (.int .u8 a1_3) := (blk_cell BK109.out 3).trans rfl
              have hcz28_4 : w25.cell? ⟨gb109, 4, none⟩ = some (.int .u8 a1_4) := (blk_cell BK109.out 4).trans rfl
              have hcz28_5 : w25.cell? ⟨gb109, 5, none⟩ = some (.int .u16 a1_5) := (blk_cell BK109.out 5).trans rfl
              have hfz28_0 := blk_frozen BK109.out 0
              have hfz28_1 := blk_frozen BK109.out 1
              have hfz28_2 := blk_frozen BK109.out 2
              have hfz28_3 := blk_frozen BK109.out 3
              have hfz28_4 := blk_frozen BK109.out 4
              have hfz28_5 := blk_frozen BK109.out 5
              go_wp2
              go_meet
              case rel => exact ⟨_, (IntKind.u16.wrap (x5_13 + (IntKind.u16.wrap (a1_3)))), (by first | rfl | (simp; done) | (simp [*]; done)), H', ⟨by have := HJ3.out; have := HJ13.out; first | omega | exact Nat.le_refl _⟩, ⟨by (with_reducible repeat (first | refine blk_drewN ?_ _ | refine blk_drew ?_ | refine blk_alloc ?_ _)); exact BK108.out⟩, ⟨by (with_reducible repeat (first | refine blk_drewN ?_ _ | refine blk_drew ?_ | refine blk_alloc ?_ _)); exact BK109.out⟩, ⟨by repeat (first | (with_reducible first | exact HB.out | apply below_alloc | apply pw_below_drewN | apply below_drew1 | refine below_set ?_ GE108.out | refine below_set ?_ GE109.out) | exact HB.out)⟩⟩
            · replace c26 := Bool.eq_false_iff.mpr c26
              subst c26
              have H1 : (vesperref16_Word_word.j2 kj13 x5_13 a0_0 a0_1 a0_2 a0_3 a1_0 a1_1 a1_2 a1_3 a1_4 a1_5) = some r := by rw [if_neg (show ¬ (false = true) by decide)] at H; exact H
              clear H
              have H := H1
              clear H1
              have H' := Aside0.mk H
              clear H
              go_wp2
              go_meet
              case rel => exact ⟨_, (x5_13), (by first | rfl | (simp; done) | (simp [*]; done)), H', ⟨by have := HJ3.out; have := HJ13.out; first | omega | exact Nat.le_refl _⟩, ⟨by (with_reducible repeat (first | refine blk_drewN ?_ _ | refine blk_drew ?_ | refine blk_alloc ?_ _)); exact BK108.out⟩, ⟨by (with_reducible repeat (first | refine blk_drewN ?_ _ | refine blk_drew ?_ | refine blk_alloc ?_ _)); exact BK109.out⟩, ⟨by repeat (first | (with_reducible first | exact HB.out | apply below_alloc | apply pw_below_drewN | apply below_drew1 | refine below_set ?_ GE108.out | refine below_set ?_ GE109.out) | exact HB.out)⟩⟩
          case rest =>
            clear HC22
            try clear c1
            try clear c2
            try clear p2
            try clear c7
            try clear c9
            try clear c10
            try clear c11
            try clear c13
            try clear c15
            try clear c18
            try clear c19
            try clear c23
            try clear c26
            try clear c27
            try clear hcz12_0
            try clear hcz12_1
            try clear hcz12_2
            try clear hcz12_3
            try clear hcz12_4
            try clear hcz12_5
            try clear hcz16_0
            try clear hcz16_1
            try clear hcz16_2
            try clear hcz16_3
            try clear hcz20_0
            try clear hcz20_1
            try clear hcz20_2
            try clear hcz20_3
            try clear hcz20_4
            try clear hcz20_5
            try clear hcz24_0
            try clear hcz24_1
            try clear hcz24_2
            try clear hcz24_3
            try clear hcz28_0
            try clear hcz28_1
            try clear hcz28_2
            try clear hcz28_3
            try clear hcz28_4
            try clear hcz28_5
            try clear hcz8_0
            try clear hcz8_1
            try clear hcz8_2
            try clear hcz8_3
            try clear hfz12_0
            try clear hfz12_1
            try clear hfz12_2
            try clear hfz12_3
            try clear hfz12_4
            try clear hfz12_5
            try clear hfz16_0
            try clear hfz16_1
            try clear hfz16_2
            try clear hfz16_3
            try clear hfz20_0
            try clear hfz20_1
            try clear hfz20_2
            try clear hfz20_3
            try clear hfz20_4
            try clear hfz20_5
            try clear hfz24_0
            try clear hfz24_1
            try clear hfz24_2
            try clear hfz24_3
            try clear hfz28_0
            try clear hfz28_1
            try clear hfz28_2
            try clear hfz28_3
            try clear hfz28_4
            try clear hfz28_5
            try clear hfz8_0
            try clear hfz8_1
            try clear hfz8_2
            try clear hfz8_3
            try clear p2
            obtain ⟨kq, x5_21, rfl, HA, HJ21, BK108, BK109, HB⟩ := hcut
            cases kq with
            | zero => exact absurd HA.out (by simp [vesperref16_Word_word.j2])
            | succ kj21 =>
              have H := HA.out
              clear HA
              simp only [vesperref16_Word_word.j2] at H
              replace H := Option.bind_eq_some_iff.mp H
              obtain ⟨t113, A290, H⟩ := H
              replace H : (if t113 = true then ((vesperref16_Word_has.f kj21 a0_0 a0_1 a0_2 a0_3 97).bind fun t114 => (if t114 = true then (some (IntKind.u16.wrap ((IntKind.u16.wrap (x5_21 + (IntKind.u16.wrap (a1_4)))) + a1_5))) else (some (IntKind.u16.wrap (x5_21 + (IntKind.u16.wrap (a1_4))))))) else ((vesperref16_Word_has.f kj21 a0_0 a0_1 a0_2 a0_3 97).bind fun t115 => (if t115 = true then (some (IntKind.u16.wrap (x5_21 + a1_5))) else (some x5_21)))) = some r := H
              have A29 := Aside0.mk A290
              clear A290
              by_cases c30 : t113 = true
              · subst c30
                have H1 : ((vesperref16_Word_has.f kj21 a0_0 a0_1 a0_2 a0_3 97).bind fun t114 => (if t114 = true then (some (IntKind.u16.wrap ((IntKind.u16.wrap (x5_21 + (IntKind.u16.wrap (a1_4)))) + a1_5))) else (some (IntKind.u16.wrap (x5_21 + (IntKind.u16.wrap (a1_4))))))) = some r := by rw [if_pos rfl] at H; exact H
                clear H
                have H := H1
                clear H1
                replace H := Option.bind_eq_some_iff.mp H
                obtain ⟨t114, A310, H⟩ := H
                replace H : (if t114 = true then (some (IntKind.u16.wrap ((IntKind.u16.wrap (x5_21 + (IntKind.u16.wrap (a1_4)))) + a1_5))) else (some (IntKind.u16.wrap (x5_21 + (IntKind.u16.wrap (a1_4)))))) = some r := H
                have A31 := Aside0.mk A310
                clear A310
                by_cases c32 : t114 = true
                · subst c32
                  have H1 : (some (IntKind.u16.wrap ((IntKind.u16.wrap (x5_21 + (IntKind.u16.wrap (a1_4)))) + a1_5))) = some r := by rw [if_pos rfl] at H; exact H
                  clear H
                  have H := H1
                  clear H1
                  obtain rfl := Option.some.inj H
                  have hnb33 := NB108_109.out
                  have hnc33 := NB109_108.out
                  have hcz34_0 : wc.cell? ⟨gb108, 0, none⟩ = some (.int .u8 a0_0) := (blk_cell BK108.out 0).trans rfl
                  have hcz34_1 : wc.cell? ⟨gb108, 1, none⟩ = some (.int .u16 a0_1) := (blk_cell BK108.out 1).trans rfl
                  have hcz34_2 : wc.cell? ⟨gb108, 2, none⟩ = some (.string a0_2) := (blk_cell BK108.out 2).trans rfl
                  have hcz34_3 : wc.cell? ⟨gb108, 3, none⟩ = some (.string a0_3) := (blk_cell BK108.out 3).trans rfl
                  have hfz34_0 := blk_frozen BK108.out 0
                  have hfz34_1 := blk_frozen BK108.out 1
                  have hfz34_2 := blk_frozen BK108.out 2
                  have hfz34_3 := blk_frozen BK108.out 3
                  go_wp2_with (first | ((with_reducible refine gate_callee (f := 13) rfl ?_); refine goesL_ (some 32) rfl rfl Try.func13 (by kernel_rfl) rfl #[.agg #[.int .u8 a0_0, .int .u16 a0_1, .string a0_2, .string a0_3], .int .u8 98] rfl (by (try simp only [List.map_toArray, List.map_cons, List.map_nil]); first | done | rfl | (simp only [List.length_drop, List.length_take]; rfl)) ?_; (with_reducible refine (vesperref16_Word_has.calls kj21 a0_0 a0_1 a0_2 a0_3 98 true _ A29.out).mono ?_); rintro e w35 ⟨rfl, hb⟩; refine ⟨_, rfl, ?_⟩; have n0_ := Aside0.mk (blk_below (g := gb108) (o := .cells #[.int .u8 a0_0, .int .u16 a0_1, .string a0_2, .string a0_3] 36 (0, 0)) (by (with_reducible repeat (first | refine blk_drewN ?_ _ | refine blk_drew ?_ | refine blk_alloc ?_ _)); exact BK108.out) hb); have n1_ := Aside0.mk (blk_below (g := gb109) (o := .cells #[.int .u8 a1_0, .int .u8 a1_1, .int .u8 a1_2, .int .u8 a1_3, .int .u8 a1_4, .int .u16 a1_5] 25 (0, 0)) (by (with_reducible repeat (first | refine blk_drewN ?_ _ | refine blk_drew ?_ | refine blk_alloc ?_ _)); exact BK109.out) hb); have n2_ := Aside0.mk (below_step (by repeat (first | (with_reducible first | exact HB.out | apply below_alloc | apply pw_below_drewN | apply below_drew1 | refine below_set ?_ GE108.out | refine below_set ?_ GE109.out) | exact HB.out)) hb); clear BK108; clear BK109; clear HB; have BK108 := n0_; have BK109 := n1_; have HB := n2_; clear n0_ n1_ n2_; (try clear hb); (try clear hb2); (try clear hk); (try clear hi); have hcz36_0 : w35.cell? ⟨gb109, 0, none⟩ = some (.int .u8 a1_0) := (blk_cell BK109.out 0).trans rfl; have hcz36_1 : w35.cell? ⟨gb109, 1, none⟩ = some (.int .u8 a1_1) := (blk_cell BK109.out 1).trans rfl; have hcz36_2 : w35.cell? ⟨gb109, 2, none⟩ = some (.int .u8 a1_2) := (blk_cell BK109.out 2).trans rfl; have hcz36_3 : w35.cell? ⟨gb109, 3, none⟩ = some (.int .u8 a1_3) := (blk_cell BK109.out 3).trans rfl; have hcz36_4 : w35.cell? ⟨gb109, 4, none⟩ = some (.int .u8 a1_4) := (blk_cell BK109.out 4).trans rfl; have hcz36_5 : w35.cell? ⟨gb109, 5, none⟩ = some (.int .u16 a1_5) := (blk_cell BK109.out 5).trans rfl; have hfz36_0 := blk_frozen BK109.out 0; have hfz36_1 := blk_frozen BK109.out 1; have hfz36_2 := blk_frozen BK109.out 2; have hfz36_3 := blk_frozen BK109.out 3; have hfz36_4 := blk_frozen BK109.out 4; have hfz36_5 := blk_frozen BK109.out 5; have hcz37_0 : w35.cell? ⟨gb108, 0, none⟩ = some (.int .u8 a0_0) := (blk_cell BK108.out 0).trans rfl; have hcz37_1 : w35.cell? ⟨gb108, 1, none⟩ = some (.int .u16 a0_1) := (blk_cell BK108.out 1).trans rfl; have hcz37_2 : w35.cell? ⟨gb108, 2, none⟩ = some (.string a0_2) := (blk_cell BK108.out 2).trans rfl; have hcz37_3 : w35.cell? ⟨gb108, 3, none⟩ = some (.string a0_3) := (blk_cell BK108.out 3).trans rfl; have hfz37_0 := blk_frozen BK108.out 0; have hfz37_1 := blk_frozen BK108.out 1; have hfz37_2 := blk_frozen BK108.out 2; have hfz37_3 := blk_frozen BK108.out 3) | ((with_reducible refine gate_callee (f := 13) rfl ?_); refine goesL_ (some 39) rfl rfl Try.func13 (by kernel_rfl) rfl #[.agg #[.int .u8 a0_0, .int .u16 a0_1, .string a0_2, .string a0_3], .int .u8 97] rfl (by (try simp only [List.map_toArray, List.map_cons, List.map_nil]); first | done | rfl | (simp only [List.length_drop, List.length_take]; rfl)) ?_; (with_reducible refine (vesperref16_Word_has.calls kj21 a0_0 a0_1 a0_2 a0_3 97 true _ A31.out).mono ?_); rintro e w38 ⟨rfl, hb⟩; refine ⟨_, rfl, ?_⟩; have n0_ := Aside0.mk (blk_below (g := gb108) (o := .cells #[.int .u8 a0_0, .int .u16 a0_1, .string a0_2, .string a0_3] 36 (0, 0)) (by (with_reducible repeat (first | refine blk_drewN ?_ _ | refine blk_drew ?_ | refine blk_alloc ?_ _)); exact BK108.out) hb); have n1_ := Aside0.mk (blk_below (g := gb109) (o := .cells #[.int .u8 a1_0, .int .u8 a1_1, .int .u8 a1_2, .int .u8 a1_3, .int .u8 a1_4, .int .u16 a1_5] 25 (0, 0)) (by (with_reducible repeat (first | refine blk_drewN ?_ _ | refine blk_drew ?_ | refine blk_alloc ?_ _)); exact BK109.out) hb); have n2_ := Aside0.mk (below_step (by repeat (first | (with_reducible first | exact HB.out | apply below_alloc | apply pw_below_drewN | apply below_drew1 | refine below_set ?_ GE108.out | refine below_set ?_ GE109.out) | exact HB.out)) hb); clear BK108; clear BK109; clear HB; have BK108 := n0_; have BK109 := n1_; have HB := n2_; clear n0_ n1_ n2_; (try clear hb); (try clear hb2); (try clear hk); (try clear hi); have hcz39_0 : w38.cell? ⟨gb109, 0, none⟩ = some (.int .u8 a1_0) := (blk_cell BK109.out 0).trans rfl; have hcz39_1 : w38.cell? ⟨gb109, 1, none⟩ = some (.int .u8 a1_1) := (blk_cell BK109.out 1).trans rfl; have hcz39_2 : w38.cell? ⟨gb109, 2, none⟩ = some (.int .u8 a1_2) := (blk_cell BK109.out 2).trans rfl; have hcz39_3 : w38.cell? ⟨gb109, 3, none⟩ = some (.int .u8 a1_3) := (blk_cell BK109.out 3).trans rfl; have hcz39_4 : w38.cell? ⟨gb109, 4, none⟩ = some (.int .u8 a1_4) := (blk_cell BK109.out 4).trans rfl; have hcz39_5 : w38.cell? ⟨gb109, 5, none⟩ = some (.int .u16 a1_5) := (blk_cell BK109.out 5).trans rfl; have hfz39_0 := blk_frozen BK109.out 0; have hfz39_1 := blk_frozen BK109.out 1; have hfz39_2 := blk_frozen BK109.out 2; have hfz39_3 := blk_frozen BK109.out 3; have hfz39_4 := blk_frozen BK109.out 4; have hfz39_5 := blk_frozen BK109.out 5))
                  go_ret
                  exact ⟨by first | rfl | (simp [errW_none, errW_some] <;> rfl) | (simp [*, errW_none, errW_some] <;> rfl), by repeat (first | (with_reducible first | exact HB.out | apply below_alloc | apply pw_below_drewN | apply below_drew1 | refine below_set ?_ GE108.out | refine below_set ?_ GE109.out) | exact HB.out)⟩
                · replace c32 := Bool.eq_false_iff.mpr c32
                  subst c32
                  have H1 : (some (IntKind.u16.wrap (x5_21 + (IntKind.u16.wrap (a1_4))))) = some r := by rw [if_neg (show ¬ (false = true) by decide)] at H; exact H
                  clear H
                  have H := H1
                  clear H1
                  obtain rfl := Option.some.inj H
                  have hnb40 := NB108_109.out
                  have hnc40 := NB109_108.out
                  have hcz41_0 : wc.cell? ⟨gb108, 0, none⟩ = some (.int .u8 a0_0) := (blk_cell BK108.out 0).trans rfl
                  have hcz41_1 : wc.cell? ⟨gb108, 1, none⟩ = some (.int .u16 a0_1) := (blk_cell BK108.out 1).trans rfl
                  have hcz41_2 : wc.cell? ⟨gb108, 2, none⟩ = some (.string a0_2) := (blk_cell BK108.out 2).trans rfl
                  have hcz41_3 : wc.cell? ⟨gb108, 3, none⟩ = some (.string a0_3) := (blk_cell BK108.out 3).trans rfl
                  have hfz41_0 := blk_frozen BK108.out 0
                  have hfz41_1 := blk_frozen BK108.out 1
                  have hfz41_2 := blk_frozen BK108.out 2
                  have hfz41_3 := blk_frozen BK108.out 3
                  go_wp2_with (first | ((with_reducible refine gate_callee (f := 13) rfl ?_); refine goesL_ (some 32) rfl rfl Try.func13 (by kernel_rfl) rfl #[.agg #[.int .u8 a0_0, .int .u16 a0_1, .string a0_2, .string a0_3], .int .u8 98] rfl (by (try simp only [List.map_toArray, List.map_cons, List.map_nil]); first | done | rfl | (simp only [List.length_drop, List.length_take]; rfl)) ?_; (with_reducible refine (vesperref16_Word_has.calls kj21 a0_0 a0_1 a0_2 a0_3 98 true _ A29.out).mono ?_); rintro e w42 ⟨rfl, hb⟩; refine ⟨_, rfl, ?_⟩; have n0_ := Aside0.mk (blk_below (g := gb108) (o := .cells #[.int .u8 a0_0, .int .u16 a0_1, .string a0_2, .string a0_3] 36 (0, 0)) (by (with_reducible repeat (first | refine blk_drewN ?_ _ | refine blk_drew ?_ | refine blk_alloc ?_ _)); exact BK108.out) hb); have n1_ := Aside0.mk (blk_below (g := gb109) (o := .cells #[.int .u8 a1_0, .int .u8 a1_1, .int .u8 a1_2, .int .u8 a1_3, .int .u8 a1_4, .int .u16 a1_5] 25 (0, 0)) (by (with_reducible repeat (first | refine blk_drewN ?_ _ | refine blk_drew ?_ | refine blk_alloc ?_ _)); exact BK109.out) hb); have n2_ := Aside0.mk (below_step (by repeat (first | (with_reducible first | exact HB.out | apply below_alloc | apply pw_below_drewN | apply below_drew1 | refine below_set ?_ GE108.out | refine below_set ?_ GE109.out) | exact HB.out)) hb); clear BK108; clear BK109; clear HB; have BK108 := n0_; have BK109 := n1_; have HB := n2_; clear n0_ n1_ n2_; (try clear hb); (try clear hb2); (try clear hk); (try clear hi); have hcz43_0 : w42.cell? ⟨gb109, 0, none⟩ = some (.int .u8 a1_0) := (blk_cell BK109.out 0).trans rfl; have hcz43_1 : w42.cell? ⟨gb109, 1, none⟩ = some (.int .u8 a1_1) := (blk_cell BK109.out 1).trans rfl; have hcz43_2 : w42.cell? ⟨gb109, 2, none⟩ = some (.int .u8 a1_2) := (blk_cell BK109.out 2).trans rfl; have hcz43_3 : w42.cell? ⟨gb109, 3, none⟩ = some (.int .u8 a1_3) := (blk_cell BK109.out 3).trans rfl; have hcz43_4 : w42.cell? ⟨gb109, 4, none⟩ = some (.int .u8 a1_4) := (blk_cell BK109.out 4).trans rfl; have hcz43_5 : w42.cell? ⟨gb109, 5, none⟩ = some (.int .u16 a1_5) := (blk_cell BK109.out 5).trans rfl; have hfz43_0 := blk_frozen BK109.out 0; have hfz43_1 := blk_frozen BK109.out 1; have hfz43_2 := blk_frozen BK109.out 2; have hfz43_3 := blk_frozen BK109.out 3; have hfz43_4 := blk_frozen BK109.out 4; have hfz43_5 := blk_frozen BK109.out 5; have hcz44_0 : w42.cell? ⟨gb108, 0, none⟩ = some (.int .u8 a0_0) := (blk_cell BK108.out 0).trans rfl; have hcz44_1 : w42.cell? ⟨gb108, 1, none⟩ = some (.int .u16 a0_1) := (blk_cell BK108.out 1).trans rfl; have hcz44_2 : w42.cell? ⟨gb108, 2, none⟩ = some (.string a0_2) := (blk_cell BK108.out 2).trans rfl; have hcz44_3 : w42.cell? ⟨gb108, 3, none⟩ = some (.string a0_3) := (blk_cell BK108.out 3).trans rfl; have hfz44_0 := blk_frozen BK108.out 0; have hfz44_1 := blk_frozen BK108.out 1; have hfz44_2 := blk_frozen BK108.out 2; have hfz44_3 := blk_frozen BK108.out 3) | ((with_reducible refine gate_callee (f := 13) rfl ?_); refine goesL_ (some 39) rfl rfl Try.func13 (by kernel_rfl) rfl #[.agg #[.int .u8 a0_0, .int .u16 a0_1, .string a0_2, .string a0_3], .int .u8 97] rfl (by (try simp only [List.map_toArray, List.map_cons, List.map_nil]); first | done | rfl | (simp only [List.length_drop, List.length_take]; rfl)) ?_; (with_reducible refine (vesperref16_Word_has.calls kj21 a0_0 a0_1 a0_2 a0_3 97 false _ A31.out).mono ?_); rintro e w45 ⟨rfl, hb⟩; refine ⟨_, rfl, ?_⟩; have n0_ := Aside0.mk (blk_below (g := gb108) (o := .cells #[.int .u8 a0_0, .int .u16 a0_1, .string a0_2, .string a0_3] 36 (0, 0)) (by (with_reducible repeat (first | refine blk_drewN ?_ _ | refine blk_drew ?_ | refine blk_alloc ?_ _)); exact BK108.out) hb); have n1_ := Aside0.mk (blk_below (g := gb109) (o := .cells #[.int .u8 a1_0, .int .u8 a1_1, .int .u8 a1_2, .int .u8 a1_3, .int .u8 a1_4, .int .u16 a1_5] 25 (0, 0)) (by (with_reducible repeat (first | refine blk_drewN ?_ _ | refine blk_drew ?_ | refine blk_alloc ?_ _)); exact BK109.out) hb); have n2_ := Aside0.mk (below_step (by repeat (first | (with_reducible first | exact HB.out | apply below_alloc | apply pw_below_drewN | apply below_drew1 | refine below_set ?_ GE108.out | refine below_set ?_ GE109.out) | exact HB.out)) hb); clear BK108; clear BK109; clear HB; have BK108 := n0_; have BK109 := n1_; have HB := n2_; clear n0_ n1_ n2_; (try clear hb); (try clear hb2); (try clear hk); (try clear hi)))
                  go_ret
                  exact ⟨by first | rfl | (simp [errW_none, errW_some] <;> rfl) | (simp [*, errW_none, errW_some] <;> rfl), by repeat (first | (with_reducible first | exact HB.out | apply below_alloc | apply pw_below_drewN | apply below_drew1 | refine below_set ?_ GE108.out | refine below_set ?_ GE109.out) | exact HB.out)⟩
              · replace c30 := Bool.eq_false_iff.mpr c30
                subst c30
                have H1 : ((vesperref16_Word_has.f kj21 a0_0 a0_1 a0_2 a0_3 97).bind fun t115 => (if t115 = true then (some (IntKind.u16.wrap (x5_21 + a1_5))) else (some x5_21))) = some r := by rw [if_neg (show ¬ (false = true) by decide)] at H; exact H
                clear H
                have H := H1
                clear H1
                replace H := Option.bind_eq_some_iff.mp H
                obtain ⟨t115, A460, H⟩ := H
                replace H : (if t115 = true then (some (IntKind.u16.wrap (x5_21 + a1_5))) else (some x5_21)) = some r := H
                have A46 := Aside0.mk A460
                clear A460
                by_cases c47 : t115 = true
                · subst c47
                  have H1 : (some (IntKind.u16.wrap (x5_21 + a1_5))) = some r := by rw [if_pos rfl] at H; exact H
                  clear H
                  have H := H1
                  clear H1
                  obtain rfl := Option.some.inj H
                  have hnb48 := NB108_109.out
                  have hnc48 := NB109_108.out
                  have hcz49_0 : wc.cell? ⟨gb108, 0, none⟩ = some (.int .u8 a0_0) := (blk_cell BK108.out 0).trans rfl
                  have hcz49_1 : wc.cell? ⟨gb108, 1, none⟩ = some (.int .u16 a0_1) := (blk_cell BK108.out 1).trans rfl
                  have hcz49_2 : wc.cell? ⟨gb108, 2, none⟩ = some (.string a0_2) := (blk_cell BK108.out 2).trans rfl
                  have hcz49_3 : wc.cell? ⟨gb108, 3, none⟩ = some (.string a0_3) := (blk_cell BK108.out 3).trans rfl
                  have hfz49_0 := blk_frozen BK108.out 0
                  have hfz49_1 := blk_frozen BK108.out 1
                  have hfz49_2 := blk_frozen BK108.out 2
                  have hfz49_3 := blk_frozen BK108.out 3
                  go_wp2_with (first | ((with_reducible refine gate_callee (f := 13) rfl ?_); refine goesL_ (some 32) rfl rfl Try.func13 (by kernel_rfl) rfl #[.agg #[.int .u8 a0_0, .int .u16 a0_1, .string a0_2, .string a0_3], .int .u8 98] rfl (by (try simp only [List.map_toArray, List.map_cons, List.map_nil]); first | done | rfl | (simp only [List.length_drop, List.length_take]; rfl)) ?_; (with_reducible refine (vesperref16_Word_has.calls kj21 a0_0 a0_1 a0_2 a0_3 98 false _ A29.out).mono ?_); rintro e w50 ⟨rfl, hb⟩; refine ⟨_, rfl, ?_⟩; have n0_ := Aside0.mk (blk_below (g := gb108) (o := .cells #[.int .u8 a0_0, .int .u16 a0_1, .string a0_2, .string a0_3] 36 (0, 0)) (by (with_reducible repeat (first | refine blk_drewN ?_ _ | refine blk_drew ?_ | refine blk_alloc ?_ _)); exact BK108.out) hb); have n1_ := Aside0.mk (blk_below (g := gb109) (o := .cells #[.int .u8 a1_0, .int .u8 a1_1, .int .u8 a1_2, .int .u8 a1_3, .int .u8 a1_4, .int .u16 a1_5] 25 (0, 0)) (by (with_reducible repeat (first | refine blk_drewN ?_ _ | refine blk_drew ?_ | refine blk_alloc ?_ _)); exact BK109.out) hb); have n2_ := Aside0.mk (below_step (by repeat (first | (with_reducible first | exact HB.out | apply below_alloc | apply pw_below_drewN | apply below_drew1 | refine below_set ?_ GE108.out | refine below_set ?_ GE109.out) | exact HB.out)) hb); clear BK108; clear BK109; clear HB; have BK108 := n0_; have BK109 := n1_; have HB := n2_; clear n0_ n1_ n2_; (try clear hb); (try clear hb2); (try clear hk); (try clear hi); have hcz51_0 : w50.cell? ⟨gb108, 0, none⟩ = some (.int .u8 a0_0) := (blk_cell BK108.out 0).trans rfl; have hcz51_1 : w50.cell? ⟨gb108, 1, none⟩ = some (.int .u16 a0_1) := (blk_cell BK108.out 1).trans rfl; have hcz51_2 : w50.cell? ⟨gb108, 2, none⟩ = some (.string a0_2) := (blk_cell BK108.out 2).trans rfl; have hcz51_3 : w50.cell? ⟨gb108, 3, none⟩ = some (.string a0_3) := (blk_cell BK108.out 3).trans rfl; have hfz51_0 := blk_frozen BK108.out 0; have hfz51_1 := blk_frozen BK108.out 1; have hfz51_2 := blk_frozen BK108.out 2; have hfz51_3 := blk_frozen BK108.out 3) | ((with_reducible refine gate_callee (f := 13) rfl ?_); refine goesL_ (some 39) rfl rfl Try.func13 (by kernel_rfl) rfl #[.agg #[.int .u8 a0_0, .int .u16 a0_1, .string a0_2, .string a0_3], .int .u8 97] rfl (by (try simp only [List.map_toArray, List.map_cons, List.map_nil]); first | done | rfl | (simp only [List.length_drop, List.length_take]; rfl)) ?_; (with_reducible refine (vesperref16_Word_has.calls kj21 a0_0 a0_1 a0_2 a0_3 97 true _ A46.out).mono ?_); rintro e w52 ⟨rfl, hb⟩; refine ⟨_, rfl, ?_⟩; have n0_ := Aside0.mk (blk_below (g := gb108) (o := .cells #[.int .u8 a0_0, .int .u16 a0_1, .string a0_2, .string a0_3] 36 (0, 0)) (by (with_reducible repeat (first | refine blk_drewN ?_ _ | refine blk_drew ?_ | refine blk_alloc ?_ _)); exact BK108.out) hb); have n1_ := Aside0.mk (blk_below (g := gb109) (o := .cells #[.int .u8 a1_0, .int .u8 a1_1, .int .u8 a1_2, .int .u8 a1_3, .int .u8 a1_4, .int .u16 a1_5] 25 (0, 0)) (by (with_reducible repeat (first | refine blk_drewN ?_ _ | refine blk_drew ?_ | refine blk_alloc ?_ _)); exact BK109.out) hb); have n2_ := Aside0.mk (below_step (by repeat (first | (with_reducible first | exact HB.out | apply below_alloc | apply pw_below_drewN | apply below_drew1 | refine below_set ?_ GE108.out | refine below_set ?_ GE109.out) | exact HB.out)) hb); clear BK108; clear BK109; clear HB; have BK108 := n0_; have BK109 := n1_; have HB := n2_; clear n0_ n1_ n2_; (try clear hb); (try clear hb2); (try clear hk); (try clear hi); have hcz53_0 : w52.cell? ⟨gb109, 0, none⟩ = some (.int .u8 a1_0) := (blk_cell BK109.out 0).trans rfl; have hcz53_1 : w52.cell? ⟨gb109, 1, none⟩ = some (.int .u8 a1_1) := (blk_cell BK109.out 1).trans rfl; have hcz53_2 : w52.cell? ⟨gb109, 2, none⟩ = some (.int .u8 a1_2) := (blk_cell BK109.out 2).trans rfl; have hcz53_3 : w52.cell? ⟨gb109, 3, none⟩ = some (.int .u8 a1_3) := (blk_cell BK109.out 3).trans rfl; have hcz53_4 : w52.cell? ⟨gb109, 4, none⟩ = some (.int .u8 a1_4) := (blk_cell BK109.out 4).trans rfl; have hcz53_5 : w52.cell? ⟨gb109, 5, none⟩ = some (.int .u16 a1_5) := (blk_cell BK109.out 5).trans rfl; have hfz53_0 := blk_frozen BK109.out 0; have hfz53_1 := blk_frozen BK109.out 1; have hfz53_2 := blk_frozen BK109.out 2; have hfz53_3 := blk_frozen BK109.out 3; have hfz53_4 := blk_frozen BK109.out 4; have hfz53_5 := blk_frozen BK109.out 5))
                  go_ret
                  exact ⟨by first | rfl | (simp [errW_none, errW_some] <;> rfl) | (simp [*, errW_none, errW_some] <;> rfl), by repeat (first | (with_reducible first | exact HB.out | apply below_alloc | apply pw_below_drewN | apply below_drew1 | refine below_set ?_ GE108.out | refine below_set ?_ GE109.out) | exact HB.out)⟩
                · replace c47 := Bool.eq_false_iff.mpr c47
                  subst c47
                  have H1 : (some x5_21) = some r := by rw [if_neg (show ¬ (false = true) by decide)] at H; exact H
                  clear H
                  have H := H1
                  clear H1
                  obtain rfl := Option.some.inj H
                  have hnb54 := NB108_109.out
                  have hnc54 := NB109_108.out
                  have hcz55_0 : wc.cell? ⟨gb108, 0, none⟩ = some (.int .u8 a0_0) := (blk_cell BK108.out 0).trans rfl
                  have hcz55_1 : wc.cell? ⟨gb108, 1, none⟩ = some (.int .u16 a0_1) := (blk_cell BK108.out 1).trans rfl
                  have hcz55_2 : wc.cell? ⟨gb108, 2, none⟩ = some (.string a0_2) := (blk_cell BK108.out 2).trans rfl
                  have hcz55_3 : wc.cell? ⟨gb108, 3, none⟩ = some (.string a0_3) := (blk_cell BK108.out 3).trans rfl
                  have hfz55_0 := blk_frozen BK108.out 0
                  have hfz55_1 := blk_frozen BK108.out 1
                  have hfz55_2 := blk_frozen BK108.out 2
                  have hfz55_3 := blk_frozen BK108.out 3
                  go_wp2_with (first | ((with_reducible refine gate_callee (f := 13) rfl ?_); refine goesL_ (some 32) rfl rfl Try.func13 (by kernel_rfl) rfl #[.agg #[.int .u8 a0_0, .int .u16 a0_1, .string a0_2, .string a0_3], .int .u8 98] rfl (by (try simp only [List.map_toArray, List.map_cons, List.map_nil]); first | done | rfl | (simp only [List.length_drop, List.length_take]; rfl)) ?_; (with_reducible refine (vesperref16_Word_has.calls kj21 a0_0 a0_1 a0_2 a0_3 98 false _ A29.out).mono ?_); rintro e w56 ⟨rfl, hb⟩; refine ⟨_, rfl, ?_⟩; have n0_ := Aside0.mk (blk_below (g := gb108) (o := .cells #[.int .u8 a0_0, .int .u16 a0_1, .string a0_2, .string a0_3] 36 (0, 0)) (by (with_reducible repeat (first | refine blk_drewN ?_ _ | refine blk_drew ?_ | refine blk_alloc ?_ _)); exact BK108.out) hb); have n1_ := Aside0.mk (blk_below (g := gb109) (o := .cells #[.int .u8 a1_0, .int .u8 a1_1, .int .u8 a1_2, .int .u8 a1_3, .int .u8 a1_4, .int .u16 a1_5] 25 (0, 0)) (by (with_reducible repeat (first | refine blk_drewN ?_ _ | refine blk_drew ?_ | refine blk_alloc ?_ _)); exact BK109.out) hb); have n2_ := Aside0.mk (below_step (by repeat (first | (with_reducible first | exact HB.out | apply below_alloc | apply pw_below_drewN | apply below_drew1 | refine below_set ?_ GE108.out | refine below_set ?_ GE109.out) | exact HB.out)) hb); clear BK108; clear BK109; clear HB; have BK108 := n0_; have BK109 := n1_; have HB := n2_; clear n0_ n1_ n2_; (try clear hb); (try clear hb2); (try clear hk); (try clear hi); have hcz57_0 : w56.cell? ⟨gb108, 0, none⟩ = some (.int .u8 a0_0) := (blk_cell BK108.out 0).trans rfl; have hcz57_1 : w56.cell? ⟨gb108, 1, none⟩ = some (.int .u16 a0_1) := (blk_cell BK108.out 1).trans rfl; have hcz57_2 : w56.cell? ⟨gb108, 2, none⟩ = some (.string a0_2) := (blk_cell BK108.out 2).trans rfl; have hcz57_3 : w56.cell? ⟨gb108, 3, none⟩ = some (.string a0_3) := (blk_cell BK108.out 3).trans rfl; have hfz57_0 := blk_frozen BK108.out 0; have hfz57_1 := blk_frozen BK108.out 1; have hfz57_2 := blk_frozen BK108.out 2; have hfz57_3 := blk_frozen BK108.out 3) | ((with_reducible refine gate_callee (f := 13) rfl ?_); refine goesL_ (some 39) rfl rfl Try.func13 (by kernel_rfl) rfl #[.agg #[.int .u8 a0_0, .int .u16 a0_1, .string a0_2, .string a0_3], .int .u8 97] rfl (by (try simp only [List.map_toArray, List.map_cons, List.map_nil]); first | done | rfl | (simp only [List.length_drop, List.length_take]; rfl)) ?_; (with_reducible refine (vesperref16_Word_has.calls kj21 a0_0 a0_1 a0_2 a0_3 97 false _ A46.out).mono ?_); rintro e w58 ⟨rfl, hb⟩; refine ⟨_, rfl, ?_⟩; have n0_ := Aside0.mk (blk_below (g := gb108) (o := .cells #[.int .u8 a0_0, .int .u16 a0_1, .string a0_2, .string a0_3] 36 (0, 0)) (by (with_reducible repeat (first | refine blk_drewN ?_ _ | refine blk_drew ?_ | refine blk_alloc ?_ _)); exact BK108.out) hb); have n1_ := Aside0.mk (blk_below (g := gb109) (o := .cells #[.int .u8 a1_0, .int .u8 a1_1, .int .u8 a1_2, .int .u8 a1_3, .int .u8 a1_4, .int .u16 a1_5] 25 (0, 0)) (by (with_reducible repeat (first | refine blk_drewN ?_ _ | refine blk_drew ?_ | refine blk_alloc ?_ _)); exact BK109.out) hb); have n2_ := Aside0.mk (below_step (by repeat (first | (with_reducible first | exact HB.out | apply below_alloc | apply pw_below_drewN | apply below_drew1 | refine below_set ?_ GE108.out | refine below_set ?_ GE109.out) | exact HB.out)) hb); clear BK108; clear BK109; clear HB; have BK108 := n0_; have BK109 := n1_; have HB := n2_; clear n0_ n1_ n2_; (try clear hb); (try clear hb2); (try clear hk); (try clear hi)))
                  go_ret
                  exact ⟨by first | rfl | (simp [errW_none, errW_some] <;> rfl) | (simp [*, errW_none, errW_some] <;> rfl), by repeat (first | (with_reducible first | exact HB.out | apply below_alloc | apply pw_below_drewN | apply below_drew1 | refine below_set ?_ GE108.out | refine below_set ?_ GE109.out) | exact HB.out)⟩

end Go.Proofs.Ytffbkmcaecmmgaa.PInterBounds
