/- The walk of the objects' shown: it answers true. -/
import Derived.Test.YtgffjhbmggmcoaaGScan
import Derived.KernelRfl
import Derived.Test.YtgffjhbmggmcoaaPF9
import Derived.Test.YtgffjhbmggmcoaaPF10
import Derived.Test.YtgffjhbmggmcoaaPF12
namespace Go.Proofs.Ytgffjhbmggmcoaa.PF
open Go.RowKit Go.Shelf Go.Lib Go.Proofs.YtgffjhbmggmcoaaW.PrintWords
set_option linter.unusedVariables false
def whirligiglaw16_shown.f : Option Bool := some true
theorem scan_shown : scanL [16, 8] 0 false = [⟨16, 8, 0, 0, 0⟩] := by kernel_rfl
theorem row_shown : objects_Row.f 16 0 5 0 0 9 true = some (5, 1, true) := by kernel_rfl
theorem column_shown : objects_Column.f 5 0 8 0 32 0 3 = some (4, true) := by kernel_rfl
theorem extra_shown : objects_Extra.f 5 [⟨16, 8, 0, 0, 0⟩] 0 = some 11 := by kernel_rfl
set_option maxHeartbeats 1000000 in
theorem whirligiglaw16_shown.calls (r : Bool) (w : World) (h : whirligiglaw16_shown.f = some r) :
    Calls Try.prog 5 #[] w fun e w' => e = .returned (.bool r) ∧ Below w.heap.size w w' := by
  obtain rfl : true = r := by simpa [whirligiglaw16_shown.f] using h
  clear h
  go_enter Try.func5, Try.ntmps5
  go_wp2_with fail
  refine (objects_Row.calls 16 0 5 0 0 9 true 5 1 true _ row_shown).mono ?_
  rintro e w1 ⟨rfl, hb1⟩
  have HB1 := Aside0.mk hb1
  clear hb1
  go_wp2_with fail
  refine (objects_Column.calls 5 0 8 0 32 0 3 4 true _ column_shown).mono ?_
  rintro e w2 ⟨rfl, hb2⟩
  have HB2 := Aside0.mk (HB1.out.trans ⟨hb2.os, hb2.tape, hb2.output, hb2.size, fun q hq => hb2.block q (by have := HB1.out.size; omega)⟩)
  clear hb2 HB1
  go_wp2_with fail
  have hrd : Kd.C (Kd.int .u8) (w2.alloc (.cells #[.int .u8 16, .int .u8 8] 5)) (some ⟨w2.heap.size, 0, none⟩) ([16, 8] : List Int).length [16, 8] := by
    refine Kd.C_of_reads (d := (0 : Int)) (h1 := fun _ => rfl) ⟨rfl, by decide, fun _ => ⟨_, rfl, fun j hj => ?_⟩⟩
    rw [add_plain]
    have hj2 : j < 2 := hj
    rcases j with _ | _ | j
    · simp
    · simp
    · omega
  have hsc : Calls Try.prog 11 #[.slice (some ⟨w2.heap.size, 0, none⟩) 2 2, .int .i64 0, .bool false] (w2.alloc (.cells #[.int .u8 16, .int .u8 8] 5)) _ := scan_calls (some ⟨w2.heap.size, 0, none⟩) 2 [16, 8] 0 false _ hrd (Nat.le_refl _)
  rw [scan_shown] at hsc
  refine Calls.mono hsc ?_
  rintro e w3 ⟨A, n, rfl, hC3, hb3⟩
  have HB3 := Aside0.mk (HB2.out.trans (((Below.refl w2.heap.size w2).alloc (Nat.le_refl _) (.cells #[.int .u8 16, .int .u8 8] 5)).trans ⟨hb3.os, hb3.tape, hb3.output, hb3.size, fun q hq => hb3.block q (by simp; omega)⟩ |> fun h => ⟨h.os, h.tape, h.output, h.size, fun q hq => h.block q (by have := HB2.out.size; omega)⟩))
  obtain rfl : 1 = n := hC3.1
  have hex : ∀ W, Below w3.heap.size w3 W → Calls Try.prog 12 #[.slice A 1 1, .int .u8 0] W fun e w' => e = .returned (.int .i64 11) ∧ Below W.heap.size W w' := fun W hb =>
    objects_Extra.calls 5 A 1 [⟨16, 8, 0, 0, 0⟩] 0 11 W (Kd.C_below hC3 hb) (Nat.le_refl _) extra_shown
  have HEX := Aside0.mk hex
  clear hsc hrd hC3 hb3 hex HB2
  go_wp2_with fail
  refine (HEX.out _ (by first | exact Below.refl _ _ | exact below_drew (Below.refl _ _))).mono ?_
  rintro e w4 ⟨rfl, hb4⟩
  have HB4 := Aside0.mk (HB3.out.trans ⟨hb4.os, hb4.tape, hb4.output, hb4.size, fun q hq => hb4.block q (by have := HB3.out.size; omega)⟩)
  clear hb4
  go_wp2
  go_ret
  exact ⟨rfl, HB4.out⟩
end Go.Proofs.Ytgffjhbmggmcoaa.PF
