/- Texts of this claim, put together: PF85, PF70. -/
import Derived.Test.YtpjbfpheenamiaaDoorB1
import Derived.Test.YtpjbfpheenamiaaDoorB15
-- PRINTED by print.py (a twelfth state) out of the translation. Not trusted: Lean checks it.
namespace Go.Proofs.YtpjbfpheenamiaaDoor.PF
open Go.RowKit Go.Proofs.YtpjbfpheenamiaaDoorW.PrintWords Go.Proofs.YtpjbfpheenamiaaDoorW.PrintLast Go.Proofs.YtpjbfpheenamiaaDoorW.PrintMore
attribute [local go_sem] max2_int min2_int max_two min_two max_three min_three max_four min_four   -- for this text's walks alone
set_option linter.unusedVariables false
set_option linter.unusedSimpArgs false

/-! ### whirligigref01_Bit: function 85 -/
def whirligigref01_Bit.f (k : Nat) (a0 : Int) (a1 : Int) : Option (Bool) := if a1 < 0 then (some false) else (if a1 > 7 then (some false) else ((whirligigref01_power.f k a1).bind fun t284 => (if t284 = 0 then (none) else (some ((Int.tmod (wrap64 (Int.tdiv (wrap64 (a0)) t284)) 2) == 1)))))
theorem whirligigref01_Bit.mono : ∀ a0 a1 k, LeO (whirligigref01_Bit.f k a0 a1) (whirligigref01_Bit.f (k + 1) a0 a1) := by
 intro a0 a1 k
 unfold whirligigref01_Bit.f
 repeat' first
   | (with_reducible exact whirligigref01_power.mono _ _)
   | (with_reducible exact LeO.refl _)
   | (with_reducible exact LeO.none _)
   | (with_reducible refine LeO.ite ?_ ?_)
   | (with_reducible refine LeO.bind ?_ (fun _ => ?_))
   | exact whirligigref01_power.mono _ _
   | exact LeO.none _
   | refine LeO.ite ?_ ?_
   | refine LeO.bind ?_ (fun _ => ?_)
set_option maxHeartbeats 8000000 in
set_option maxRecDepth 100000 in
theorem whirligigref01_Bit.calls (k : Nat) (a0 : Int) (a1 : Int) (r : Bool) (w : World) (h : whirligigref01_Bit.f k a0 a1 = some r) :
  Calls Tryd.prog 85 #[.int .u8 a0, .int .i64 a1] w fun e w' => e = .returned (.bool r) ∧ Drawn0 w w' := by
 have H : (if a1 < 0 then (some false) else (if a1 > 7 then (some false) else ((whirligigref01_power.f k a1).bind fun t284 => (if t284 = 0 then (none) else (some ((Int.tmod (wrap64 (Int.tdiv (wrap64 (a0)) t284)) 2) == 1)))))) = some r := h
 clear h
 by_cases c3 : a1 < 0
 ·rw [if_pos c3] at H
  have c3b0 : decide (a1 < 0) = true := decide_eq_true c3
  clear c3
  obtain rfl := Option.some.inj H
  go_enter Tryd.func85, Tryd.ntmps85
  go_wp2
  go_ret
  exact ⟨by first | rfl | (simp; done) | (simp [*]; done), by repeat (first | exact Drawn0.refl _ | apply Drawn0.step)⟩
 ·rw [if_neg c3] at H
  have c3b0 : decide (a1 < 0) = false := decide_eq_false c3
  clear c3
  by_cases c4 : a1 > 7
  ·rw [if_pos c4] at H
   have c4b0 : decide (7 < a1) = true := decide_eq_true c4
   clear c4
   obtain rfl := Option.some.inj H
   go_enter Tryd.func85, Tryd.ntmps85
   go_wp2
   go_ret
   exact ⟨by first | rfl | (simp; done) | (simp [*]; done), by repeat (first | exact Drawn0.refl _ | apply Drawn0.step)⟩
  ·rw [if_neg c4] at H
   have c4b0 : decide (7 < a1) = false := decide_eq_false c4
   clear c4
   replace H := Option.bind_eq_some_iff.mp H
   obtain ⟨t284, A50, H⟩ := H
   replace H : (if t284 = 0 then (none) else (some ((Int.tmod (wrap64 (Int.tdiv (wrap64 (a0)) t284)) 2) == 1))) = some r := H
   have A5 := Aside0.mk A50
   clear A50
   by_cases c6 : t284 = 0
   ·rw [if_pos c6] at H
    exact absurd H (by simp)
   ·rw [if_neg c6] at H
    have c6b0 : (t284 == 0) = false := beq_eq_false_iff_ne.mpr c6
    have c6b1 : (t284 != 0) = true := bne_iff_ne.mpr c6
    obtain rfl := Option.some.inj H
    go_enter Tryd.func85, Tryd.ntmps85
    go_wp2_with (first | ((with_reducible refine gate_callee (f := 94) rfl ?_); refine goesL_ (some 14) rfl rfl Tryd.func94 (by kernel_rfl) rfl #[.int .i64 a1] rfl (by (try simp only [List.map_toArray, List.map_cons, List.map_nil]); first | done | rfl | (simp only [List.length_drop, List.length_take]; rfl)) ?_; (with_reducible refine (whirligigref01_power.calls k a1 t284 _ A5.out).mono ?_); rintro e w' ⟨rfl, ⟨nd, rfl⟩⟩; refine ⟨_, rfl, ?_⟩))
    go_ret
    exact ⟨by first | rfl | (simp; done) | (simp [*]; done), by repeat (first | exact Drawn0.refl _ | apply Drawn0.step)⟩

end Go.Proofs.YtpjbfpheenamiaaDoor.PF
-- PRINTED by print.py (a twelfth state) out of the translation. Not trusted: Lean checks it.
namespace Go.Proofs.YtpjbfpheenamiaaDoor.PF
open Go.RowKit Go.Proofs.YtpjbfpheenamiaaDoorW.PrintWords Go.Proofs.YtpjbfpheenamiaaDoorW.PrintLast Go.Proofs.YtpjbfpheenamiaaDoorW.PrintMore
attribute [local go_sem] max2_int min2_int max_two min_two max_three min_three max_four min_four   -- for this text's walks alone
set_option linter.unusedVariables false
set_option linter.unusedSimpArgs false

/-! ### whirligigref05_Fits: function 70 -/
mutual
def whirligigref05_Fits.l0 : Nat → ByteArray → Int → Int → Int → Int → Option (Bool × Int × Int)
 | 0, _, _, _, _, _ => none
 | k + 1, x0, x1, x7, x8, x9 => if x9 < 8 then ((whirligigref01_Bit.f k x1 (wrap64 (7 - x9))).bind fun t285 => (if t285 = true then (whirligigref05_Fits.j1 k x0 x1 x7 x8 x9 1) else (whirligigref05_Fits.j1 k x0 x1 x7 x8 x9 0))) else (some (true, x7, x8))
def whirligigref05_Fits.j1 : Nat → ByteArray → Int → Int → Int → Int → Int → Option (Bool × Int × Int)
 | 0, _, _, _, _, _, _ => none
 | k + 1, x0, x1, x7, x8, x9, x10 => if 0 ≤ x9 then (if x9 < (x0.size : Int) then (if (bt x0 x9) = 48 then (if x10 = 0 then (whirligigref05_Fits.l0 k x0 x1 x7 x8 (wrap64 (x9 + 1))) else (some (false, 0, 0))) else (if (bt x0 x9) = 49 then (if x10 = 1 then (whirligigref05_Fits.l0 k x0 x1 x7 x8 (wrap64 (x9 + 1))) else (some (false, 0, 0))) else (if (bt x0 x9) = 120 then (whirligigref05_Fits.l0 k x0 x1 (wrap64 ((wrap64 (2 * x7)) + x10)) x8 (wrap64 (x9 + 1))) else (if (bt x0 x9) = 121 then (whirligigref05_Fits.l0 k x0 x1 x7 (wrap64 ((wrap64 (2 * x8)) + x10)) (wrap64 (x9 + 1))) else (whirligigref05_Fits.l0 k x0 x1 x7 x8 (wrap64 (x9 + 1))))))) else (none)) else (none)
end
def whirligigref05_Fits.f (k : Nat) (a0 : ByteArray) (a1 : Int) : Option (Bool × Int × Int) := whirligigref05_Fits.l0 k a0 a1 0 0 0
theorem whirligigref05_Fits.mono_l : ∀ k, (∀ y0 y1 y2 y3 y4, LeO (whirligigref05_Fits.l0 k y0 y1 y2 y3 y4) (whirligigref05_Fits.l0 (k + 1) y0 y1 y2 y3 y4)) ∧ (∀ y0 y1 y2 y3 y4 y5, LeO (whirligigref05_Fits.j1 k y0 y1 y2 y3 y4 y5) (whirligigref05_Fits.j1 (k + 1) y0 y1 y2 y3 y4 y5))
 | 0 => ⟨fun _ _ _ _ _ r h => by simp [whirligigref05_Fits.l0] at h, fun _ _ _ _ _ _ r h => by simp [whirligigref05_Fits.j1] at h⟩
 | k + 1 => by
  obtain ⟨ih0, ih1⟩ := whirligigref05_Fits.mono_l k
  refine ⟨?_, ?_⟩
  ·intro y0 y1 y2 y3 y4
   unfold whirligigref05_Fits.l0
   repeat' first
   | (with_reducible exact ih0 _ _ _ _ _)
   | (with_reducible exact ih1 _ _ _ _ _ _)
   | (with_reducible exact whirligigref01_Bit.mono _ _ _)
   | (with_reducible exact LeO.refl _)
   | (with_reducible exact LeO.none _)
   | (with_reducible refine LeO.ite ?_ ?_)
   | (with_reducible refine LeO.bind ?_ (fun _ => ?_))
   | exact ih0 _ _ _ _ _
   | exact ih1 _ _ _ _ _ _
   | exact whirligigref01_Bit.mono _ _ _
   | exact LeO.none _
   | refine LeO.ite ?_ ?_
   | refine LeO.bind ?_ (fun _ => ?_)
  ·intro y0 y1 y2 y3 y4 y5
   unfold whirligigref05_Fits.j1
   repeat' first
   | (with_reducible exact ih0 _ _ _ _ _)
   | (with_reducible exact ih1 _ _ _ _ _ _)
   | (with_reducible exact whirligigref01_Bit.mono _ _ _)
   | (with_reducible exact LeO.refl _)
   | (with_reducible exact LeO.none _)
   | (with_reducible refine LeO.ite ?_ ?_)
   | (with_reducible refine LeO.bind ?_ (fun _ => ?_))
   | exact ih0 _ _ _ _ _
   | exact ih1 _ _ _ _ _ _
   | exact whirligigref01_Bit.mono _ _ _
   | exact LeO.none _
   | refine LeO.ite ?_ ?_
   | refine LeO.bind ?_ (fun _ => ?_)
theorem whirligigref05_Fits.mono : ∀ a0 a1 k, LeO (whirligigref05_Fits.f k a0 a1) (whirligigref05_Fits.f (k + 1) a0 a1) := by
 intro a0 a1 k
 obtain ⟨ih0, ih1⟩ := whirligigref05_Fits.mono_l k
 unfold whirligigref05_Fits.f
 repeat' first
   | (with_reducible exact ih0 _ _ _ _ _)
   | (with_reducible exact ih1 _ _ _ _ _ _)
   | (with_reducible exact whirligigref01_Bit.mono _ _ _)
   | (with_reducible exact LeO.refl _)
   | (with_reducible exact LeO.none _)
   | (with_reducible refine LeO.ite ?_ ?_)
   | (with_reducible refine LeO.bind ?_ (fun _ => ?_))
   | exact ih0 _ _ _ _ _
   | exact ih1 _ _ _ _ _ _
   | exact whirligigref01_Bit.mono _ _ _
   | exact LeO.none _
   | refine LeO.ite ?_ ?_
   | refine LeO.bind ?_ (fun _ => ?_)
set_option maxHeartbeats 8000000 in
set_option maxRecDepth 100000 in
theorem whirligigref05_Fits.calls (k : Nat) (a0 : ByteArray) (a1 : Int) (r1 : Bool) (r2 : Int) (r3 : Int) (w : World) (h : whirligigref05_Fits.f k a0 a1 = some (r1, r2, r3)) :
  Calls Tryd.prog 70 #[.string a0, .int .u8 a1] w fun e w' => e = .returned (.tuple #[.bool r1, .int .i64 r2, .int .i64 r3]) ∧ Drawn0 w w' := by
 have H : (whirligigref05_Fits.l0 k a0 a1 0 0 0) = some (r1, r2, r3) := h
 clear h
 have H' := Aside0.mk H
 clear H
 go_enter Tryd.func70, Tryd.ntmps70
 go_wp2
 go_loopg [7, 8, 9] k (fun kq v7 v8 v9 w' => ∃ (x7_1 : Int) (x8_1 : Int) (x9_1 : Int), v7 = .int .i64 x7_1 ∧ v8 = .int .i64 x8_1 ∧ v9 = .int .i64 x9_1 ∧ Aside0 (whirligigref05_Fits.l0 kq a0 a1 x7_1 x8_1 x9_1 = some (r1, r2, r3)) ∧ Aside0 (kq ≤ k) ∧ Drawn0 w w')
 case atStart => exact ⟨(0), (0), (0), (by first | rfl | (simp; done) | (simp [*]; done)), (by first | rfl | (simp; done) | (simp [*]; done)), (by first | rfl | (simp; done) | (simp [*]; done)), H', ⟨Nat.le_refl _⟩, by repeat (first | exact Drawn0.refl _ | apply Drawn0.step)⟩
 case round =>
  clear H'
  obtain ⟨x7_1, x8_1, x9_1, rfl, rfl, rfl, HA, HK1, ⟨m1, rfl⟩⟩ := hrel
  cases gk with
  | zero => exact absurd HA.out (by simp [whirligigref05_Fits.l0])
  | succ k1 =>
   have H := HA.out
   clear HA
   simp only [whirligigref05_Fits.l0] at H
   by_cases c3 : x9_1 < 8
   ·rw [if_pos c3] at H
    have c3b0 : decide (x9_1 < 8) = true := decide_eq_true c3
    clear c3
    replace H := Option.bind_eq_some_iff.mp H
    obtain ⟨t285, A40, H⟩ := H
    replace H : (if t285 = true then (whirligigref05_Fits.j1 k1 a0 a1 x7_1 x8_1 x9_1 1) else (whirligigref05_Fits.j1 k1 a0 a1 x7_1 x8_1 x9_1 0)) = some (r1, r2, r3) := H
    have A4 := Aside0.mk A40
    clear A40
    have HC5 := Aside0.mk H
    clear H
    go_upto_if 18 with (first | ((with_reducible refine gate_callee (f := 85) rfl ?_); refine goesL_ (some 18) rfl rfl Tryd.func85 (by kernel_rfl) rfl #[.int .u8 a1, .int .i64 (wrap64 (7 - x9_1))] rfl (by (try simp only [List.map_toArray, List.map_cons, List.map_nil]); first | done | rfl | (simp only [List.length_drop, List.length_take]; rfl)) ?_; (with_reducible refine (whirligigref01_Bit.calls k1 a1 (wrap64 (7 - x9_1)) t285 _ A4.out).mono ?_); rintro e w' ⟨rfl, ⟨nd, rfl⟩⟩; refine ⟨_, rfl, ?_⟩))
    (try simp only [Act.put, List.setIfInBounds_toArray, List.set_cons_zero, List.set_cons_succ])
    go_cut [10] (fun v10 wc => ∃ (kq : Nat) (x10_4 : Int), v10 = .int .i64 x10_4 ∧ Aside0 (whirligigref05_Fits.j1 kq a0 a1 x7_1 x8_1 x9_1 x10_4 = some (r1, r2, r3)) ∧ Aside0 (kq ≤ k1) ∧ Drawn0 w wc)
    case first =>
     have H := HC5.out
     clear HC5
     by_cases c6 : t285 = true
     ·subst c6
      rw [if_pos rfl] at H
      have H' := Aside0.mk H
      clear H
      go_wp2
      go_meet
      case rel => exact ⟨_, (1), (by first | rfl | (simp; done) | (simp [*]; done)), H', ⟨by have := HK1.out; first | omega | exact Nat.le_refl _⟩, by repeat (first | exact Drawn0.refl _ | apply Drawn0.step)⟩
     ·replace c6 := Bool.eq_false_iff.mpr c6
      subst c6
      have H1 : (whirligigref05_Fits.j1 k1 a0 a1 x7_1 x8_1 x9_1 0) = some (r1, r2, r3) := by rw [if_neg (show ¬ (false = true) by decide)] at H; exact H
      clear H
      have H := H1
      clear H1
      have H' := Aside0.mk H
      clear H
      go_wp2
      go_meet
      case rel => exact ⟨_, (0), (by first | rfl | (simp; done) | (simp [*]; done)), H', ⟨by have := HK1.out; first | omega | exact Nat.le_refl _⟩, by repeat (first | exact Drawn0.refl _ | apply Drawn0.step)⟩
    case rest =>
     clear HC5
     try clear c3
     try clear c3b0
     obtain ⟨kq, x10_4, rfl, HA, HJ4, ⟨mc4, rfl⟩⟩ := hcut
     cases kq with
     | zero => exact absurd HA.out (by simp [whirligigref05_Fits.j1])
     | succ kj4 =>
      have H := HA.out
      clear HA
      simp only [whirligigref05_Fits.j1] at H
      by_cases c7 : 0 ≤ x9_1
      ·rw [if_pos c7] at H
       have c7b0 : decide (0 ≤ x9_1) = true := decide_eq_true c7
       clear c7
       by_cases c8 : x9_1 < (a0.size : Int)
       ·rw [if_pos c8] at H
        have c8b0 : decide (x9_1 < (a0.size : Int)) = true := decide_eq_true c8
        clear c8
        by_cases c10 : (bt a0 x9_1) = 48
        ·rw [if_pos c10] at H
         have c10b0 : ((bt a0 x9_1) == 48) = true := beq_iff_eq.mpr c10
         have c10b1 : ((bt a0 x9_1) != 48) = false := bne_eq_false_iff_eq.mpr c10
         clear c10
         by_cases c11 : x10_4 = 0
         ·rw [if_pos c11] at H
          have c11b0 : (x10_4 == 0) = true := beq_iff_eq.mpr c11
          have c11b1 : (x10_4 != 0) = false := bne_eq_false_iff_eq.mpr c11
          clear c11
          have H' := Aside0.mk H
          clear H
          have p9 : 0 ≤ (x9_1 : Int) := of_decide_eq_true (by first | (with_reducible assumption) | assumption)
          have q9 : x9_1 < (a0.size : Int) := of_decide_eq_true (by first | (with_reducible assumption) | assumption)
          have hx9 := bt_at a0 x9_1
          replace p9 := eq_true p9
          replace q9 := eq_true q9
          go_wp2
          go_roundg kj4
          case measure => have := HK1.out; have := HJ4.out; omega
          case rel => exact ⟨(x7_1), (x8_1), (wrap64 (x9_1 + 1)), (by first | rfl | (simp; done) | (simp [*]; done)), (by first | rfl | (simp; done) | (simp [*]; done)), (by first | rfl | (simp; done) | (simp [*]; done)), H', ⟨by have := HK1.out; have := HJ4.out; omega⟩, by repeat (first | exact Drawn0.refl _ | apply Drawn0.step)⟩
         ·rw [if_neg c11] at H
          have c11b0 : (x10_4 == 0) = false := beq_eq_false_iff_ne.mpr c11
          have c11b1 : (x10_4 != 0) = true := bne_iff_ne.mpr c11
          simp only [Option.some.injEq, Prod.mk.injEq] at H
          obtain ⟨rfl, rfl, rfl⟩ := H
          have p9 : 0 ≤ (x9_1 : Int) := of_decide_eq_true (by first | (with_reducible assumption) | assumption)
          have q9 : x9_1 < (a0.size : Int) := of_decide_eq_true (by first | (with_reducible assumption) | assumption)
          have hx9 := bt_at a0 x9_1
          replace p9 := eq_true p9
          replace q9 := eq_true q9
          go_wp2
          go_ret3
          exact ⟨by first | rfl | (simp; done) | (simp [*]; done), by repeat (first | exact Drawn0.refl _ | apply Drawn0.step)⟩
        ·rw [if_neg c10] at H
         have c10b0 : ((bt a0 x9_1) == 48) = false := beq_eq_false_iff_ne.mpr c10
         have c10b1 : ((bt a0 x9_1) != 48) = true := bne_iff_ne.mpr c10
         by_cases c12 : (bt a0 x9_1) = 49
         ·rw [if_pos c12] at H
          have c12b0 : ((bt a0 x9_1) == 49) = true := beq_iff_eq.mpr c12
          have c12b1 : ((bt a0 x9_1) != 49) = false := bne_eq_false_iff_eq.mpr c12
          clear c12
          by_cases c13 : x10_4 = 1
          ·rw [if_pos c13] at H
           have c13b0 : (x10_4 == 1) = true := beq_iff_eq.mpr c13
           have c13b1 : (x10_4 != 1) = false := bne_eq_false_iff_eq.mpr c13
           clear c13
           have H' := Aside0.mk H
           clear H
           have p9 : 0 ≤ (x9_1 : Int) := of_decide_eq_true (by first | (with_reducible assumption) | assumption)
           have q9 : x9_1 < (a0.size : Int) := of_decide_eq_true (by first | (with_reducible assumption) | assumption)
           have hx9 := bt_at a0 x9_1
           replace p9 := eq_true p9
           replace q9 := eq_true q9
           go_wp2
           go_roundg kj4
           case measure => have := HK1.out; have := HJ4.out; omega
           case rel => exact ⟨(x7_1), (x8_1), (wrap64 (x9_1 + 1)), (by first | rfl | (simp; done) | (simp [*]; done)), (by first | rfl | (simp; done) | (simp [*]; done)), (by first | rfl | (simp; done) | (simp [*]; done)), H', ⟨by have := HK1.out; have := HJ4.out; omega⟩, by repeat (first | exact Drawn0.refl _ | apply Drawn0.step)⟩
          ·rw [if_neg c13] at H
           have c13b0 : (x10_4 == 1) = false := beq_eq_false_iff_ne.mpr c13
           have c13b1 : (x10_4 != 1) = true := bne_iff_ne.mpr c13
           simp only [Option.some.injEq, Prod.mk.injEq] at H
           obtain ⟨rfl, rfl, rfl⟩ := H
           have p9 : 0 ≤ (x9_1 : Int) := of_decide_eq_true (by first | (with_reducible assumption) | assumption)
           have q9 : x9_1 < (a0.size : Int) := of_decide_eq_true (by first | (with_reducible assumption) | assumption)
           have hx9 := bt_at a0 x9_1
           replace p9 := eq_true p9
           replace q9 := eq_true q9
           go_wp2
           go_ret3
           exact ⟨by first | rfl | (simp; done) | (simp [*]; done), by repeat (first | exact Drawn0.refl _ | apply Drawn0.step)⟩
         ·rw [if_neg c12] at H
          have c12b0 : ((bt a0 x9_1) == 49) = false := beq_eq_false_iff_ne.mpr c12
          have c12b1 : ((bt a0 x9_1) != 49) = true := bne_iff_ne.mpr c12
          by_cases c14 : (bt a0 x9_1) = 120
          ·rw [if_pos c14] at H
           have c14b0 : ((bt a0 x9_1) == 120) = true := beq_iff_eq.mpr c14
           have c14b1 : ((bt a0 x9_1) != 120) = false := bne_eq_false_iff_eq.mpr c14
           clear c14
           have H' := Aside0.mk H
           clear H
           have p9 : 0 ≤ (x9_1 : Int) := of_decide_eq_true (by first | (with_reducible assumption) | assumption)
           have q9 : x9_1 < (a0.size : Int) := of_decide_eq_true (by first | (with_reducible assumption) | assumption)
           have hx9 := bt_at a0 x9_1
           replace p9 := eq_true p9
           replace q9 := eq_true q9
           go_wp2
           go_roundg kj4
           case measure => have := HK1.out; have := HJ4.out; omega
           case rel => exact ⟨(wrap64 ((wrap64 (2 * x7_1)) + x10_4)), (x8_1), (wrap64 (x9_1 + 1)), (by first | rfl | (simp; done) | (simp [*]; done)), (by first | rfl | (simp; done) | (simp [*]; done)), (by first | rfl | (simp; done) | (simp [*]; done)), H', ⟨by have := HK1.out; have := HJ4.out; omega⟩, by repeat (first | exact Drawn0.refl _ | apply Drawn0.step)⟩
          ·rw [if_neg c14] at H
           have c14b0 : ((bt a0 x9_1) == 120) = false := beq_eq_false_iff_ne.mpr c14
           have c14b1 : ((bt a0 x9_1) != 120) = true := bne_iff_ne.mpr c14
           by_cases c15 : (bt a0 x9_1) = 121
           ·rw [if_pos c15] at H
            have c15b0 : ((bt a0 x9_1) == 121) = true := beq_iff_eq.mpr c15
            have c15b1 : ((bt a0 x9_1) != 121) = false := bne_eq_false_iff_eq.mpr c15
            clear c15
            have H' := Aside0.mk H
            clear H
            have p9 : 0 ≤ (x9_1 : Int) := of_decide_eq_true (by first | (with_reducible assumption) | assumption)
            have q9 : x9_1 < (a0.size : Int) := of_decide_eq_true (by first | (with_reducible assumption) | assumption)
            have hx9 := bt_at a0 x9_1
            replace p9 := eq_true p9
            replace q9 := eq_true q9
            go_wp2
            go_roundg kj4
            case measure => have := HK1.out; have := HJ4.out; omega
            case rel => exact ⟨(x7_1), (wrap64 ((wrap64 (2 * x8_1)) + x10_4)), (wrap64 (x9_1 + 1)), (by first | rfl | (simp; done) | (simp [*]; done)), (by first | rfl | (simp; done) | (simp [*]; done)), (by first | rfl | (simp; done) | (simp [*]; done)), H', ⟨by have := HK1.out; have := HJ4.out; omega⟩, by repeat (first | exact Drawn0.refl _ | apply Drawn0.step)⟩
           ·rw [if_neg c15] at H
            have c15b0 : ((bt a0 x9_1) == 121) = false := beq_eq_false_iff_ne.mpr c15
            have c15b1 : ((bt a0 x9_1) != 121) = true := bne_iff_ne.mpr c15
            have H' := Aside0.mk H
            clear H
            have p9 : 0 ≤ (x9_1 : Int) := of_decide_eq_true (by first | (with_reducible assumption) | assumption)
            have q9 : x9_1 < (a0.size : Int) := of_decide_eq_true (by first | (with_reducible assumption) | assumption)
            have hx9 := bt_at a0 x9_1
            replace p9 := eq_true p9
            replace q9 := eq_true q9
            go_wp2
            go_roundg kj4
            case measure => have := HK1.out; have := HJ4.out; omega
            case rel => exact ⟨(x7_1), (x8_1), (wrap64 (x9_1 + 1)), (by first | rfl | (simp; done) | (simp [*]; done)), (by first | rfl | (simp; done) | (simp [*]; done)), (by first | rfl | (simp; done) | (simp [*]; done)), H', ⟨by have := HK1.out; have := HJ4.out; omega⟩, by repeat (first | exact Drawn0.refl _ | apply Drawn0.step)⟩
       ·rw [if_neg c8] at H
        exact absurd H (by simp)
      ·rw [if_neg c7] at H
       exact absurd H (by simp)
   ·rw [if_neg c3] at H
    have c3b0 : decide (x9_1 < 8) = false := decide_eq_false c3
    clear c3
    simp only [Option.some.injEq, Prod.mk.injEq] at H
    obtain ⟨rfl, rfl, rfl⟩ := H
    go_wp2
    go_ret3
    exact ⟨by first | rfl | (simp; done) | (simp [*]; done), by repeat (first | exact Drawn0.refl _ | apply Drawn0.step)⟩

end Go.Proofs.YtpjbfpheenamiaaDoor.PF
