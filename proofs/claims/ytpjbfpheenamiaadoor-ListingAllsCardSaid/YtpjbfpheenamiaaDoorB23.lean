/- Texts of this claim, put together: PF48, PF45, PF46, PF47, PF49, PF50, PF62, PF51, PF52. -/
import Derived.Test.YtpjbfpheenamiaaDoorB1
import Derived.Test.YtpjbfpheenamiaaDoorB22
-- PRINTED by print.py (a twelfth state) out of the translation. Not trusted: Lean checks it.
namespace Go.Proofs.YtpjbfpheenamiaaDoor.PF
open Go.RowKit Go.Proofs.YtpjbfpheenamiaaDoorW.PrintWords Go.Proofs.YtpjbfpheenamiaaDoorW.PrintLast Go.Proofs.YtpjbfpheenamiaaDoorW.PrintMore
attribute [local go_sem] max2_int min2_int max_two min_two max_three min_three max_four min_four   -- for this text's walks alone
set_option linter.unusedVariables false
set_option linter.unusedSimpArgs false

/-! ### whirligigref06_word: function 48 -/
mutual
def whirligigref06_word.l0 : Nat → ByteArray → Int → Int → Int → Option (ByteArray)
 | 0, _, _, _, _ => none
 | k + 1, x0, x1, x5, x6 => if x6 < x1 then (whirligigref06_word.l1 k x0 x1 x5 x6) else (whirligigref06_word.l2 k x0 x5 x5)
def whirligigref06_word.l1 : Nat → ByteArray → Int → Int → Int → Option (ByteArray)
 | 0, _, _, _, _ => none
 | k + 1, x0, x1, x5, x6 => if x5 < (x0.size : Int) then (if 0 ≤ x5 then (if (bt x0 x5) = 32 then (whirligigref06_word.l0 k x0 x1 (wrap64 (x5 + 1)) (wrap64 (x6 + 1))) else (whirligigref06_word.l1 k x0 x1 (wrap64 (x5 + 1)) x6)) else (none)) else (whirligigref06_word.l0 k x0 x1 (wrap64 (x5 + 1)) (wrap64 (x6 + 1)))
def whirligigref06_word.l2 : Nat → ByteArray → Int → Int → Option (ByteArray)
 | 0, _, _, _ => none
 | k + 1, x0, x5, x7 => if x7 < (x0.size : Int) then (if 0 ≤ x7 then (if (bt x0 x7) = 32 then (if 0 ≤ x5 then (if x5 ≤ x7 then (if x7 ≤ (x0.size : Int) then (some (x0.extract (x5 : Int).toNat (x7 : Int).toNat)) else (none)) else (none)) else (none)) else (whirligigref06_word.l2 k x0 x5 (wrap64 (x7 + 1)))) else (none)) else (if 0 ≤ x5 then (if x5 ≤ x7 then (if x7 ≤ (x0.size : Int) then (some (x0.extract (x5 : Int).toNat (x7 : Int).toNat)) else (none)) else (none)) else (none))
end
def whirligigref06_word.f (k : Nat) (a0 : ByteArray) (a1 : Int) : Option (ByteArray) := whirligigref06_word.l0 k a0 a1 0 0
theorem whirligigref06_word.mono_l : ∀ k, (∀ y0 y1 y2 y3, LeO (whirligigref06_word.l0 k y0 y1 y2 y3) (whirligigref06_word.l0 (k + 1) y0 y1 y2 y3)) ∧ (∀ y0 y1 y2 y3, LeO (whirligigref06_word.l1 k y0 y1 y2 y3) (whirligigref06_word.l1 (k + 1) y0 y1 y2 y3)) ∧ (∀ y0 y1 y2, LeO (whirligigref06_word.l2 k y0 y1 y2) (whirligigref06_word.l2 (k + 1) y0 y1 y2))
 | 0 => ⟨fun _ _ _ _ r h => by simp [whirligigref06_word.l0] at h, fun _ _ _ _ r h => by simp [whirligigref06_word.l1] at h, fun _ _ _ r h => by simp [whirligigref06_word.l2] at h⟩
 | k + 1 => by
  obtain ⟨ih0, ih1, ih2⟩ := whirligigref06_word.mono_l k
  refine ⟨?_, ?_, ?_⟩
  ·intro y0 y1 y2 y3
   unfold whirligigref06_word.l0
   repeat' first
   | (with_reducible exact ih0 _ _ _ _)
   | (with_reducible exact ih1 _ _ _ _)
   | (with_reducible exact ih2 _ _ _)
   | (with_reducible exact LeO.refl _)
   | (with_reducible exact LeO.none _)
   | (with_reducible refine LeO.ite ?_ ?_)
   | (with_reducible refine LeO.bind ?_ (fun _ => ?_))
   | exact ih0 _ _ _ _
   | exact ih1 _ _ _ _
   | exact ih2 _ _ _
   | exact LeO.none _
   | refine LeO.ite ?_ ?_
   | refine LeO.bind ?_ (fun _ => ?_)
  ·intro y0 y1 y2 y3
   unfold whirligigref06_word.l1
   repeat' first
   | (with_reducible exact ih0 _ _ _ _)
   | (with_reducible exact ih1 _ _ _ _)
   | (with_reducible exact ih2 _ _ _)
   | (with_reducible exact LeO.refl _)
   | (with_reducible exact LeO.none _)
   | (with_reducible refine LeO.ite ?_ ?_)
   | (with_reducible refine LeO.bind ?_ (fun _ => ?_))
   | exact ih0 _ _ _ _
   | exact ih1 _ _ _ _
   | exact ih2 _ _ _
   | exact LeO.none _
   | refine LeO.ite ?_ ?_
   | refine LeO.bind ?_ (fun _ => ?_)
  ·intro y0 y1 y2
   unfold whirligigref06_word.l2
   repeat' first
   | (with_reducible exact ih0 _ _ _ _)
   | (with_reducible exact ih1 _ _ _ _)
   | (with_reducible exact ih2 _ _ _)
   | (with_reducible exact LeO.refl _)
   | (with_reducible exact LeO.none _)
   | (with_reducible refine LeO.ite ?_ ?_)
   | (with_reducible refine LeO.bind ?_ (fun _ => ?_))
   | exact ih0 _ _ _ _
   | exact ih1 _ _ _ _
   | exact ih2 _ _ _
   | exact LeO.none _
   | refine LeO.ite ?_ ?_
   | refine LeO.bind ?_ (fun _ => ?_)
theorem whirligigref06_word.mono : ∀ a0 a1 k, LeO (whirligigref06_word.f k a0 a1) (whirligigref06_word.f (k + 1) a0 a1) := by
 intro a0 a1 k
 obtain ⟨ih0, ih1, ih2⟩ := whirligigref06_word.mono_l k
 unfold whirligigref06_word.f
 repeat' first
   | (with_reducible exact ih0 _ _ _ _)
   | (with_reducible exact ih1 _ _ _ _)
   | (with_reducible exact ih2 _ _ _)
   | (with_reducible exact LeO.refl _)
   | (with_reducible exact LeO.none _)
   | (with_reducible refine LeO.ite ?_ ?_)
   | (with_reducible refine LeO.bind ?_ (fun _ => ?_))
   | exact ih0 _ _ _ _
   | exact ih1 _ _ _ _
   | exact ih2 _ _ _
   | exact LeO.none _
   | refine LeO.ite ?_ ?_
   | refine LeO.bind ?_ (fun _ => ?_)
set_option maxHeartbeats 8000000 in
set_option maxRecDepth 100000 in
theorem whirligigref06_word.calls (k : Nat) (a0 : ByteArray) (a1 : Int) (r : ByteArray) (w : World) (h : whirligigref06_word.f k a0 a1 = some r) :
  Calls Tryd.prog 48 #[.string a0, .int .i64 a1] w fun e w' => e = .returned (.string r) ∧ Drawn0 w w' := by
 have H : (whirligigref06_word.l0 k a0 a1 0 0) = some r := h
 clear h
 have H' := Aside0.mk H
 clear H
 go_enter Tryd.func48, Tryd.ntmps48
 go_wp2
 go_loopg [5, 6] k (fun kq v5 v6 w' => ∃ (x5_1 : Int) (x6_1 : Int), v5 = .int .i64 x5_1 ∧ v6 = .int .i64 x6_1 ∧ Aside0 (whirligigref06_word.l0 kq a0 a1 x5_1 x6_1 = some r) ∧ Aside0 (kq ≤ k) ∧ Drawn0 w w')
 case atStart => exact ⟨(0), (0), (by first | rfl | (simp; done) | (simp [*]; done)), (by first | rfl | (simp; done) | (simp [*]; done)), H', ⟨Nat.le_refl _⟩, by repeat (first | exact Drawn0.refl _ | apply Drawn0.step)⟩
 case round =>
  clear H'
  obtain ⟨x5_1, x6_1, rfl, rfl, HA, HK1, ⟨m1, rfl⟩⟩ := hrel
  cases gk with
  | zero => exact absurd HA.out (by simp [whirligigref06_word.l0])
  | succ k1 =>
   have H := HA.out
   clear HA
   simp only [whirligigref06_word.l0] at H
   by_cases c3 : x6_1 < a1
   ·rw [if_pos c3] at H
    have c3b0 : decide (x6_1 < a1) = true := decide_eq_true c3
    clear c3
    have H' := Aside0.mk H
    clear H
    go_wp2
    go_loopg [5] k1 (fun kq v5 w' => ∃ (x5_2 : Int), v5 = .int .i64 x5_2 ∧ Aside0 (whirligigref06_word.l1 kq a0 a1 x5_2 x6_1 = some r) ∧ Aside0 (kq ≤ k1) ∧ Drawn0 w w')
    case atStart => exact ⟨(x5_1), (by first | rfl | (simp; done) | (simp [*]; done)), H', ⟨Nat.le_refl _⟩, by repeat (first | exact Drawn0.refl _ | apply Drawn0.step)⟩
    case round =>
     clear H'
     try clear c3
     try clear c3b0
     obtain ⟨x5_2, rfl, HA, HK2, ⟨m2, rfl⟩⟩ := hrel
     cases gk with
     | zero => exact absurd HA.out (by simp [whirligigref06_word.l1])
     | succ k2 =>
      have H := HA.out
      clear HA
      simp only [whirligigref06_word.l1] at H
      by_cases c4 : x5_2 < (a0.size : Int)
      ·rw [if_pos c4] at H
       have c4b0 : decide (x5_2 < (a0.size : Int)) = true := decide_eq_true c4
       clear c4
       by_cases c5 : 0 ≤ x5_2
       ·rw [if_pos c5] at H
        have c5b0 : decide (0 ≤ x5_2) = true := decide_eq_true c5
        clear c5
        by_cases c7 : (bt a0 x5_2) = 32
        ·rw [if_pos c7] at H
         have c7b0 : ((bt a0 x5_2) == 32) = true := beq_iff_eq.mpr c7
         have c7b1 : ((bt a0 x5_2) != 32) = false := bne_eq_false_iff_eq.mpr c7
         clear c7
         have H' := Aside0.mk H
         clear H
         have p6 : 0 ≤ (x5_2 : Int) := of_decide_eq_true (by first | (with_reducible assumption) | assumption)
         have q6 : x5_2 < (a0.size : Int) := of_decide_eq_true (by first | (with_reducible assumption) | assumption)
         have hx6 := bt_at a0 x5_2
         replace p6 := eq_true p6
         replace q6 := eq_true q6
         go_wp2
         go_roundg k2
         case measure => have := HK1.out; have := HK2.out; omega
         case rel => exact ⟨(wrap64 (x5_2 + 1)), (wrap64 (x6_1 + 1)), (by first | rfl | (simp; done) | (simp [*]; done)), (by first | rfl | (simp; done) | (simp [*]; done)), H', ⟨by have := HK1.out; have := HK2.out; omega⟩, by repeat (first | exact Drawn0.refl _ | apply Drawn0.step)⟩
        ·rw [if_neg c7] at H
         have c7b0 : ((bt a0 x5_2) == 32) = false := beq_eq_false_iff_ne.mpr c7
         have c7b1 : ((bt a0 x5_2) != 32) = true := bne_iff_ne.mpr c7
         have H' := Aside0.mk H
         clear H
         have p6 : 0 ≤ (x5_2 : Int) := of_decide_eq_true (by first | (with_reducible assumption) | assumption)
         have q6 : x5_2 < (a0.size : Int) := of_decide_eq_true (by first | (with_reducible assumption) | assumption)
         have hx6 := bt_at a0 x5_2
         replace p6 := eq_true p6
         replace q6 := eq_true q6
         go_wp2
         go_roundg k2
         case measure => have := HK1.out; have := HK2.out; omega
         case rel => exact ⟨(wrap64 (x5_2 + 1)), (by first | rfl | (simp; done) | (simp [*]; done)), H', ⟨by have := HK1.out; have := HK2.out; omega⟩, by repeat (first | exact Drawn0.refl _ | apply Drawn0.step)⟩
       ·rw [if_neg c5] at H
        exact absurd H (by simp)
      ·rw [if_neg c4] at H
       have c4b0 : decide (x5_2 < (a0.size : Int)) = false := decide_eq_false c4
       clear c4
       have H' := Aside0.mk H
       clear H
       go_wp2
       go_roundg k2
       case measure => have := HK1.out; have := HK2.out; omega
       case rel => exact ⟨(wrap64 (x5_2 + 1)), (wrap64 (x6_1 + 1)), (by first | rfl | (simp; done) | (simp [*]; done)), (by first | rfl | (simp; done) | (simp [*]; done)), H', ⟨by have := HK1.out; have := HK2.out; omega⟩, by repeat (first | exact Drawn0.refl _ | apply Drawn0.step)⟩
   ·rw [if_neg c3] at H
    have c3b0 : decide (x6_1 < a1) = false := decide_eq_false c3
    clear c3
    have H' := Aside0.mk H
    clear H
    go_wp2
    go_loopg [7] k1 (fun kq v7 w' => ∃ (x7_2 : Int), v7 = .int .i64 x7_2 ∧ Aside0 (whirligigref06_word.l2 kq a0 x5_1 x7_2 = some r) ∧ Aside0 (kq ≤ k1) ∧ Drawn0 w w')
    case atStart => exact ⟨(x5_1), (by first | rfl | (simp; done) | (simp [*]; done)), H', ⟨Nat.le_refl _⟩, by repeat (first | exact Drawn0.refl _ | apply Drawn0.step)⟩
    case round =>
     clear H'
     try clear c3
     try clear c3b0
     obtain ⟨x7_2, rfl, HA, HK2, ⟨m2, rfl⟩⟩ := hrel
     cases gk with
     | zero => exact absurd HA.out (by simp [whirligigref06_word.l2])
     | succ k2 =>
      have H := HA.out
      clear HA
      simp only [whirligigref06_word.l2] at H
      by_cases c8 : x7_2 < (a0.size : Int)
      ·rw [if_pos c8] at H
       have c8b0 : decide (x7_2 < (a0.size : Int)) = true := decide_eq_true c8
       clear c8
       by_cases c9 : 0 ≤ x7_2
       ·rw [if_pos c9] at H
        have c9b0 : decide (0 ≤ x7_2) = true := decide_eq_true c9
        clear c9
        by_cases c11 : (bt a0 x7_2) = 32
        ·rw [if_pos c11] at H
         have c11b0 : ((bt a0 x7_2) == 32) = true := beq_iff_eq.mpr c11
         have c11b1 : ((bt a0 x7_2) != 32) = false := bne_eq_false_iff_eq.mpr c11
         clear c11
         by_cases c12 : 0 ≤ x5_1
         ·rw [if_pos c12] at H
          have c12b0 := eq_true c12
          have c12b1 : decide (0 ≤ x5_1) = true := decide_eq_true c12
          clear c12
          by_cases c13 : x5_1 ≤ x7_2
          ·rw [if_pos c13] at H
           have c13b0 := eq_true c13
           have c13b1 : decide (x5_1 ≤ x7_2) = true := decide_eq_true c13
           clear c13
           by_cases c14 : x7_2 ≤ (a0.size : Int)
           ·rw [if_pos c14] at H
            have c14b0 := eq_true c14
            have c14b1 : decide (x7_2 ≤ (a0.size : Int)) = true := decide_eq_true c14
            clear c14
            obtain rfl := Option.some.inj H
            have p10 : 0 ≤ (x7_2 : Int) := of_decide_eq_true (by first | (with_reducible assumption) | assumption)
            have q10 : x7_2 < (a0.size : Int) := of_decide_eq_true (by first | (with_reducible assumption) | assumption)
            have hx10 := bt_at a0 x7_2
            replace p10 := eq_true p10
            replace q10 := eq_true q10
            go_wp2
            go_ret
            exact ⟨by first | rfl | (simp; done) | (simp [*]; done), by repeat (first | exact Drawn0.refl _ | apply Drawn0.step)⟩
           ·rw [if_neg c14] at H
            exact absurd H (by simp)
          ·rw [if_neg c13] at H
           exact absurd H (by simp)
         ·rw [if_neg c12] at H
          exact absurd H (by simp)
        ·rw [if_neg c11] at H
         have c11b0 : ((bt a0 x7_2) == 32) = false := beq_eq_false_iff_ne.mpr c11
         have c11b1 : ((bt a0 x7_2) != 32) = true := bne_iff_ne.mpr c11
         have H' := Aside0.mk H
         clear H
         have p10 : 0 ≤ (x7_2 : Int) := of_decide_eq_true (by first | (with_reducible assumption) | assumption)
         have q10 : x7_2 < (a0.size : Int) := of_decide_eq_true (by first | (with_reducible assumption) | assumption)
         have hx10 := bt_at a0 x7_2
         replace p10 := eq_true p10
         replace q10 := eq_true q10
         go_wp2
         go_roundg k2
         case measure => have := HK1.out; have := HK2.out; omega
         case rel => exact ⟨(wrap64 (x7_2 + 1)), (by first | rfl | (simp; done) | (simp [*]; done)), H', ⟨by have := HK1.out; have := HK2.out; omega⟩, by repeat (first | exact Drawn0.refl _ | apply Drawn0.step)⟩
       ·rw [if_neg c9] at H
        exact absurd H (by simp)
      ·rw [if_neg c8] at H
       have c8b0 : decide (x7_2 < (a0.size : Int)) = false := decide_eq_false c8
       clear c8
       by_cases c15 : 0 ≤ x5_1
       ·rw [if_pos c15] at H
        have c15b0 := eq_true c15
        have c15b1 : decide (0 ≤ x5_1) = true := decide_eq_true c15
        clear c15
        by_cases c16 : x5_1 ≤ x7_2
        ·rw [if_pos c16] at H
         have c16b0 := eq_true c16
         have c16b1 : decide (x5_1 ≤ x7_2) = true := decide_eq_true c16
         clear c16
         by_cases c17 : x7_2 ≤ (a0.size : Int)
         ·rw [if_pos c17] at H
          have c17b0 := eq_true c17
          have c17b1 : decide (x7_2 ≤ (a0.size : Int)) = true := decide_eq_true c17
          clear c17
          obtain rfl := Option.some.inj H
          go_wp2
          go_ret
          exact ⟨by first | rfl | (simp; done) | (simp [*]; done), by repeat (first | exact Drawn0.refl _ | apply Drawn0.step)⟩
         ·rw [if_neg c17] at H
          exact absurd H (by simp)
        ·rw [if_neg c16] at H
         exact absurd H (by simp)
       ·rw [if_neg c15] at H
        exact absurd H (by simp)

end Go.Proofs.YtpjbfpheenamiaaDoor.PF
-- PRINTED by print.py (a twelfth state) out of the translation. Not trusted: Lean checks it.
namespace Go.Proofs.YtpjbfpheenamiaaDoor.PF
open Go.RowKit Go.Proofs.YtpjbfpheenamiaaDoorW.PrintWords Go.Proofs.YtpjbfpheenamiaaDoorW.PrintLast Go.Proofs.YtpjbfpheenamiaaDoorW.PrintMore
attribute [local go_sem] max2_int min2_int max_two min_two max_three min_three max_four min_four   -- for this text's walks alone
set_option linter.unusedVariables false
set_option linter.unusedSimpArgs false

/-! ### whirligigref06_Reg: function 45 -/
def whirligigref06_Reg.f (k : Nat) (a0 : Int) : Option (ByteArray) := (whirligigref06_word.f k (⟨#[66, 32, 67, 32, 68, 32, 69, 32, 72, 32, 76, 32, 40, 72, 76, 41, 32, 65]⟩ : ByteArray) a0).bind fun t317 => (some t317)
theorem whirligigref06_Reg.mono : ∀ a0 k, LeO (whirligigref06_Reg.f k a0) (whirligigref06_Reg.f (k + 1) a0) := by
 intro a0 k
 unfold whirligigref06_Reg.f
 repeat' first
   | (with_reducible exact whirligigref06_word.mono _ _ _)
   | (with_reducible exact LeO.refl _)
   | (with_reducible exact LeO.none _)
   | (with_reducible refine LeO.ite ?_ ?_)
   | (with_reducible refine LeO.bind ?_ (fun _ => ?_))
   | exact whirligigref06_word.mono _ _ _
   | exact LeO.none _
   | refine LeO.ite ?_ ?_
   | refine LeO.bind ?_ (fun _ => ?_)
set_option maxHeartbeats 8000000 in
set_option maxRecDepth 100000 in
theorem whirligigref06_Reg.calls (k : Nat) (a0 : Int) (r : ByteArray) (w : World) (h : whirligigref06_Reg.f k a0 = some r) :
  Calls Tryd.prog 45 #[.int .i64 a0] w fun e w' => e = .returned (.string r) ∧ Drawn0 w w' := by
 have H : ((whirligigref06_word.f k (⟨#[66, 32, 67, 32, 68, 32, 69, 32, 72, 32, 76, 32, 40, 72, 76, 41, 32, 65]⟩ : ByteArray) a0).bind fun t317 => (some t317)) = some r := h
 clear h
 replace H := Option.bind_eq_some_iff.mp H
 obtain ⟨t317, A20, H⟩ := H
 replace H : (some t317) = some r := H
 have A2 := Aside0.mk A20
 clear A20
 obtain rfl := Option.some.inj H
 go_enter Tryd.func45, Tryd.ntmps45
 go_wp2_with (first | ((with_reducible refine gate_callee (f := 48) rfl ?_); refine goesL_ (some 4) rfl rfl Tryd.func48 (by kernel_rfl) rfl #[.string (⟨#[66, 32, 67, 32, 68, 32, 69, 32, 72, 32, 76, 32, 40, 72, 76, 41, 32, 65]⟩ : ByteArray), .int .i64 a0] rfl (by (try simp only [List.map_toArray, List.map_cons, List.map_nil]); first | done | rfl | (simp only [List.length_drop, List.length_take]; rfl)) ?_; (with_reducible refine (whirligigref06_word.calls k (⟨#[66, 32, 67, 32, 68, 32, 69, 32, 72, 32, 76, 32, 40, 72, 76, 41, 32, 65]⟩ : ByteArray) a0 t317 _ A2.out).mono ?_); rintro e w' ⟨rfl, ⟨nd, rfl⟩⟩; refine ⟨_, rfl, ?_⟩))
 go_ret
 exact ⟨by first | rfl | (simp; done) | (simp [*]; done), by repeat (first | exact Drawn0.refl _ | apply Drawn0.step)⟩

end Go.Proofs.YtpjbfpheenamiaaDoor.PF
-- PRINTED by print.py (a twelfth state) out of the translation. Not trusted: Lean checks it.
namespace Go.Proofs.YtpjbfpheenamiaaDoor.PF
open Go.RowKit Go.Proofs.YtpjbfpheenamiaaDoorW.PrintWords Go.Proofs.YtpjbfpheenamiaaDoorW.PrintLast Go.Proofs.YtpjbfpheenamiaaDoorW.PrintMore
attribute [local go_sem] max2_int min2_int max_two min_two max_three min_three max_four min_four   -- for this text's walks alone
set_option linter.unusedVariables false
set_option linter.unusedSimpArgs false

/-! ### whirligigref06_Pair: function 46 -/
def whirligigref06_Pair.f (k : Nat) (a0 : Int) : Option (ByteArray) := (whirligigref06_word.f k (⟨#[66, 67, 32, 68, 69, 32, 72, 76, 32, 83, 80, 32, 65, 70]⟩ : ByteArray) a0).bind fun t318 => (some t318)
theorem whirligigref06_Pair.mono : ∀ a0 k, LeO (whirligigref06_Pair.f k a0) (whirligigref06_Pair.f (k + 1) a0) := by
 intro a0 k
 unfold whirligigref06_Pair.f
 repeat' first
   | (with_reducible exact whirligigref06_word.mono _ _ _)
   | (with_reducible exact LeO.refl _)
   | (with_reducible exact LeO.none _)
   | (with_reducible refine LeO.ite ?_ ?_)
   | (with_reducible refine LeO.bind ?_ (fun _ => ?_))
   | exact whirligigref06_word.mono _ _ _
   | exact LeO.none _
   | refine LeO.ite ?_ ?_
   | refine LeO.bind ?_ (fun _ => ?_)
set_option maxHeartbeats 8000000 in
set_option maxRecDepth 100000 in
theorem whirligigref06_Pair.calls (k : Nat) (a0 : Int) (r : ByteArray) (w : World) (h : whirligigref06_Pair.f k a0 = some r) :
  Calls Tryd.prog 46 #[.int .i64 a0] w fun e w' => e = .returned (.string r) ∧ Drawn0 w w' := by
 have H : ((whirligigref06_word.f k (⟨#[66, 67, 32, 68, 69, 32, 72, 76, 32, 83, 80, 32, 65, 70]⟩ : ByteArray) a0).bind fun t318 => (some t318)) = some r := h
 clear h
 replace H := Option.bind_eq_some_iff.mp H
 obtain ⟨t318, A20, H⟩ := H
 replace H : (some t318) = some r := H
 have A2 := Aside0.mk A20
 clear A20
 obtain rfl := Option.some.inj H
 go_enter Tryd.func46, Tryd.ntmps46
 go_wp2_with (first | ((with_reducible refine gate_callee (f := 48) rfl ?_); refine goesL_ (some 4) rfl rfl Tryd.func48 (by kernel_rfl) rfl #[.string (⟨#[66, 67, 32, 68, 69, 32, 72, 76, 32, 83, 80, 32, 65, 70]⟩ : ByteArray), .int .i64 a0] rfl (by (try simp only [List.map_toArray, List.map_cons, List.map_nil]); first | done | rfl | (simp only [List.length_drop, List.length_take]; rfl)) ?_; (with_reducible refine (whirligigref06_word.calls k (⟨#[66, 67, 32, 68, 69, 32, 72, 76, 32, 83, 80, 32, 65, 70]⟩ : ByteArray) a0 t318 _ A2.out).mono ?_); rintro e w' ⟨rfl, ⟨nd, rfl⟩⟩; refine ⟨_, rfl, ?_⟩))
 go_ret
 exact ⟨by first | rfl | (simp; done) | (simp [*]; done), by repeat (first | exact Drawn0.refl _ | apply Drawn0.step)⟩

end Go.Proofs.YtpjbfpheenamiaaDoor.PF
-- PRINTED by print.py (a twelfth state) out of the translation. Not trusted: Lean checks it.
namespace Go.Proofs.YtpjbfpheenamiaaDoor.PF
open Go.RowKit Go.Proofs.YtpjbfpheenamiaaDoorW.PrintWords Go.Proofs.YtpjbfpheenamiaaDoorW.PrintLast Go.Proofs.YtpjbfpheenamiaaDoorW.PrintMore
attribute [local go_sem] max2_int min2_int max_two min_two max_three min_three max_four min_four   -- for this text's walks alone
set_option linter.unusedVariables false
set_option linter.unusedSimpArgs false

/-! ### whirligigref06_Cond: function 47 -/
def whirligigref06_Cond.f (k : Nat) (a0 : Int) : Option (ByteArray) := (whirligigref06_word.f k (⟨#[78, 90, 32, 90, 32, 78, 67, 32, 67]⟩ : ByteArray) a0).bind fun t319 => (some t319)
theorem whirligigref06_Cond.mono : ∀ a0 k, LeO (whirligigref06_Cond.f k a0) (whirligigref06_Cond.f (k + 1) a0) := by
 intro a0 k
 unfold whirligigref06_Cond.f
 repeat' first
   | (with_reducible exact whirligigref06_word.mono _ _ _)
   | (with_reducible exact LeO.refl _)
   | (with_reducible exact LeO.none _)
   | (with_reducible refine LeO.ite ?_ ?_)
   | (with_reducible refine LeO.bind ?_ (fun _ => ?_))
   | exact whirligigref06_word.mono _ _ _
   | exact LeO.none _
   | refine LeO.ite ?_ ?_
   | refine LeO.bind ?_ (fun _ => ?_)
set_option maxHeartbeats 8000000 in
set_option maxRecDepth 100000 in
theorem whirligigref06_Cond.calls (k : Nat) (a0 : Int) (r : ByteArray) (w : World) (h : whirligigref06_Cond.f k a0 = some r) :
  Calls Tryd.prog 47 #[.int .i64 a0] w fun e w' => e = .returned (.string r) ∧ Drawn0 w w' := by
 have H : ((whirligigref06_word.f k (⟨#[78, 90, 32, 90, 32, 78, 67, 32, 67]⟩ : ByteArray) a0).bind fun t319 => (some t319)) = some r := h
 clear h
 replace H := Option.bind_eq_some_iff.mp H
 obtain ⟨t319, A20, H⟩ := H
 replace H : (some t319) = some r := H
 have A2 := Aside0.mk A20
 clear A20
 obtain rfl := Option.some.inj H
 go_enter Tryd.func47, Tryd.ntmps47
 go_wp2_with (first | ((with_reducible refine gate_callee (f := 48) rfl ?_); refine goesL_ (some 4) rfl rfl Tryd.func48 (by kernel_rfl) rfl #[.string (⟨#[78, 90, 32, 90, 32, 78, 67, 32, 67]⟩ : ByteArray), .int .i64 a0] rfl (by (try simp only [List.map_toArray, List.map_cons, List.map_nil]); first | done | rfl | (simp only [List.length_drop, List.length_take]; rfl)) ?_; (with_reducible refine (whirligigref06_word.calls k (⟨#[78, 90, 32, 90, 32, 78, 67, 32, 67]⟩ : ByteArray) a0 t319 _ A2.out).mono ?_); rintro e w' ⟨rfl, ⟨nd, rfl⟩⟩; refine ⟨_, rfl, ?_⟩))
 go_ret
 exact ⟨by first | rfl | (simp; done) | (simp [*]; done), by repeat (first | exact Drawn0.refl _ | apply Drawn0.step)⟩

end Go.Proofs.YtpjbfpheenamiaaDoor.PF
-- PRINTED by print.py (a twelfth state) out of the translation. Not trusted: Lean checks it.
namespace Go.Proofs.YtpjbfpheenamiaaDoor.PF
open Go.RowKit Go.Proofs.YtpjbfpheenamiaaDoorW.PrintWords Go.Proofs.YtpjbfpheenamiaaDoorW.PrintLast Go.Proofs.YtpjbfpheenamiaaDoorW.PrintMore
attribute [local go_sem] max2_int min2_int max_two min_two max_three min_three max_four min_four   -- for this text's walks alone
set_option linter.unusedVariables false
set_option linter.unusedSimpArgs false

/-! ### whirligigref06_Op: function 49 -/
def whirligigref06_Op.f (k : Nat) (a0 : Int) : Option (ByteArray) := (whirligigref06_word.f k (⟨#[65, 68, 68, 32, 65, 68, 67, 32, 83, 85, 66, 32, 83, 66, 67, 32, 65, 78, 68, 32, 88, 79, 82, 32, 79, 82, 32, 67, 80]⟩ : ByteArray) a0).bind fun t320 => (some t320)
theorem whirligigref06_Op.mono : ∀ a0 k, LeO (whirligigref06_Op.f k a0) (whirligigref06_Op.f (k + 1) a0) := by
 intro a0 k
 unfold whirligigref06_Op.f
 repeat' first
   | (with_reducible exact whirligigref06_word.mono _ _ _)
   | (with_reducible exact LeO.refl _)
   | (with_reducible exact LeO.none _)
   | (with_reducible refine LeO.ite ?_ ?_)
   | (with_reducible refine LeO.bind ?_ (fun _ => ?_))
   | exact whirligigref06_word.mono _ _ _
   | exact LeO.none _
   | refine LeO.ite ?_ ?_
   | refine LeO.bind ?_ (fun _ => ?_)
set_option maxHeartbeats 8000000 in
set_option maxRecDepth 100000 in
theorem whirligigref06_Op.calls (k : Nat) (a0 : Int) (r : ByteArray) (w : World) (h : whirligigref06_Op.f k a0 = some r) :
  Calls Tryd.prog 49 #[.int .i64 a0] w fun e w' => e = .returned (.string r) ∧ Drawn0 w w' := by
 have H : ((whirligigref06_word.f k (⟨#[65, 68, 68, 32, 65, 68, 67, 32, 83, 85, 66, 32, 83, 66, 67, 32, 65, 78, 68, 32, 88, 79, 82, 32, 79, 82, 32, 67, 80]⟩ : ByteArray) a0).bind fun t320 => (some t320)) = some r := h
 clear h
 replace H := Option.bind_eq_some_iff.mp H
 obtain ⟨t320, A20, H⟩ := H
 replace H : (some t320) = some r := H
 have A2 := Aside0.mk A20
 clear A20
 obtain rfl := Option.some.inj H
 go_enter Tryd.func49, Tryd.ntmps49
 go_wp2_with (first | ((with_reducible refine gate_callee (f := 48) rfl ?_); refine goesL_ (some 4) rfl rfl Tryd.func48 (by kernel_rfl) rfl #[.string (⟨#[65, 68, 68, 32, 65, 68, 67, 32, 83, 85, 66, 32, 83, 66, 67, 32, 65, 78, 68, 32, 88, 79, 82, 32, 79, 82, 32, 67, 80]⟩ : ByteArray), .int .i64 a0] rfl (by (try simp only [List.map_toArray, List.map_cons, List.map_nil]); first | done | rfl | (simp only [List.length_drop, List.length_take]; rfl)) ?_; (with_reducible refine (whirligigref06_word.calls k (⟨#[65, 68, 68, 32, 65, 68, 67, 32, 83, 85, 66, 32, 83, 66, 67, 32, 65, 78, 68, 32, 88, 79, 82, 32, 79, 82, 32, 67, 80]⟩ : ByteArray) a0 t320 _ A2.out).mono ?_); rintro e w' ⟨rfl, ⟨nd, rfl⟩⟩; refine ⟨_, rfl, ?_⟩))
 go_ret
 exact ⟨by first | rfl | (simp; done) | (simp [*]; done), by repeat (first | exact Drawn0.refl _ | apply Drawn0.step)⟩

end Go.Proofs.YtpjbfpheenamiaaDoor.PF
-- PRINTED by print.py (a twelfth state) out of the translation. Not trusted: Lean checks it.
namespace Go.Proofs.YtpjbfpheenamiaaDoor.PF
open Go.RowKit Go.Proofs.YtpjbfpheenamiaaDoorW.PrintWords Go.Proofs.YtpjbfpheenamiaaDoorW.PrintLast Go.Proofs.YtpjbfpheenamiaaDoorW.PrintMore
attribute [local go_sem] max2_int min2_int max_two min_two max_three min_three max_four min_four   -- for this text's walks alone
set_option linter.unusedVariables false
set_option linter.unusedSimpArgs false

/-! ### whirligigref06_Shift: function 50 -/
def whirligigref06_Shift.f (k : Nat) (a0 : Int) : Option (ByteArray) := (whirligigref06_word.f k (⟨#[82, 76, 67, 32, 82, 82, 67, 32, 82, 76, 32, 82, 82, 32, 83, 76, 65, 32, 83, 82, 65, 32, 83, 87, 65, 80, 32, 83, 82, 76]⟩ : ByteArray) a0).bind fun t321 => (some t321)
theorem whirligigref06_Shift.mono : ∀ a0 k, LeO (whirligigref06_Shift.f k a0) (whirligigref06_Shift.f (k + 1) a0) := by
 intro a0 k
 unfold whirligigref06_Shift.f
 repeat' first
   | (with_reducible exact whirligigref06_word.mono _ _ _)
   | (with_reducible exact LeO.refl _)
   | (with_reducible exact LeO.none _)
   | (with_reducible refine LeO.ite ?_ ?_)
   | (with_reducible refine LeO.bind ?_ (fun _ => ?_))
   | exact whirligigref06_word.mono _ _ _
   | exact LeO.none _
   | refine LeO.ite ?_ ?_
   | refine LeO.bind ?_ (fun _ => ?_)
set_option maxHeartbeats 8000000 in
set_option maxRecDepth 100000 in
theorem whirligigref06_Shift.calls (k : Nat) (a0 : Int) (r : ByteArray) (w : World) (h : whirligigref06_Shift.f k a0 = some r) :
  Calls Tryd.prog 50 #[.int .i64 a0] w fun e w' => e = .returned (.string r) ∧ Drawn0 w w' := by
 have H : ((whirligigref06_word.f k (⟨#[82, 76, 67, 32, 82, 82, 67, 32, 82, 76, 32, 82, 82, 32, 83, 76, 65, 32, 83, 82, 65, 32, 83, 87, 65, 80, 32, 83, 82, 76]⟩ : ByteArray) a0).bind fun t321 => (some t321)) = some r := h
 clear h
 replace H := Option.bind_eq_some_iff.mp H
 obtain ⟨t321, A20, H⟩ := H
 replace H : (some t321) = some r := H
 have A2 := Aside0.mk A20
 clear A20
 obtain rfl := Option.some.inj H
 go_enter Tryd.func50, Tryd.ntmps50
 go_wp2_with (first | ((with_reducible refine gate_callee (f := 48) rfl ?_); refine goesL_ (some 4) rfl rfl Tryd.func48 (by kernel_rfl) rfl #[.string (⟨#[82, 76, 67, 32, 82, 82, 67, 32, 82, 76, 32, 82, 82, 32, 83, 76, 65, 32, 83, 82, 65, 32, 83, 87, 65, 80, 32, 83, 82, 76]⟩ : ByteArray), .int .i64 a0] rfl (by (try simp only [List.map_toArray, List.map_cons, List.map_nil]); first | done | rfl | (simp only [List.length_drop, List.length_take]; rfl)) ?_; (with_reducible refine (whirligigref06_word.calls k (⟨#[82, 76, 67, 32, 82, 82, 67, 32, 82, 76, 32, 82, 82, 32, 83, 76, 65, 32, 83, 82, 65, 32, 83, 87, 65, 80, 32, 83, 82, 76]⟩ : ByteArray) a0 t321 _ A2.out).mono ?_); rintro e w' ⟨rfl, ⟨nd, rfl⟩⟩; refine ⟨_, rfl, ?_⟩))
 go_ret
 exact ⟨by first | rfl | (simp; done) | (simp [*]; done), by repeat (first | exact Drawn0.refl _ | apply Drawn0.step)⟩

end Go.Proofs.YtpjbfpheenamiaaDoor.PF
-- PRINTED by print.py (a twelfth state) out of the translation. Not trusted: Lean checks it.
namespace Go.Proofs.YtpjbfpheenamiaaDoor.PF
open Go.RowKit Go.Proofs.YtpjbfpheenamiaaDoorW.PrintWords Go.Proofs.YtpjbfpheenamiaaDoorW.PrintLast Go.Proofs.YtpjbfpheenamiaaDoorW.PrintMore
attribute [local go_sem] max2_int min2_int max_two min_two max_three min_three max_four min_four   -- for this text's walks alone
set_option linter.unusedVariables false
set_option linter.unusedSimpArgs false

/-! ### whirligigref01_Split: function 62 -/
def whirligigref01_Split.f (a0 : Int) : Option (Int × Int) := some ((wrap64 (Int.tdiv (wrap64 (a0)) 256)) % 256, (Int.tmod (wrap64 (a0)) 256) % 256)
set_option maxHeartbeats 8000000 in
set_option maxRecDepth 100000 in
theorem whirligigref01_Split.calls (a0 : Int) (r1 : Int) (r2 : Int) (w : World) (h : whirligigref01_Split.f a0 = some (r1, r2)) :
  Calls Tryd.prog 62 #[.int .u16 a0] w fun e w' => e = .returned (.tuple #[.int .u8 r1, .int .u8 r2]) ∧ Drawn0 w w' := by
 have H : (some ((wrap64 (Int.tdiv (wrap64 (a0)) 256)) % 256, (Int.tmod (wrap64 (a0)) 256) % 256)) = some (r1, r2) := h
 clear h
 simp only [Option.some.injEq, Prod.mk.injEq] at H
 obtain ⟨rfl, rfl⟩ := H
 go_enter Tryd.func62, Tryd.ntmps62
 go_wp2
 go_ret2
 exact ⟨by first | rfl | (simp; done) | (simp [*]; done), by repeat (first | exact Drawn0.refl _ | apply Drawn0.step)⟩

end Go.Proofs.YtpjbfpheenamiaaDoor.PF
-- PRINTED by print.py (a twelfth state) out of the translation. Not trusted: Lean checks it.
namespace Go.Proofs.YtpjbfpheenamiaaDoor.PF
open Go.RowKit Go.Proofs.YtpjbfpheenamiaaDoorW.PrintWords Go.Proofs.YtpjbfpheenamiaaDoorW.PrintLast Go.Proofs.YtpjbfpheenamiaaDoorW.PrintMore
attribute [local go_sem] max2_int min2_int max_two min_two max_three min_three max_four min_four   -- for this text's walks alone
set_option linter.unusedVariables false
set_option linter.unusedSimpArgs false

/-! ### whirligigref01_Hex16: function 51 -/
def whirligigref01_Hex16.f (a0 : Int) : Option (ByteArray) := (whirligigref01_Split.f a0).bind fun bt322 => ((whirligigref01_Hex8.f bt322.1).bind fun t324 => ((whirligigref01_Hex8.f bt322.2).bind fun t325 => (if t324.size + t325.size ≤ 9223372036854775807 then (some (t324 ++ t325)) else (none))))
set_option maxHeartbeats 8000000 in
set_option maxRecDepth 100000 in
theorem whirligigref01_Hex16.calls (a0 : Int) (r : ByteArray) (w : World) (h : whirligigref01_Hex16.f a0 = some r) :
  Calls Tryd.prog 51 #[.int .u16 a0] w fun e w' => e = .returned (.string r) ∧ Drawn0 w w' := by
 have H : ((whirligigref01_Split.f a0).bind fun bt322 => ((whirligigref01_Hex8.f bt322.1).bind fun t324 => ((whirligigref01_Hex8.f bt322.2).bind fun t325 => (if t324.size + t325.size ≤ 9223372036854775807 then (some (t324 ++ t325)) else (none))))) = some r := h
 clear h
 replace H := Option.bind_eq_some_iff.mp H
 obtain ⟨⟨t322, t323⟩, A20, H⟩ := H
 replace H : ((whirligigref01_Hex8.f t322).bind fun t324 => ((whirligigref01_Hex8.f t323).bind fun t325 => (if t324.size + t325.size ≤ 9223372036854775807 then (some (t324 ++ t325)) else (none)))) = some r := H
 have A2 := Aside0.mk A20
 clear A20
 replace H := Option.bind_eq_some_iff.mp H
 obtain ⟨t324, A30, H⟩ := H
 replace H : ((whirligigref01_Hex8.f t323).bind fun t325 => (if t324.size + t325.size ≤ 9223372036854775807 then (some (t324 ++ t325)) else (none))) = some r := H
 have A3 := Aside0.mk A30
 clear A30
 replace H := Option.bind_eq_some_iff.mp H
 obtain ⟨t325, A40, H⟩ := H
 replace H : (if t324.size + t325.size ≤ 9223372036854775807 then (some (t324 ++ t325)) else (none)) = some r := H
 have A4 := Aside0.mk A40
 clear A40
 by_cases c5 : t324.size + t325.size ≤ 9223372036854775807
 ·rw [if_pos c5] at H
  have c5b0 := eq_true c5
  have c5b1 : decide (t324.size + t325.size ≤ 9223372036854775807) = true := decide_eq_true c5
  try have c5b2 : (9223372036854775807 < t324.size + t325.size) = False := eq_false (Nat.not_lt.2 c5)
  obtain rfl := Option.some.inj H
  go_enter Tryd.func51, Tryd.ntmps51
  go_wp2_with (first | ((with_reducible refine gate_callee (f := 62) rfl ?_); refine goesL_ (some 7) rfl rfl Tryd.func62 (by kernel_rfl) rfl #[.int .u16 a0] rfl (by (try simp only [List.map_toArray, List.map_cons, List.map_nil]); first | done | rfl | (simp only [List.length_drop, List.length_take]; rfl)) ?_; (with_reducible refine (whirligigref01_Split.calls a0 t322 t323 _ A2.out).mono ?_); rintro e w' ⟨rfl, ⟨nd, rfl⟩⟩; refine ⟨_, rfl, ?_⟩) | ((with_reducible refine gate_callee (f := 32) rfl ?_); refine goesL_ (some 11) rfl rfl Tryd.func32 (by kernel_rfl) rfl #[.int .u8 t322] rfl (by (try simp only [List.map_toArray, List.map_cons, List.map_nil]); first | done | rfl | (simp only [List.length_drop, List.length_take]; rfl)) ?_; (with_reducible refine (whirligigref01_Hex8.calls t322 t324 _ A3.out).mono ?_); rintro e w' ⟨rfl, ⟨nd, rfl⟩⟩; refine ⟨_, rfl, ?_⟩) | ((with_reducible refine gate_callee (f := 32) rfl ?_); refine goesL_ (some 13) rfl rfl Tryd.func32 (by kernel_rfl) rfl #[.int .u8 t323] rfl (by (try simp only [List.map_toArray, List.map_cons, List.map_nil]); first | done | rfl | (simp only [List.length_drop, List.length_take]; rfl)) ?_; (with_reducible refine (whirligigref01_Hex8.calls t323 t325 _ A4.out).mono ?_); rintro e w' ⟨rfl, ⟨nd, rfl⟩⟩; refine ⟨_, rfl, ?_⟩))
  go_ret
  exact ⟨by first | rfl | (simp; done) | (simp [*]; done), by repeat (first | exact Drawn0.refl _ | apply Drawn0.step)⟩
 ·rw [if_neg c5] at H
  exact absurd H (by simp)

end Go.Proofs.YtpjbfpheenamiaaDoor.PF
-- PRINTED by print.py (a twelfth state) out of the translation. Not trusted: Lean checks it.
namespace Go.Proofs.YtpjbfpheenamiaaDoor.PF
open Go.RowKit Go.Proofs.YtpjbfpheenamiaaDoorW.PrintWords Go.Proofs.YtpjbfpheenamiaaDoorW.PrintLast Go.Proofs.YtpjbfpheenamiaaDoorW.PrintMore
attribute [local go_sem] max2_int min2_int max_two min_two max_three min_three max_four min_four   -- for this text's walks alone
set_option linter.unusedVariables false
set_option linter.unusedSimpArgs false

/-! ### whirligigref01_Join: function 52 -/
def whirligigref01_Join.f (a0 : Int) (a1 : Int) : Option (Int) := some (IntKind.u16.wrap (wrap64 ((wrap64 ((wrap64 (a0)) * 256)) + (wrap64 (a1)))))
set_option maxHeartbeats 8000000 in
set_option maxRecDepth 100000 in
theorem whirligigref01_Join.calls (a0 : Int) (a1 : Int) (r : Int) (w : World) (h : whirligigref01_Join.f a0 a1 = some r) :
  Calls Tryd.prog 52 #[.int .u8 a0, .int .u8 a1] w fun e w' => e = .returned (.int .u16 r) ∧ Drawn0 w w' := by
 have H : (some (IntKind.u16.wrap (wrap64 ((wrap64 ((wrap64 (a0)) * 256)) + (wrap64 (a1)))))) = some r := h
 clear h
 obtain rfl := Option.some.inj H
 go_enter Tryd.func52, Tryd.ntmps52
 go_wp2
 go_ret
 exact ⟨by first | rfl | (simp; done) | (simp [*]; done), by repeat (first | exact Drawn0.refl _ | apply Drawn0.step)⟩

end Go.Proofs.YtpjbfpheenamiaaDoor.PF
