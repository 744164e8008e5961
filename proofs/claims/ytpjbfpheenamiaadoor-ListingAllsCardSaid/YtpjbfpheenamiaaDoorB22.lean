/- Texts of this claim, put together: PF28, PF57, PF32. -/
import Derived.Test.YtpjbfpheenamiaaDoorB1
import Derived.Test.YtpjbfpheenamiaaDoorB21
-- PRINTED by print.py (a twelfth state) out of the translation. Not trusted: Lean checks it.
namespace Go.Proofs.YtpjbfpheenamiaaDoor.PF
open Go.RowKit Go.Proofs.YtpjbfpheenamiaaDoorW.PrintWords Go.Proofs.YtpjbfpheenamiaaDoorW.PrintLast Go.Proofs.YtpjbfpheenamiaaDoorW.PrintMore
attribute [local go_sem] max2_int min2_int max_two min_two max_three min_three max_four min_four   -- for this text's walks alone
set_option linter.unusedVariables false
set_option linter.unusedSimpArgs false

/-! ### whirligigref06_Pattern: function 28 -/
def whirligigref06_Pattern.j0 : Nat → Int → Bool → Int → Bool → Option (ByteArray)
 | 0, _, _, _, _ => none
 | k + 1, x0, x1, x5, x16 => if x16 = true then (some (⟨#[68, 66, 32, 111]⟩ : ByteArray)) else (if x5 = 7 then (some (⟨#[76, 68, 32, 114, 44, 115]⟩ : ByteArray)) else (if x5 = 8 then (some (⟨#[76, 68, 32, 114, 44, 98]⟩ : ByteArray)) else (if x5 = 9 then (some (⟨#[76, 68, 32, 65, 44, 113]⟩ : ByteArray)) else (if x5 = 10 then (some (⟨#[76, 68, 32, 113, 44, 65]⟩ : ByteArray)) else (if x5 = 11 then (some (⟨#[76, 68, 72, 32, 65, 44, 40, 98, 41]⟩ : ByteArray)) else (if x5 = 12 then (some (⟨#[76, 68, 72, 32, 40, 98, 41, 44, 65]⟩ : ByteArray)) else (if x5 = 13 then (some (⟨#[76, 68, 72, 32, 65, 44, 40, 67, 41]⟩ : ByteArray)) else (if x5 = 14 then (some (⟨#[76, 68, 72, 32, 40, 67, 41, 44, 65]⟩ : ByteArray)) else (if x5 = 15 then (some (⟨#[76, 68, 32, 65, 44, 40, 119, 41]⟩ : ByteArray)) else (if x5 = 16 then (some (⟨#[76, 68, 32, 40, 119, 41, 44, 65]⟩ : ByteArray)) else (if x5 = 17 then (some (⟨#[76, 68, 32, 112, 44, 119]⟩ : ByteArray)) else (if x5 = 18 then (some (⟨#[76, 68, 32, 40, 119, 41, 44, 83, 80]⟩ : ByteArray)) else (if x5 = 19 then (some (⟨#[76, 68, 32, 83, 80, 44, 72, 76]⟩ : ByteArray)) else (if x5 = 20 then (some (⟨#[76, 68, 32, 72, 76, 44, 83, 80, 43, 98]⟩ : ByteArray)) else (if x5 = 21 then (some (⟨#[80, 85, 83, 72, 32, 112]⟩ : ByteArray)) else (if x5 = 22 then (some (⟨#[80, 79, 80, 32, 112]⟩ : ByteArray)) else (if x5 = 23 then (some (⟨#[97, 32, 115]⟩ : ByteArray)) else (if x5 = 24 then (some (⟨#[97, 32, 98]⟩ : ByteArray)) else (if x5 = 25 then (some (⟨#[73, 78, 67, 32, 114]⟩ : ByteArray)) else (if x5 = 26 then (some (⟨#[68, 69, 67, 32, 114]⟩ : ByteArray)) else (if x5 = 27 then (some (⟨#[73, 78, 67, 32, 112]⟩ : ByteArray)) else (if x5 = 28 then (some (⟨#[68, 69, 67, 32, 112]⟩ : ByteArray)) else (if x5 = 29 then (some (⟨#[65, 68, 68, 32, 72, 76, 44, 112]⟩ : ByteArray)) else (if x5 = 30 then (some (⟨#[65, 68, 68, 32, 83, 80, 44, 98]⟩ : ByteArray)) else (if x5 = 31 then (some (⟨#[104, 65]⟩ : ByteArray)) else ((whirligigref06_late.f k x0 x1).bind fun t314 => (some t314)))))))))))))))))))))))))))
def whirligigref06_Pattern.f (k : Nat) (a0 : Int) (a1 : Bool) : Option (ByteArray) := if a0 = 0 then (some (⟨#[78, 79, 80]⟩ : ByteArray)) else (if a0 = 1 then (some (⟨#[83, 84, 79, 80, 32, 98]⟩ : ByteArray)) else (if a0 = 2 then (some (⟨#[72, 65, 76, 84]⟩ : ByteArray)) else (if a0 = 3 then (some (⟨#[68, 73]⟩ : ByteArray)) else (if a0 = 4 then (some (⟨#[69, 73]⟩ : ByteArray)) else (if a0 = 5 then (whirligigref06_Pattern.j0 k a0 a1 a0 (a0 == 5)) else (whirligigref06_Pattern.j0 k a0 a1 a0 (a0 == 6)))))))
theorem whirligigref06_Pattern.mono_l : ∀ k, (∀ y0 y1 y2 y3, LeO (whirligigref06_Pattern.j0 k y0 y1 y2 y3) (whirligigref06_Pattern.j0 (k + 1) y0 y1 y2 y3))
 | 0 => fun _ _ _ _ r h => by simp [whirligigref06_Pattern.j0] at h
 | k + 1 => by
  have ih0 := whirligigref06_Pattern.mono_l k
  ·intro y0 y1 y2 y3
   unfold whirligigref06_Pattern.j0
   repeat' first
   | (with_reducible exact ih0 _ _ _ _)
   | (with_reducible exact whirligigref06_late.mono _ _ _)
   | (with_reducible exact LeO.refl _)
   | (with_reducible exact LeO.none _)
   | (with_reducible refine LeO.ite ?_ ?_)
   | (with_reducible refine LeO.bind ?_ (fun _ => ?_))
   | exact ih0 _ _ _ _
   | exact whirligigref06_late.mono _ _ _
   | exact LeO.none _
   | refine LeO.ite ?_ ?_
   | refine LeO.bind ?_ (fun _ => ?_)
theorem whirligigref06_Pattern.mono : ∀ a0 a1 k, LeO (whirligigref06_Pattern.f k a0 a1) (whirligigref06_Pattern.f (k + 1) a0 a1) := by
 intro a0 a1 k
 have ih0 := whirligigref06_Pattern.mono_l k
 unfold whirligigref06_Pattern.f
 repeat' first
   | (with_reducible exact ih0 _ _ _ _)
   | (with_reducible exact whirligigref06_late.mono _ _ _)
   | (with_reducible exact LeO.refl _)
   | (with_reducible exact LeO.none _)
   | (with_reducible refine LeO.ite ?_ ?_)
   | (with_reducible refine LeO.bind ?_ (fun _ => ?_))
   | exact ih0 _ _ _ _
   | exact whirligigref06_late.mono _ _ _
   | exact LeO.none _
   | refine LeO.ite ?_ ?_
   | refine LeO.bind ?_ (fun _ => ?_)
set_option maxHeartbeats 8000000 in
set_option maxRecDepth 100000 in
theorem whirligigref06_Pattern.calls (k : Nat) (a0 : Int) (a1 : Bool) (r : ByteArray) (w : World) (h : whirligigref06_Pattern.f k a0 a1 = some r) :
  Calls Tryd.prog 28 #[.int .i64 a0, .bool a1] w fun e w' => e = .returned (.string r) ∧ Drawn0 w w' := by
 have H : (if a0 = 0 then (some (⟨#[78, 79, 80]⟩ : ByteArray)) else (if a0 = 1 then (some (⟨#[83, 84, 79, 80, 32, 98]⟩ : ByteArray)) else (if a0 = 2 then (some (⟨#[72, 65, 76, 84]⟩ : ByteArray)) else (if a0 = 3 then (some (⟨#[68, 73]⟩ : ByteArray)) else (if a0 = 4 then (some (⟨#[69, 73]⟩ : ByteArray)) else (if a0 = 5 then (whirligigref06_Pattern.j0 k a0 a1 a0 (a0 == 5)) else (whirligigref06_Pattern.j0 k a0 a1 a0 (a0 == 6)))))))) = some r := h
 clear h
 by_cases c3 : a0 = 0
 ·rw [if_pos c3] at H
  have c3b0 : (a0 == 0) = true := beq_iff_eq.mpr c3
  have c3b1 : (a0 != 0) = false := bne_eq_false_iff_eq.mpr c3
  clear c3
  obtain rfl := Option.some.inj H
  go_enter Tryd.func28, Tryd.ntmps28
  go_wp2
  go_ret
  exact ⟨by first | rfl | (simp; done) | (simp [*]; done), by repeat (first | exact Drawn0.refl _ | apply Drawn0.step)⟩
 ·rw [if_neg c3] at H
  have c3b0 : (a0 == 0) = false := beq_eq_false_iff_ne.mpr c3
  have c3b1 : (a0 != 0) = true := bne_iff_ne.mpr c3
  by_cases c4 : a0 = 1
  ·rw [if_pos c4] at H
   have c4b0 : (a0 == 1) = true := beq_iff_eq.mpr c4
   have c4b1 : (a0 != 1) = false := bne_eq_false_iff_eq.mpr c4
   clear c4
   obtain rfl := Option.some.inj H
   go_enter Tryd.func28, Tryd.ntmps28
   go_wp2
   go_ret
   exact ⟨by first | rfl | (simp; done) | (simp [*]; done), by repeat (first | exact Drawn0.refl _ | apply Drawn0.step)⟩
  ·rw [if_neg c4] at H
   have c4b0 : (a0 == 1) = false := beq_eq_false_iff_ne.mpr c4
   have c4b1 : (a0 != 1) = true := bne_iff_ne.mpr c4
   by_cases c5 : a0 = 2
   ·rw [if_pos c5] at H
    have c5b0 : (a0 == 2) = true := beq_iff_eq.mpr c5
    have c5b1 : (a0 != 2) = false := bne_eq_false_iff_eq.mpr c5
    clear c5
    obtain rfl := Option.some.inj H
    go_enter Tryd.func28, Tryd.ntmps28
    go_wp2
    go_ret
    exact ⟨by first | rfl | (simp; done) | (simp [*]; done), by repeat (first | exact Drawn0.refl _ | apply Drawn0.step)⟩
   ·rw [if_neg c5] at H
    have c5b0 : (a0 == 2) = false := beq_eq_false_iff_ne.mpr c5
    have c5b1 : (a0 != 2) = true := bne_iff_ne.mpr c5
    by_cases c6 : a0 = 3
    ·rw [if_pos c6] at H
     have c6b0 : (a0 == 3) = true := beq_iff_eq.mpr c6
     have c6b1 : (a0 != 3) = false := bne_eq_false_iff_eq.mpr c6
     clear c6
     obtain rfl := Option.some.inj H
     go_enter Tryd.func28, Tryd.ntmps28
     go_wp2
     go_ret
     exact ⟨by first | rfl | (simp; done) | (simp [*]; done), by repeat (first | exact Drawn0.refl _ | apply Drawn0.step)⟩
    ·rw [if_neg c6] at H
     have c6b0 : (a0 == 3) = false := beq_eq_false_iff_ne.mpr c6
     have c6b1 : (a0 != 3) = true := bne_iff_ne.mpr c6
     by_cases c7 : a0 = 4
     ·rw [if_pos c7] at H
      have c7b0 : (a0 == 4) = true := beq_iff_eq.mpr c7
      have c7b1 : (a0 != 4) = false := bne_eq_false_iff_eq.mpr c7
      clear c7
      obtain rfl := Option.some.inj H
      go_enter Tryd.func28, Tryd.ntmps28
      go_wp2
      go_ret
      exact ⟨by first | rfl | (simp; done) | (simp [*]; done), by repeat (first | exact Drawn0.refl _ | apply Drawn0.step)⟩
     ·rw [if_neg c7] at H
      have c7b0 : (a0 == 4) = false := beq_eq_false_iff_ne.mpr c7
      have c7b1 : (a0 != 4) = true := bne_iff_ne.mpr c7
      have HC8 := Aside0.mk H
      clear H
      go_enter Tryd.func28, Tryd.ntmps28
      go_upto_if 16 with (fail)
      go_cut [16] (fun v16 wc => ∃ (kq : Nat) (x16_7 : Bool), v16 = .bool x16_7 ∧ Aside0 (whirligigref06_Pattern.j0 kq a0 a1 a0 x16_7 = some r) ∧ Aside0 (kq ≤ k) ∧ Drawn0 w wc)
      case first =>
       have H := HC8.out
       clear HC8
       by_cases c9 : a0 = 5
       ·rw [if_pos c9] at H
        have c9b0 : (a0 == 5) = true := beq_iff_eq.mpr c9
        have c9b1 : (a0 != 5) = false := bne_eq_false_iff_eq.mpr c9
        clear c9
        (first | rw [c9b0] | (simp only [i64_w, i32_w]; rw [c9b0]) | skip)
        have H' := Aside0.mk H
        clear H
        go_wp2
        go_meet
        case rel => exact ⟨_, ((a0 == 5)), (by first | rfl | (simp; done) | (simp [*]; done)), H', ⟨by first | omega | exact Nat.le_refl _⟩, by repeat (first | exact Drawn0.refl _ | apply Drawn0.step)⟩
       ·rw [if_neg c9] at H
        have c9b0 : (a0 == 5) = false := beq_eq_false_iff_ne.mpr c9
        have c9b1 : (a0 != 5) = true := bne_iff_ne.mpr c9
        (first | rw [c9b0] | (simp only [i64_w, i32_w]; rw [c9b0]) | skip)
        have H' := Aside0.mk H
        clear H
        go_wp2
        go_meet
        case rel => exact ⟨_, ((a0 == 6)), (by first | rfl | (simp; done) | (simp [*]; done)), H', ⟨by first | omega | exact Nat.le_refl _⟩, by repeat (first | exact Drawn0.refl _ | apply Drawn0.step)⟩
      case rest =>
       clear HC8
       try clear c3
       try clear c3b0
       try clear c3b1
       try clear c4
       try clear c4b0
       try clear c4b1
       try clear c5
       try clear c5b0
       try clear c5b1
       try clear c6
       try clear c6b0
       try clear c6b1
       try clear c7
       try clear c7b0
       try clear c7b1
       obtain ⟨kq, x16_7, rfl, HA, HJ7, ⟨mc7, rfl⟩⟩ := hcut
       cases kq with
       | zero => exact absurd HA.out (by simp [whirligigref06_Pattern.j0])
       | succ kj7 =>
        have H := HA.out
        clear HA
        simp only [whirligigref06_Pattern.j0] at H
        by_cases c10 : x16_7 = true
        ·subst c10
         rw [if_pos rfl] at H
         obtain rfl := Option.some.inj H
         go_wp2
         go_ret
         exact ⟨by first | rfl | (simp; done) | (simp [*]; done), by repeat (first | exact Drawn0.refl _ | apply Drawn0.step)⟩
        ·replace c10 := Bool.eq_false_iff.mpr c10
         subst c10
         have H1 : (if a0 = 7 then (some (⟨#[76, 68, 32, 114, 44, 115]⟩ : ByteArray)) else (if a0 = 8 then (some (⟨#[76, 68, 32, 114, 44, 98]⟩ : ByteArray)) else (if a0 = 9 then (some (⟨#[76, 68, 32, 65, 44, 113]⟩ : ByteArray)) else (if a0 = 10 then (some (⟨#[76, 68, 32, 113, 44, 65]⟩ : ByteArray)) else (if a0 = 11 then (some (⟨#[76, 68, 72, 32, 65, 44, 40, 98, 41]⟩ : ByteArray)) else (if a0 = 12 then (some (⟨#[76, 68, 72, 32, 40, 98, 41, 44, 65]⟩ : ByteArray)) else (if a0 = 13 then (some (⟨#[76, 68, 72, 32, 65, 44, 40, 67, 41]⟩ : ByteArray)) else (if a0 = 14 then (some (⟨#[76, 68, 72, 32, 40, 67, 41, 44, 65]⟩ : ByteArray)) else (if a0 = 15 then (some (⟨#[76, 68, 32, 65, 44, 40, 119, 41]⟩ : ByteArray)) else (if a0 = 16 then (some (⟨#[76, 68, 32, 40, 119, 41, 44, 65]⟩ : ByteArray)) else (if a0 = 17 then (some (⟨#[76, 68, 32, 112, 44, 119]⟩ : ByteArray)) else (if a0 = 18 then (some (⟨#[76, 68, 32, 40, 119, 41, 44, 83, 80]⟩ : ByteArray)) else (if a0 = 19 then (some (⟨#[76, 68, 32, 83, 80, 44, 72, 76]⟩ : ByteArray)) else (if a0 = 20 then (some (⟨#[76, 68, 32, 72, 76, 44, 83, 80, 43, 98]⟩ : ByteArray)) else (if a0 = 21 then (some (⟨#[80, 85, 83, 72, 32, 112]⟩ : ByteArray)) else (if a0 = 22 then (some (⟨#[80, 79, 80, 32, 112]⟩ : ByteArray)) else (if a0 = 23 then (some (⟨#[97, 32, 115]⟩ : ByteArray)) else (if a0 = 24 then (some (⟨#[97, 32, 98]⟩ : ByteArray)) else (if a0 = 25 then (some (⟨#[73, 78, 67, 32, 114]⟩ : ByteArray)) else (if a0 = 26 then (some (⟨#[68, 69, 67, 32, 114]⟩ : ByteArray)) else (if a0 = 27 then (some (⟨#[73, 78, 67, 32, 112]⟩ : ByteArray)) else (if a0 = 28 then (some (⟨#[68, 69, 67, 32, 112]⟩ : ByteArray)) else (if a0 = 29 then (some (⟨#[65, 68, 68, 32, 72, 76, 44, 112]⟩ : ByteArray)) else (if a0 = 30 then (some (⟨#[65, 68, 68, 32, 83, 80, 44, 98]⟩ : ByteArray)) else (if a0 = 31 then (some (⟨#[104, 65]⟩ : ByteArray)) else ((whirligigref06_late.f kj7 a0 a1).bind fun t314 => (some t314))))))))))))))))))))))))))) = some r := by rw [if_neg (show ¬ (false = true) by decide)] at H; exact H
         clear H
         have H := H1
         clear H1
         by_cases c11 : a0 = 7
         ·rw [if_pos c11] at H
          have c11b0 : (a0 == 7) = true := beq_iff_eq.mpr c11
          have c11b1 : (a0 != 7) = false := bne_eq_false_iff_eq.mpr c11
          clear c11
          obtain rfl := Option.some.inj H
          go_wp2
          go_ret
          exact ⟨by first | rfl | (simp; done) | (simp [*]; done), by repeat (first | exact Drawn0.refl _ | apply Drawn0.step)⟩
         ·rw [if_neg c11] at H
          have c11b0 : (a0 == 7) = false := beq_eq_false_iff_ne.mpr c11
          have c11b1 : (a0 != 7) = true := bne_iff_ne.mpr c11
          by_cases c12 : a0 = 8
          ·rw [if_pos c12] at H
           have c12b0 : (a0 == 8) = true := beq_iff_eq.mpr c12
           have c12b1 : (a0 != 8) = false := bne_eq_false_iff_eq.mpr c12
           clear c12
           obtain rfl := Option.some.inj H
           go_wp2
           go_ret
           exact ⟨by first | rfl | (simp; done) | (simp [*]; done), by repeat (first | exact Drawn0.refl _ | apply Drawn0.step)⟩
          ·rw [if_neg c12] at H
           have c12b0 : (a0 == 8) = false := beq_eq_false_iff_ne.mpr c12
           have c12b1 : (a0 != 8) = true := bne_iff_ne.mpr c12
           by_cases c13 : a0 = 9
           ·rw [if_pos c13] at H
            have c13b0 : (a0 == 9) = true := beq_iff_eq.mpr c13
            have c13b1 : (a0 != 9) = false := bne_eq_false_iff_eq.mpr c13
            clear c13
            obtain rfl := Option.some.inj H
            go_wp2
            go_ret
            exact ⟨by first | rfl | (simp; done) | (simp [*]; done), by repeat (first | exact Drawn0.refl _ | apply Drawn0.step)⟩
           ·rw [if_neg c13] at H
            have c13b0 : (a0 == 9) = false := beq_eq_false_iff_ne.mpr c13
            have c13b1 : (a0 != 9) = true := bne_iff_ne.mpr c13
            by_cases c14 : a0 = 10
            ·rw [if_pos c14] at H
             have c14b0 : (a0 == 10) = true := beq_iff_eq.mpr c14
             have c14b1 : (a0 != 10) = false := bne_eq_false_iff_eq.mpr c14
             clear c14
             obtain rfl := Option.some.inj H
             go_wp2
             go_ret
             exact ⟨by first | rfl | (simp; done) | (simp [*]; done), by repeat (first | exact Drawn0.refl _ | apply Drawn0.step)⟩
            ·rw [if_neg c14] at H
             have c14b0 : (a0 == 10) = false := beq_eq_false_iff_ne.mpr c14
             have c14b1 : (a0 != 10) = true := bne_iff_ne.mpr c14
             by_cases c15 : a0 = 11
             ·rw [if_pos c15] at H
              have c15b0 : (a0 == 11) = true := beq_iff_eq.mpr c15
              have c15b1 : (a0 != 11) = false := bne_eq_false_iff_eq.mpr c15
              clear c15
              obtain rfl := Option.some.inj H
              go_wp2
              go_ret
              exact ⟨by first | rfl | (simp; done) | (simp [*]; done), by repeat (first | exact Drawn0.refl _ | apply Drawn0.step)⟩
             ·rw [if_neg c15] at H
              have c15b0 : (a0 == 11) = false := beq_eq_false_iff_ne.mpr c15
              have c15b1 : (a0 != 11) = true := bne_iff_ne.mpr c15
              by_cases c16 : a0 = 12
              ·rw [if_pos c16] at H
               have c16b0 : (a0 == 12) = true := beq_iff_eq.mpr c16
               have c16b1 : (a0 != 12) = false := bne_eq_false_iff_eq.mpr c16
               clear c16
               obtain rfl := Option.some.inj H
               go_wp2
               go_ret
               exact ⟨by first | rfl | (simp; done) | (simp [*]; done), by repeat (first | exact Drawn0.refl _ | apply Drawn0.step)⟩
              ·rw [if_neg c16] at H
               have c16b0 : (a0 == 12) = false := beq_eq_false_iff_ne.mpr c16
               have c16b1 : (a0 != 12) = true := bne_iff_ne.mpr c16
               by_cases c17 : a0 = 13
               ·rw [if_pos c17] at H
                have c17b0 : (a0 == 13) = true := beq_iff_eq.mpr c17
                have c17b1 : (a0 != 13) = false := bne_eq_false_iff_eq.mpr c17
                clear c17
                obtain rfl := Option.some.inj H
                go_wp2
                go_ret
                exact ⟨by first | rfl | (simp; done) | (simp [*]; done), by repeat (first | exact Drawn0.refl _ | apply Drawn0.step)⟩
               ·rw [if_neg c17] at H
                have c17b0 : (a0 == 13) = false := beq_eq_false_iff_ne.mpr c17
                have c17b1 : (a0 != 13) = true := bne_iff_ne.mpr c17
                by_cases c18 : a0 = 14
                ·rw [if_pos c18] at H
                 have c18b0 : (a0 == 14) = true := beq_iff_eq.mpr c18
                 have c18b1 : (a0 != 14) = false := bne_eq_false_iff_eq.mpr c18
                 clear c18
                 obtain rfl := Option.some.inj H
                 go_wp2
                 go_ret
                 exact ⟨by first | rfl | (simp; done) | (simp [*]; done), by repeat (first | exact Drawn0.refl _ | apply Drawn0.step)⟩
                ·rw [if_neg c18] at H
                 have c18b0 : (a0 == 14) = false := beq_eq_false_iff_ne.mpr c18
                 have c18b1 : (a0 != 14) = true := bne_iff_ne.mpr c18
                 by_cases c19 : a0 = 15
                 ·rw [if_pos c19] at H
                  have c19b0 : (a0 == 15) = true := beq_iff_eq.mpr c19
                  have c19b1 : (a0 != 15) = false := bne_eq_false_iff_eq.mpr c19
                  clear c19
                  obtain rfl := Option.some.inj H
                  go_wp2
                  go_ret
                  exact ⟨by first | rfl | (simp; done) | (simp [*]; done), by repeat (first | exact Drawn0.refl _ | apply Drawn0.step)⟩
                 ·rw [if_neg c19] at H
                  have c19b0 : (a0 == 15) = false := beq_eq_false_iff_ne.mpr c19
                  have c19b1 : (a0 != 15) = true := bne_iff_ne.mpr c19
                  by_cases c20 : a0 = 16
                  ·rw [if_pos c20] at H
                   have c20b0 : (a0 == 16) = true := beq_iff_eq.mpr c20
                   have c20b1 : (a0 != 16) = false := bne_eq_false_iff_eq.mpr c20
                   clear c20
                   obtain rfl := Option.some.inj H
                   go_wp2
                   go_ret
                   exact ⟨by first | rfl | (simp; done) | (simp [*]; done), by repeat (first | exact Drawn0.refl _ | apply Drawn0.step)⟩
                  ·rw [if_neg c20] at H
                   have c20b0 : (a0 == 16) = false := beq_eq_false_iff_ne.mpr c20
                   have c20b1 : (a0 != 16) = true := bne_iff_ne.mpr c20
                   by_cases c21 : a0 = 17
                   ·rw [if_pos c21] at H
                    have c21b0 : (a0 == 17) = true := beq_iff_eq.mpr c21
                    have c21b1 : (a0 != 17) = false := bne_eq_false_iff_eq.mpr c21
                    clear c21
                    obtain rfl := Option.some.inj H
                    go_wp2
                    go_ret
                    exact ⟨by first | rfl | (simp; done) | (simp [*]; done), by repeat (first | exact Drawn0.refl _ | apply Drawn0.step)⟩
                   ·rw [if_neg c21] at H
                    have c21b0 : (a0 == 17) = false := beq_eq_false_iff_ne.mpr c21
                    have c21b1 : (a0 != 17) = true := bne_iff_ne.mpr c21
                    by_cases c22 : a0 = 18
                    ·rw [if_pos c22] at H
                     have c22b0 : (a0 == 18) = true := beq_iff_eq.mpr c22
                     have c22b1 : (a0 != 18) = false := bne_eq_false_iff_eq.mpr c22
                     clear c22
                     obtain rfl := Option.some.inj H
                     go_wp2
                     go_ret
                     exact ⟨by first | rfl | (simp; done) | (simp [*]; done), by repeat (first | exact Drawn0.refl _ | apply Drawn0.step)⟩
                    ·rw [if_neg c22] at H
                     have c22b0 : (a0 == 18) = false := beq_eq_false_iff_ne.mpr c22
                     have c22b1 : (a0 != 18) = true := bne_iff_ne.mpr c22
                     by_cases c23 : a0 = 19
                     ·rw [if_pos c23] at H
                      have c23b0 : (a0 == 19) = true := beq_iff_eq.mpr c23
                      have c23b1 : (a0 != 19) = false := bne_eq_false_iff_eq.mpr c23
                      clear c23
                      obtain rfl := Option.some.inj H
                      go_wp2
                      go_ret
                      exact ⟨by first | rfl | (simp; done) | (simp [*]; done), by repeat (first | exact Drawn0.refl _ | apply Drawn0.step)⟩
                     ·rw [if_neg c23] at H
                      have c23b0 : (a0 == 19) = false := beq_eq_false_iff_ne.mpr c23
                      have c23b1 : (a0 != 19) = true := bne_iff_ne.mpr c23
                      by_cases c24 : a0 = 20
                      ·rw [if_pos c24] at H
                       have c24b0 : (a0 == 20) = true := beq_iff_eq.mpr c24
                       have c24b1 : (a0 != 20) = false := bne_eq_false_iff_eq.mpr c24
                       clear c24
                       obtain rfl := Option.some.inj H
                       go_wp2
                       go_ret
                       exact ⟨by first | rfl | (simp; done) | (simp [*]; done), by repeat (first | exact Drawn0.refl _ | apply Drawn0.step)⟩
                      ·rw [if_neg c24] at H
                       have c24b0 : (a0 == 20) = false := beq_eq_false_iff_ne.mpr c24
                       have c24b1 : (a0 != 20) = true := bne_iff_ne.mpr c24
                       by_cases c25 : a0 = 21
                       ·rw [if_pos c25] at H
                        have c25b0 : (a0 == 21) = true := beq_iff_eq.mpr c25
                        have c25b1 : (a0 != 21) = false := bne_eq_false_iff_eq.mpr c25
                        clear c25
                        obtain rfl := Option.some.inj H
                        go_wp2
                        go_ret
                        exact ⟨by first | rfl | (simp; done) | (simp [*]; done), by repeat (first | exact Drawn0.refl _ | apply Drawn0.step)⟩
                       ·rw [if_neg c25] at H
                        have c25b0 : (a0 == 21) = false := beq_eq_false_iff_ne.mpr c25
                        have c25b1 : (a0 != 21) = true := bne_iff_ne.mpr c25
                        by_cases c26 : a0 = 22
                        ·rw [if_pos c26] at H
                         have c26b0 : (a0 == 22) = true := beq_iff_eq.mpr c26
                         have c26b1 : (a0 != 22) = false := bne_eq_false_iff_eq.mpr c26
                         clear c26
                         obtain rfl := Option.some.inj H
                         go_wp2
                         go_ret
                         exact ⟨by first | rfl | (simp; done) | (simp [*]; done), by repeat (first | exact Drawn0.refl _ | apply Drawn0.step)⟩
                        ·rw [if_neg c26] at H
                         have c26b0 : (a0 == 22) = false := beq_eq_false_iff_ne.mpr c26
                         have c26b1 : (a0 != 22) = true := bne_iff_ne.mpr c26
                         by_cases c27 : a0 = 23
                         ·rw [if_pos c27] at H
                          have c27b0 : (a0 == 23) = true := beq_iff_eq.mpr c27
                          have c27b1 : (a0 != 23) = false := bne_eq_false_iff_eq.mpr c27
                          clear c27
                          obtain rfl := Option.some.inj H
                          go_wp2
                          go_ret
                          exact ⟨by first | rfl | (simp; done) | (simp [*]; done), by repeat (first | exact Drawn0.refl _ | apply Drawn0.step)⟩
                         ·rw [if_neg c27] at H
                          have c27b0 : (a0 == 23) = false := beq_eq_false_iff_ne.mpr c27
                          have c27b1 : (a0 != 23) = true := bne_iff_ne.mpr c27
                          by_cases c28 : a0 = 24
                          ·rw [if_pos c28] at H
                           have c28b0 : (a0 == 24) = true := beq_iff_eq.mpr c28
                           have c28b1 : (a0 != 24) = false := bne_eq_false_iff_eq.mpr c28
                           clear c28
                           obtain rfl := Option.some.inj H
                           go_wp2
                           go_ret
                           exact ⟨by first | rfl | (simp; done) | (simp [*]; done), by repeat (first | exact Drawn0.refl _ | apply Drawn0.step)⟩
                          ·rw [if_neg c28] at H
                           have c28b0 : (a0 == 24) = false := beq_eq_false_iff_ne.mpr c28
                           have c28b1 : (a0 != 24) = true := bne_iff_ne.mpr c28
                           by_cases c29 : a0 = 25
                           ·rw [if_pos c29] at H
                            have c29b0 : (a0 == 25) = true := beq_iff_eq.mpr c29
                            have c29b1 : (a0 != 25) = false := bne_eq_false_iff_eq.mpr c29
                            clear c29
                            obtain rfl := Option.some.inj H
                            go_wp2
                            go_ret
                            exact ⟨by first | rfl | (simp; done) | (simp [*]; done), by repeat (first | exact Drawn0.refl _ | apply Drawn0.step)⟩
                           ·rw [if_neg c29] at H
                            have c29b0 : (a0 == 25) = false := beq_eq_false_iff_ne.mpr c29
                            have c29b1 : (a0 != 25) = true := bne_iff_ne.mpr c29
                            by_cases c30 : a0 = 26
                            ·rw [if_pos c30] at H
                             have c30b0 : (a0 == 26) = true := beq_iff_eq.mpr c30
                             have c30b1 : (a0 != 26) = false := bne_eq_false_iff_eq.mpr c30
                             clear c30
                             obtain rfl := Option.some.inj H
                             go_wp2
                             go_ret
                             exact ⟨by first | rfl | (simp; done) | (simp [*]; done), by repeat (first | exact Drawn0.refl _ | apply Drawn0.step)⟩
                            ·rw [if_neg c30] at H
                             have c30b0 : (a0 == 26) = false := beq_eq_false_iff_ne.mpr c30
                             have c30b1 : (a0 != 26) = true := bne_iff_ne.mpr c30
                             by_cases c31 : a0 = 27
                             ·rw [if_pos c31] at H
                              have c31b0 : (a0 == 27) = true := beq_iff_eq.mpr c31
                              have c31b1 : (a0 != 27) = false := bne_eq_false_iff_eq.mpr c31
                              clear c31
                              obtain rfl := Option.some.inj H
                              go_wp2
                              go_ret
                              exact ⟨by first | rfl | (simp; done) | (simp [*]; done), by repeat (first | exact Drawn0.refl _ | apply Drawn0.step)⟩
                             ·rw [if_neg c31] at H
                              have c31b0 : (a0 == 27) = false := beq_eq_false_iff_ne.mpr c31
                              have c31b1 : (a0 != 27) = true := bne_iff_ne.mpr c31
                              by_cases c32 : a0 = 28
                              ·rw [if_pos c32] at H
                               have c32b0 : (a0 == 28) = true := beq_iff_eq.mpr c32
                               have c32b1 : (a0 != 28) = false := bne_eq_false_iff_eq.mpr c32
                               clear c32
                               obtain rfl := Option.some.inj H
                               go_wp2
                               go_ret
                               exact ⟨by first | rfl | (simp; done) | (simp [*]; done), by repeat (first | exact Drawn0.refl _ | apply Drawn0.step)⟩
                              ·rw [if_neg c32] at H
                               have c32b0 : (a0 == 28) = false := beq_eq_false_iff_ne.mpr c32
                               have c32b1 : (a0 != 28) = true := bne_iff_ne.mpr c32
                               by_cases c33 : a0 = 29
                               ·rw [if_pos c33] at H
                                have c33b0 : (a0 == 29) = true := beq_iff_eq.mpr c33
                                have c33b1 : (a0 != 29) = false := bne_eq_false_iff_eq.mpr c33
                                clear c33
                                obtain rfl := Option.some.inj H
                                go_wp2
                                go_ret
                                exact ⟨by first | rfl | (simp; done) | (simp [*]; done), by repeat (first | exact Drawn0.refl _ | apply Drawn0.step)⟩
                               ·rw [if_neg c33] at H
                                have c33b0 : (a0 == 29) = false := beq_eq_false_iff_ne.mpr c33
                                have c33b1 : (a0 != 29) = true := bne_iff_ne.mpr c33
                                by_cases c34 : a0 = 30
                                ·rw [if_pos c34] at H
                                 have c34b0 : (a0 == 30) = true := beq_iff_eq.mpr c34
                                 have c34b1 : (a0 != 30) = false := bne_eq_false_iff_eq.mpr c34
                                 clear c34
                                 obtain rfl := Option.some.inj H
                                 go_wp2
                                 go_ret
                                 exact ⟨by first | rfl | (simp; done) | (simp [*]; done), by repeat (first | exact Drawn0.refl _ | apply Drawn0.step)⟩
                                ·rw [if_neg c34] at H
                                 have c34b0 : (a0 == 30) = false := beq_eq_false_iff_ne.mpr c34
                                 have c34b1 : (a0 != 30) = true := bne_iff_ne.mpr c34
                                 by_cases c35 : a0 = 31
                                 ·rw [if_pos c35] at H
                                  have c35b0 : (a0 == 31) = true := beq_iff_eq.mpr c35
                                  have c35b1 : (a0 != 31) = false := bne_eq_false_iff_eq.mpr c35
                                  clear c35
                                  obtain rfl := Option.some.inj H
                                  go_wp2
                                  go_ret
                                  exact ⟨by first | rfl | (simp; done) | (simp [*]; done), by repeat (first | exact Drawn0.refl _ | apply Drawn0.step)⟩
                                 ·rw [if_neg c35] at H
                                  have c35b0 : (a0 == 31) = false := beq_eq_false_iff_ne.mpr c35
                                  have c35b1 : (a0 != 31) = true := bne_iff_ne.mpr c35
                                  replace H := Option.bind_eq_some_iff.mp H
                                  obtain ⟨t314, A360, H⟩ := H
                                  replace H : (some t314) = some r := H
                                  have A36 := Aside0.mk A360
                                  clear A360
                                  obtain rfl := Option.some.inj H
                                  go_wp2_with (first | ((with_reducible refine gate_callee (f := 44) rfl ?_); refine goesL_ (some 71) rfl rfl Tryd.func44 (by kernel_rfl) rfl #[.int .i64 a0, .bool a1] rfl (by (try simp only [List.map_toArray, List.map_cons, List.map_nil]); first | done | rfl | (simp only [List.length_drop, List.length_take]; rfl)) ?_; (with_reducible refine (whirligigref06_late.calls kj7 a0 a1 t314 _ A36.out).mono ?_); rintro e w' ⟨rfl, ⟨nd, rfl⟩⟩; refine ⟨_, rfl, ?_⟩))
                                  go_ret
                                  exact ⟨by first | rfl | (simp; done) | (simp [*]; done), by repeat (first | exact Drawn0.refl _ | apply Drawn0.step)⟩

end Go.Proofs.YtpjbfpheenamiaaDoor.PF
-- PRINTED by print.py (a twelfth state) out of the translation. Not trusted: Lean checks it.
namespace Go.Proofs.YtpjbfpheenamiaaDoor.PF
open Go.RowKit Go.Proofs.YtpjbfpheenamiaaDoorW.PrintWords Go.Proofs.YtpjbfpheenamiaaDoorW.PrintLast Go.Proofs.YtpjbfpheenamiaaDoorW.PrintMore
attribute [local go_sem] max2_int min2_int max_two min_two max_three min_three max_four min_four   -- for this text's walks alone
set_option linter.unusedVariables false
set_option linter.unusedSimpArgs false

/-! ### whirligigref01_sign: function 57 -/
def whirligigref01_sign.f (a0 : Int) : Option (ByteArray) := if 0 ≤ a0 then (if a0 ≤ (wrap64 (a0 + 1)) then (if (wrap64 (a0 + 1)) ≤ 16 then (some ((⟨#[48, 49, 50, 51, 52, 53, 54, 55, 56, 57, 65, 66, 67, 68, 69, 70]⟩ : ByteArray).extract (a0 : Int).toNat ((wrap64 (a0 + 1)) : Int).toNat)) else (none)) else (none)) else (none)
set_option maxHeartbeats 8000000 in
set_option maxRecDepth 100000 in
theorem whirligigref01_sign.calls (a0 : Int) (r : ByteArray) (w : World) (h : whirligigref01_sign.f a0 = some r) :
  Calls Tryd.prog 57 #[.int .i64 a0] w fun e w' => e = .returned (.string r) ∧ Drawn0 w w' := by
 have H : (if 0 ≤ a0 then (if a0 ≤ (wrap64 (a0 + 1)) then (if (wrap64 (a0 + 1)) ≤ 16 then (some ((⟨#[48, 49, 50, 51, 52, 53, 54, 55, 56, 57, 65, 66, 67, 68, 69, 70]⟩ : ByteArray).extract (a0 : Int).toNat ((wrap64 (a0 + 1)) : Int).toNat)) else (none)) else (none)) else (none)) = some r := h
 clear h
 by_cases c2 : 0 ≤ a0
 ·rw [if_pos c2] at H
  have c2b0 := eq_true c2
  have c2b1 : decide (0 ≤ a0) = true := decide_eq_true c2
  clear c2
  by_cases c3 : a0 ≤ (wrap64 (a0 + 1))
  ·rw [if_pos c3] at H
   have c3b0 := eq_true c3
   have c3b1 : decide (a0 ≤ (wrap64 (a0 + 1))) = true := decide_eq_true c3
   by_cases c4 : (wrap64 (a0 + 1)) ≤ 16
   ·rw [if_pos c4] at H
    have c4b0 := eq_true c4
    have c4b1 : decide ((wrap64 (a0 + 1)) ≤ 16) = true := decide_eq_true c4
    obtain rfl := Option.some.inj H
    go_enter Tryd.func57, Tryd.ntmps57
    go_wp2
    go_ret
    exact ⟨by first | rfl | (simp; done) | (simp [*]; done), by repeat (first | exact Drawn0.refl _ | apply Drawn0.step)⟩
   ·rw [if_neg c4] at H
    exact absurd H (by simp)
  ·rw [if_neg c3] at H
   exact absurd H (by simp)
 ·rw [if_neg c2] at H
  exact absurd H (by simp)

end Go.Proofs.YtpjbfpheenamiaaDoor.PF
-- PRINTED by print.py (a twelfth state) out of the translation. Not trusted: Lean checks it.
namespace Go.Proofs.YtpjbfpheenamiaaDoor.PF
open Go.RowKit Go.Proofs.YtpjbfpheenamiaaDoorW.PrintWords Go.Proofs.YtpjbfpheenamiaaDoorW.PrintLast Go.Proofs.YtpjbfpheenamiaaDoorW.PrintMore
attribute [local go_sem] max2_int min2_int max_two min_two max_three min_three max_four min_four   -- for this text's walks alone
set_option linter.unusedVariables false
set_option linter.unusedSimpArgs false

/-! ### whirligigref01_Hex8: function 32 -/
def whirligigref01_Hex8.f (a0 : Int) : Option (ByteArray) := (whirligigref01_sign.f (wrap64 (Int.tdiv (wrap64 (a0)) 16))).bind fun t315 => ((whirligigref01_sign.f (Int.tmod (wrap64 (a0)) 16)).bind fun t316 => (if t315.size + t316.size ≤ 9223372036854775807 then (some (t315 ++ t316)) else (none)))
set_option maxHeartbeats 8000000 in
set_option maxRecDepth 100000 in
theorem whirligigref01_Hex8.calls (a0 : Int) (r : ByteArray) (w : World) (h : whirligigref01_Hex8.f a0 = some r) :
  Calls Tryd.prog 32 #[.int .u8 a0] w fun e w' => e = .returned (.string r) ∧ Drawn0 w w' := by
 have H : ((whirligigref01_sign.f (wrap64 (Int.tdiv (wrap64 (a0)) 16))).bind fun t315 => ((whirligigref01_sign.f (Int.tmod (wrap64 (a0)) 16)).bind fun t316 => (if t315.size + t316.size ≤ 9223372036854775807 then (some (t315 ++ t316)) else (none)))) = some r := h
 clear h
 replace H := Option.bind_eq_some_iff.mp H
 obtain ⟨t315, A20, H⟩ := H
 replace H : ((whirligigref01_sign.f (Int.tmod (wrap64 (a0)) 16)).bind fun t316 => (if t315.size + t316.size ≤ 9223372036854775807 then (some (t315 ++ t316)) else (none))) = some r := H
 have A2 := Aside0.mk A20
 clear A20
 replace H := Option.bind_eq_some_iff.mp H
 obtain ⟨t316, A30, H⟩ := H
 replace H : (if t315.size + t316.size ≤ 9223372036854775807 then (some (t315 ++ t316)) else (none)) = some r := H
 have A3 := Aside0.mk A30
 clear A30
 by_cases c4 : t315.size + t316.size ≤ 9223372036854775807
 ·rw [if_pos c4] at H
  have c4b0 := eq_true c4
  have c4b1 : decide (t315.size + t316.size ≤ 9223372036854775807) = true := decide_eq_true c4
  try have c4b2 : (9223372036854775807 < t315.size + t316.size) = False := eq_false (Nat.not_lt.2 c4)
  obtain rfl := Option.some.inj H
  go_enter Tryd.func32, Tryd.ntmps32
  go_wp2_with (first | ((with_reducible refine gate_callee (f := 57) rfl ?_); refine goesL_ (some 6) rfl rfl Tryd.func57 (by kernel_rfl) rfl #[.int .i64 (wrap64 (Int.tdiv (wrap64 (a0)) 16))] rfl (by (try simp only [List.map_toArray, List.map_cons, List.map_nil]); first | done | rfl | (simp only [List.length_drop, List.length_take]; rfl)) ?_; (with_reducible refine (whirligigref01_sign.calls (wrap64 (Int.tdiv (wrap64 (a0)) 16)) t315 _ A2.out).mono ?_); rintro e w' ⟨rfl, ⟨nd, rfl⟩⟩; refine ⟨_, rfl, ?_⟩) | ((with_reducible refine gate_callee (f := 57) rfl ?_); refine goesL_ (some 10) rfl rfl Tryd.func57 (by kernel_rfl) rfl #[.int .i64 (Int.tmod (wrap64 (a0)) 16)] rfl (by (try simp only [List.map_toArray, List.map_cons, List.map_nil]); first | done | rfl | (simp only [List.length_drop, List.length_take]; rfl)) ?_; (with_reducible refine (whirligigref01_sign.calls (Int.tmod (wrap64 (a0)) 16) t316 _ A3.out).mono ?_); rintro e w' ⟨rfl, ⟨nd, rfl⟩⟩; refine ⟨_, rfl, ?_⟩))
  go_ret
  exact ⟨by first | rfl | (simp; done) | (simp [*]; done), by repeat (first | exact Drawn0.refl _ | apply Drawn0.step)⟩
 ·rw [if_neg c4] at H
  exact absurd H (by simp)

end Go.Proofs.YtpjbfpheenamiaaDoor.PF
