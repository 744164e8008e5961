-- PRINTED by print.py (a twelfth state) out of the translation. Not trusted: Lean checks it.
import Derived.Test.YtgffjhbmggmcoaaPF0
import Derived.Test.YtgffjhbmggmcoaaPF6
import Derived.Test.YtgffjhbmggmcoaaPFE28
import Derived.Test.YtgffjhbmggmcoaaGOrder
import Derived.Test.YtgffjhbmggmcoaaGShown16
namespace Go.Proofs.Ytgffjhbmggmcoaa.PF
open Go.RowKit Go.Proofs.YtgffjhbmggmcoaaW.PrintWords Go.Proofs.YtgffjhbmggmcoaaW.PrintLast Go.Proofs.YtgffjhbmggmcoaaW.PrintMore
attribute [local go_sem] max2_int min2_int max_two min_two max_three min_three max_four min_four   -- for this text's walks alone
set_option linter.unusedVariables false
set_option linter.unusedSimpArgs false

attribute [local go_sem high] eqA28
/-! ### whirligiglaw16_ObjectsSorted: function 4 -/
mutual
def whirligiglaw16_ObjectsSorted.l0 : Nat → List (S28) → Bool → List (S28) → Int → Option (Bool)
  | 0, _, _, _, _ => none
  | k + 1, x0, x3, x4, x5 => if x5 < (x4.length : Int) then (whirligiglaw16_ObjectsSorted.l1 k x0 x3 x4 x5 0 0 0) else ((objects_Order.f x4).bind fun t178 => ((whirligigref16_Same.f k t178 x4).bind fun t181 => (if x3 = true then (some t181) else (some false))))
def whirligiglaw16_ObjectsSorted.l1 : Nat → List (S28) → Bool → List (S28) → Int → Int → Int → Int → Option (Bool)
  | 0, _, _, _, _, _, _, _ => none
  | k + 1, x0, x3, x4, x5, x6, x7, x8 => if x8 < (x4.length : Int) then (if 0 ≤ x8 then (if 0 ≤ x5 then (if x5 < (x4.length : Int) then (if (((rd_T28 x4 x8).f0) == ((rd_T28 x4 x5).f0) && (((rd_T28 x4 x8).f1) == ((rd_T28 x4 x5).f1) && (((rd_T28 x4 x8).f2) == ((rd_T28 x4 x5).f2) && (((rd_T28 x4 x8).f3) == ((rd_T28 x4 x5).f3) && (((rd_T28 x4 x8).f4) == ((rd_T28 x4 x5).f4)))))) = true then (if x8 < (x0.length : Int) then (if (((rd_T28 x0 x8).f0) == ((rd_T28 x4 x5).f0) && (((rd_T28 x0 x8).f1) == ((rd_T28 x4 x5).f1) && (((rd_T28 x0 x8).f2) == ((rd_T28 x4 x5).f2) && (((rd_T28 x0 x8).f3) == ((rd_T28 x4 x5).f3) && (((rd_T28 x0 x8).f4) == ((rd_T28 x4 x5).f4)))))) = true then (whirligiglaw16_ObjectsSorted.l1 k x0 x3 x4 x5 (wrap64 (x6 + 1)) (wrap64 (x7 + 1)) (wrap64 (x8 + 1))) else (whirligiglaw16_ObjectsSorted.l1 k x0 x3 x4 x5 (wrap64 (x6 + 1)) x7 (wrap64 (x8 + 1)))) else (none)) else (if x8 < (x0.length : Int) then (if (((rd_T28 x0 x8).f0) == ((rd_T28 x4 x5).f0) && (((rd_T28 x0 x8).f1) == ((rd_T28 x4 x5).f1) && (((rd_T28 x0 x8).f2) == ((rd_T28 x4 x5).f2) && (((rd_T28 x0 x8).f3) == ((rd_T28 x4 x5).f3) && (((rd_T28 x0 x8).f4) == ((rd_T28 x4 x5).f4)))))) = true then (whirligiglaw16_ObjectsSorted.l1 k x0 x3 x4 x5 x6 (wrap64 (x7 + 1)) (wrap64 (x8 + 1))) else (whirligiglaw16_ObjectsSorted.l1 k x0 x3 x4 x5 x6 x7 (wrap64 (x8 + 1)))) else (none))) else (none)) else (none)) else (none)) else (if x6 = x7 then (if x5 > 0 then (if 0 ≤ x5 then (if x5 < (x4.length : Int) then (if 0 ≤ (wrap64 (x5 - 1)) then (if (wrap64 (x5 - 1)) < (x4.length : Int) then (if ((rd_T28 x4 x5).f1) < ((rd_T28 x4 (wrap64 (x5 - 1))).f1) then (some false) else (if ((rd_T28 x4 x5).f1) = ((rd_T28 x4 (wrap64 (x5 - 1))).f1) then (if ((rd_T28 x4 x5).f4) < ((rd_T28 x4 (wrap64 (x5 - 1))).f4) then (some false) else (whirligiglaw16_ObjectsSorted.l0 k x0 x3 x4 (wrap64 (x5 + 1)))) else (whirligiglaw16_ObjectsSorted.l0 k x0 x3 x4 (wrap64 (x5 + 1))))) else (none)) else (none)) else (none)) else (none)) else (whirligiglaw16_ObjectsSorted.l0 k x0 x3 x4 (wrap64 (x5 + 1)))) else (some false))
end
def whirligiglaw16_ObjectsSorted.f (k : Nat) (l0 : List (S28)) : Option (Bool) := (whirligiglaw16_shown.f).bind fun t174 => (if (l0.length : Int) > 300 then (some t174) else ((objects_Order.f l0).bind fun t175 => (if (t175.length : Int) = (l0.length : Int) then (whirligiglaw16_ObjectsSorted.l0 k l0 t174 t175 0) else (some false))))
theorem whirligiglaw16_ObjectsSorted.mono_l : ∀ k, (∀ y0 y1 y2 y3, LeO (whirligiglaw16_ObjectsSorted.l0 k y0 y1 y2 y3) (whirligiglaw16_ObjectsSorted.l0 (k + 1) y0 y1 y2 y3)) ∧ (∀ y0 y1 y2 y3 y4 y5 y6, LeO (whirligiglaw16_ObjectsSorted.l1 k y0 y1 y2 y3 y4 y5 y6) (whirligiglaw16_ObjectsSorted.l1 (k + 1) y0 y1 y2 y3 y4 y5 y6))
  | 0 => ⟨fun _ _ _ _ r h => by simp [whirligiglaw16_ObjectsSorted.l0] at h, fun _ _ _ _ _ _ _ r h => by simp [whirligiglaw16_ObjectsSorted.l1] at h⟩
  | k + 1 => by
    obtain ⟨ih0, ih1⟩ := whirligiglaw16_ObjectsSorted.mono_l k
    refine ⟨?_, ?_⟩
    · intro y0 y1 y2 y3
      unfold whirligiglaw16_ObjectsSorted.l0
      repeat' first
      | (with_reducible exact ih0 _ _ _ _)
      | (with_reducible exact ih1 _ _ _ _ _ _ _)
      | (with_reducible exact whirligigref16_Same.mono _ _ _)
      | (with_reducible exact LeO.refl _)
      | (with_reducible exact LeO.none _)
      | (with_reducible refine LeO.ite ?_ ?_)
      | (with_reducible refine LeO.bind ?_ (fun _ => ?_))
      | exact ih0 _ _ _ _
      | exact ih1 _ _ _ _ _ _ _
      | exact whirligigref16_Same.mono _ _ _
      | exact LeO.none _
      | refine LeO.ite ?_ ?_
      | refine LeO.bind ?_ (fun _ => ?_)
    · intro y0 y1 y2 y3 y4 y5 y6
      unfold whirligiglaw16_ObjectsSorted.l1
      repeat' first
      | (with_reducible exact ih0 _ _ _ _)
      | (with_reducible exact ih1 _ _ _ _ _ _ _)
      | (with_reducible exact whirligigref16_Same.mono _ _ _)
      | (with_reducible exact LeO.refl _)
      | (with_reducible exact LeO.none _)
      | (with_reducible refine LeO.ite ?_ ?_)
      | (with_reducible refine LeO.bind ?_ (fun _ => ?_))
      | exact ih0 _ _ _ _
      | exact ih1 _ _ _ _ _ _ _
      | exact whirligigref16_Same.mono _ _ _
      | exact LeO.none _
      | refine LeO.ite ?_ ?_
      | refine LeO.bind ?_ (fun _ => ?_)
theorem whirligiglaw16_ObjectsSorted.mono : ∀ a0 k, LeO (whirligiglaw16_ObjectsSorted.f k a0) (whirligiglaw16_ObjectsSorted.f (k + 1) a0) := by
  intro a0 k
  obtain ⟨ih0, ih1⟩ := whirligiglaw16_ObjectsSorted.mono_l k
  unfold whirligiglaw16_ObjectsSorted.f
  repeat' first
      | (with_reducible exact ih0 _ _ _ _)
      | (with_reducible exact ih1 _ _ _ _ _ _ _)
      | (with_reducible exact whirligigref16_Same.mono _ _ _)
      | (with_reducible exact LeO.refl _)
      | (with_reducible exact LeO.none _)
      | (with_reducible refine LeO.ite ?_ ?_)
      | (with_reducible refine LeO.bind ?_ (fun _ => ?_))
      | exact ih0 _ _ _ _
      | exact ih1 _ _ _ _ _ _ _
      | exact whirligigref16_Same.mono _ _ _
      | exact LeO.none _
      | refine LeO.ite ?_ ?_
      | refine LeO.bind ?_ (fun _ => ?_)
set_option maxHeartbeats 8000000 in
set_option maxRecDepth 100000 in
theorem whirligiglaw16_ObjectsSorted.calls (k : Nat) (A0 : Option Addr) (c0 : Nat) (l0 : List (S28)) (r : Bool) (w : World) (hr0 : Kd.C k28 w A0 l0.length l0) (hc0 : l0.length ≤ c0) (h : whirligiglaw16_ObjectsSorted.f k l0 = some r) :
    Calls Try.prog 4 #[.slice A0 l0.length c0] w fun e w' => e = .returned (.bool r) ∧ Below w.heap.size w w' := by
  have hu28 := Try.underlying28
  have HR0 := Aside0.mk hr0
  have HC0 := Aside0.mk hc0
  clear hr0 hc0
  have HB := Aside0.mk (Below.refl w.heap.size w)
  have H : ((whirligiglaw16_shown.f).bind fun t174 => (if (l0.length : Int) > 300 then (some t174) else ((objects_Order.f l0).bind fun t175 => (if (t175.length : Int) = (l0.length : Int) then (whirligiglaw16_ObjectsSorted.l0 k l0 t174 t175 0) else (some false))))) = some r := h
  clear h
  replace H := Option.bind_eq_some_iff.mp H
  obtain ⟨t174, A20, H⟩ := H
  replace H : (if (l0.length : Int) > 300 then (some t174) else ((objects_Order.f l0).bind fun t175 => (if (t175.length : Int) = (l0.length : Int) then (whirligiglaw16_ObjectsSorted.l0 k l0 t174 t175 0) else (some false)))) = some r := H
  have A2 := Aside0.mk A20
  clear A20
  by_cases c3 : (l0.length : Int) > 300
  · rw [if_pos c3] at H
    have c3b0 : decide (300 < (l0.length : Int)) = true := decide_eq_true c3
    have c3b1 : decide (300 < l0.length) = true := decide_eq_true (by omega)
    clear c3
    obtain rfl := Option.some.inj H
    go_enter Try.func4, Try.ntmps4
    go_wp2_with (first | (go_at_call 5; (with_reducible refine (whirligiglaw16_shown.calls  t174 _ A2.out).mono ?_); rintro e w4 ⟨rfl, hb⟩; have n0_ := Aside0.mk (below_step (by repeat (first | (with_reducible first | exact HB.out | apply below_alloc | apply pw_below_drewN | apply below_drew1) | exact HB.out)) hb); clear HB; have HB := n0_; clear n0_; (try clear hb); (try clear hb2); (try clear hk); (try clear hi)))
    repeat (go_quiet (first | (go_at_call 5; (with_reducible refine (whirligiglaw16_shown.calls  t174 _ A2.out).mono ?_); rintro e w4 ⟨rfl, hb⟩; have n0_ := Aside0.mk (below_step (by repeat (first | (with_reducible first | exact HB.out | apply below_alloc | apply pw_below_drewN | apply below_drew1) | exact HB.out)) hb); clear HB; have HB := n0_; clear n0_; (try clear hb); (try clear hb2); (try clear hk); (try clear hi))); try go_wp2_with (first | (go_at_call 5; (with_reducible refine (whirligiglaw16_shown.calls  t174 _ A2.out).mono ?_); rintro e w4 ⟨rfl, hb⟩; have n0_ := Aside0.mk (below_step (by repeat (first | (with_reducible first | exact HB.out | apply below_alloc | apply pw_below_drewN | apply below_drew1) | exact HB.out)) hb); clear HB; have HB := n0_; clear n0_; (try clear hb); (try clear hb2); (try clear hk); (try clear hi))))
    go_ret
    exact ⟨by first | rfl | (simp [errW_none, errW_some] <;> rfl) | (simp [*, errW_none, errW_some] <;> rfl), by repeat (first | (with_reducible first | exact HB.out | apply below_alloc | apply pw_below_drewN | apply below_drew1) | exact HB.out)⟩
  · rw [if_neg c3] at H
    have c3b0 : decide (300 < (l0.length : Int)) = false := decide_eq_false c3
    have c3b1 : decide (300 < l0.length) = false := decide_eq_false (by omega)
    clear c3
    replace H := Option.bind_eq_some_iff.mp H
    obtain ⟨t175, A50, H⟩ := H
    replace H : (if (t175.length : Int) = (l0.length : Int) then (whirligiglaw16_ObjectsSorted.l0 k l0 t174 t175 0) else (some false)) = some r := H
    have A5 := Aside0.mk A50
    clear A50
    by_cases c6 : (t175.length : Int) = (l0.length : Int)
    · rw [if_pos c6] at H
      have c6b0 : ((t175.length : Int) == (l0.length : Int)) = true := beq_iff_eq.mpr c6
      have c6b1 : ((t175.length : Int) != (l0.length : Int)) = false := bne_eq_false_iff_eq.mpr c6
      have c6b2 : (t175.length == l0.length) = true := by first | simpa using c6 | (simp at c6 ⊢; omega)
      clear c6
      have H' := Aside0.mk H
      clear H
      go_enter Try.func4, Try.ntmps4
      go_wp2_with (first | (go_at_call 5; (with_reducible refine (whirligiglaw16_shown.calls  t174 _ A2.out).mono ?_); rintro e w7 ⟨rfl, hb⟩; have n0_ := Aside0.mk (below_step (by repeat (first | (with_reducible first | exact HB.out | apply below_alloc | apply pw_below_drewN | apply below_drew1) | exact HB.out)) hb); clear HB; have HB := n0_; clear n0_; (try clear hb); (try clear hb2); (try clear hk); (try clear hi)) | (go_at_call 7; (with_reducible refine (objects_Order.calls _ _ l0 t175 _ ?side1 ?side2 A5.out).mono ?_); (case side1 => repeat (first | exact (Kd.C_below HR0.out HB.out) | (with_reducible refine Kd.C_alloc ?_ _) | (with_reducible refine Kd.C_drewN ?_ _) | (with_reducible refine Kd.C_drew ?_))); (case side2 => exact HC0.out); rintro e w8 ⟨v176, rfl, ho0, hb⟩; have n0_ := Aside0.mk (Kd.R_lower ho0 (below_size (by repeat (first | (with_reducible first | exact HB.out | apply below_alloc | apply pw_below_drewN | apply below_drew1) | exact HB.out)))); have n1_ := Aside0.mk (below_step (by repeat (first | (with_reducible first | exact HB.out | apply below_alloc | apply pw_below_drewN | apply below_drew1) | exact HB.out)) hb); clear HB; have HO177 := n0_; have HB := n1_; clear n0_ n1_; (try clear hb); (try clear hb2); (try clear hk); (try clear hi); (try clear ho0); obtain ⟨Ao9, co9, eo9⟩ := Kd.R_slice HO177.out; subst eo9))
      repeat (go_quiet (first | (go_at_call 5; (with_reducible refine (whirligiglaw16_shown.calls  t174 _ A2.out).mono ?_); rintro e w7 ⟨rfl, hb⟩; have n0_ := Aside0.mk (below_step (by repeat (first | (with_reducible first | exact HB.out | apply below_alloc | apply pw_below_drewN | apply below_drew1) | exact HB.out)) hb); clear HB; have HB := n0_; clear n0_; (try clear hb); (try clear hb2); (try clear hk); (try clear hi)) | (go_at_call 7; (with_reducible refine (objects_Order.calls _ _ l0 t175 _ ?side1 ?side2 A5.out).mono ?_); (case side1 => repeat (first | exact (Kd.C_below HR0.out HB.out) | (with_reducible refine Kd.C_alloc ?_ _) | (with_reducible refine Kd.C_drewN ?_ _) | (with_reducible refine Kd.C_drew ?_))); (case side2 => exact HC0.out); rintro e w8 ⟨v176, rfl, ho0, hb⟩; have n0_ := Aside0.mk (Kd.R_lower ho0 (below_size (by repeat (first | (with_reducible first | exact HB.out | apply below_alloc | apply pw_below_drewN | apply below_drew1) | exact HB.out)))); have n1_ := Aside0.mk (below_step (by repeat (first | (with_reducible first | exact HB.out | apply below_alloc | apply pw_below_drewN | apply below_drew1) | exact HB.out)) hb); clear HB; have HO177 := n0_; have HB := n1_; clear n0_ n1_; (try clear hb); (try clear hb2); (try clear hk); (try clear hi); (try clear ho0); obtain ⟨Ao9, co9, eo9⟩ := Kd.R_slice HO177.out; subst eo9)); try go_wp2_with (first | (go_at_call 5; (with_reducible refine (whirligiglaw16_shown.calls  t174 _ A2.out).mono ?_); rintro e w7 ⟨rfl, hb⟩; have n0_ := Aside0.mk (below_step (by repeat (first | (with_reducible first | exact HB.out | apply below_alloc | apply pw_below_drewN | apply below_drew1) | exact HB.out)) hb); clear HB; have HB := n0_; clear n0_; (try clear hb); (try clear hb2); (try clear hk); (try clear hi)) | (go_at_call 7; (with_reducible refine (objects_Order.calls _ _ l0 t175 _ ?side1 ?side2 A5.out).mono ?_); (case side1 => repeat (first | exact (Kd.C_below HR0.out HB.out) | (with_reducible refine Kd.C_alloc ?_ _) | (with_reducible refine Kd.C_drewN ?_ _) | (with_reducible refine Kd.C_drew ?_))); (case side2 => exact HC0.out); rintro e w8 ⟨v176, rfl, ho0, hb⟩; have n0_ := Aside0.mk (Kd.R_lower ho0 (below_size (by repeat (first | (with_reducible first | exact HB.out | apply below_alloc | apply pw_below_drewN | apply below_drew1) | exact HB.out)))); have n1_ := Aside0.mk (below_step (by repeat (first | (with_reducible first | exact HB.out | apply below_alloc | apply pw_below_drewN | apply below_drew1) | exact HB.out)) hb); clear HB; have HO177 := n0_; have HB := n1_; clear n0_ n1_; (try clear hb); (try clear hb2); (try clear hk); (try clear hi); (try clear ho0); obtain ⟨Ao9, co9, eo9⟩ := Kd.R_slice HO177.out; subst eo9)))
      go_loopg [5] k (fun kq v5 w' => ∃ (x5_1 : Int), v5 = .int .i64 x5_1 ∧ Aside0 (whirligiglaw16_ObjectsSorted.l0 kq l0 t174 t175 x5_1 = some r) ∧ Aside0 (kq ≤ k) ∧ Aside0 (Kd.R k28 28 w' w.heap.size (fun _ => True) (.slice Ao9 t175.length co9) t175) ∧ Aside0 (Below w.heap.size w w'))
      case atStart => exact ⟨(0), (by first | rfl | (simp; done) | (simp [*]; done)), H', ⟨Nat.le_refl _⟩, ⟨by (with_reducible repeat (first | apply Kd.R_alloc | apply Kd.R_drewN | apply Kd.R_drew)); exact HO177.out⟩, ⟨by repeat (first | (with_reducible first | exact HB.out | apply below_alloc | apply pw_below_drewN | apply below_drew1) | exact HB.out)⟩⟩
      case round =>
        clear H'
        try clear p2
        try clear c3
        try clear c3b0
        try clear c3b1
        try clear c4
        try clear c6
        try clear c6b0
        try clear c6b1
        try clear c6b2
        obtain ⟨x5_1, rfl, HA, HK1, HO_4, HB⟩ := hrel
        cases gk with
        | zero => exact absurd HA.out (by simp [whirligiglaw16_ObjectsSorted.l0])
        | succ k1 =>
          have H := HA.out
          clear HA
          simp only [whirligiglaw16_ObjectsSorted.l0] at H
          by_cases c10 : x5_1 < (t175.length : Int)
          · rw [if_pos c10] at H
            have c10b0 : decide (x5_1 < (t175.length : Int)) = true := decide_eq_true c10
            clear c10
            have H' := Aside0.mk H
            clear H
            go_wp2
            repeat (go_quiet (fail); try go_wp2)
            go_loopg [6, 7, 8] k1 (fun kq v6 v7 v8 w' => ∃ (x6_2 : Int) (x7_2 : Int) (x8_2 : Int), v6 = .int .i64 x6_2 ∧ v7 = .int .i64 x7_2 ∧ v8 = .int .i64 x8_2 ∧ Aside0 (whirligiglaw16_ObjectsSorted.l1 kq l0 t174 t175 x5_1 x6_2 x7_2 x8_2 = some r) ∧ Aside0 (kq ≤ k1) ∧ Aside0 (Kd.R k28 28 w' w.heap.size (fun _ => True) (.slice Ao9 t175.length co9) t175) ∧ Aside0 (Below w.heap.size w w'))
            case atStart => exact ⟨(0), (0), (0), (by first | rfl | (simp; done) | (simp [*]; done)), (by first | rfl | (simp; done) | (simp [*]; done)), (by first | rfl | (simp; done) | (simp [*]; done)), H', ⟨Nat.le_refl _⟩, ⟨by (with_reducible repeat (first | apply Kd.R_alloc | apply Kd.R_drewN | apply Kd.R_drew)); exact HO_4.out⟩, ⟨by repeat (first | (with_reducible first | exact HB.out | apply below_alloc | apply pw_below_drewN | apply below_drew1) | exact HB.out)⟩⟩
            case round =>
              clear H'
              try clear c1
              try clear p2
              try clear c3
              try clear c3b0
              try clear c3b1
              try clear c4
              try clear c6
              try clear c6b0
              try clear c6b1
              try clear c6b2
              try clear c10
              try clear c10b0
              try clear p2
              obtain ⟨x6_2, x7_2, x8_2, rfl, rfl, rfl, HA, HK2, HO_4, HB⟩ := hrel
              cases gk with
              | zero => exact absurd HA.out (by simp [whirligiglaw16_ObjectsSorted.l1])
              | succ k2 =>
                have H := HA.out
                clear HA
                simp only [whirligiglaw16_ObjectsSorted.l1] at H
                by_cases c11 : x8_2 < (t175.length : Int)
                · rw [if_pos c11] at H
                  have c11b0 : decide (x8_2 < (t175.length : Int)) = true := decide_eq_true c11
                  clear c11
                  by_cases c12 : 0 ≤ x8_2
                  · rw [if_pos c12] at H
                    have c12b0 : decide (0 ≤ x8_2) = true := decide_eq_true c12
                    clear c12
                    by_cases c13 : 0 ≤ x5_1
                    · rw [if_pos c13] at H
                      have c13b0 : decide (0 ≤ x5_1) = true := decide_eq_true c13
                      clear c13
                      by_cases c14 : x5_1 < (t175.length : Int)
                      · rw [if_pos c14] at H
                        have c14b0 : decide (x5_1 < (t175.length : Int)) = true := decide_eq_true c14
                        clear c14
                        by_cases c15 : (((rd_T28 t175 x8_2).f0) == ((rd_T28 t175 x5_1).f0) && (((rd_T28 t175 x8_2).f1) == ((rd_T28 t175 x5_1).f1) && (((rd_T28 t175 x8_2).f2) == ((rd_T28 t175 x5_1).f2) && (((rd_T28 t175 x8_2).f3) == ((rd_T28 t175 x5_1).f3) && (((rd_T28 t175 x8_2).f4) == ((rd_T28 t175 x5_1).f4)))))) = true
                        · rw [if_pos c15] at H
                          have c15b0 : (((rd_T28 t175 x8_2).f0) == ((rd_T28 t175 x5_1).f0) && (((rd_T28 t175 x8_2).f1) == ((rd_T28 t175 x5_1).f1) && (((rd_T28 t175 x8_2).f2) == ((rd_T28 t175 x5_1).f2) && (((rd_T28 t175 x8_2).f3) == ((rd_T28 t175 x5_1).f3) && (((rd_T28 t175 x8_2).f4) == ((rd_T28 t175 x5_1).f4)))))) = true := c15
                          (try (have c15b1 : decide (((rd_T28 t175 x8_2).f0) = ((rd_T28 t175 x5_1).f0) && (((rd_T28 t175 x8_2).f1) == ((rd_T28 t175 x5_1).f1) && (((rd_T28 t175 x8_2).f2) == ((rd_T28 t175 x5_1).f2) && (((rd_T28 t175 x8_2).f3) == ((rd_T28 t175 x5_1).f3) && (((rd_T28 t175 x8_2).f4) == ((rd_T28 t175 x5_1).f4)))))) = true := by simpa using c15))
                          (try (have c15b2 : (((rd_T28 t175 x8_2).f0) == ((rd_T28 t175 x5_1).f0) && (((rd_T28 t175 x8_2).f1) == ((rd_T28 t175 x5_1).f1) && (((rd_T28 t175 x8_2).f2) == ((rd_T28 t175 x5_1).f2) && (((rd_T28 t175 x8_2).f3) == ((rd_T28 t175 x5_1).f3) && (((rd_T28 t175 x8_2).f4) == ((rd_T28 t175 x5_1).f4)))))) = true := by simpa using c15))
                          clear c15
                          by_cases c16 : x8_2 < (l0.length : Int)
                          · rw [if_pos c16] at H
                            have c16b0 : decide (x8_2 < (l0.length : Int)) = true := decide_eq_true c16
                            clear c16
                            by_cases c17 : (((rd_T28 l0 x8_2).f0) == ((rd_T28 t175 x5_1).f0) && (((rd_T28 l0 x8_2).f1) == ((rd_T28 t175 x5_1).f1) && (((rd_T28 l0 x8_2).f2) == ((rd_T28 t175 x5_1).f2) && (((rd_T28 l0 x8_2).f3) == ((rd_T28 t175 x5_1).f3) && (((rd_T28 l0 x8_2).f4) == ((rd_T28 t175 x5_1).f4)))))) = true
                            · rw [if_pos c17] at H
                              have c17b0 : (((rd_T28 l0 x8_2).f0) == ((rd_T28 t175 x5_1).f0) && (((rd_T28 l0 x8_2).f1) == ((rd_T28 t175 x5_1).f1) && (((rd_T28 l0 x8_2).f2) == ((rd_T28 t175 x5_1).f2) && (((rd_T28 l0 x8_2).f3) == ((rd_T28 t175 x5_1).f3) && (((rd_T28 l0 x8_2).f4) == ((rd_T28 t175 x5_1).f4)))))) = true := c17
                              (try (have c17b1 : decide (((rd_T28 l0 x8_2).f0) = ((rd_T28 t175 x5_1).f0) && (((rd_T28 l0 x8_2).f1) == ((rd_T28 t175 x5_1).f1) && (((rd_T28 l0 x8_2).f2) == ((rd_T28 t175 x5_1).f2) && (((rd_T28 l0 x8_2).f3) == ((rd_T28 t175 x5_1).f3) && (((rd_T28 l0 x8_2).f4) == ((rd_T28 t175 x5_1).f4)))))) = true := by simpa using c17))
                              (try (have c17b2 : (((rd_T28 l0 x8_2).f0) == ((rd_T28 t175 x5_1).f0) && (((rd_T28 l0 x8_2).f1) == ((rd_T28 t175 x5_1).f1) && (((rd_T28 l0 x8_2).f2) == ((rd_T28 t175 x5_1).f2) && (((rd_T28 l0 x8_2).f3) == ((rd_T28 t175 x5_1).f3) && (((rd_T28 l0 x8_2).f4) == ((rd_T28 t175 x5_1).f4)))))) = true := by simpa using c17))
                              clear c17
                              have H' := Aside0.mk H
                              clear H
                              have p188 : 0 ≤ (x8_2 : Int) := of_decide_eq_true (by first | (with_reducible assumption) | assumption)
                              have q188 : x8_2 < (t175.length : Int) := of_decide_eq_true (by first | (with_reducible assumption) | assumption)
                              obtain ⟨ad188, e188, hx188_0, hx188_1, hx188_2, hx188_3, hx188_4⟩ := at_T28 (Kd.R_reads' HO_4.out).2.2 x8_2 p188 q188
                              cases e188
                              replace p188 := eq_true p188
                              replace q188 := eq_true q188
                              have p189 : 0 ≤ (x5_1 : Int) := of_decide_eq_true (by first | (with_reducible assumption) | assumption)
                              have q189 : x5_1 < (t175.length : Int) := of_decide_eq_true (by first | (with_reducible assumption) | assumption)
                              obtain ⟨ad189, e189, hx189_0, hx189_1, hx189_2, hx189_3, hx189_4⟩ := at_T28 (Kd.R_reads' HO_4.out).2.2 x5_1 p189 q189
                              obtain rfl : ad188 = ad189 := (by injection e189)
                              replace p189 := eq_true p189
                              replace q189 := eq_true q189
                              have p190 : 0 ≤ (x8_2 : Int) := of_decide_eq_true (by first | (with_reducible assumption) | assumption)
                              have q190 : x8_2 < (l0.length : Int) := of_decide_eq_true (by first | (with_reducible assumption) | assumption)
                              obtain ⟨ad190, e190, hx190_0, hx190_1, hx190_2, hx190_3, hx190_4⟩ := at_T28 HR0.out x8_2 p190 q190
                              cases e190
                              replace hx190_0 := (HB.out.cell (World.block_lt_of_cell? w _ hx190_0)).trans hx190_0
                              replace hx190_1 := (HB.out.cell (World.block_lt_of_cell? w _ hx190_1)).trans hx190_1
                              replace hx190_2 := (HB.out.cell (World.block_lt_of_cell? w _ hx190_2)).trans hx190_2
                              replace hx190_3 := (HB.out.cell (World.block_lt_of_cell? w _ hx190_3)).trans hx190_3
                              replace hx190_4 := (HB.out.cell (World.block_lt_of_cell? w _ hx190_4)).trans hx190_4
                              replace p190 := eq_true p190
                              replace q190 := eq_true q190
                              have p191 : 0 ≤ (x5_1 : Int) := of_decide_eq_true (by first | (with_reducible assumption) | assumption)
                              have q191 : x5_1 < (t175.length : Int) := of_decide_eq_true (by first | (with_reducible assumption) | assumption)
                              obtain ⟨ad191, e191, hx191_0, hx191_1, hx191_2, hx191_3, hx191_4⟩ := at_T28 (Kd.R_reads' HO_4.out).2.2 x5_1 p191 q191
                              obtain rfl : ad188 = ad191 := (by injection e191)
                              replace p191 := eq_true p191
                              replace q191 := eq_true q191
                              go_wp2
                              repeat (go_quiet (fail); try go_wp2)
                              go_roundg k2
                              case measure => have := HK1.out; have := HK2.out; omega
                              case rel => exact ⟨(wrap64 (x6_2 + 1)), (wrap64 (x7_2 + 1)), (wrap64 (x8_2 + 1)), (by first | rfl | (simp; done) | (simp [*]; done)), (by first | rfl | (simp; done) | (simp [*]; done)), (by first | rfl | (simp; done) | (simp [*]; done)), H', ⟨by have := HK1.out; have := HK2.out; omega⟩, ⟨by (with_reducible repeat (first | apply Kd.R_alloc | apply Kd.R_drewN | apply Kd.R_drew)); exact HO_4.out⟩, ⟨by repeat (first | (with_reducible first | exact HB.out | apply below_alloc | apply pw_below_drewN | apply below_drew1) | exact HB.out)⟩⟩
                            · rw [if_neg c17] at H
                              have c17b0 : (((rd_T28 l0 x8_2).f0) == ((rd_T28 t175 x5_1).f0) && (((rd_T28 l0 x8_2).f1) == ((rd_T28 t175 x5_1).f1) && (((rd_T28 l0 x8_2).f2) == ((rd_T28 t175 x5_1).f2) && (((rd_T28 l0 x8_2).f3) == ((rd_T28 t175 x5_1).f3) && (((rd_T28 l0 x8_2).f4) == ((rd_T28 t175 x5_1).f4)))))) = false := by simpa using c17
                              (try (have c17b1 : decide (((rd_T28 l0 x8_2).f0) = ((rd_T28 t175 x5_1).f0) && (((rd_T28 l0 x8_2).f1) == ((rd_T28 t175 x5_1).f1) && (((rd_T28 l0 x8_2).f2) == ((rd_T28 t175 x5_1).f2) && (((rd_T28 l0 x8_2).f3) == ((rd_T28 t175 x5_1).f3) && (((rd_T28 l0 x8_2).f4) == ((rd_T28 t175 x5_1).f4)))))) = false := by simpa using c17))
                              (try (have c17b2 : (((rd_T28 l0 x8_2).f0) == ((rd_T28 t175 x5_1).f0) && (((rd_T28 l0 x8_2).f1) == ((rd_T28 t175 x5_1).f1) && (((rd_T28 l0 x8_2).f2) == ((rd_T28 t175 x5_1).f2) && (((rd_T28 l0 x8_2).f3) == ((rd_T28 t175 x5_1).f3) && (((rd_T28 l0 x8_2).f4) == ((rd_T28 t175 x5_1).f4)))))) = false := by simpa using c17))
                              (try (have c17b3 : ¬ (((rd_T28 l0 x8_2).f0) = ((rd_T28 t175 x5_1).f0) && (((rd_T28 l0 x8_2).f1) == ((rd_T28 t175 x5_1).f1) && (((rd_T28 l0 x8_2).f2) == ((rd_T28 t175 x5_1).f2) && (((rd_T28 l0 x8_2).f3) == ((rd_T28 t175 x5_1).f3) && (((rd_T28 l0 x8_2).f4) == ((rd_T28 t175 x5_1).f4)))))) := by simpa using c17))
                              clear c17
                              have H' := Aside0.mk H
                              clear H
                              have p188 : 0 ≤ (x8_2 : Int) := of_decide_eq_true (by first | (with_reducible assumption) | assumption)
                              have q188 : x8_2 < (t175.length : Int) := of_decide_eq_true (by first | (with_reducible assumption) | assumption)
                              obtain ⟨ad188, e188, hx188_0, hx188_1, hx188_2, hx188_3, hx188_4⟩ := at_T28 (Kd.R_reads' HO_4.out).2.2 x8_2 p188 q188
                              cases e188
                              replace p188 := eq_true p188
                              replace q188 := eq_true q188
                              have p189 : 0 ≤ (x5_1 : Int) := of_decide_eq_true (by first | (with_reducible assumption) | assumption)
                              have q189 : x5_1 < (t175.length : Int) := of_decide_eq_true (by first | (with_reducible assumption) | assumption)
                              obtain ⟨ad189, e189, hx189_0, hx189_1, hx189_2, hx189_3, hx189_4⟩ := at_T28 (Kd.R_reads' HO_4.out).2.2 x5_1 p189 q189
                              obtain rfl : ad188 = ad189 := (by injection e189)
                              replace p189 := eq_true p189
                              replace q189 := eq_true q189
                              have p190 : 0 ≤ (x8_2 : Int) := of_decide_eq_true (by first | (with_reducible assumption) | assumption)
                              have q190 : x8_2 < (l0.length : Int) := of_decide_eq_true (by first | (with_reducible assumption) | assumption)
                              obtain ⟨ad190, e190, hx190_0, hx190_1, hx190_2, hx190_3, hx190_4⟩ := at_T28 HR0.out x8_2 p190 q190
                              cases e190
                              replace hx190_0 := (HB.out.cell (World.block_lt_of_cell? w _ hx190_0)).trans hx190_0
                              replace hx190_1 := (HB.out.cell (World.block_lt_of_cell? w _ hx190_1)).trans hx190_1
                              replace hx190_2 := (HB.out.cell (World.block_lt_of_cell? w _ hx190_2)).trans hx190_2
                              replace hx190_3 := (HB.out.cell (World.block_lt_of_cell? w _ hx190_3)).trans hx190_3
                              replace hx190_4 := (HB.out.cell (World.block_lt_of_cell? w _ hx190_4)).trans hx190_4
                              replace p190 := eq_true p190
                              replace q190 := eq_true q190
                              have p191 : 0 ≤ (x5_1 : Int) := of_decide_eq_true (by first | (with_reducible assumption) | assumption)
                              have q191 : x5_1 < (t175.length : Int) := of_decide_eq_true (by first | (with_reducible assumption) | assumption)
                              obtain ⟨ad191, e191, hx191_0, hx191_1, hx191_2, hx191_3, hx191_4⟩ := at_T28 (Kd.R_reads' HO_4.out).2.2 x5_1 p191 q191
                              obtain rfl : ad188 = ad191 := (by injection e191)
                              replace p191 := eq_true p191
                              replace q191 := eq_true q191
                              go_wp2
                              repeat (go_quiet (fail); try go_wp2)
                              go_roundg k2
                              case measure => have := HK1.out; have := HK2.out; omega
                              case rel => exact ⟨(wrap64 (x6_2 + 1)), (x7_2), (wrap64 (x8_2 + 1)), (by first | rfl | (simp; done) | (simp [*]; done)), (by first | rfl | (simp; done) | (simp [*]; done)), (by first | rfl | (simp; done) | (simp [*]; done)), H', ⟨by have := HK1.out; have := HK2.out; omega⟩, ⟨by (with_reducible repeat (first | apply Kd.R_alloc | apply Kd.R_drewN | apply Kd.R_drew)); exact HO_4.out⟩, ⟨by repeat (first | (with_reducible first | exact HB.out | apply below_alloc | apply pw_below_drewN | apply below_drew1) | exact HB.out)⟩⟩
                          · rw [if_neg c16] at H
                            exact absurd H (by simp)
                        · rw [if_neg c15] at H
                          have c15b0 : (((rd_T28 t175 x8_2).f0) == ((rd_T28 t175 x5_1).f0) && (((rd_T28 t175 x8_2).f1) == ((rd_T28 t175 x5_1).f1) && (((rd_T28 t175 x8_2).f2) == ((rd_T28 t175 x5_1).f2) && (((rd_T28 t175 x8_2).f3) == ((rd_T28 t175 x5_1).f3) && (((rd_T28 t175 x8_2).f4) == ((rd_T28 t175 x5_1).f4)))))) = false := by simpa using c15
                          (try (have c15b1 : decide (((rd_T28 t175 x8_2).f0) = ((rd_T28 t175 x5_1).f0) && (((rd_T28 t175 x8_2).f1) == ((rd_T28 t175 x5_1).f1) && (((rd_T28 t175 x8_2).f2) == ((rd_T28 t175 x5_1).f2) && (((rd_T28 t175 x8_2).f3) == ((rd_T28 t175 x5_1).f3) && (((rd_T28 t175 x8_2).f4) == ((rd_T28 t175 x5_1).f4)))))) = false := by simpa using c15))
                          (try (have c15b2 : (((rd_T28 t175 x8_2).f0) == ((rd_T28 t175 x5_1).f0) && (((rd_T28 t175 x8_2).f1) == ((rd_T28 t175 x5_1).f1) && (((rd_T28 t175 x8_2).f2) == ((rd_T28 t175 x5_1).f2) && (((rd_T28 t175 x8_2).f3) == ((rd_T28 t175 x5_1).f3) && (((rd_T28 t175 x8_2).f4) == ((rd_T28 t175 x5_1).f4)))))) = false := by simpa using c15))
                          (try (have c15b3 : ¬ (((rd_T28 t175 x8_2).f0) = ((rd_T28 t175 x5_1).f0) && (((rd_T28 t175 x8_2).f1) == ((rd_T28 t175 x5_1).f1) && (((rd_T28 t175 x8_2).f2) == ((rd_T28 t175 x5_1).f2) && (((rd_T28 t175 x8_2).f3) == ((rd_T28 t175 x5_1).f3) && (((rd_T28 t175 x8_2).f4) == ((rd_T28 t175 x5_1).f4)))))) := by simpa using c15))
                          clear c15
                          by_cases c18 : x8_2 < (l0.length : Int)
                          · rw [if_pos c18] at H
                            have c18b0 : decide (x8_2 < (l0.length : Int)) = true := decide_eq_true c18
                            clear c18
                            by_cases c19 : (((rd_T28 l0 x8_2).f0) == ((rd_T28 t175 x5_1).f0) && (((rd_T28 l0 x8_2).f1) == ((rd_T28 t175 x5_1).f1) && (((rd_T28 l0 x8_2).f2) == ((rd_T28 t175 x5_1).f2) && (((rd_T28 l0 x8_2).f3) == ((rd_T28 t175 x5_1).f3) && (((rd_T28 l0 x8_2).f4) == ((rd_T28 t175 x5_1).f4)))))) = true
                            · rw [if_pos c19] at H
                              have c19b0 : (((rd_T28 l0 x8_2).f0) == ((rd_T28 t175 x5_1).f0) && (((rd_T28 l0 x8_2).f1) == ((rd_T28 t175 x5_1).f1) && (((rd_T28 l0 x8_2).f2) == ((rd_T28 t175 x5_1).f2) && (((rd_T28 l0 x8_2).f3) == ((rd_T28 t175 x5_1).f3) && (((rd_T28 l0 x8_2).f4) == ((rd_T28 t175 x5_1).f4)))))) = true := c19
                              (try (have c19b1 : decide (((rd_T28 l0 x8_2).f0) = ((rd_T28 t175 x5_1).f0) && (((rd_T28 l0 x8_2).f1) == ((rd_T28 t175 x5_1).f1) && (((rd_T28 l0 x8_2).f2) == ((rd_T28 t175 x5_1).f2) && (((rd_T28 l0 x8_2).f3) == ((rd_T28 t175 x5_1).f3) && (((rd_T28 l0 x8_2).f4) == ((rd_T28 t175 x5_1).f4)))))) = true := by simpa using c19))
                              (try (have c19b2 : (((rd_T28 l0 x8_2).f0) == ((rd_T28 t175 x5_1).f0) && (((rd_T28 l0 x8_2).f1) == ((rd_T28 t175 x5_1).f1) && (((rd_T28 l0 x8_2).f2) == ((rd_T28 t175 x5_1).f2) && (((rd_T28 l0 x8_2).f3) == ((rd_T28 t175 x5_1).f3) && (((rd_T28 l0 x8_2).f4) == ((rd_T28 t175 x5_1).f4)))))) = true := by simpa using c19))
                              clear c19
                              have H' := Aside0.mk H
                              clear H
                              have p188 : 0 ≤ (x8_2 : Int) := of_decide_eq_true (by first | (with_reducible assumption) | assumption)
                              have q188 : x8_2 < (t175.length : Int) := of_decide_eq_true (by first | (with_reducible assumption) | assumption)
                              obtain ⟨ad188, e188, hx188_0, hx188_1, hx188_2, hx188_3, hx188_4⟩ := at_T28 (Kd.R_reads' HO_4.out).2.2 x8_2 p188 q188
                              cases e188
                              replace p188 := eq_true p188
                              replace q188 := eq_true q188
                              have p189 : 0 ≤ (x5_1 : Int) := of_decide_eq_true (by first | (with_reducible assumption) | assumption)
                              have q189 : x5_1 < (t175.length : Int) := of_decide_eq_true (by first | (with_reducible assumption) | assumption)
                              obtain ⟨ad189, e189, hx189_0, hx189_1, hx189_2, hx189_3, hx189_4⟩ := at_T28 (Kd.R_reads' HO_4.out).2.2 x5_1 p189 q189
                              obtain rfl : ad188 = ad189 := (by injection e189)
                              replace p189 := eq_true p189
                              replace q189 := eq_true q189
                              have p192 : 0 ≤ (x8_2 : Int) := of_decide_eq_true (by first | (with_reducible assumption) | assumption)
                              have q192 : x8_2 < (l0.length : Int) := of_decide_eq_true (by first | (with_reducible assumption) | assumption)
                              obtain ⟨ad192, e192, hx192_0, hx192_1, hx192_2, hx192_3, hx192_4⟩ := at_T28 HR0.out x8_2 p192 q192
                              cases e192
                              replace hx192_0 := (HB.out.cell (World.block_lt_of_cell? w _ hx192_0)).trans hx192_0
                              replace hx192_1 := (HB.out.cell (World.block_lt_of_cell? w _ hx192_1)).trans hx192_1
                              replace hx192_2 := (HB.out.cell (World.block_lt_of_cell? w _ hx192_2)).trans hx192_2
                              replace hx192_3 := (HB.out.cell (World.block_lt_of_cell? w _ hx192_3)).trans hx192_3
                              replace hx192_4 := (HB.out.cell (World.block_lt_of_cell? w _ hx192_4)).trans hx192_4
                              replace p192 := eq_true p192
                              replace q192 := eq_true q192
                              have p193 : 0 ≤ (x5_1 : Int) := of_decide_eq_true (by first | (with_reducible assumption) | assumption)
                              have q193 : x5_1 < (t175.length : Int) := of_decide_eq_true (by first | (with_reducible assumption) | assumption)
                              obtain ⟨ad193, e193, hx193_0, hx193_1, hx193_2, hx193_3, hx193_4⟩ := at_T28 (Kd.R_reads' HO_4.out).2.2 x5_1 p193 q193
                              obtain rfl : ad188 = ad193 := (by injection e193)
                              replace p193 := eq_true p193
                              replace q193 := eq_true q193
                              go_wp2
                              repeat (go_quiet (fail); try go_wp2)
                              go_roundg k2
                              case measure => have := HK1.out; have := HK2.out; omega
                              case rel => exact ⟨(x6_2), (wrap64 (x7_2 + 1)), (wrap64 (x8_2 + 1)), (by first | rfl | (simp; done) | (simp [*]; done)), (by first | rfl | (simp; done) | (simp [*]; done)), (by first | rfl | (simp; done) | (simp [*]; done)), H', ⟨by have := HK1.out; have := HK2.out; omega⟩, ⟨by (with_reducible repeat (first | apply Kd.R_alloc | apply Kd.R_drewN | apply Kd.R_drew)); exact HO_4.out⟩, ⟨by repeat (first | (with_reducible first | exact HB.out | apply below_alloc | apply pw_below_drewN | apply below_drew1) | exact HB.out)⟩⟩
                            · rw [if_neg c19] at H
                              have c19b0 : (((rd_T28 l0 x8_2).f0) == ((rd_T28 t175 x5_1).f0) && (((rd_T28 l0 x8_2).f1) == ((rd_T28 t175 x5_1).f1) && (((rd_T28 l0 x8_2).f2) == ((rd_T28 t175 x5_1).f2) && (((rd_T28 l0 x8_2).f3) == ((rd_T28 t175 x5_1).f3) && (((rd_T28 l0 x8_2).f4) == ((rd_T28 t175 x5_1).f4)))))) = false := by simpa using c19
                              (try (have c19b1 : decide (((rd_T28 l0 x8_2).f0) = ((rd_T28 t175 x5_1).f0) && (((rd_T28 l0 x8_2).f1) == ((rd_T28 t175 x5_1).f1) && (((rd_T28 l0 x8_2).f2) == ((rd_T28 t175 x5_1).f2) && (((rd_T28 l0 x8_2).f3) == ((rd_T28 t175 x5_1).f3) && (((rd_T28 l0 x8_2).f4) == ((rd_T28 t175 x5_1).f4)))))) = false := by simpa using c19))
                              (try (have c19b2 : (((rd_T28 l0 x8_2).f0) == ((rd_T28 t175 x5_1).f0) && (((rd_T28 l0 x8_2).f1) == ((rd_T28 t175 x5_1).f1) && (((rd_T28 l0 x8_2).f2) == ((rd_T28 t175 x5_1).f2) && (((rd_T28 l0 x8_2).f3) == ((rd_T28 t175 x5_1).f3) && (((rd_T28 l0 x8_2).f4) == ((rd_T28 t175 x5_1).f4)))))) = false := by simpa using c19))
                              (try (have c19b3 : ¬ (((rd_T28 l0 x8_2).f0) = ((rd_T28 t175 x5_1).f0) && (((rd_T28 l0 x8_2).f1) == ((rd_T28 t175 x5_1).f1) && (((rd_T28 l0 x8_2).f2) == ((rd_T28 t175 x5_1).f2) && (((rd_T28 l0 x8_2).f3) == ((rd_T28 t175 x5_1).f3) && (((rd_T28 l0 x8_2).f4) == ((rd_T28 t175 x5_1).f4)))))) := by simpa using c19))
                              clear c19
                              have H' := Aside0.mk H
                              clear H
                              have p188 : 0 ≤ (x8_2 : Int) := of_decide_eq_true (by first | (with_reducible assumption) | assumption)
                              have q188 : x8_2 < (t175.length : Int) := of_decide_eq_true (by first | (with_reducible assumption) | assumption)
                              obtain ⟨ad188, e188, hx188_0, hx188_1, hx188_2, hx188_3, hx188_4⟩ := at_T28 (Kd.R_reads' HO_4.out).2.2 x8_2 p188 q188
                              cases e188
                              replace p188 := eq_true p188
                              replace q188 := eq_true q188
                              have p189 : 0 ≤ (x5_1 : Int) := of_decide_eq_true (by first | (with_reducible assumption) | assumption)
                              have q189 : x5_1 < (t175.length : Int) := of_decide_eq_true (by first | (with_reducible assumption) | assumption)
                              obtain ⟨ad189, e189, hx189_0, hx189_1, hx189_2, hx189_3, hx189_4⟩ := at_T28 (Kd.R_reads' HO_4.out).2.2 x5_1 p189 q189
                              obtain rfl : ad188 = ad189 := (by injection e189)
                              replace p189 := eq_true p189
                              replace q189 := eq_true q189
                              have p192 : 0 ≤ (x8_2 : Int) := of_decide_eq_true (by first | (with_reducible assumption) | assumption)
                              have q192 : x8_2 < (l0.length : Int) := of_decide_eq_true (by first | (with_reducible assumption) | assumption)
                              obtain ⟨ad192, e192, hx192_0, hx192_1, hx192_2, hx192_3, hx192_4⟩ := at_T28 HR0.out x8_2 p192 q192
                              cases e192
                              replace hx192_0 := (HB.out.cell (World.block_lt_of_cell? w _ hx192_0)).trans hx192_0
                              replace hx192_1 := (HB.out.cell (World.block_lt_of_cell? w _ hx192_1)).trans hx192_1
                              replace hx192_2 := (HB.out.cell (World.block_lt_of_cell? w _ hx192_2)).trans hx192_2
                              replace hx192_3 := (HB.out.cell (World.block_lt_of_cell? w _ hx192_3)).trans hx192_3
                              replace hx192_4 := (HB.out.cell (World.block_lt_of_cell? w _ hx192_4)).trans hx192_4
                              replace p192 := eq_true p192
                              replace q192 := eq_true q192
                              have p193 : 0 ≤ (x5_1 : Int) := of_decide_eq_true (by first | (with_reducible assumption) | assumption)
                              have q193 : x5_1 < (t175.length : Int) := of_decide_eq_true (by first | (with_reducible assumption) | assumption)
                              obtain ⟨ad193, e193, hx193_0, hx193_1, hx193_2, hx193_3, hx193_4⟩ := at_T28 (Kd.R_reads' HO_4.out).2.2 x5_1 p193 q193
                              obtain rfl : ad188 = ad193 := (by injection e193)
                              replace p193 := eq_true p193
                              replace q193 := eq_true q193
                              go_wp2
                              repeat (go_quiet (fail); try go_wp2)
                              go_roundg k2
                              case measure => have := HK1.out; have := HK2.out; omega
                              case rel => exact ⟨(x6_2), (x7_2), (wrap64 (x8_2 + 1)), (by first | rfl | (simp; done) | (simp [*]; done)), (by first | rfl | (simp; done) | (simp [*]; done)), (by first | rfl | (simp; done) | (simp [*]; done)), H', ⟨by have := HK1.out; have := HK2.out; omega⟩, ⟨by (with_reducible repeat (first | apply Kd.R_alloc | apply Kd.R_drewN | apply Kd.R_drew)); exact HO_4.out⟩, ⟨by repeat (first | (with_reducible first | exact HB.out | apply below_alloc | apply pw_below_drewN | apply below_drew1) | exact HB.out)⟩⟩
                          · rw [if_neg c18] at H
                            exact absurd H (by simp)
                      · rw [if_neg c14] at H
                        exact absurd H (by simp)
                    · rw [if_neg c13] at H
                      exact absurd H (by simp)
                  · rw [if_neg c12] at H
                    exact absurd H (by simp)
                · rw [if_neg c11] at H
                  have c11b0 : decide (x8_2 < (t175.length : Int)) = false := decide_eq_false c11
                  clear c11
                  by_cases c20 : x6_2 = x7_2
                  · rw [if_pos c20] at H
                    have c20b0 : (x6_2 == x7_2) = true := beq_iff_eq.mpr c20
                    have c20b1 : (x6_2 != x7_2) = false := bne_eq_false_iff_eq.mpr c20
                    clear c20
                    by_cases c21 : x5_1 > 0
                    · rw [if_pos c21] at H
                      have c21b0 : decide (0 < x5_1) = true := decide_eq_true c21
                      clear c21
                      by_cases c22 : 0 ≤ x5_1
                      · rw [if_pos c22] at H
                        have c22b0 : decide (0 ≤ x5_1) = true := decide_eq_true c22
                        clear c22
                        by_cases c23 : x5_1 < (t175.length : Int)
                        · rw [if_pos c23] at H
                          have c23b0 : decide (x5_1 < (t175.length : Int)) = true := decide_eq_true c23
                          clear c23
                          obtain ⟨ji24, hji24⟩ : ∃ j_ : Int, (wrap64 (x5_1 - 1)) = j_ := ⟨_, rfl⟩
                          replace H : (if 0 ≤ (ji24) then (if (ji24) < (t175.length : Int) then (if ((rd_T28 t175 x5_1).f1) < ((rd_T28 t175 (ji24)).f1) then (some false) else (if ((rd_T28 t175 x5_1).f1) = ((rd_T28 t175 (ji24)).f1) then (if ((rd_T28 t175 x5_1).f4) < ((rd_T28 t175 (ji24)).f4) then (some false) else (whirligiglaw16_ObjectsSorted.l0 k2 l0 t174 t175 (wrap64 (x5_1 + 1)))) else (whirligiglaw16_ObjectsSorted.l0 k2 l0 t174 t175 (wrap64 (x5_1 + 1))))) else (none)) else (none)) = some r := by first | (rw [hji24] at H; exact H) | (simp only [hji24] at H ⊢; exact H)
                          have hji24w : (IntKind.i64.wrap (x5_1 - 1)) = ji24 := (i64_w _).trans hji24
                          by_cases c25 : 0 ≤ (ji24)
                          · rw [if_pos c25] at H
                            have c25b0 : decide (0 ≤ (ji24)) = true := decide_eq_true c25
                            clear c25
                            by_cases c26 : (ji24) < (t175.length : Int)
                            · rw [if_pos c26] at H
                              have c26b0 : decide ((ji24) < (t175.length : Int)) = true := decide_eq_true c26
                              clear c26
                              by_cases c27 : ((rd_T28 t175 x5_1).f1) < ((rd_T28 t175 (ji24)).f1)
                              · rw [if_pos c27] at H
                                have c27b0 : decide (((rd_T28 t175 x5_1).f1) < ((rd_T28 t175 (ji24)).f1)) = true := decide_eq_true c27
                                clear c27
                                obtain rfl := Option.some.inj H
                                have p182 : 0 ≤ (x5_1 : Int) := of_decide_eq_true (by first | (with_reducible assumption) | assumption)
                                have q182 : x5_1 < (t175.length : Int) := of_decide_eq_true (by first | (with_reducible assumption) | assumption)
                                obtain ⟨ad182, e182, hx182_0, hx182_1, hx182_2, hx182_3, hx182_4⟩ := at_T28 (Kd.R_reads' HO_4.out).2.2 x5_1 p182 q182
                                cases e182
                                replace p182 := eq_true p182
                                replace q182 := eq_true q182
                                have p183 : 0 ≤ ((ji24) : Int) := of_decide_eq_true (by first | (with_reducible assumption) | assumption)
                                have q183 : (ji24) < (t175.length : Int) := of_decide_eq_true (by first | (with_reducible assumption) | assumption)
                                obtain ⟨ad183, e183, hx183_0, hx183_1, hx183_2, hx183_3, hx183_4⟩ := at_T28 (Kd.R_reads' HO_4.out).2.2 (ji24) p183 q183
                                obtain rfl : ad182 = ad183 := (by injection e183)
                                replace p183 := eq_true p183
                                replace q183 := eq_true q183
                                go_wp2
                                repeat (go_quiet (fail); try go_wp2)
                                go_ret
                                exact ⟨by first | rfl | (simp [errW_none, errW_some] <;> rfl) | (simp only [← hji24]; first | rfl | (simp [errW_none, errW_some] <;> rfl)) | (simp [*, errW_none, errW_some] <;> rfl), by repeat (first | (with_reducible first | exact HB.out | apply below_alloc | apply pw_below_drewN | apply below_drew1) | exact HB.out)⟩
                              · rw [if_neg c27] at H
                                have c27b0 : decide (((rd_T28 t175 x5_1).f1) < ((rd_T28 t175 (ji24)).f1)) = false := decide_eq_false c27
                                clear c27
                                by_cases c28 : ((rd_T28 t175 x5_1).f1) = ((rd_T28 t175 (ji24)).f1)
                                · rw [if_pos c28] at H
                                  have c28b0 : (((rd_T28 t175 x5_1).f1) == ((rd_T28 t175 (ji24)).f1)) = true := beq_iff_eq.mpr c28
                                  have c28b1 : (((rd_T28 t175 x5_1).f1) != ((rd_T28 t175 (ji24)).f1)) = false := bne_eq_false_iff_eq.mpr c28
                                  clear c28
                                  by_cases c29 : ((rd_T28 t175 x5_1).f4) < ((rd_T28 t175 (ji24)).f4)
                                  · rw [if_pos c29] at H
                                    have c29b0 : decide (((rd_T28 t175 x5_1).f4) < ((rd_T28 t175 (ji24)).f4)) = true := decide_eq_true c29
                                    clear c29
                                    obtain rfl := Option.some.inj H
                                    have p182 : 0 ≤ (x5_1 : Int) := of_decide_eq_true (by first | (with_reducible assumption) | assumption)
                                    have q182 : x5_1 < (t175.length : Int) := of_decide_eq_true (by first | (with_reducible assumption) | assumption)
                                    obtain ⟨ad182, e182, hx182_0, hx182_1, hx182_2, hx182_3, hx182_4⟩ := at_T28 (Kd.R_reads' HO_4.out).2.2 x5_1 p182 q182
                                    cases e182
                                    replace p182 := eq_true p182
                                    replace q182 := eq_true q182
                                    have p183 : 0 ≤ ((ji24) : Int) := of_decide_eq_true (by first | (with_reducible assumption) | assumption)
                                    have q183 : (ji24) < (t175.length : Int) := of_decide_eq_true (by first | (with_reducible assumption) | assumption)
                                    obtain ⟨ad183, e183, hx183_0, hx183_1, hx183_2, hx183_3, hx183_4⟩ := at_T28 (Kd.R_reads' HO_4.out).2.2 (ji24) p183 q183
                                    obtain rfl : ad182 = ad183 := (by injection e183)
                                    replace p183 := eq_true p183
                                    replace q183 := eq_true q183
                                    have p184 : 0 ≤ (x5_1 : Int) := of_decide_eq_true (by first | (with_reducible assumption) | assumption)
                                    have q184 : x5_1 < (t175.length : Int) := of_decide_eq_true (by first | (with_reducible assumption) | assumption)
                                    obtain ⟨ad184, e184, hx184_0, hx184_1, hx184_2, hx184_3, hx184_4⟩ := at_T28 (Kd.R_reads' HO_4.out).2.2 x5_1 p184 q184
                                    obtain rfl : ad182 = ad184 := (by injection e184)
                                    replace p184 := eq_true p184
                                    replace q184 := eq_true q184
                                    have p185 : 0 ≤ ((ji24) : Int) := of_decide_eq_true (by first | (with_reducible assumption) | assumption)
                                    have q185 : (ji24) < (t175.length : Int) := of_decide_eq_true (by first | (with_reducible assumption) | assumption)
                                    obtain ⟨ad185, e185, hx185_0, hx185_1, hx185_2, hx185_3, hx185_4⟩ := at_T28 (Kd.R_reads' HO_4.out).2.2 (ji24) p185 q185
                                    obtain rfl : ad182 = ad185 := (by injection e185)
                                    replace p185 := eq_true p185
                                    replace q185 := eq_true q185
                                    have p186 : 0 ≤ (x5_1 : Int) := of_decide_eq_true (by first | (with_reducible assumption) | assumption)
                                    have q186 : x5_1 < (t175.length : Int) := of_decide_eq_true (by first | (with_reducible assumption) | assumption)
                                    obtain ⟨ad186, e186, hx186_0, hx186_1, hx186_2, hx186_3, hx186_4⟩ := at_T28 (Kd.R_reads' HO_4.out).2.2 x5_1 p186 q186
                                    obtain rfl : ad182 = ad186 := (by injection e186)
                                    replace p186 := eq_true p186
                                    replace q186 := eq_true q186
                                    have p187 : 0 ≤ ((ji24) : Int) := of_decide_eq_true (by first | (with_reducible assumption) | assumption)
                                    have q187 : (ji24) < (t175.length : Int) := of_decide_eq_true (by first | (with_reducible assumption) | assumption)
                                    obtain ⟨ad187, e187, hx187_0, hx187_1, hx187_2, hx187_3, hx187_4⟩ := at_T28 (Kd.R_reads' HO_4.out).2.2 (ji24) p187 q187
                                    obtain rfl : ad182 = ad187 := (by injection e187)
                                    replace p187 := eq_true p187
                                    replace q187 := eq_true q187
                                    go_wp2
                                    repeat (go_quiet (fail); try go_wp2)
                                    go_ret
                                    exact ⟨by first | rfl | (simp [errW_none, errW_some] <;> rfl) | (simp only [← hji24]; first | rfl | (simp [errW_none, errW_some] <;> rfl)) | (simp [*, errW_none, errW_some] <;> rfl), by repeat (first | (with_reducible first | exact HB.out | apply below_alloc | apply pw_below_drewN | apply below_drew1) | exact HB.out)⟩
                                  · rw [if_neg c29] at H
                                    have c29b0 : decide (((rd_T28 t175 x5_1).f4) < ((rd_T28 t175 (ji24)).f4)) = false := decide_eq_false c29
                                    clear c29
                                    have H' := Aside0.mk H
                                    clear H
                                    have p182 : 0 ≤ (x5_1 : Int) := of_decide_eq_true (by first | (with_reducible assumption) | assumption)
                                    have q182 : x5_1 < (t175.length : Int) := of_decide_eq_true (by first | (with_reducible assumption) | assumption)
                                    obtain ⟨ad182, e182, hx182_0, hx182_1, hx182_2, hx182_3, hx182_4⟩ := at_T28 (Kd.R_reads' HO_4.out).2.2 x5_1 p182 q182
                                    cases e182
                                    replace p182 := eq_true p182
                                    replace q182 := eq_true q182
                                    have p183 : 0 ≤ ((ji24) : Int) := of_decide_eq_true (by first | (with_reducible assumption) | assumption)
                                    have q183 : (ji24) < (t175.length : Int) := of_decide_eq_true (by first | (with_reducible assumption) | assumption)
                                    obtain ⟨ad183, e183, hx183_0, hx183_1, hx183_2, hx183_3, hx183_4⟩ := at_T28 (Kd.R_reads' HO_4.out).2.2 (ji24) p183 q183
                                    obtain rfl : ad182 = ad183 := (by injection e183)
                                    replace p183 := eq_true p183
                                    replace q183 := eq_true q183
                                    have p184 : 0 ≤ (x5_1 : Int) := of_decide_eq_true (by first | (with_reducible assumption) | assumption)
                                    have q184 : x5_1 < (t175.length : Int) := of_decide_eq_true (by first | (with_reducible assumption) | assumption)
                                    obtain ⟨ad184, e184, hx184_0, hx184_1, hx184_2, hx184_3, hx184_4⟩ := at_T28 (Kd.R_reads' HO_4.out).2.2 x5_1 p184 q184
                                    obtain rfl : ad182 = ad184 := (by injection e184)
                                    replace p184 := eq_true p184
                                    replace q184 := eq_true q184
                                    have p185 : 0 ≤ ((ji24) : Int) := of_decide_eq_true (by first | (with_reducible assumption) | assumption)
                                    have q185 : (ji24) < (t175.length : Int) := of_decide_eq_true (by first | (with_reducible assumption) | assumption)
                                    obtain ⟨ad185, e185, hx185_0, hx185_1, hx185_2, hx185_3, hx185_4⟩ := at_T28 (Kd.R_reads' HO_4.out).2.2 (ji24) p185 q185
                                    obtain rfl : ad182 = ad185 := (by injection e185)
                                    replace p185 := eq_true p185
                                    replace q185 := eq_true q185
                                    have p186 : 0 ≤ (x5_1 : Int) := of_decide_eq_true (by first | (with_reducible assumption) | assumption)
                                    have q186 : x5_1 < (t175.length : Int) := of_decide_eq_true (by first | (with_reducible assumption) | assumption)
                                    obtain ⟨ad186, e186, hx186_0, hx186_1, hx186_2, hx186_3, hx186_4⟩ := at_T28 (Kd.R_reads' HO_4.out).2.2 x5_1 p186 q186
                                    obtain rfl : ad182 = ad186 := (by injection e186)
                                    replace p186 := eq_true p186
                                    replace q186 := eq_true q186
                                    have p187 : 0 ≤ ((ji24) : Int) := of_decide_eq_true (by first | (with_reducible assumption) | assumption)
                                    have q187 : (ji24) < (t175.length : Int) := of_decide_eq_true (by first | (with_reducible assumption) | assumption)
                                    obtain ⟨ad187, e187, hx187_0, hx187_1, hx187_2, hx187_3, hx187_4⟩ := at_T28 (Kd.R_reads' HO_4.out).2.2 (ji24) p187 q187
                                    obtain rfl : ad182 = ad187 := (by injection e187)
                                    replace p187 := eq_true p187
                                    replace q187 := eq_true q187
                                    go_wp2
                                    repeat (go_quiet (fail); try go_wp2)
                                    go_roundg k2
                                    case measure => have := HK1.out; have := HK2.out; omega
                                    case rel => exact ⟨(wrap64 (x5_1 + 1)), (by first | rfl | (simp; done) | (simp [*]; done)), H', ⟨by have := HK1.out; have := HK2.out; omega⟩, ⟨by (with_reducible repeat (first | apply Kd.R_alloc | apply Kd.R_drewN | apply Kd.R_drew)); exact HO_4.out⟩, ⟨by repeat (first | (with_reducible first | exact HB.out | apply below_alloc | apply pw_below_drewN | apply below_drew1) | exact HB.out)⟩⟩
                                · rw [if_neg c28] at H
                                  have c28b0 : (((rd_T28 t175 x5_1).f1) == ((rd_T28 t175 (ji24)).f1)) = false := beq_eq_false_iff_ne.mpr c28
                                  have c28b1 : (((rd_T28 t175 x5_1).f1) != ((rd_T28 t175 (ji24)).f1)) = true := bne_iff_ne.mpr c28
                                  have H' := Aside0.mk H
                                  clear H
                                  have p182 : 0 ≤ (x5_1 : Int) := of_decide_eq_true (by first | (with_reducible assumption) | assumption)
                                  have q182 : x5_1 < (t175.length : Int) := of_decide_eq_true (by first | (with_reducible assumption) | assumption)
                                  obtain ⟨ad182, e182, hx182_0, hx182_1, hx182_2, hx182_3, hx182_4⟩ := at_T28 (Kd.R_reads' HO_4.out).2.2 x5_1 p182 q182
                                  cases e182
                                  replace p182 := eq_true p182
                                  replace q182 := eq_true q182
                                  have p183 : 0 ≤ ((ji24) : Int) := of_decide_eq_true (by first | (with_reducible assumption) | assumption)
                                  have q183 : (ji24) < (t175.length : Int) := of_decide_eq_true (by first | (with_reducible assumption) | assumption)
                                  obtain ⟨ad183, e183, hx183_0, hx183_1, hx183_2, hx183_3, hx183_4⟩ := at_T28 (Kd.R_reads' HO_4.out).2.2 (ji24) p183 q183
                                  obtain rfl : ad182 = ad183 := (by injection e183)
                                  replace p183 := eq_true p183
                                  replace q183 := eq_true q183
                                  have p184 : 0 ≤ (x5_1 : Int) := of_decide_eq_true (by first | (with_reducible assumption) | assumption)
                                  have q184 : x5_1 < (t175.length : Int) := of_decide_eq_true (by first | (with_reducible assumption) | assumption)
                                  obtain ⟨ad184, e184, hx184_0, hx184_1, hx184_2, hx184_3, hx184_4⟩ := at_T28 (Kd.R_reads' HO_4.out).2.2 x5_1 p184 q184
                                  obtain rfl : ad182 = ad184 := (by injection e184)
                                  replace p184 := eq_true p184
                                  replace q184 := eq_true q184
                                  have p185 : 0 ≤ ((ji24) : Int) := of_decide_eq_true (by first | (with_reducible assumption) | assumption)
                                  have q185 : (ji24) < (t175.length : Int) := of_decide_eq_true (by first | (with_reducible assumption) | assumption)
                                  obtain ⟨ad185, e185, hx185_0, hx185_1, hx185_2, hx185_3, hx185_4⟩ := at_T28 (Kd.R_reads' HO_4.out).2.2 (ji24) p185 q185
                                  obtain rfl : ad182 = ad185 := (by injection e185)
                                  replace p185 := eq_true p185
                                  replace q185 := eq_true q185
                                  go_wp2
                                  repeat (go_quiet (fail); try go_wp2)
                                  go_roundg k2
                                  case measure => have := HK1.out; have := HK2.out; omega
                                  case rel => exact ⟨(wrap64 (x5_1 + 1)), (by first | rfl | (simp; done) | (simp [*]; done)), H', ⟨by have := HK1.out; have := HK2.out; omega⟩, ⟨by (with_reducible repeat (first | apply Kd.R_alloc | apply Kd.R_drewN | apply Kd.R_drew)); exact HO_4.out⟩, ⟨by repeat (first | (with_reducible first | exact HB.out | apply below_alloc | apply pw_below_drewN | apply below_drew1) | exact HB.out)⟩⟩
                            · rw [if_neg c26] at H
                              exact absurd H (by simp)
                          · rw [if_neg c25] at H
                            exact absurd H (by simp)
                        · rw [if_neg c23] at H
                          exact absurd H (by simp)
                      · rw [if_neg c22] at H
                        exact absurd H (by simp)
                    · rw [if_neg c21] at H
                      have c21b0 : decide (0 < x5_1) = false := decide_eq_false c21
                      clear c21
                      have H' := Aside0.mk H
                      clear H
                      go_wp2
                      repeat (go_quiet (fail); try go_wp2)
                      go_roundg k2
                      case measure => have := HK1.out; have := HK2.out; omega
                      case rel => exact ⟨(wrap64 (x5_1 + 1)), (by first | rfl | (simp; done) | (simp [*]; done)), H', ⟨by have := HK1.out; have := HK2.out; omega⟩, ⟨by (with_reducible repeat (first | apply Kd.R_alloc | apply Kd.R_drewN | apply Kd.R_drew)); exact HO_4.out⟩, ⟨by repeat (first | (with_reducible first | exact HB.out | apply below_alloc | apply pw_below_drewN | apply below_drew1) | exact HB.out)⟩⟩
                  · rw [if_neg c20] at H
                    have c20b0 : (x6_2 == x7_2) = false := beq_eq_false_iff_ne.mpr c20
                    have c20b1 : (x6_2 != x7_2) = true := bne_iff_ne.mpr c20
                    obtain rfl := Option.some.inj H
                    go_wp2
                    repeat (go_quiet (fail); try go_wp2)
                    go_ret
                    exact ⟨by first | rfl | (simp [errW_none, errW_some] <;> rfl) | (simp [*, errW_none, errW_some] <;> rfl), by repeat (first | (with_reducible first | exact HB.out | apply below_alloc | apply pw_below_drewN | apply below_drew1) | exact HB.out)⟩
          · rw [if_neg c10] at H
            have c10b0 : decide (x5_1 < (t175.length : Int)) = false := decide_eq_false c10
            clear c10
            replace H := Option.bind_eq_some_iff.mp H
            obtain ⟨t178, A300, H⟩ := H
            replace H : ((whirligigref16_Same.f k1 t178 t175).bind fun t181 => (if t174 = true then (some t181) else (some false))) = some r := H
            have A30 := Aside0.mk A300
            clear A300
            replace H := Option.bind_eq_some_iff.mp H
            obtain ⟨t181, A310, H⟩ := H
            replace H : (if t174 = true then (some t181) else (some false)) = some r := H
            have A31 := Aside0.mk A310
            clear A310
            by_cases c32 : t174 = true
            · subst c32
              have H1 : (some t181) = some r := by rw [if_pos rfl] at H; exact H
              clear H
              have H := H1
              clear H1
              obtain rfl := Option.some.inj H
              go_wp2_with (first | (go_at_call 7; (with_reducible refine (objects_Order.calls _ _ t175 t178 _ ?side1 ?side2 A30.out).mono ?_); (case side1 => repeat (first | exact (Kd.R_reads' HO_4.out).2.2 | (with_reducible refine Kd.C_alloc ?_ _) | (with_reducible refine Kd.C_drewN ?_ _) | (with_reducible refine Kd.C_drew ?_))); (case side2 => exact (Kd.R_reads' HO_4.out).2.1); rintro e w33 ⟨v179, rfl, ho0, hb⟩; have n0_ := Aside0.mk (Kd.R_elder' (by (with_reducible repeat (first | apply Kd.R_alloc | apply Kd.R_drewN | apply Kd.R_drew)); exact HO_4.out) (Kd.R_base ho0) hb); have n1_ := Aside0.mk (Kd.R_lower (Kd.R_new' ho0 (Kd.R_lt (by (with_reducible repeat (first | apply Kd.R_alloc | apply Kd.R_drewN | apply Kd.R_drew)); exact HO_4.out))) (below_size (by repeat (first | (with_reducible first | exact HB.out | apply below_alloc | apply pw_below_drewN | apply below_drew1) | exact HB.out)))); have n2_ := Aside0.mk (below_step (by repeat (first | (with_reducible first | exact HB.out | apply below_alloc | apply pw_below_drewN | apply below_drew1) | exact HB.out)) hb); clear HO_4; clear HB; have HO_4 := n0_; have HO180 := n1_; have HB := n2_; clear n0_ n1_ n2_; (try clear hb); (try clear hb2); (try clear hk); (try clear hi); (try clear ho0); obtain ⟨Ao34, co34, eo34⟩ := Kd.R_slice HO180.out; subst eo34) | (go_at_call 6; (with_reducible refine (whirligigref16_Same.calls k1 _ _ t178 _ _ t175 t181 _ ?side1 ?side2 ?side3 ?side4 A31.out).mono ?_); (case side1 => repeat (first | exact (Kd.R_reads' HO180.out).2.2 | (with_reducible refine Kd.C_alloc ?_ _) | (with_reducible refine Kd.C_drewN ?_ _) | (with_reducible refine Kd.C_drew ?_))); (case side2 => exact (Kd.R_reads' HO180.out).2.1); (case side3 => repeat (first | exact (Kd.R_reads' HO_4.out).2.2 | (with_reducible refine Kd.C_alloc ?_ _) | (with_reducible refine Kd.C_drewN ?_ _) | (with_reducible refine Kd.C_drew ?_))); (case side4 => exact (Kd.R_reads' HO_4.out).2.1); rintro e w' ⟨rfl, ⟨nd, rfl⟩⟩; (try first | exact ⟨rfl, _, World.drewN_drewN _ _ _⟩ | exact ⟨rfl, _, Eq.trans (World.drewN_drewN _ _ _) (congrArg (World.drewN _) (Nat.add_assoc _ _ _))⟩)))
              repeat (go_quiet (first | (go_at_call 7; (with_reducible refine (objects_Order.calls _ _ t175 t178 _ ?side1 ?side2 A30.out).mono ?_); (case side1 => repeat (first | exact (Kd.R_reads' HO_4.out).2.2 | (with_reducible refine Kd.C_alloc ?_ _) | (with_reducible refine Kd.C_drewN ?_ _) | (with_reducible refine Kd.C_drew ?_))); (case side2 => exact (Kd.R_reads' HO_4.out).2.1); rintro e w33 ⟨v179, rfl, ho0, hb⟩; have n0_ := Aside0.mk (Kd.R_elder' (by (with_reducible repeat (first | apply Kd.R_alloc | apply Kd.R_drewN | apply Kd.R_drew)); exact HO_4.out) (Kd.R_base ho0) hb); have n1_ := Aside0.mk (Kd.R_lower (Kd.R_new' ho0 (Kd.R_lt (by (with_reducible repeat (first | apply Kd.R_alloc | apply Kd.R_drewN | apply Kd.R_drew)); exact HO_4.out))) (below_size (by repeat (first | (with_reducible first | exact HB.out | apply below_alloc | apply pw_below_drewN | apply below_drew1) | exact HB.out)))); have n2_ := Aside0.mk (below_step (by repeat (first | (with_reducible first | exact HB.out | apply below_alloc | apply pw_below_drewN | apply below_drew1) | exact HB.out)) hb); clear HO_4; clear HB; have HO_4 := n0_; have HO180 := n1_; have HB := n2_; clear n0_ n1_ n2_; (try clear hb); (try clear hb2); (try clear hk); (try clear hi); (try clear ho0); obtain ⟨Ao34, co34, eo34⟩ := Kd.R_slice HO180.out; subst eo34) | (go_at_call 6; (with_reducible refine (whirligigref16_Same.calls k1 _ _ t178 _ _ t175 t181 _ ?side1 ?side2 ?side3 ?side4 A31.out).mono ?_); (case side1 => repeat (first | exact (Kd.R_reads' HO180.out).2.2 | (with_reducible refine Kd.C_alloc ?_ _) | (with_reducible refine Kd.C_drewN ?_ _) | (with_reducible refine Kd.C_drew ?_))); (case side2 => exact (Kd.R_reads' HO180.out).2.1); (case side3 => repeat (first | exact (Kd.R_reads' HO_4.out).2.2 | (with_reducible refine Kd.C_alloc ?_ _) | (with_reducible refine Kd.C_drewN ?_ _) | (with_reducible refine Kd.C_drew ?_))); (case side4 => exact (Kd.R_reads' HO_4.out).2.1); rintro e w' ⟨rfl, ⟨nd, rfl⟩⟩; (try first | exact ⟨rfl, _, World.drewN_drewN _ _ _⟩ | exact ⟨rfl, _, Eq.trans (World.drewN_drewN _ _ _) (congrArg (World.drewN _) (Nat.add_assoc _ _ _))⟩))); try go_wp2_with (first | (go_at_call 7; (with_reducible refine (objects_Order.calls _ _ t175 t178 _ ?side1 ?side2 A30.out).mono ?_); (case side1 => repeat (first | exact (Kd.R_reads' HO_4.out).2.2 | (with_reducible refine Kd.C_alloc ?_ _) | (with_reducible refine Kd.C_drewN ?_ _) | (with_reducible refine Kd.C_drew ?_))); (case side2 => exact (Kd.R_reads' HO_4.out).2.1); rintro e w33 ⟨v179, rfl, ho0, hb⟩; have n0_ := Aside0.mk (Kd.R_elder' (by (with_reducible repeat (first | apply Kd.R_alloc | apply Kd.R_drewN | apply Kd.R_drew)); exact HO_4.out) (Kd.R_base ho0) hb); have n1_ := Aside0.mk (Kd.R_lower (Kd.R_new' ho0 (Kd.R_lt (by (with_reducible repeat (first | apply Kd.R_alloc | apply Kd.R_drewN | apply Kd.R_drew)); exact HO_4.out))) (below_size (by repeat (first | (with_reducible first | exact HB.out | apply below_alloc | apply pw_below_drewN | apply below_drew1) | exact HB.out)))); have n2_ := Aside0.mk (below_step (by repeat (first | (with_reducible first | exact HB.out | apply below_alloc | apply pw_below_drewN | apply below_drew1) | exact HB.out)) hb); clear HO_4; clear HB; have HO_4 := n0_; have HO180 := n1_; have HB := n2_; clear n0_ n1_ n2_; (try clear hb); (try clear hb2); (try clear hk); (try clear hi); (try clear ho0); obtain ⟨Ao34, co34, eo34⟩ := Kd.R_slice HO180.out; subst eo34) | (go_at_call 6; (with_reducible refine (whirligigref16_Same.calls k1 _ _ t178 _ _ t175 t181 _ ?side1 ?side2 ?side3 ?side4 A31.out).mono ?_); (case side1 => repeat (first | exact (Kd.R_reads' HO180.out).2.2 | (with_reducible refine Kd.C_alloc ?_ _) | (with_reducible refine Kd.C_drewN ?_ _) | (with_reducible refine Kd.C_drew ?_))); (case side2 => exact (Kd.R_reads' HO180.out).2.1); (case side3 => repeat (first | exact (Kd.R_reads' HO_4.out).2.2 | (with_reducible refine Kd.C_alloc ?_ _) | (with_reducible refine Kd.C_drewN ?_ _) | (with_reducible refine Kd.C_drew ?_))); (case side4 => exact (Kd.R_reads' HO_4.out).2.1); rintro e w' ⟨rfl, ⟨nd, rfl⟩⟩; (try first | exact ⟨rfl, _, World.drewN_drewN _ _ _⟩ | exact ⟨rfl, _, Eq.trans (World.drewN_drewN _ _ _) (congrArg (World.drewN _) (Nat.add_assoc _ _ _))⟩))))
              go_ret
              exact ⟨by first | rfl | (simp [errW_none, errW_some] <;> rfl) | (simp [*, errW_none, errW_some] <;> rfl), by repeat (first | (with_reducible first | exact HB.out | apply below_alloc | apply pw_below_drewN | apply below_drew1) | exact HB.out)⟩
            · replace c32 := Bool.eq_false_iff.mpr c32
              subst c32
              have H1 : (some false) = some r := by rw [if_neg (show ¬ (false = true) by decide)] at H; exact H
              clear H
              have H := H1
              clear H1
              obtain rfl := Option.some.inj H
              go_wp2_with (first | (go_at_call 7; (with_reducible refine (objects_Order.calls _ _ t175 t178 _ ?side1 ?side2 A30.out).mono ?_); (case side1 => repeat (first | exact (Kd.R_reads' HO_4.out).2.2 | (with_reducible refine Kd.C_alloc ?_ _) | (with_reducible refine Kd.C_drewN ?_ _) | (with_reducible refine Kd.C_drew ?_))); (case side2 => exact (Kd.R_reads' HO_4.out).2.1); rintro e w35 ⟨v179, rfl, ho0, hb⟩; have n0_ := Aside0.mk (Kd.R_elder' (by (with_reducible repeat (first | apply Kd.R_alloc | apply Kd.R_drewN | apply Kd.R_drew)); exact HO_4.out) (Kd.R_base ho0) hb); have n1_ := Aside0.mk (Kd.R_lower (Kd.R_new' ho0 (Kd.R_lt (by (with_reducible repeat (first | apply Kd.R_alloc | apply Kd.R_drewN | apply Kd.R_drew)); exact HO_4.out))) (below_size (by repeat (first | (with_reducible first | exact HB.out | apply below_alloc | apply pw_below_drewN | apply below_drew1) | exact HB.out)))); have n2_ := Aside0.mk (below_step (by repeat (first | (with_reducible first | exact HB.out | apply below_alloc | apply pw_below_drewN | apply below_drew1) | exact HB.out)) hb); clear HO_4; clear HB; have HO_4 := n0_; have HO180 := n1_; have HB := n2_; clear n0_ n1_ n2_; (try clear hb); (try clear hb2); (try clear hk); (try clear hi); (try clear ho0); obtain ⟨Ao36, co36, eo36⟩ := Kd.R_slice HO180.out; subst eo36) | (go_at_call 6; (with_reducible refine (whirligigref16_Same.calls k1 _ _ t178 _ _ t175 t181 _ ?side1 ?side2 ?side3 ?side4 A31.out).mono ?_); (case side1 => repeat (first | exact (Kd.R_reads' HO180.out).2.2 | (with_reducible refine Kd.C_alloc ?_ _) | (with_reducible refine Kd.C_drewN ?_ _) | (with_reducible refine Kd.C_drew ?_))); (case side2 => exact (Kd.R_reads' HO180.out).2.1); (case side3 => repeat (first | exact (Kd.R_reads' HO_4.out).2.2 | (with_reducible refine Kd.C_alloc ?_ _) | (with_reducible refine Kd.C_drewN ?_ _) | (with_reducible refine Kd.C_drew ?_))); (case side4 => exact (Kd.R_reads' HO_4.out).2.1); rintro e w' ⟨rfl, ⟨nd, rfl⟩⟩; (try first | exact ⟨rfl, _, World.drewN_drewN _ _ _⟩ | exact ⟨rfl, _, Eq.trans (World.drewN_drewN _ _ _) (congrArg (World.drewN _) (Nat.add_assoc _ _ _))⟩)))
              repeat (go_quiet (first | (go_at_call 7; (with_reducible refine (objects_Order.calls _ _ t175 t178 _ ?side1 ?side2 A30.out).mono ?_); (case side1 => repeat (first | exact (Kd.R_reads' HO_4.out).2.2 | (with_reducible refine Kd.C_alloc ?_ _) | (with_reducible refine Kd.C_drewN ?_ _) | (with_reducible refine Kd.C_drew ?_))); (case side2 => exact (Kd.R_reads' HO_4.out).2.1); rintro e w35 ⟨v179, rfl, ho0, hb⟩; have n0_ := Aside0.mk (Kd.R_elder' (by (with_reducible repeat (first | apply Kd.R_alloc | apply Kd.R_drewN | apply Kd.R_drew)); exact HO_4.out) (Kd.R_base ho0) hb); have n1_ := Aside0.mk (Kd.R_lower (Kd.R_new' ho0 (Kd.R_lt (by (with_reducible repeat (first | apply Kd.R_alloc | apply Kd.R_drewN | apply Kd.R_drew)); exact HO_4.out))) (below_size (by repeat (first | (with_reducible first | exact HB.out | apply below_alloc | apply pw_below_drewN | apply below_drew1) | exact HB.out)))); have n2_ := Aside0.mk (below_step (by repeat (first | (with_reducible first | exact HB.out | apply below_alloc | apply pw_below_drewN | apply below_drew1) | exact HB.out)) hb); clear HO_4; clear HB; have HO_4 := n0_; have HO180 := n1_; have HB := n2_; clear n0_ n1_ n2_; (try clear hb); (try clear hb2); (try clear hk); (try clear hi); (try clear ho0); obtain ⟨Ao36, co36, eo36⟩ := Kd.R_slice HO180.out; subst eo36) | (go_at_call 6; (with_reducible refine (whirligigref16_Same.calls k1 _ _ t178 _ _ t175 t181 _ ?side1 ?side2 ?side3 ?side4 A31.out).mono ?_); (case side1 => repeat (first | exact (Kd.R_reads' HO180.out).2.2 | (with_reducible refine Kd.C_alloc ?_ _) | (with_reducible refine Kd.C_drewN ?_ _) | (with_reducible refine Kd.C_drew ?_))); (case side2 => exact (Kd.R_reads' HO180.out).2.1); (case side3 => repeat (first | exact (Kd.R_reads' HO_4.out).2.2 | (with_reducible refine Kd.C_alloc ?_ _) | (with_reducible refine Kd.C_drewN ?_ _) | (with_reducible refine Kd.C_drew ?_))); (case side4 => exact (Kd.R_reads' HO_4.out).2.1); rintro e w' ⟨rfl, ⟨nd, rfl⟩⟩; (try first | exact ⟨rfl, _, World.drewN_drewN _ _ _⟩ | exact ⟨rfl, _, Eq.trans (World.drewN_drewN _ _ _) (congrArg (World.drewN _) (Nat.add_assoc _ _ _))⟩))); try go_wp2_with (first | (go_at_call 7; (with_reducible refine (objects_Order.calls _ _ t175 t178 _ ?side1 ?side2 A30.out).mono ?_); (case side1 => repeat (first | exact (Kd.R_reads' HO_4.out).2.2 | (with_reducible refine Kd.C_alloc ?_ _) | (with_reducible refine Kd.C_drewN ?_ _) | (with_reducible refine Kd.C_drew ?_))); (case side2 => exact (Kd.R_reads' HO_4.out).2.1); rintro e w35 ⟨v179, rfl, ho0, hb⟩; have n0_ := Aside0.mk (Kd.R_elder' (by (with_reducible repeat (first | apply Kd.R_alloc | apply Kd.R_drewN | apply Kd.R_drew)); exact HO_4.out) (Kd.R_base ho0) hb); have n1_ := Aside0.mk (Kd.R_lower (Kd.R_new' ho0 (Kd.R_lt (by (with_reducible repeat (first | apply Kd.R_alloc | apply Kd.R_drewN | apply Kd.R_drew)); exact HO_4.out))) (below_size (by repeat (first | (with_reducible first | exact HB.out | apply below_alloc | apply pw_below_drewN | apply below_drew1) | exact HB.out)))); have n2_ := Aside0.mk (below_step (by repeat (first | (with_reducible first | exact HB.out | apply below_alloc | apply pw_below_drewN | apply below_drew1) | exact HB.out)) hb); clear HO_4; clear HB; have HO_4 := n0_; have HO180 := n1_; have HB := n2_; clear n0_ n1_ n2_; (try clear hb); (try clear hb2); (try clear hk); (try clear hi); (try clear ho0); obtain ⟨Ao36, co36, eo36⟩ := Kd.R_slice HO180.out; subst eo36) | (go_at_call 6; (with_reducible refine (whirligigref16_Same.calls k1 _ _ t178 _ _ t175 t181 _ ?side1 ?side2 ?side3 ?side4 A31.out).mono ?_); (case side1 => repeat (first | exact (Kd.R_reads' HO180.out).2.2 | (with_reducible refine Kd.C_alloc ?_ _) | (with_reducible refine Kd.C_drewN ?_ _) | (with_reducible refine Kd.C_drew ?_))); (case side2 => exact (Kd.R_reads' HO180.out).2.1); (case side3 => repeat (first | exact (Kd.R_reads' HO_4.out).2.2 | (with_reducible refine Kd.C_alloc ?_ _) | (with_reducible refine Kd.C_drewN ?_ _) | (with_reducible refine Kd.C_drew ?_))); (case side4 => exact (Kd.R_reads' HO_4.out).2.1); rintro e w' ⟨rfl, ⟨nd, rfl⟩⟩; (try first | exact ⟨rfl, _, World.drewN_drewN _ _ _⟩ | exact ⟨rfl, _, Eq.trans (World.drewN_drewN _ _ _) (congrArg (World.drewN _) (Nat.add_assoc _ _ _))⟩))))
              go_ret
              exact ⟨by first | rfl | (simp [errW_none, errW_some] <;> rfl) | (simp [*, errW_none, errW_some] <;> rfl), by repeat (first | (with_reducible first | exact HB.out | apply below_alloc | apply pw_below_drewN | apply below_drew1) | exact HB.out)⟩
    · rw [if_neg c6] at H
      have c6b0 : ((t175.length : Int) == (l0.length : Int)) = false := beq_eq_false_iff_ne.mpr c6
      have c6b1 : ((t175.length : Int) != (l0.length : Int)) = true := bne_iff_ne.mpr c6
      have c6b2 : (t175.length == l0.length) = false := by first | simpa using c6 | (simp at c6 ⊢; omega)
      obtain rfl := Option.some.inj H
      go_enter Try.func4, Try.ntmps4
      go_wp2_with (first | (go_at_call 5; (with_reducible refine (whirligiglaw16_shown.calls  t174 _ A2.out).mono ?_); rintro e w37 ⟨rfl, hb⟩; have n0_ := Aside0.mk (below_step (by repeat (first | (with_reducible first | exact HB.out | apply below_alloc | apply pw_below_drewN | apply below_drew1) | exact HB.out)) hb); clear HB; have HB := n0_; clear n0_; (try clear hb); (try clear hb2); (try clear hk); (try clear hi)) | (go_at_call 7; (with_reducible refine (objects_Order.calls _ _ l0 t175 _ ?side1 ?side2 A5.out).mono ?_); (case side1 => repeat (first | exact (Kd.C_below HR0.out HB.out) | (with_reducible refine Kd.C_alloc ?_ _) | (with_reducible refine Kd.C_drewN ?_ _) | (with_reducible refine Kd.C_drew ?_))); (case side2 => exact HC0.out); rintro e w38 ⟨v176, rfl, ho0, hb⟩; have n0_ := Aside0.mk (Kd.R_lower ho0 (below_size (by repeat (first | (with_reducible first | exact HB.out | apply below_alloc | apply pw_below_drewN | apply below_drew1) | exact HB.out)))); have n1_ := Aside0.mk (below_step (by repeat (first | (with_reducible first | exact HB.out | apply below_alloc | apply pw_below_drewN | apply below_drew1) | exact HB.out)) hb); clear HB; have HO177 := n0_; have HB := n1_; clear n0_ n1_; (try clear hb); (try clear hb2); (try clear hk); (try clear hi); (try clear ho0); obtain ⟨Ao39, co39, eo39⟩ := Kd.R_slice HO177.out; subst eo39))
      repeat (go_quiet (first | (go_at_call 5; (with_reducible refine (whirligiglaw16_shown.calls  t174 _ A2.out).mono ?_); rintro e w37 ⟨rfl, hb⟩; have n0_ := Aside0.mk (below_step (by repeat (first | (with_reducible first | exact HB.out | apply below_alloc | apply pw_below_drewN | apply below_drew1) | exact HB.out)) hb); clear HB; have HB := n0_; clear n0_; (try clear hb); (try clear hb2); (try clear hk); (try clear hi)) | (go_at_call 7; (with_reducible refine (objects_Order.calls _ _ l0 t175 _ ?side1 ?side2 A5.out).mono ?_); (case side1 => repeat (first | exact (Kd.C_below HR0.out HB.out) | (with_reducible refine Kd.C_alloc ?_ _) | (with_reducible refine Kd.C_drewN ?_ _) | (with_reducible refine Kd.C_drew ?_))); (case side2 => exact HC0.out); rintro e w38 ⟨v176, rfl, ho0, hb⟩; have n0_ := Aside0.mk (Kd.R_lower ho0 (below_size (by repeat (first | (with_reducible first | exact HB.out | apply below_alloc | apply pw_below_drewN | apply below_drew1) | exact HB.out)))); have n1_ := Aside0.mk (below_step (by repeat (first | (with_reducible first | exact HB.out | apply below_alloc | apply pw_below_drewN | apply below_drew1) | exact HB.out)) hb); clear HB; have HO177 := n0_; have HB := n1_; clear n0_ n1_; (try clear hb); (try clear hb2); (try clear hk); (try clear hi); (try clear ho0); obtain ⟨Ao39, co39, eo39⟩ := Kd.R_slice HO177.out; subst eo39)); try go_wp2_with (first | (go_at_call 5; (with_reducible refine (whirligiglaw16_shown.calls  t174 _ A2.out).mono ?_); rintro e w37 ⟨rfl, hb⟩; have n0_ := Aside0.mk (below_step (by repeat (first | (with_reducible first | exact HB.out | apply below_alloc | apply pw_below_drewN | apply below_drew1) | exact HB.out)) hb); clear HB; have HB := n0_; clear n0_; (try clear hb); (try clear hb2); (try clear hk); (try clear hi)) | (go_at_call 7; (with_reducible refine (objects_Order.calls _ _ l0 t175 _ ?side1 ?side2 A5.out).mono ?_); (case side1 => repeat (first | exact (Kd.C_below HR0.out HB.out) | (with_reducible refine Kd.C_alloc ?_ _) | (with_reducible refine Kd.C_drewN ?_ _) | (with_reducible refine Kd.C_drew ?_))); (case side2 => exact HC0.out); rintro e w38 ⟨v176, rfl, ho0, hb⟩; have n0_ := Aside0.mk (Kd.R_lower ho0 (below_size (by repeat (first | (with_reducible first | exact HB.out | apply below_alloc | apply pw_below_drewN | apply below_drew1) | exact HB.out)))); have n1_ := Aside0.mk (below_step (by repeat (first | (with_reducible first | exact HB.out | apply below_alloc | apply pw_below_drewN | apply below_drew1) | exact HB.out)) hb); clear HB; have HO177 := n0_; have HB := n1_; clear n0_ n1_; (try clear hb); (try clear hb2); (try clear hk); (try clear hi); (try clear ho0); obtain ⟨Ao39, co39, eo39⟩ := Kd.R_slice HO177.out; subst eo39)))
      go_ret
      exact ⟨by first | rfl | (simp [errW_none, errW_some] <;> rfl) | (simp [*, errW_none, errW_some] <;> rfl), by repeat (first | (with_reducible first | exact HB.out | apply below_alloc | apply pw_below_drewN | apply below_drew1) | exact HB.out)⟩

end Go.Proofs.Ytgffjhbmggmcoaa.PF
