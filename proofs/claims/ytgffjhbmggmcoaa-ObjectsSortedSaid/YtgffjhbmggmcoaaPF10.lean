-- PRINTED by print.py (a twelfth state) out of the translation. Not trusted: Lean checks it.
import Derived.Test.YtgffjhbmggmcoaaPF0
namespace Go.Proofs.Ytgffjhbmggmcoaa.PF
open Go.RowKit Go.Proofs.YtgffjhbmggmcoaaW.PrintWords Go.Proofs.YtgffjhbmggmcoaaW.PrintLast Go.Proofs.YtgffjhbmggmcoaaW.PrintMore
attribute [local go_sem] max2_int min2_int max_two min_two max_three min_three max_four min_four   -- for this text's walks alone
set_option linter.unusedVariables false
set_option linter.unusedSimpArgs false

/-! ### objects_Column: function 10 -/
mutual
def objects_Column.j0 : Nat → Int → Bool → Int → Int → Int → Int → Int → Option (Int × Bool)
  | 0, _, _, _, _, _, _, _ => none
  | k + 1, x1, x12, x108000, x108001, x108002, x108003, x108004 => if x12 = true then (some (0, false)) else (if (wrap64 ((wrap64 (x1 + 8)) - (wrap64 (x108001)))) < 0 then (objects_Column.j1 k (wrap64 ((wrap64 (x1 + 8)) - (wrap64 (x108001)))) true x108000 x108001 x108002 x108003 x108004) else (objects_Column.j1 k (wrap64 ((wrap64 (x1 + 8)) - (wrap64 (x108001)))) (decide ((wrap64 ((wrap64 (x1 + 8)) - (wrap64 (x108001)))) > 7)) x108000 x108001 x108002 x108003 x108004))
def objects_Column.j1 : Nat → Int → Bool → Int → Int → Int → Int → Int → Option (Int × Bool)
  | 0, _, _, _, _, _, _, _ => none
  | k + 1, x6, x24, x108000, x108001, x108002, x108003, x108004 => if x24 = true then (some (0, false)) else (if (Go.bits .and .u8 x108003 32) = 0 then (some (x6, true)) else (some (wrap64 (7 - x6), true)))
end
def objects_Column.f (k : Nat) (a0_0 : Int) (a0_1 : Int) (a0_2 : Int) (a0_3 : Int) (a0_4 : Int) (a1 : Int) : Option (Int × Bool) := if a1 < 0 then (objects_Column.j0 k a1 true a0_0 a0_1 a0_2 a0_3 a0_4) else (objects_Column.j0 k a1 (decide (a1 ≥ 160)) a0_0 a0_1 a0_2 a0_3 a0_4)
theorem objects_Column.mono_l : ∀ k, (∀ y0 y1 y2 y3 y4 y5 y6, LeO (objects_Column.j0 k y0 y1 y2 y3 y4 y5 y6) (objects_Column.j0 (k + 1) y0 y1 y2 y3 y4 y5 y6)) ∧ (∀ y0 y1 y2 y3 y4 y5 y6, LeO (objects_Column.j1 k y0 y1 y2 y3 y4 y5 y6) (objects_Column.j1 (k + 1) y0 y1 y2 y3 y4 y5 y6))
  | 0 => ⟨fun _ _ _ _ _ _ _ r h => by simp [objects_Column.j0] at h, fun _ _ _ _ _ _ _ r h => by simp [objects_Column.j1] at h⟩
  | k + 1 => by
    obtain ⟨ih0, ih1⟩ := objects_Column.mono_l k
    refine ⟨?_, ?_⟩
    · intro y0 y1 y2 y3 y4 y5 y6
      unfold objects_Column.j0
      repeat' first
      | (with_reducible exact ih0 _ _ _ _ _ _ _)
      | (with_reducible exact ih1 _ _ _ _ _ _ _)
      | (with_reducible exact LeO.refl _)
      | (with_reducible exact LeO.none _)
      | (with_reducible refine LeO.ite ?_ ?_)
      | (with_reducible refine LeO.bind ?_ (fun _ => ?_))
      | exact ih0 _ _ _ _ _ _ _
      | exact ih1 _ _ _ _ _ _ _
      | exact LeO.none _
      | refine LeO.ite ?_ ?_
      | refine LeO.bind ?_ (fun _ => ?_)
    · intro y0 y1 y2 y3 y4 y5 y6
      unfold objects_Column.j1
      repeat' first
      | (with_reducible exact ih0 _ _ _ _ _ _ _)
      | (with_reducible exact ih1 _ _ _ _ _ _ _)
      | (with_reducible exact LeO.refl _)
      | (with_reducible exact LeO.none _)
      | (with_reducible refine LeO.ite ?_ ?_)
      | (with_reducible refine LeO.bind ?_ (fun _ => ?_))
      | exact ih0 _ _ _ _ _ _ _
      | exact ih1 _ _ _ _ _ _ _
      | exact LeO.none _
      | refine LeO.ite ?_ ?_
      | refine LeO.bind ?_ (fun _ => ?_)
theorem objects_Column.mono : ∀ a0 a1 a2 a3 a4 a5 k, LeO (objects_Column.f k a0 a1 a2 a3 a4 a5) (objects_Column.f (k + 1) a0 a1 a2 a3 a4 a5) := by
  intro a0 a1 a2 a3 a4 a5 k
  obtain ⟨ih0, ih1⟩ := objects_Column.mono_l k
  unfold objects_Column.f
  repeat' first
      | (with_reducible exact ih0 _ _ _ _ _ _ _)
      | (with_reducible exact ih1 _ _ _ _ _ _ _)
      | (with_reducible exact LeO.refl _)
      | (with_reducible exact LeO.none _)
      | (with_reducible refine LeO.ite ?_ ?_)
      | (with_reducible refine LeO.bind ?_ (fun _ => ?_))
      | exact ih0 _ _ _ _ _ _ _
      | exact ih1 _ _ _ _ _ _ _
      | exact LeO.none _
      | refine LeO.ite ?_ ?_
      | refine LeO.bind ?_ (fun _ => ?_)
set_option maxHeartbeats 8000000 in
set_option maxRecDepth 100000 in
theorem objects_Column.calls (k : Nat) (a0_0 : Int) (a0_1 : Int) (a0_2 : Int) (a0_3 : Int) (a0_4 : Int) (a1 : Int) (r1 : Int) (r2 : Bool) (w : World) (h : objects_Column.f k a0_0 a0_1 a0_2 a0_3 a0_4 a1 = some (r1, r2)) :
    Calls Try.prog 10 #[.agg #[.int .u8 a0_0, .int .u8 a0_1, .int .u8 a0_2, .int .u8 a0_3, .int .u8 a0_4], .int .i64 a1] w fun e w' => e = .returned (.tuple #[.int .i64 r1, .bool r2]) ∧ Below w.heap.size w w' := by
  have hu28 := Try.underlying28
  have HB := Aside0.mk (Below.refl w.heap.size w)
  have H : (if a1 < 0 then (objects_Column.j0 k a1 true a0_0 a0_1 a0_2 a0_3 a0_4) else (objects_Column.j0 k a1 (decide (a1 ≥ 160)) a0_0 a0_1 a0_2 a0_3 a0_4)) = some (r1, r2) := h
  clear h
  have HC3 := Aside0.mk H
  clear H
  go_enter Try.func10, Try.ntmps10
  go_upto_region 1 with (first | ((with_reducible refine gate_dst (N := 2) rfl ?_); refine box_event ?hg (N := 2) ?hd (cs := #[.int .u8 a0_0, .int .u8 a0_1, .int .u8 a0_2, .int .u8 a0_3, .int .u8 a0_4]) (t := 28) ?hr ?_; (case hd => rfl); (case hg => rfl); (case hr => first | (go_simp; done) | (go_simp; rfl)); intro gb107 hg w4 hbox hb; have n0_ := Aside0.mk (below_step (by repeat (first | (with_reducible first | exact HB.out | apply below_alloc | apply pw_below_drewN | apply below_drew1) | exact HB.out)) hb); have n1_ := Aside0.mk (hbox); have n2_ := Aside0.mk ((by rw [hg]; exact (below_size (by repeat (first | (with_reducible first | exact HB.out | apply below_alloc | apply pw_below_drewN | apply below_drew1) | exact HB.out))) : w.heap.size ≤ gb107)); have n3_ := Aside0.mk ((by rw [hg]; exact (below_size (by repeat (first | (with_reducible first | exact HB.out | apply below_alloc | apply pw_below_drewN | apply below_drew1) | exact HB.out))) : w.heap.size ≤ gb107)); clear HB; have HB := n0_; have BK107 := n1_; have GW107 := n2_; have GE107 := n3_; clear n0_ n1_ n2_ n3_; clear hb hbox hg))
  (try simp only [Act.put, List.setIfInBounds_toArray, List.set_cons_zero, List.set_cons_succ])
  go_cut [12] (fun v12 wc => ∃ (kq : Nat) (x12_2 : Bool), v12 = .bool x12_2 ∧ Aside0 (objects_Column.j0 kq a1 x12_2 a0_0 a0_1 a0_2 a0_3 a0_4 = some (r1, r2)) ∧ Aside0 (kq ≤ k) ∧ Aside0 (wc.heap[gb107]? = some (.cells #[.int .u8 a0_0, .int .u8 a0_1, .int .u8 a0_2, .int .u8 a0_3, .int .u8 a0_4] 28 (0, 0))) ∧ Aside0 (Below w.heap.size w wc))
  case first =>
    have H := HC3.out
    clear HC3
    by_cases c5 : a1 < 0
    · rw [if_pos c5] at H
      have c5b0 : decide (a1 < 0) = true := decide_eq_true c5
      clear c5
      (first | rw [c5b0] | (simp only [i64_w, i32_w]; rw [c5b0]) | skip)
      have H' := Aside0.mk H
      clear H
      go_wp2
      go_meet
      case rel => exact ⟨_, (true), (by first | rfl | (simp; done) | (simp [*]; done)), H', ⟨by first | omega | exact Nat.le_refl _⟩, ⟨by (with_reducible repeat (first | refine blk_drewN ?_ _ | refine blk_drew ?_ | refine blk_alloc ?_ _)); exact BK107.out⟩, ⟨by repeat (first | (with_reducible first | exact HB.out | apply below_alloc | apply pw_below_drewN | apply below_drew1 | refine below_set ?_ GE107.out) | exact HB.out)⟩⟩
    · rw [if_neg c5] at H
      have c5b0 : decide (a1 < 0) = false := decide_eq_false c5
      clear c5
      (first | rw [c5b0] | (simp only [i64_w, i32_w]; rw [c5b0]) | skip)
      have H' := Aside0.mk H
      clear H
      go_wp2
      go_meet
      case rel => exact ⟨_, (decide (a1 ≥ 160)), (by first | rfl | (simp; done) | (simp [*]; done)), H', ⟨by first | omega | exact Nat.le_refl _⟩, ⟨by (with_reducible repeat (first | refine blk_drewN ?_ _ | refine blk_drew ?_ | refine blk_alloc ?_ _)); exact BK107.out⟩, ⟨by repeat (first | (with_reducible first | exact HB.out | apply below_alloc | apply pw_below_drewN | apply below_drew1 | refine below_set ?_ GE107.out) | exact HB.out)⟩⟩
  case rest =>
    clear HC3
    try clear c1
    try clear p2
    try clear c5
    try clear c5b0
    obtain ⟨kq, x12_2, rfl, HA, HJ2, BK107, HB⟩ := hcut
    cases kq with
    | zero => exact absurd HA.out (by simp [objects_Column.j0])
    | succ kj2 =>
      have H := HA.out
      clear HA
      simp only [objects_Column.j0] at H
      by_cases c6 : x12_2 = true
      · subst c6
        have H1 : (some (0, false)) = some (r1, r2) := by rw [if_pos rfl] at H; exact H
        clear H
        have H := H1
        clear H1
        simp only [Option.some.injEq, Prod.mk.injEq] at H
        obtain ⟨rfl, rfl⟩ := H
        go_wp2
        go_ret2
        exact ⟨by first | rfl | (simp [errW_none, errW_some] <;> rfl) | (simp [*, errW_none, errW_some] <;> rfl), by repeat (first | (with_reducible first | exact HB.out | apply below_alloc | apply pw_below_drewN | apply below_drew1 | refine below_set ?_ GE107.out) | exact HB.out)⟩
      · replace c6 := Bool.eq_false_iff.mpr c6
        subst c6
        have H1 : (if (wrap64 ((wrap64 (a1 + 8)) - (wrap64 (a0_1)))) < 0 then (objects_Column.j1 kj2 (wrap64 ((wrap64 (a1 + 8)) - (wrap64 (a0_1)))) true a0_0 a0_1 a0_2 a0_3 a0_4) else (objects_Column.j1 kj2 (wrap64 ((wrap64 (a1 + 8)) - (wrap64 (a0_1)))) (decide ((wrap64 ((wrap64 (a1 + 8)) - (wrap64 (a0_1)))) > 7)) a0_0 a0_1 a0_2 a0_3 a0_4)) = some (r1, r2) := by rw [if_neg (show ¬ (false = true) by decide)] at H; exact H
        clear H
        have H := H1
        clear H1
        have HC7 := Aside0.mk H
        clear H
        have hcz8_0 : wc.cell? ⟨gb107, 0, none⟩ = some (.int .u8 a0_0) := (blk_cell BK107.out 0).trans rfl
        have hcz8_1 : wc.cell? ⟨gb107, 1, none⟩ = some (.int .u8 a0_1) := (blk_cell BK107.out 1).trans rfl
        have hcz8_2 : wc.cell? ⟨gb107, 2, none⟩ = some (.int .u8 a0_2) := (blk_cell BK107.out 2).trans rfl
        have hcz8_3 : wc.cell? ⟨gb107, 3, none⟩ = some (.int .u8 a0_3) := (blk_cell BK107.out 3).trans rfl
        have hcz8_4 : wc.cell? ⟨gb107, 4, none⟩ = some (.int .u8 a0_4) := (blk_cell BK107.out 4).trans rfl
        have hfz8_0 := blk_frozen BK107.out 0
        have hfz8_1 := blk_frozen BK107.out 1
        have hfz8_2 := blk_frozen BK107.out 2
        have hfz8_3 := blk_frozen BK107.out 3
        have hfz8_4 := blk_frozen BK107.out 4
        go_upto_region 4 with (fail)
        go_cut [24] (fun v24 wc => ∃ (kq : Nat) (x24_6 : Bool), v24 = .bool x24_6 ∧ Aside0 (objects_Column.j1 kq (wrap64 ((wrap64 (a1 + 8)) - (wrap64 (a0_1)))) x24_6 a0_0 a0_1 a0_2 a0_3 a0_4 = some (r1, r2)) ∧ Aside0 (kq ≤ kj2) ∧ Aside0 (wc.heap[gb107]? = some (.cells #[.int .u8 a0_0, .int .u8 a0_1, .int .u8 a0_2, .int .u8 a0_3, .int .u8 a0_4] 28 (0, 0))) ∧ Aside0 (Below w.heap.size w wc))
        case first =>
          have H := HC7.out
          clear HC7
          by_cases c9 : (wrap64 ((wrap64 (a1 + 8)) - (wrap64 (a0_1)))) < 0
          · rw [if_pos c9] at H
            have c9b0 : decide ((wrap64 ((wrap64 (a1 + 8)) - (wrap64 (a0_1)))) < 0) = true := decide_eq_true c9
            clear c9
            (first | rw [c9b0] | (simp only [i64_w, i32_w]; rw [c9b0]) | skip)
            have H' := Aside0.mk H
            clear H
            go_wp2
            go_meet
            case rel => exact ⟨_, (true), (by first | rfl | (simp; done) | (simp [*]; done)), H', ⟨by have := HJ2.out; first | omega | exact Nat.le_refl _⟩, ⟨by (with_reducible repeat (first | refine blk_drewN ?_ _ | refine blk_drew ?_ | refine blk_alloc ?_ _)); exact BK107.out⟩, ⟨by repeat (first | (with_reducible first | exact HB.out | apply below_alloc | apply pw_below_drewN | apply below_drew1 | refine below_set ?_ GE107.out) | exact HB.out)⟩⟩
          · rw [if_neg c9] at H
            have c9b0 : decide ((wrap64 ((wrap64 (a1 + 8)) - (wrap64 (a0_1)))) < 0) = false := decide_eq_false c9
            clear c9
            (first | rw [c9b0] | (simp only [i64_w, i32_w]; rw [c9b0]) | skip)
            have H' := Aside0.mk H
            clear H
            go_wp2
            go_meet
            case rel => exact ⟨_, (decide ((wrap64 ((wrap64 (a1 + 8)) - (wrap64 (a0_1)))) > 7)), (by first | rfl | (simp; done) | (simp [*]; done)), H', ⟨by have := HJ2.out; first | omega | exact Nat.le_refl _⟩, ⟨by (with_reducible repeat (first | refine blk_drewN ?_ _ | refine blk_drew ?_ | refine blk_alloc ?_ _)); exact BK107.out⟩, ⟨by repeat (first | (with_reducible first | exact HB.out | apply below_alloc | apply pw_below_drewN | apply below_drew1 | refine below_set ?_ GE107.out) | exact HB.out)⟩⟩
        case rest =>
          clear HC7
          try clear c1
          try clear p2
          try clear c5
          try clear c5b0
          try clear c6
          try clear p6
          try clear c9
          try clear c9b0
          try clear hcz8_0
          try clear hcz8_1
          try clear hcz8_2
          try clear hcz8_3
          try clear hcz8_4
          try clear hfz8_0
          try clear hfz8_1
          try clear hfz8_2
          try clear hfz8_3
          try clear hfz8_4
          try clear p2
          obtain ⟨kq, x24_6, rfl, HA, HJ6, BK107, HB⟩ := hcut
          cases kq with
          | zero => exact absurd HA.out (by simp [objects_Column.j1])
          | succ kj6 =>
            have H := HA.out
            clear HA
            simp only [objects_Column.j1] at H
            by_cases c10 : x24_6 = true
            · subst c10
              have H1 : (some (0, false)) = some (r1, r2) := by rw [if_pos rfl] at H; exact H
              clear H
              have H := H1
              clear H1
              simp only [Option.some.injEq, Prod.mk.injEq] at H
              obtain ⟨rfl, rfl⟩ := H
              go_wp2
              go_ret2
              exact ⟨by first | rfl | (simp [errW_none, errW_some] <;> rfl) | (simp [*, errW_none, errW_some] <;> rfl), by repeat (first | (with_reducible first | exact HB.out | apply below_alloc | apply pw_below_drewN | apply below_drew1 | refine below_set ?_ GE107.out) | exact HB.out)⟩
            · replace c10 := Bool.eq_false_iff.mpr c10
              subst c10
              have H1 : (if (Go.bits .and .u8 a0_3 32) = 0 then (some ((wrap64 ((wrap64 (a1 + 8)) - (wrap64 (a0_1)))), true)) else (some (wrap64 (7 - (wrap64 ((wrap64 (a1 + 8)) - (wrap64 (a0_1))))), true))) = some (r1, r2) := by rw [if_neg (show ¬ (false = true) by decide)] at H; exact H
              clear H
              have H := H1
              clear H1
              by_cases c11 : (Go.bits .and .u8 a0_3 32) = 0
              · rw [if_pos c11] at H
                have c11b0 : ((Go.bits .and .u8 a0_3 32) == 0) = true := beq_iff_eq.mpr c11
                have c11b1 : ((Go.bits .and .u8 a0_3 32) != 0) = false := bne_eq_false_iff_eq.mpr c11
                clear c11
                simp only [Option.some.injEq, Prod.mk.injEq] at H
                obtain ⟨rfl, rfl⟩ := H
                have hcz12_0 : wc.cell? ⟨gb107, 0, none⟩ = some (.int .u8 a0_0) := (blk_cell BK107.out 0).trans rfl
                have hcz12_1 : wc.cell? ⟨gb107, 1, none⟩ = some (.int .u8 a0_1) := (blk_cell BK107.out 1).trans rfl
                have hcz12_2 : wc.cell? ⟨gb107, 2, none⟩ = some (.int .u8 a0_2) := (blk_cell BK107.out 2).trans rfl
                have hcz12_3 : wc.cell? ⟨gb107, 3, none⟩ = some (.int .u8 a0_3) := (blk_cell BK107.out 3).trans rfl
                have hcz12_4 : wc.cell? ⟨gb107, 4, none⟩ = some (.int .u8 a0_4) := (blk_cell BK107.out 4).trans rfl
                have hfz12_0 := blk_frozen BK107.out 0
                have hfz12_1 := blk_frozen BK107.out 1
                have hfz12_2 := blk_frozen BK107.out 2
                have hfz12_3 := blk_frozen BK107.out 3
                have hfz12_4 := blk_frozen BK107.out 4
                go_wp2
                go_ret2
                exact ⟨by first | rfl | (simp [errW_none, errW_some] <;> rfl) | (simp [*, errW_none, errW_some] <;> rfl), by repeat (first | (with_reducible first | exact HB.out | apply below_alloc | apply pw_below_drewN | apply below_drew1 | refine below_set ?_ GE107.out) | exact HB.out)⟩
              · rw [if_neg c11] at H
                have c11b0 : ((Go.bits .and .u8 a0_3 32) == 0) = false := beq_eq_false_iff_ne.mpr c11
                have c11b1 : ((Go.bits .and .u8 a0_3 32) != 0) = true := bne_iff_ne.mpr c11
                simp only [Option.some.injEq, Prod.mk.injEq] at H
                obtain ⟨rfl, rfl⟩ := H
                have hcz13_0 : wc.cell? ⟨gb107, 0, none⟩ = some (.int .u8 a0_0) := (blk_cell BK107.out 0).trans rfl
                have hcz13_1 : wc.cell? ⟨gb107, 1, none⟩ = some (.int .u8 a0_1) := (blk_cell BK107.out 1).trans rfl
                have hcz13_2 : wc.cell? ⟨gb107, 2, none⟩ = some (.int .u8 a0_2) := (blk_cell BK107.out 2).trans rfl
                have hcz13_3 : wc.cell? ⟨gb107, 3, none⟩ = some (.int .u8 a0_3) := (blk_cell BK107.out 3).trans rfl
                have hcz13_4 : wc.cell? ⟨gb107, 4, none⟩ = some (.int .u8 a0_4) := (blk_cell BK107.out 4).trans rfl
                have hfz13_0 := blk_frozen BK107.out 0
                have hfz13_1 := blk_frozen BK107.out 1
                have hfz13_2 := blk_frozen BK107.out 2
                have hfz13_3 := blk_frozen BK107.out 3
                have hfz13_4 := blk_frozen BK107.out 4
                go_wp2
                go_ret2
                exact ⟨by first | rfl | (simp [errW_none, errW_some] <;> rfl) | (simp [*, errW_none, errW_some] <;> rfl), by repeat (first | (with_reducible first | exact HB.out | apply below_alloc | apply pw_below_drewN | apply below_drew1 | refine below_set ?_ GE107.out) | exact HB.out)⟩

end Go.Proofs.Ytgffjhbmggmcoaa.PF
