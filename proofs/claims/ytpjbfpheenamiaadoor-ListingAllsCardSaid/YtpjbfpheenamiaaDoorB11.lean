/- Texts of this claim, put together: PF30. -/
import Derived.Test.YtpjbfpheenamiaaDoorB1
import Derived.Test.YtpjbfpheenamiaaDoorB8
import Derived.Test.YtpjbfpheenamiaaDoorB10
-- PRINTED by print.py (a twelfth state) out of the translation. Not trusted: Lean checks it.
namespace Go.Proofs.YtpjbfpheenamiaaDoor.PF
open Go.RowKit Go.Proofs.YtpjbfpheenamiaaDoorW.PrintWords Go.Proofs.YtpjbfpheenamiaaDoorW.PrintLast Go.Proofs.YtpjbfpheenamiaaDoorW.PrintMore
attribute [local go_sem] max2_int min2_int max_two min_two max_three min_three max_four min_four   -- for this text's walks alone
set_option linter.unusedVariables false
set_option linter.unusedSimpArgs false

/-! ### opcode_Decode: function 30 -/
def opcode_Decode.j0 : Nat → Int → Int → Bool → Option (Int × Int × Int × Int × Int × Int)
 | 0, _, _, _ => none
 | k + 1, x3, x4, x26 => if x26 = true then ((opcode_form.f 2 0 0 1 1).bind fun bt150 => (some (bt150.1, bt150.2.1, bt150.2.2.1, bt150.2.2.2.1, bt150.2.2.2.2.1, bt150.2.2.2.2.2))) else ((opcode_if6.f x3 2 1).bind fun t156 => ((opcode_if6.f x4 2 1).bind fun t157 => ((opcode_form.f 7 x3 x4 1 (mx t156 t157)).bind fun bt158 => (some (bt158.1, bt158.2.1, bt158.2.2.1, bt158.2.2.2.1, bt158.2.2.2.2.1, bt158.2.2.2.2.2)))))
def opcode_Decode.f (k : Nat) (a0 : Int) : Option (Int × Int × Int × Int × Int × Int) := if (a0 / 64) = 0 then ((opcode_mixed.f (wrap64 (Go.bits .and .u8 (a0 / 8) 7)) (wrap64 (Go.bits .and .u8 a0 7))).bind fun bt144 => (some (bt144.1, bt144.2.1, bt144.2.2.1, bt144.2.2.2.1, bt144.2.2.2.2.1, bt144.2.2.2.2.2))) else (if (a0 / 64) = 1 then (if (wrap64 (Go.bits .and .u8 (a0 / 8) 7)) = 6 then (opcode_Decode.j0 k (wrap64 (Go.bits .and .u8 (a0 / 8) 7)) (wrap64 (Go.bits .and .u8 a0 7)) ((wrap64 (Go.bits .and .u8 a0 7)) == 6)) else (opcode_Decode.j0 k (wrap64 (Go.bits .and .u8 (a0 / 8) 7)) (wrap64 (Go.bits .and .u8 a0 7)) false)) else (if (a0 / 64) = 2 then ((opcode_if6.f (wrap64 (Go.bits .and .u8 a0 7)) 2 1).bind fun t164 => ((opcode_form.f 23 (wrap64 (Go.bits .and .u8 (a0 / 8) 7)) (wrap64 (Go.bits .and .u8 a0 7)) 1 t164).bind fun bt165 => (some (bt165.1, bt165.2.1, bt165.2.2.1, bt165.2.2.2.1, bt165.2.2.2.2.1, bt165.2.2.2.2.2)))) else ((opcode_last.f (wrap64 (Go.bits .and .u8 (a0 / 8) 7)) (wrap64 (Go.bits .and .u8 a0 7))).bind fun bt171 => (some (bt171.1, bt171.2.1, bt171.2.2.1, bt171.2.2.2.1, bt171.2.2.2.2.1, bt171.2.2.2.2.2)))))
theorem opcode_Decode.mono_l : ∀ k, (∀ y0 y1 y2, LeO (opcode_Decode.j0 k y0 y1 y2) (opcode_Decode.j0 (k + 1) y0 y1 y2))
 | 0 => fun _ _ _ r h => by simp [opcode_Decode.j0] at h
 | k + 1 => by
  have ih0 := opcode_Decode.mono_l k
  ·intro y0 y1 y2
   unfold opcode_Decode.j0
   repeat' first
   | (with_reducible exact ih0 _ _ _)
   | (with_reducible exact LeO.refl _)
   | (with_reducible exact LeO.none _)
   | (with_reducible refine LeO.ite ?_ ?_)
   | (with_reducible refine LeO.bind ?_ (fun _ => ?_))
   | exact ih0 _ _ _
   | exact LeO.none _
   | refine LeO.ite ?_ ?_
   | refine LeO.bind ?_ (fun _ => ?_)
theorem opcode_Decode.mono : ∀ a0 k, LeO (opcode_Decode.f k a0) (opcode_Decode.f (k + 1) a0) := by
 intro a0 k
 have ih0 := opcode_Decode.mono_l k
 unfold opcode_Decode.f
 repeat' first
   | (with_reducible exact ih0 _ _ _)
   | (with_reducible exact LeO.refl _)
   | (with_reducible exact LeO.none _)
   | (with_reducible refine LeO.ite ?_ ?_)
   | (with_reducible refine LeO.bind ?_ (fun _ => ?_))
   | exact ih0 _ _ _
   | exact LeO.none _
   | refine LeO.ite ?_ ?_
   | refine LeO.bind ?_ (fun _ => ?_)
set_option maxHeartbeats 8000000 in
set_option maxRecDepth 100000 in
theorem opcode_Decode.calls (k : Nat) (a0 : Int) (r1 : Int) (r2 : Int) (r3 : Int) (r4 : Int) (r5 : Int) (r6 : Int) (w : World) (h : opcode_Decode.f k a0 = some (r1, r2, r3, r4, r5, r6)) :
  Calls Tryd.prog 30 #[.int .u8 a0] w fun e w' => e = .returned (.agg #[.int .i64 r1, .int .i64 r2, .int .i64 r3, .int .i64 r4, .int .i64 r5, .int .i64 r6]) ∧ Below w.heap.size w w' := by
 have hu46 := Tryd.underlying46
 have HB := Aside0.mk (Below.refl w.heap.size w)
 have H : (if (a0 / 64) = 0 then ((opcode_mixed.f (wrap64 (Go.bits .and .u8 (a0 / 8) 7)) (wrap64 (Go.bits .and .u8 a0 7))).bind fun bt144 => (some (bt144.1, bt144.2.1, bt144.2.2.1, bt144.2.2.2.1, bt144.2.2.2.2.1, bt144.2.2.2.2.2))) else (if (a0 / 64) = 1 then (if (wrap64 (Go.bits .and .u8 (a0 / 8) 7)) = 6 then (opcode_Decode.j0 k (wrap64 (Go.bits .and .u8 (a0 / 8) 7)) (wrap64 (Go.bits .and .u8 a0 7)) ((wrap64 (Go.bits .and .u8 a0 7)) == 6)) else (opcode_Decode.j0 k (wrap64 (Go.bits .and .u8 (a0 / 8) 7)) (wrap64 (Go.bits .and .u8 a0 7)) false)) else (if (a0 / 64) = 2 then ((opcode_if6.f (wrap64 (Go.bits .and .u8 a0 7)) 2 1).bind fun t164 => ((opcode_form.f 23 (wrap64 (Go.bits .and .u8 (a0 / 8) 7)) (wrap64 (Go.bits .and .u8 a0 7)) 1 t164).bind fun bt165 => (some (bt165.1, bt165.2.1, bt165.2.2.1, bt165.2.2.2.1, bt165.2.2.2.2.1, bt165.2.2.2.2.2)))) else ((opcode_last.f (wrap64 (Go.bits .and .u8 (a0 / 8) 7)) (wrap64 (Go.bits .and .u8 a0 7))).bind fun bt171 => (some (bt171.1, bt171.2.1, bt171.2.2.1, bt171.2.2.2.1, bt171.2.2.2.2.1, bt171.2.2.2.2.2)))))) = some (r1, r2, r3, r4, r5, r6) := h
 clear h
 by_cases c2 : (a0 / 64) = 0
 ·rw [if_pos c2] at H
  have c2b0 : ((a0 / 64) == 0) = true := beq_iff_eq.mpr c2
  have c2b1 : ((a0 / 64) != 0) = false := bne_eq_false_iff_eq.mpr c2
  clear c2
  replace H := Option.bind_eq_some_iff.mp H
  obtain ⟨⟨t144, t145, t146, t147, t148, t149⟩, A30, H⟩ := H
  replace H : (some (t144, t145, t146, t147, t148, t149)) = some (r1, r2, r3, r4, r5, r6) := H
  have A3 := Aside0.mk A30
  clear A30
  simp only [Option.some.injEq, Prod.mk.injEq] at H
  obtain ⟨rfl, rfl, rfl, rfl, rfl, rfl⟩ := H
  go_enter Tryd.func30, Tryd.ntmps30
  go_wp2_with (first | ((with_reducible refine gate_dst (N := 2) rfl ?_); refine box_event ?hg (N := 2) ?hd (cs := #[.int .i64 0, .int .i64 0, .int .i64 0, .int .i64 0, .int .i64 0, .int .i64 0]) (t := 46) ?hr ?_; (case hd => rfl); (case hg => rfl); (case hr => first | (go_simp; done) | (go_simp; rfl)); intro gb143 hg w4 hbox hb; have n0_ := Aside0.mk (below_step (by repeat (first | (with_reducible first | exact HB.out | apply below_alloc | apply pw_below_drewN | apply below_drew1) | exact HB.out)) hb); have n1_ := Aside0.mk (hbox); have n2_ := Aside0.mk ((by rw [hg]; exact (below_size (by repeat (first | (with_reducible first | exact HB.out | apply below_alloc | apply pw_below_drewN | apply below_drew1) | exact HB.out))) : w.heap.size ≤ gb143)); have n3_ := Aside0.mk ((by rw [hg]; exact (below_size (by repeat (first | (with_reducible first | exact HB.out | apply below_alloc | apply pw_below_drewN | apply below_drew1) | exact HB.out))) : w.heap.size ≤ gb143)); clear HB; have HB := n0_; have BK143 := n1_; have GW143 := n2_; have GE143 := n3_; clear n0_ n1_ n2_ n3_; clear hb hbox hg) | ((with_reducible refine gate_callee (f := 53) rfl ?_); refine goesL_ (some 18) rfl rfl Tryd.func53 (by kernel_rfl) rfl #[.int .i64 (wrap64 (Go.bits .and .u8 (a0 / 8) 7)), .int .i64 (wrap64 (Go.bits .and .u8 a0 7))] rfl (by (try simp only [List.map_toArray, List.map_cons, List.map_nil]); first | done | rfl | (simp only [List.length_drop, List.length_take]; rfl)) ?_; (with_reducible refine (opcode_mixed.calls (wrap64 (Go.bits .and .u8 (a0 / 8) 7)) (wrap64 (Go.bits .and .u8 a0 7)) t144 t145 t146 t147 t148 t149 _ A3.out).mono ?_); rintro e w5 ⟨rfl, hb⟩; refine ⟨_, rfl, ?_⟩; have n0_ := Aside0.mk (blk_below (g := gb143) (o := .cells #[.int .i64 0, .int .i64 0, .int .i64 0, .int .i64 0, .int .i64 0, .int .i64 0] 46 (0, 0)) (by (with_reducible repeat (first | refine blk_drewN ?_ _ | refine blk_drew ?_ | refine blk_alloc ?_ _)); exact BK143.out) hb); have n1_ := Aside0.mk (below_step (by repeat (first | (with_reducible first | exact HB.out | apply below_alloc | apply pw_below_drewN | apply below_drew1 | refine below_set ?_ GE143.out) | exact HB.out)) hb); clear BK143; clear HB; have BK143 := n0_; have HB := n1_; clear n0_ n1_; (try clear hb); obtain ⟨hcz6_0, hcz6_1, hcz6_2, hcz6_3, hcz6_4, hcz6_5, hfz6_0, hfz6_1, hfz6_2, hfz6_3, hfz6_4, hfz6_5⟩ := blk6 BK143.out))
  refine bodyPost_ret (results_cell_row rfl _ _ gb143 46 #[.int .i64 t144, .int .i64 t145, .int .i64 t146, .int .i64 t147, .int .i64 t148, .int .i64 t149] (0, 0) _ rfl (by (with_reducible repeat (first | refine blk_drewN ?_ _ | refine blk_drew ?_ | refine blk_alloc ?_ _)); refine blk_put (cs := #[.int .i64 t144, .int .i64 t145, .int .i64 t146, .int .i64 t147, .int .i64 t148, .int .i64 0]) ?_ 5 _ rfl; refine blk_put (cs := #[.int .i64 t144, .int .i64 t145, .int .i64 t146, .int .i64 t147, .int .i64 0, .int .i64 0]) ?_ 4 _ rfl; refine blk_put (cs := #[.int .i64 t144, .int .i64 t145, .int .i64 t146, .int .i64 0, .int .i64 0, .int .i64 0]) ?_ 3 _ rfl; refine blk_put (cs := #[.int .i64 t144, .int .i64 t145, .int .i64 0, .int .i64 0, .int .i64 0, .int .i64 0]) ?_ 2 _ rfl; refine blk_put (cs := #[.int .i64 t144, .int .i64 0, .int .i64 0, .int .i64 0, .int .i64 0, .int .i64 0]) ?_ 1 _ rfl; refine blk_put (cs := #[.int .i64 0, .int .i64 0, .int .i64 0, .int .i64 0, .int .i64 0, .int .i64 0]) ?_ 0 _ rfl; (with_reducible repeat (first | refine blk_drewN ?_ _ | refine blk_drew ?_ | refine blk_alloc ?_ _)); exact BK143.out) Tryd.underlying46 rfl (by kernel_rfl)) rfl ?_
  exact ⟨by first | rfl | (simp [errW_none, errW_some] <;> rfl) | (simp [*, errW_none, errW_some] <;> rfl), by repeat (first | (with_reducible first | exact HB.out | apply below_alloc | apply pw_below_drewN | apply below_drew1 | refine below_set ?_ GE143.out) | exact HB.out)⟩
 ·rw [if_neg c2] at H
  have c2b0 : ((a0 / 64) == 0) = false := beq_eq_false_iff_ne.mpr c2
  have c2b1 : ((a0 / 64) != 0) = true := bne_iff_ne.mpr c2
  by_cases c7 : (a0 / 64) = 1
  ·rw [if_pos c7] at H
   have c7b0 : ((a0 / 64) == 1) = true := beq_iff_eq.mpr c7
   have c7b1 : ((a0 / 64) != 1) = false := bne_eq_false_iff_eq.mpr c7
   clear c7
   have HC8 := Aside0.mk H
   clear H
   go_enter Tryd.func30, Tryd.ntmps30
   go_upto_region 6 with (first | ((with_reducible refine gate_dst (N := 2) rfl ?_); refine box_event ?hg (N := 2) ?hd (cs := #[.int .i64 0, .int .i64 0, .int .i64 0, .int .i64 0, .int .i64 0, .int .i64 0]) (t := 46) ?hr ?_; (case hd => rfl); (case hg => rfl); (case hr => first | (go_simp; done) | (go_simp; rfl)); intro gb143 hg w9 hbox hb; have n0_ := Aside0.mk (below_step (by repeat (first | (with_reducible first | exact HB.out | apply below_alloc | apply pw_below_drewN | apply below_drew1) | exact HB.out)) hb); have n1_ := Aside0.mk (hbox); have n2_ := Aside0.mk ((by rw [hg]; exact (below_size (by repeat (first | (with_reducible first | exact HB.out | apply below_alloc | apply pw_below_drewN | apply below_drew1) | exact HB.out))) : w.heap.size ≤ gb143)); have n3_ := Aside0.mk ((by rw [hg]; exact (below_size (by repeat (first | (with_reducible first | exact HB.out | apply below_alloc | apply pw_below_drewN | apply below_drew1) | exact HB.out))) : w.heap.size ≤ gb143)); clear HB; have HB := n0_; have BK143 := n1_; have GW143 := n2_; have GE143 := n3_; clear n0_ n1_ n2_ n3_; clear hb hbox hg))
   (try simp only [Act.put, List.setIfInBounds_toArray, List.set_cons_zero, List.set_cons_succ])
   go_cut [26] (fun v26 wc => ∃ (kq : Nat) (x26_7 : Bool), v26 = .bool x26_7 ∧ Aside0 (opcode_Decode.j0 kq (wrap64 (Go.bits .and .u8 (a0 / 8) 7)) (wrap64 (Go.bits .and .u8 a0 7)) x26_7 = some (r1, r2, r3, r4, r5, r6)) ∧ Aside0 (kq ≤ k) ∧ Aside0 (wc.heap[gb143]? = some (.cells #[.int .i64 0, .int .i64 0, .int .i64 0, .int .i64 0, .int .i64 0, .int .i64 0] 46 (0, 0))) ∧ Aside0 (Below w.heap.size w wc))
   case first =>
    have H := HC8.out
    clear HC8
    by_cases c10 : (wrap64 (Go.bits .and .u8 (a0 / 8) 7)) = 6
    ·rw [if_pos c10] at H
     have c10b0 : ((wrap64 (Go.bits .and .u8 (a0 / 8) 7)) == 6) = true := beq_iff_eq.mpr c10
     have c10b1 : ((wrap64 (Go.bits .and .u8 (a0 / 8) 7)) != 6) = false := bne_eq_false_iff_eq.mpr c10
     clear c10
     (first | rw [c10b0] | (simp only [i64_w, i32_w]; rw [c10b0]) | skip)
     have H' := Aside0.mk H
     clear H
     go_wp2
     go_meet
     case rel => exact ⟨_, (((wrap64 (Go.bits .and .u8 a0 7)) == 6)), (by first | rfl | (simp; done) | (simp [*]; done)), H', ⟨by first | omega | exact Nat.le_refl _⟩, ⟨by (with_reducible repeat (first | refine blk_drewN ?_ _ | refine blk_drew ?_ | refine blk_alloc ?_ _)); exact BK143.out⟩, ⟨by repeat (first | (with_reducible first | exact HB.out | apply below_alloc | apply pw_below_drewN | apply below_drew1 | refine below_set ?_ GE143.out) | exact HB.out)⟩⟩
    ·rw [if_neg c10] at H
     have c10b0 : ((wrap64 (Go.bits .and .u8 (a0 / 8) 7)) == 6) = false := beq_eq_false_iff_ne.mpr c10
     have c10b1 : ((wrap64 (Go.bits .and .u8 (a0 / 8) 7)) != 6) = true := bne_iff_ne.mpr c10
     (first | rw [c10b0] | (simp only [i64_w, i32_w]; rw [c10b0]) | skip)
     have H' := Aside0.mk H
     clear H
     go_wp2
     go_meet
     case rel => exact ⟨_, (false), (by first | rfl | (simp; done) | (simp [*]; done)), H', ⟨by first | omega | exact Nat.le_refl _⟩, ⟨by (with_reducible repeat (first | refine blk_drewN ?_ _ | refine blk_drew ?_ | refine blk_alloc ?_ _)); exact BK143.out⟩, ⟨by repeat (first | (with_reducible first | exact HB.out | apply below_alloc | apply pw_below_drewN | apply below_drew1 | refine below_set ?_ GE143.out) | exact HB.out)⟩⟩
   case rest =>
    clear HC8
    try clear c2
    try clear c2b0
    try clear c2b1
    try clear c7
    try clear c7b0
    try clear c7b1
    obtain ⟨kq, x26_7, rfl, HA, HJ7, BK143, HB⟩ := hcut
    cases kq with
    | zero => exact absurd HA.out (by simp [opcode_Decode.j0])
    | succ kj7 =>
     have H := HA.out
     clear HA
     simp only [opcode_Decode.j0] at H
     by_cases c11 : x26_7 = true
     ·subst c11
      rw [if_pos rfl] at H
      replace H := Option.bind_eq_some_iff.mp H
      obtain ⟨⟨t150, t151, t152, t153, t154, t155⟩, A120, H⟩ := H
      replace H : (some (t150, t151, t152, t153, t154, t155)) = some (r1, r2, r3, r4, r5, r6) := H
      have A12 := Aside0.mk A120
      clear A120
      simp only [Option.some.injEq, Prod.mk.injEq] at H
      obtain ⟨rfl, rfl, rfl, rfl, rfl, rfl⟩ := H
      go_wp2_with (first | ((with_reducible refine gate_callee (f := 54) rfl ?_); refine goesL_ (some 27) rfl rfl Tryd.func54 (by kernel_rfl) rfl #[.int .i64 2, .int .i64 0, .int .i64 0, .int .i64 1, .int .i64 1] rfl (by (try simp only [List.map_toArray, List.map_cons, List.map_nil]); first | done | rfl | (simp only [List.length_drop, List.length_take]; rfl)) ?_; (with_reducible refine (opcode_form.calls 2 0 0 1 1 t150 t151 t152 t153 t154 t155 _ A12.out).mono ?_); rintro e w13 ⟨rfl, hb⟩; refine ⟨_, rfl, ?_⟩; have n0_ := Aside0.mk (blk_below (g := gb143) (o := .cells #[.int .i64 0, .int .i64 0, .int .i64 0, .int .i64 0, .int .i64 0, .int .i64 0] 46 (0, 0)) (by (with_reducible repeat (first | refine blk_drewN ?_ _ | refine blk_drew ?_ | refine blk_alloc ?_ _)); exact BK143.out) hb); have n1_ := Aside0.mk (below_step (by repeat (first | (with_reducible first | exact HB.out | apply below_alloc | apply pw_below_drewN | apply below_drew1 | refine below_set ?_ GE143.out) | exact HB.out)) hb); clear BK143; clear HB; have BK143 := n0_; have HB := n1_; clear n0_ n1_; (try clear hb); obtain ⟨hcz14_0, hcz14_1, hcz14_2, hcz14_3, hcz14_4, hcz14_5, hfz14_0, hfz14_1, hfz14_2, hfz14_3, hfz14_4, hfz14_5⟩ := blk6 BK143.out))
      refine bodyPost_ret (results_cell_row rfl _ _ gb143 46 #[.int .i64 t150, .int .i64 t151, .int .i64 t152, .int .i64 t153, .int .i64 t154, .int .i64 t155] (0, 0) _ rfl (by (with_reducible repeat (first | refine blk_drewN ?_ _ | refine blk_drew ?_ | refine blk_alloc ?_ _)); refine blk_put (cs := #[.int .i64 t150, .int .i64 t151, .int .i64 t152, .int .i64 t153, .int .i64 t154, .int .i64 0]) ?_ 5 _ rfl; refine blk_put (cs := #[.int .i64 t150, .int .i64 t151, .int .i64 t152, .int .i64 t153, .int .i64 0, .int .i64 0]) ?_ 4 _ rfl; refine blk_put (cs := #[.int .i64 t150, .int .i64 t151, .int .i64 t152, .int .i64 0, .int .i64 0, .int .i64 0]) ?_ 3 _ rfl; refine blk_put (cs := #[.int .i64 t150, .int .i64 t151, .int .i64 0, .int .i64 0, .int .i64 0, .int .i64 0]) ?_ 2 _ rfl; refine blk_put (cs := #[.int .i64 t150, .int .i64 0, .int .i64 0, .int .i64 0, .int .i64 0, .int .i64 0]) ?_ 1 _ rfl; refine blk_put (cs := #[.int .i64 0, .int .i64 0, .int .i64 0, .int .i64 0, .int .i64 0, .int .i64 0]) ?_ 0 _ rfl; (with_reducible repeat (first | refine blk_drewN ?_ _ | refine blk_drew ?_ | refine blk_alloc ?_ _)); exact BK143.out) Tryd.underlying46 rfl (by kernel_rfl)) rfl ?_
      exact ⟨by first | rfl | (simp [errW_none, errW_some] <;> rfl) | (simp [*, errW_none, errW_some] <;> rfl), by repeat (first | (with_reducible first | exact HB.out | apply below_alloc | apply pw_below_drewN | apply below_drew1 | refine below_set ?_ GE143.out) | exact HB.out)⟩
     ·replace c11 := Bool.eq_false_iff.mpr c11
      subst c11
      have H1 : ((opcode_if6.f (wrap64 (Go.bits .and .u8 (a0 / 8) 7)) 2 1).bind fun t156 => ((opcode_if6.f (wrap64 (Go.bits .and .u8 a0 7)) 2 1).bind fun t157 => ((opcode_form.f 7 (wrap64 (Go.bits .and .u8 (a0 / 8) 7)) (wrap64 (Go.bits .and .u8 a0 7)) 1 (mx t156 t157)).bind fun bt158 => (some (bt158.1, bt158.2.1, bt158.2.2.1, bt158.2.2.2.1, bt158.2.2.2.2.1, bt158.2.2.2.2.2))))) = some (r1, r2, r3, r4, r5, r6) := by rw [if_neg (show ¬ (false = true) by decide)] at H; exact H
      clear H
      have H := H1
      clear H1
      replace H := Option.bind_eq_some_iff.mp H
      obtain ⟨t156, A150, H⟩ := H
      replace H : ((opcode_if6.f (wrap64 (Go.bits .and .u8 a0 7)) 2 1).bind fun t157 => ((opcode_form.f 7 (wrap64 (Go.bits .and .u8 (a0 / 8) 7)) (wrap64 (Go.bits .and .u8 a0 7)) 1 (mx t156 t157)).bind fun bt158 => (some (bt158.1, bt158.2.1, bt158.2.2.1, bt158.2.2.2.1, bt158.2.2.2.2.1, bt158.2.2.2.2.2)))) = some (r1, r2, r3, r4, r5, r6) := H
      have A15 := Aside0.mk A150
      clear A150
      replace H := Option.bind_eq_some_iff.mp H
      obtain ⟨t157, A160, H⟩ := H
      replace H : ((opcode_form.f 7 (wrap64 (Go.bits .and .u8 (a0 / 8) 7)) (wrap64 (Go.bits .and .u8 a0 7)) 1 (mx t156 t157)).bind fun bt158 => (some (bt158.1, bt158.2.1, bt158.2.2.1, bt158.2.2.2.1, bt158.2.2.2.2.1, bt158.2.2.2.2.2))) = some (r1, r2, r3, r4, r5, r6) := H
      have A16 := Aside0.mk A160
      clear A160
      obtain ⟨ji17, hji17⟩ : ∃ j_ : Int, (mx t156 t157) = j_ := ⟨_, rfl⟩
      replace H : ((opcode_form.f 7 (wrap64 (Go.bits .and .u8 (a0 / 8) 7)) (wrap64 (Go.bits .and .u8 a0 7)) 1 (ji17)).bind fun bt158 => (some (bt158.1, bt158.2.1, bt158.2.2.1, bt158.2.2.2.1, bt158.2.2.2.2.1, bt158.2.2.2.2.2))) = some (r1, r2, r3, r4, r5, r6) := by first | (rw [hji17] at H; exact H) | (simp only [hji17] at H ⊢; exact H)
      (try rw [hji17] at A15)
      (try rw [hji17] at A16)
      have hji17_ : (if t156 < t157 then t157 else t156) = ji17 := hji17
      replace H := Option.bind_eq_some_iff.mp H
      obtain ⟨⟨t158, t159, t160, t161, t162, t163⟩, A180, H⟩ := H
      replace H : (some (t158, t159, t160, t161, t162, t163)) = some (r1, r2, r3, r4, r5, r6) := H
      have A18 := Aside0.mk A180
      clear A180
      simp only [Option.some.injEq, Prod.mk.injEq] at H
      obtain ⟨rfl, rfl, rfl, rfl, rfl, rfl⟩ := H
      go_wp2_with (first | ((with_reducible refine gate_callee (f := 55) rfl ?_); refine goesL_ (some 31) rfl rfl Tryd.func55 (by kernel_rfl) rfl #[.int .i64 (wrap64 (Go.bits .and .u8 (a0 / 8) 7)), .int .i64 2, .int .i64 1] rfl (by (try simp only [List.map_toArray, List.map_cons, List.map_nil]); first | done | rfl | (simp only [List.length_drop, List.length_take]; rfl)) ?_; (with_reducible refine (opcode_if6.calls (wrap64 (Go.bits .and .u8 (a0 / 8) 7)) 2 1 t156 _ A15.out).mono ?_); rintro e w' ⟨rfl, ⟨nd, rfl⟩⟩; refine ⟨_, rfl, ?_⟩; (try (rw [drewN_self wc]; generalize hq_ : World.drewN wc _ = wc; have n0_ : Aside0 (wc.heap[gb143]? = some (.cells #[.int .i64 0, .int .i64 0, .int .i64 0, .int .i64 0, .int .i64 0, .int .i64 0] 46 (0, 0))) := ⟨by rw [← hq_]; exact (by (with_reducible repeat (first | refine blk_drewN ?_ _ | refine blk_drew ?_ | refine blk_alloc ?_ _)); exact BK143.out)⟩; have n1_ : Aside0 (Below w.heap.size w wc) := ⟨by rw [← hq_]; exact (by repeat (first | (with_reducible first | exact HB.out | apply below_alloc | apply pw_below_drewN | apply below_drew1 | refine below_set ?_ GE143.out) | exact HB.out))⟩; clear BK143 HB hq_; have BK143 := n0_; have HB := n1_; clear n0_ n1_))) | ((with_reducible refine gate_callee (f := 55) rfl ?_); refine goesL_ (some 33) rfl rfl Tryd.func55 (by kernel_rfl) rfl #[.int .i64 (wrap64 (Go.bits .and .u8 a0 7)), .int .i64 2, .int .i64 1] rfl (by (try simp only [List.map_toArray, List.map_cons, List.map_nil]); first | done | rfl | (simp only [List.length_drop, List.length_take]; rfl)) ?_; (with_reducible refine (opcode_if6.calls (wrap64 (Go.bits .and .u8 a0 7)) 2 1 t157 _ A16.out).mono ?_); rintro e w' ⟨rfl, ⟨nd, rfl⟩⟩; refine ⟨_, rfl, ?_⟩; (try (rw [drewN_self wc]; generalize hq_ : World.drewN wc _ = wc; have n0_ : Aside0 (wc.heap[gb143]? = some (.cells #[.int .i64 0, .int .i64 0, .int .i64 0, .int .i64 0, .int .i64 0, .int .i64 0] 46 (0, 0))) := ⟨by rw [← hq_]; exact (by (with_reducible repeat (first | refine blk_drewN ?_ _ | refine blk_drew ?_ | refine blk_alloc ?_ _)); exact BK143.out)⟩; have n1_ : Aside0 (Below w.heap.size w wc) := ⟨by rw [← hq_]; exact (by repeat (first | (with_reducible first | exact HB.out | apply below_alloc | apply pw_below_drewN | apply below_drew1 | refine below_set ?_ GE143.out) | exact HB.out))⟩; clear BK143 HB hq_; have BK143 := n0_; have HB := n1_; clear n0_ n1_))) | ((with_reducible refine gate_callee (f := 54) rfl ?_); refine goesL_ (some 35) rfl rfl Tryd.func54 (by kernel_rfl) rfl #[.int .i64 7, .int .i64 (wrap64 (Go.bits .and .u8 (a0 / 8) 7)), .int .i64 (wrap64 (Go.bits .and .u8 a0 7)), .int .i64 1, .int .i64 ji17] rfl (by (try simp only [List.map_toArray, List.map_cons, List.map_nil]); first | done | (simp only [hji17]; rfl) | rfl | (simp only [List.length_drop, List.length_take]; rfl)) ?_; (with_reducible refine (opcode_form.calls 7 (wrap64 (Go.bits .and .u8 (a0 / 8) 7)) (wrap64 (Go.bits .and .u8 a0 7)) 1 ji17 t158 t159 t160 t161 t162 t163 _ A18.out).mono ?_); rintro e w19 ⟨rfl, hb⟩; refine ⟨_, rfl, ?_⟩; have n0_ := Aside0.mk (blk_below (g := gb143) (o := .cells #[.int .i64 0, .int .i64 0, .int .i64 0, .int .i64 0, .int .i64 0, .int .i64 0] 46 (0, 0)) (by (with_reducible repeat (first | refine blk_drewN ?_ _ | refine blk_drew ?_ | refine blk_alloc ?_ _)); exact BK143.out) hb); have n1_ := Aside0.mk (below_step (by repeat (first | (with_reducible first | exact HB.out | apply below_alloc | apply pw_below_drewN | apply below_drew1 | refine below_set ?_ GE143.out) | exact HB.out)) hb); clear BK143; clear HB; have BK143 := n0_; have HB := n1_; clear n0_ n1_; (try clear hb); obtain ⟨hcz20_0, hcz20_1, hcz20_2, hcz20_3, hcz20_4, hcz20_5, hfz20_0, hfz20_1, hfz20_2, hfz20_3, hfz20_4, hfz20_5⟩ := blk6 BK143.out))
      refine bodyPost_ret (results_cell_row rfl _ _ gb143 46 #[.int .i64 t158, .int .i64 t159, .int .i64 t160, .int .i64 t161, .int .i64 t162, .int .i64 t163] (0, 0) _ rfl (by (with_reducible repeat (first | refine blk_drewN ?_ _ | refine blk_drew ?_ | refine blk_alloc ?_ _)); refine blk_put (cs := #[.int .i64 t158, .int .i64 t159, .int .i64 t160, .int .i64 t161, .int .i64 t162, .int .i64 0]) ?_ 5 _ rfl; refine blk_put (cs := #[.int .i64 t158, .int .i64 t159, .int .i64 t160, .int .i64 t161, .int .i64 0, .int .i64 0]) ?_ 4 _ rfl; refine blk_put (cs := #[.int .i64 t158, .int .i64 t159, .int .i64 t160, .int .i64 0, .int .i64 0, .int .i64 0]) ?_ 3 _ rfl; refine blk_put (cs := #[.int .i64 t158, .int .i64 t159, .int .i64 0, .int .i64 0, .int .i64 0, .int .i64 0]) ?_ 2 _ rfl; refine blk_put (cs := #[.int .i64 t158, .int .i64 0, .int .i64 0, .int .i64 0, .int .i64 0, .int .i64 0]) ?_ 1 _ rfl; refine blk_put (cs := #[.int .i64 0, .int .i64 0, .int .i64 0, .int .i64 0, .int .i64 0, .int .i64 0]) ?_ 0 _ rfl; (with_reducible repeat (first | refine blk_drewN ?_ _ | refine blk_drew ?_ | refine blk_alloc ?_ _)); exact BK143.out) Tryd.underlying46 rfl (by kernel_rfl)) rfl ?_
      exact ⟨by first | rfl | (simp [errW_none, errW_some] <;> rfl) | (simp only [← hji17]; first | rfl | (simp [errW_none, errW_some] <;> rfl)) | (simp [*, errW_none, errW_some] <;> rfl), by repeat (first | (with_reducible first | exact HB.out | apply below_alloc | apply pw_below_drewN | apply below_drew1 | refine below_set ?_ GE143.out) | exact HB.out)⟩
  ·rw [if_neg c7] at H
   have c7b0 : ((a0 / 64) == 1) = false := beq_eq_false_iff_ne.mpr c7
   have c7b1 : ((a0 / 64) != 1) = true := bne_iff_ne.mpr c7
   by_cases c21 : (a0 / 64) = 2
   ·rw [if_pos c21] at H
    have c21b0 : ((a0 / 64) == 2) = true := beq_iff_eq.mpr c21
    have c21b1 : ((a0 / 64) != 2) = false := bne_eq_false_iff_eq.mpr c21
    clear c21
    replace H := Option.bind_eq_some_iff.mp H
    obtain ⟨t164, A220, H⟩ := H
    replace H : ((opcode_form.f 23 (wrap64 (Go.bits .and .u8 (a0 / 8) 7)) (wrap64 (Go.bits .and .u8 a0 7)) 1 t164).bind fun bt165 => (some (bt165.1, bt165.2.1, bt165.2.2.1, bt165.2.2.2.1, bt165.2.2.2.2.1, bt165.2.2.2.2.2))) = some (r1, r2, r3, r4, r5, r6) := H
    have A22 := Aside0.mk A220
    clear A220
    replace H := Option.bind_eq_some_iff.mp H
    obtain ⟨⟨t165, t166, t167, t168, t169, t170⟩, A230, H⟩ := H
    replace H : (some (t165, t166, t167, t168, t169, t170)) = some (r1, r2, r3, r4, r5, r6) := H
    have A23 := Aside0.mk A230
    clear A230
    simp only [Option.some.injEq, Prod.mk.injEq] at H
    obtain ⟨rfl, rfl, rfl, rfl, rfl, rfl⟩ := H
    go_enter Tryd.func30, Tryd.ntmps30
    go_wp2_with (first | ((with_reducible refine gate_dst (N := 2) rfl ?_); refine box_event ?hg (N := 2) ?hd (cs := #[.int .i64 0, .int .i64 0, .int .i64 0, .int .i64 0, .int .i64 0, .int .i64 0]) (t := 46) ?hr ?_; (case hd => rfl); (case hg => rfl); (case hr => first | (go_simp; done) | (go_simp; rfl)); intro gb143 hg w24 hbox hb; have n0_ := Aside0.mk (below_step (by repeat (first | (with_reducible first | exact HB.out | apply below_alloc | apply pw_below_drewN | apply below_drew1) | exact HB.out)) hb); have n1_ := Aside0.mk (hbox); have n2_ := Aside0.mk ((by rw [hg]; exact (below_size (by repeat (first | (with_reducible first | exact HB.out | apply below_alloc | apply pw_below_drewN | apply below_drew1) | exact HB.out))) : w.heap.size ≤ gb143)); have n3_ := Aside0.mk ((by rw [hg]; exact (below_size (by repeat (first | (with_reducible first | exact HB.out | apply below_alloc | apply pw_below_drewN | apply below_drew1) | exact HB.out))) : w.heap.size ≤ gb143)); clear HB; have HB := n0_; have BK143 := n1_; have GW143 := n2_; have GE143 := n3_; clear n0_ n1_ n2_ n3_; clear hb hbox hg) | ((with_reducible refine gate_callee (f := 55) rfl ?_); refine goesL_ (some 41) rfl rfl Tryd.func55 (by kernel_rfl) rfl #[.int .i64 (wrap64 (Go.bits .and .u8 a0 7)), .int .i64 2, .int .i64 1] rfl (by (try simp only [List.map_toArray, List.map_cons, List.map_nil]); first | done | rfl | (simp only [List.length_drop, List.length_take]; rfl)) ?_; (with_reducible refine (opcode_if6.calls (wrap64 (Go.bits .and .u8 a0 7)) 2 1 t164 _ A22.out).mono ?_); rintro e w' ⟨rfl, ⟨nd, rfl⟩⟩; refine ⟨_, rfl, ?_⟩; (try (rw [drewN_self w24]; generalize hq_ : World.drewN w24 _ = w24; have n0_ : Aside0 (w24.heap[gb143]? = some (.cells #[.int .i64 0, .int .i64 0, .int .i64 0, .int .i64 0, .int .i64 0, .int .i64 0] 46 (0, 0))) := ⟨by rw [← hq_]; exact (by (with_reducible repeat (first | refine blk_drewN ?_ _ | refine blk_drew ?_ | refine blk_alloc ?_ _)); exact BK143.out)⟩; have n1_ : Aside0 (Below w.heap.size w w24) := ⟨by rw [← hq_]; exact (by repeat (first | (with_reducible first | exact HB.out | apply below_alloc | apply pw_below_drewN | apply below_drew1 | refine below_set ?_ GE143.out) | exact HB.out))⟩; clear BK143 HB hq_; have BK143 := n0_; have HB := n1_; clear n0_ n1_))) | ((with_reducible refine gate_callee (f := 54) rfl ?_); refine goesL_ (some 42) rfl rfl Tryd.func54 (by kernel_rfl) rfl #[.int .i64 23, .int .i64 (wrap64 (Go.bits .and .u8 (a0 / 8) 7)), .int .i64 (wrap64 (Go.bits .and .u8 a0 7)), .int .i64 1, .int .i64 t164] rfl (by (try simp only [List.map_toArray, List.map_cons, List.map_nil]); first | done | rfl | (simp only [List.length_drop, List.length_take]; rfl)) ?_; (with_reducible refine (opcode_form.calls 23 (wrap64 (Go.bits .and .u8 (a0 / 8) 7)) (wrap64 (Go.bits .and .u8 a0 7)) 1 t164 t165 t166 t167 t168 t169 t170 _ A23.out).mono ?_); rintro e w25 ⟨rfl, hb⟩; refine ⟨_, rfl, ?_⟩; have n0_ := Aside0.mk (blk_below (g := gb143) (o := .cells #[.int .i64 0, .int .i64 0, .int .i64 0, .int .i64 0, .int .i64 0, .int .i64 0] 46 (0, 0)) (by (with_reducible repeat (first | refine blk_drewN ?_ _ | refine blk_drew ?_ | refine blk_alloc ?_ _)); exact BK143.out) hb); have n1_ := Aside0.mk (below_step (by repeat (first | (with_reducible first | exact HB.out | apply below_alloc | apply pw_below_drewN | apply below_drew1 | refine below_set ?_ GE143.out) | exact HB.out)) hb); clear BK143; clear HB; have BK143 := n0_; have HB := n1_; clear n0_ n1_; (try clear hb); obtain ⟨hcz26_0, hcz26_1, hcz26_2, hcz26_3, hcz26_4, hcz26_5, hfz26_0, hfz26_1, hfz26_2, hfz26_3, hfz26_4, hfz26_5⟩ := blk6 BK143.out))
    refine bodyPost_ret (results_cell_row rfl _ _ gb143 46 #[.int .i64 t165, .int .i64 t166, .int .i64 t167, .int .i64 t168, .int .i64 t169, .int .i64 t170] (0, 0) _ rfl (by (with_reducible repeat (first | refine blk_drewN ?_ _ | refine blk_drew ?_ | refine blk_alloc ?_ _)); refine blk_put (cs := #[.int .i64 t165, .int .i64 t166, .int .i64 t167, .int .i64 t168, .int .i64 t169, .int .i64 0]) ?_ 5 _ rfl; refine blk_put (cs := #[.int .i64 t165, .int .i64 t166, .int .i64 t167, .int .i64 t168, .int .i64 0, .int .i64 0]) ?_ 4 _ rfl; refine blk_put (cs := #[.int .i64 t165, .int .i64 t166, .int .i64 t167, .int .i64 0, .int .i64 0, .int .i64 0]) ?_ 3 _ rfl; refine blk_put (cs := #[.int .i64 t165, .int .i64 t166, .int .i64 0, .int .i64 0, .int .i64 0, .int .i64 0]) ?_ 2 _ rfl; refine blk_put (cs := #[.int .i64 t165, .int .i64 0, .int .i64 0, .int .i64 0, .int .i64 0, .int .i64 0]) ?_ 1 _ rfl; refine blk_put (cs := #[.int .i64 0, .int .i64 0, .int .i64 0, .int .i64 0, .int .i64 0, .int .i64 0]) ?_ 0 _ rfl; (with_reducible repeat (first | refine blk_drewN ?_ _ | refine blk_drew ?_ | refine blk_alloc ?_ _)); exact BK143.out) Tryd.underlying46 rfl (by kernel_rfl)) rfl ?_
    exact ⟨by first | rfl | (simp [errW_none, errW_some] <;> rfl) | (simp [*, errW_none, errW_some] <;> rfl), by repeat (first | (with_reducible first | exact HB.out | apply below_alloc | apply pw_below_drewN | apply below_drew1 | refine below_set ?_ GE143.out) | exact HB.out)⟩
   ·rw [if_neg c21] at H
    have c21b0 : ((a0 / 64) == 2) = false := beq_eq_false_iff_ne.mpr c21
    have c21b1 : ((a0 / 64) != 2) = true := bne_iff_ne.mpr c21
    replace H := Option.bind_eq_some_iff.mp H
    obtain ⟨⟨t171, t172, t173, t174, t175, t176⟩, A270, H⟩ := H
    replace H : (some (t171, t172, t173, t174, t175, t176)) = some (r1, r2, r3, r4, r5, r6) := H
    have A27 := Aside0.mk A270
    clear A270
    simp only [Option.some.injEq, Prod.mk.injEq] at H
    obtain ⟨rfl, rfl, rfl, rfl, rfl, rfl⟩ := H
    go_enter Tryd.func30, Tryd.ntmps30
    go_wp2_with (first | ((with_reducible refine gate_dst (N := 2) rfl ?_); refine box_event ?hg (N := 2) ?hd (cs := #[.int .i64 0, .int .i64 0, .int .i64 0, .int .i64 0, .int .i64 0, .int .i64 0]) (t := 46) ?hr ?_; (case hd => rfl); (case hg => rfl); (case hr => first | (go_simp; done) | (go_simp; rfl)); intro gb143 hg w28 hbox hb; have n0_ := Aside0.mk (below_step (by repeat (first | (with_reducible first | exact HB.out | apply below_alloc | apply pw_below_drewN | apply below_drew1) | exact HB.out)) hb); have n1_ := Aside0.mk (hbox); have n2_ := Aside0.mk ((by rw [hg]; exact (below_size (by repeat (first | (with_reducible first | exact HB.out | apply below_alloc | apply pw_below_drewN | apply below_drew1) | exact HB.out))) : w.heap.size ≤ gb143)); have n3_ := Aside0.mk ((by rw [hg]; exact (below_size (by repeat (first | (with_reducible first | exact HB.out | apply below_alloc | apply pw_below_drewN | apply below_drew1) | exact HB.out))) : w.heap.size ≤ gb143)); clear HB; have HB := n0_; have BK143 := n1_; have GW143 := n2_; have GE143 := n3_; clear n0_ n1_ n2_ n3_; clear hb hbox hg) | ((with_reducible refine gate_callee (f := 56) rfl ?_); refine goesL_ (some 45) rfl rfl Tryd.func56 (by kernel_rfl) rfl #[.int .i64 (wrap64 (Go.bits .and .u8 (a0 / 8) 7)), .int .i64 (wrap64 (Go.bits .and .u8 a0 7))] rfl (by (try simp only [List.map_toArray, List.map_cons, List.map_nil]); first | done | rfl | (simp only [List.length_drop, List.length_take]; rfl)) ?_; (with_reducible refine (opcode_last.calls (wrap64 (Go.bits .and .u8 (a0 / 8) 7)) (wrap64 (Go.bits .and .u8 a0 7)) t171 t172 t173 t174 t175 t176 _ A27.out).mono ?_); rintro e w29 ⟨rfl, hb⟩; refine ⟨_, rfl, ?_⟩; have n0_ := Aside0.mk (blk_below (g := gb143) (o := .cells #[.int .i64 0, .int .i64 0, .int .i64 0, .int .i64 0, .int .i64 0, .int .i64 0] 46 (0, 0)) (by (with_reducible repeat (first | refine blk_drewN ?_ _ | refine blk_drew ?_ | refine blk_alloc ?_ _)); exact BK143.out) hb); have n1_ := Aside0.mk (below_step (by repeat (first | (with_reducible first | exact HB.out | apply below_alloc | apply pw_below_drewN | apply below_drew1 | refine below_set ?_ GE143.out) | exact HB.out)) hb); clear BK143; clear HB; have BK143 := n0_; have HB := n1_; clear n0_ n1_; (try clear hb); obtain ⟨hcz30_0, hcz30_1, hcz30_2, hcz30_3, hcz30_4, hcz30_5, hfz30_0, hfz30_1, hfz30_2, hfz30_3, hfz30_4, hfz30_5⟩ := blk6 BK143.out))
    refine bodyPost_ret (results_cell_row rfl _ _ gb143 46 #[.int .i64 t171, .int .i64 t172, .int .i64 t173, .int .i64 t174, .int .i64 t175, .int .i64 t176] (0, 0) _ rfl (by (with_reducible repeat (first | refine blk_drewN ?_ _ | refine blk_drew ?_ | refine blk_alloc ?_ _)); refine blk_put (cs := #[.int .i64 t171, .int .i64 t172, .int .i64 t173, .int .i64 t174, .int .i64 t175, .int .i64 0]) ?_ 5 _ rfl; refine blk_put (cs := #[.int .i64 t171, .int .i64 t172, .int .i64 t173, .int .i64 t174, .int .i64 0, .int .i64 0]) ?_ 4 _ rfl; refine blk_put (cs := #[.int .i64 t171, .int .i64 t172, .int .i64 t173, .int .i64 0, .int .i64 0, .int .i64 0]) ?_ 3 _ rfl; refine blk_put (cs := #[.int .i64 t171, .int .i64 t172, .int .i64 0, .int .i64 0, .int .i64 0, .int .i64 0]) ?_ 2 _ rfl; refine blk_put (cs := #[.int .i64 t171, .int .i64 0, .int .i64 0, .int .i64 0, .int .i64 0, .int .i64 0]) ?_ 1 _ rfl; refine blk_put (cs := #[.int .i64 0, .int .i64 0, .int .i64 0, .int .i64 0, .int .i64 0, .int .i64 0]) ?_ 0 _ rfl; (with_reducible repeat (first | refine blk_drewN ?_ _ | refine blk_drew ?_ | refine blk_alloc ?_ _)); exact BK143.out) Tryd.underlying46 rfl (by kernel_rfl)) rfl ?_
    exact ⟨by first | rfl | (simp [errW_none, errW_some] <;> rfl) | (simp [*, errW_none, errW_some] <;> rfl), by repeat (first | (with_reducible first | exact HB.out | apply below_alloc | apply pw_below_drewN | apply below_drew1 | refine below_set ?_ GE143.out) | exact HB.out)⟩

end Go.Proofs.YtpjbfpheenamiaaDoor.PF
