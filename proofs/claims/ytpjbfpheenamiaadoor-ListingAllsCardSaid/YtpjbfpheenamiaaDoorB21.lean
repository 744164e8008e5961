/- Texts of this claim, put together: PF27, GLate. -/
import Derived.Test.YtpjbfpheenamiaaDoorB1
import Derived.Test.YtpjbfpheenamiaaDoorB19
import Derived.Test.YtpjbfpheenamiaaDoorB20
-- PRINTED by print.py (a twelfth state) out of the translation. Not trusted: Lean checks it.
namespace Go.Proofs.YtpjbfpheenamiaaDoor.PF
open Go.RowKit Go.Proofs.YtpjbfpheenamiaaDoorW.PrintWords Go.Proofs.YtpjbfpheenamiaaDoorW.PrintLast Go.Proofs.YtpjbfpheenamiaaDoorW.PrintMore
attribute [local go_sem] max2_int min2_int max_two min_two max_three min_three max_four min_four   -- for this text's walks alone
set_option linter.unusedVariables false
set_option linter.unusedSimpArgs false

/-! ### whirligigref06_form: function 27 -/
def whirligigref06_form.f (k : Nat) (a0 : Int) (a1 : Bool) : Option (Int × Int × Int × Int × Int × Int) := if a1 = true then ((whirligigref05_DecodeCB.f k a0).bind fun bt302 => (some (bt302.1, bt302.2.1, bt302.2.2.1, bt302.2.2.2.1, bt302.2.2.2.2.1, bt302.2.2.2.2.2))) else ((whirligigref05_Decode.f k a0).bind fun bt308 => (some (bt308.1, bt308.2.1, bt308.2.2.1, bt308.2.2.2.1, bt308.2.2.2.2.1, bt308.2.2.2.2.2)))
theorem whirligigref06_form.mono : ∀ a0 a1 k, LeO (whirligigref06_form.f k a0 a1) (whirligigref06_form.f (k + 1) a0 a1) := by
 intro a0 a1 k
 unfold whirligigref06_form.f
 repeat' first
   | (with_reducible exact whirligigref05_Decode.mono _ _)
   | (with_reducible exact whirligigref05_DecodeCB.mono _ _)
   | (with_reducible exact LeO.refl _)
   | (with_reducible exact LeO.none _)
   | (with_reducible refine LeO.ite ?_ ?_)
   | (with_reducible refine LeO.bind ?_ (fun _ => ?_))
   | exact whirligigref05_Decode.mono _ _
   | exact whirligigref05_DecodeCB.mono _ _
   | exact LeO.none _
   | refine LeO.ite ?_ ?_
   | refine LeO.bind ?_ (fun _ => ?_)
set_option maxHeartbeats 8000000 in
set_option maxRecDepth 100000 in
theorem whirligigref06_form.calls (k : Nat) (a0 : Int) (a1 : Bool) (r1 : Int) (r2 : Int) (r3 : Int) (r4 : Int) (r5 : Int) (r6 : Int) (w : World) (h : whirligigref06_form.f k a0 a1 = some (r1, r2, r3, r4, r5, r6)) :
  Calls Tryd.prog 27 #[.int .u8 a0, .bool a1] w fun e w' => e = .returned (.agg #[.int .i64 r1, .int .i64 r2, .int .i64 r3, .int .i64 r4, .int .i64 r5, .int .i64 r6]) ∧ Below w.heap.size w w' := by
 have hu46 := Tryd.underlying46
 have HB := Aside0.mk (Below.refl w.heap.size w)
 have H : (if a1 = true then ((whirligigref05_DecodeCB.f k a0).bind fun bt302 => (some (bt302.1, bt302.2.1, bt302.2.2.1, bt302.2.2.2.1, bt302.2.2.2.2.1, bt302.2.2.2.2.2))) else ((whirligigref05_Decode.f k a0).bind fun bt308 => (some (bt308.1, bt308.2.1, bt308.2.2.1, bt308.2.2.2.1, bt308.2.2.2.2.1, bt308.2.2.2.2.2)))) = some (r1, r2, r3, r4, r5, r6) := h
 clear h
 by_cases c3 : a1 = true
 ·subst c3
  rw [if_pos rfl] at H
  replace H := Option.bind_eq_some_iff.mp H
  obtain ⟨⟨t302, t303, t304, t305, t306, t307⟩, A40, H⟩ := H
  replace H : (some (t302, t303, t304, t305, t306, t307)) = some (r1, r2, r3, r4, r5, r6) := H
  have A4 := Aside0.mk A40
  clear A40
  simp only [Option.some.injEq, Prod.mk.injEq] at H
  obtain ⟨rfl, rfl, rfl, rfl, rfl, rfl⟩ := H
  go_enter Tryd.func27, Tryd.ntmps27
  go_wp2_with (first | ((with_reducible refine gate_dst (N := 4) rfl ?_); refine box_event ?hg (N := 4) ?hd (cs := #[.int .i64 0, .int .i64 0, .int .i64 0, .int .i64 0, .int .i64 0, .int .i64 0]) (t := 46) ?hr ?_; (case hd => rfl); (case hg => rfl); (case hr => first | (go_simp; done) | (go_simp; rfl)); intro gb301 hg w5 hbox hb; have n0_ := Aside0.mk (below_step (by repeat (first | (with_reducible first | exact HB.out | apply below_alloc | apply pw_below_drewN | apply below_drew1) | exact HB.out)) hb); have n1_ := Aside0.mk (hbox); have n2_ := Aside0.mk ((by rw [hg]; exact (below_size (by repeat (first | (with_reducible first | exact HB.out | apply below_alloc | apply pw_below_drewN | apply below_drew1) | exact HB.out))) : w.heap.size ≤ gb301)); have n3_ := Aside0.mk ((by rw [hg]; exact (below_size (by repeat (first | (with_reducible first | exact HB.out | apply below_alloc | apply pw_below_drewN | apply below_drew1) | exact HB.out))) : w.heap.size ≤ gb301)); clear HB; have HB := n0_; have BK301 := n1_; have GW301 := n2_; have GE301 := n3_; clear n0_ n1_ n2_ n3_; clear hb hbox hg) | ((with_reducible refine gate_callee (f := 42) rfl ?_); refine goesL_ (some 7) rfl rfl Tryd.func42 (by kernel_rfl) rfl #[.int .u8 a0] rfl (by (try simp only [List.map_toArray, List.map_cons, List.map_nil]); first | done | rfl | (simp only [List.length_drop, List.length_take]; rfl)) ?_; (with_reducible refine (whirligigref05_DecodeCB.calls k a0 t302 t303 t304 t305 t306 t307 _ A4.out).mono ?_); rintro e w6 ⟨rfl, hb⟩; refine ⟨_, rfl, ?_⟩; have n0_ := Aside0.mk (blk_below (g := gb301) (o := .cells #[.int .i64 0, .int .i64 0, .int .i64 0, .int .i64 0, .int .i64 0, .int .i64 0] 46 (0, 0)) (by (with_reducible repeat (first | refine blk_drewN ?_ _ | refine blk_drew ?_ | refine blk_alloc ?_ _)); exact BK301.out) hb); have n1_ := Aside0.mk (below_step (by repeat (first | (with_reducible first | exact HB.out | apply below_alloc | apply pw_below_drewN | apply below_drew1 | refine below_set ?_ GE301.out) | exact HB.out)) hb); clear BK301; clear HB; have BK301 := n0_; have HB := n1_; clear n0_ n1_; (try clear hb); obtain ⟨hcz7_0, hcz7_1, hcz7_2, hcz7_3, hcz7_4, hcz7_5, hfz7_0, hfz7_1, hfz7_2, hfz7_3, hfz7_4, hfz7_5⟩ := blk6 BK301.out))
  refine bodyPost_ret (results_cell_row rfl _ _ gb301 46 #[.int .i64 t302, .int .i64 t303, .int .i64 t304, .int .i64 t305, .int .i64 t306, .int .i64 t307] (0, 0) _ rfl (by (with_reducible repeat (first | refine blk_drewN ?_ _ | refine blk_drew ?_ | refine blk_alloc ?_ _)); refine blk_put (cs := #[.int .i64 t302, .int .i64 t303, .int .i64 t304, .int .i64 t305, .int .i64 t306, .int .i64 0]) ?_ 5 _ rfl; refine blk_put (cs := #[.int .i64 t302, .int .i64 t303, .int .i64 t304, .int .i64 t305, .int .i64 0, .int .i64 0]) ?_ 4 _ rfl; refine blk_put (cs := #[.int .i64 t302, .int .i64 t303, .int .i64 t304, .int .i64 0, .int .i64 0, .int .i64 0]) ?_ 3 _ rfl; refine blk_put (cs := #[.int .i64 t302, .int .i64 t303, .int .i64 0, .int .i64 0, .int .i64 0, .int .i64 0]) ?_ 2 _ rfl; refine blk_put (cs := #[.int .i64 t302, .int .i64 0, .int .i64 0, .int .i64 0, .int .i64 0, .int .i64 0]) ?_ 1 _ rfl; refine blk_put (cs := #[.int .i64 0, .int .i64 0, .int .i64 0, .int .i64 0, .int .i64 0, .int .i64 0]) ?_ 0 _ rfl; (with_reducible repeat (first | refine blk_drewN ?_ _ | refine blk_drew ?_ | refine blk_alloc ?_ _)); exact BK301.out) Tryd.underlying46 rfl (by kernel_rfl)) rfl ?_
  exact ⟨by first | rfl | (simp [errW_none, errW_some] <;> rfl) | (simp [*, errW_none, errW_some] <;> rfl), by repeat (first | (with_reducible first | exact HB.out | apply below_alloc | apply pw_below_drewN | apply below_drew1 | refine below_set ?_ GE301.out) | exact HB.out)⟩
 ·replace c3 := Bool.eq_false_iff.mpr c3
  subst c3
  have H1 : ((whirligigref05_Decode.f k a0).bind fun bt308 => (some (bt308.1, bt308.2.1, bt308.2.2.1, bt308.2.2.2.1, bt308.2.2.2.2.1, bt308.2.2.2.2.2))) = some (r1, r2, r3, r4, r5, r6) := by rw [if_neg (show ¬ (false = true) by decide)] at H; exact H
  clear H
  have H := H1
  clear H1
  replace H := Option.bind_eq_some_iff.mp H
  obtain ⟨⟨t308, t309, t310, t311, t312, t313⟩, A80, H⟩ := H
  replace H : (some (t308, t309, t310, t311, t312, t313)) = some (r1, r2, r3, r4, r5, r6) := H
  have A8 := Aside0.mk A80
  clear A80
  simp only [Option.some.injEq, Prod.mk.injEq] at H
  obtain ⟨rfl, rfl, rfl, rfl, rfl, rfl⟩ := H
  go_enter Tryd.func27, Tryd.ntmps27
  go_wp2_with (first | ((with_reducible refine gate_dst (N := 4) rfl ?_); refine box_event ?hg (N := 4) ?hd (cs := #[.int .i64 0, .int .i64 0, .int .i64 0, .int .i64 0, .int .i64 0, .int .i64 0]) (t := 46) ?hr ?_; (case hd => rfl); (case hg => rfl); (case hr => first | (go_simp; done) | (go_simp; rfl)); intro gb301 hg w9 hbox hb; have n0_ := Aside0.mk (below_step (by repeat (first | (with_reducible first | exact HB.out | apply below_alloc | apply pw_below_drewN | apply below_drew1) | exact HB.out)) hb); have n1_ := Aside0.mk (hbox); have n2_ := Aside0.mk ((by rw [hg]; exact (below_size (by repeat (first | (with_reducible first | exact HB.out | apply below_alloc | apply pw_below_drewN | apply below_drew1) | exact HB.out))) : w.heap.size ≤ gb301)); have n3_ := Aside0.mk ((by rw [hg]; exact (below_size (by repeat (first | (with_reducible first | exact HB.out | apply below_alloc | apply pw_below_drewN | apply below_drew1) | exact HB.out))) : w.heap.size ≤ gb301)); clear HB; have HB := n0_; have BK301 := n1_; have GW301 := n2_; have GE301 := n3_; clear n0_ n1_ n2_ n3_; clear hb hbox hg) | ((with_reducible refine gate_callee (f := 43) rfl ?_); refine goesL_ (some 9) rfl rfl Tryd.func43 (by kernel_rfl) rfl #[.int .u8 a0] rfl (by (try simp only [List.map_toArray, List.map_cons, List.map_nil]); first | done | rfl | (simp only [List.length_drop, List.length_take]; rfl)) ?_; (with_reducible refine (whirligigref05_Decode.calls k a0 t308 t309 t310 t311 t312 t313 _ A8.out).mono ?_); rintro e w10 ⟨rfl, hb⟩; refine ⟨_, rfl, ?_⟩; have n0_ := Aside0.mk (blk_below (g := gb301) (o := .cells #[.int .i64 0, .int .i64 0, .int .i64 0, .int .i64 0, .int .i64 0, .int .i64 0] 46 (0, 0)) (by (with_reducible repeat (first | refine blk_drewN ?_ _ | refine blk_drew ?_ | refine blk_alloc ?_ _)); exact BK301.out) hb); have n1_ := Aside0.mk (below_step (by repeat (first | (with_reducible first | exact HB.out | apply below_alloc | apply pw_below_drewN | apply below_drew1 | refine below_set ?_ GE301.out) | exact HB.out)) hb); clear BK301; clear HB; have BK301 := n0_; have HB := n1_; clear n0_ n1_; (try clear hb); obtain ⟨hcz11_0, hcz11_1, hcz11_2, hcz11_3, hcz11_4, hcz11_5, hfz11_0, hfz11_1, hfz11_2, hfz11_3, hfz11_4, hfz11_5⟩ := blk6 BK301.out))
  refine bodyPost_ret (results_cell_row rfl _ _ gb301 46 #[.int .i64 t308, .int .i64 t309, .int .i64 t310, .int .i64 t311, .int .i64 t312, .int .i64 t313] (0, 0) _ rfl (by (with_reducible repeat (first | refine blk_drewN ?_ _ | refine blk_drew ?_ | refine blk_alloc ?_ _)); refine blk_put (cs := #[.int .i64 t308, .int .i64 t309, .int .i64 t310, .int .i64 t311, .int .i64 t312, .int .i64 0]) ?_ 5 _ rfl; refine blk_put (cs := #[.int .i64 t308, .int .i64 t309, .int .i64 t310, .int .i64 t311, .int .i64 0, .int .i64 0]) ?_ 4 _ rfl; refine blk_put (cs := #[.int .i64 t308, .int .i64 t309, .int .i64 t310, .int .i64 0, .int .i64 0, .int .i64 0]) ?_ 3 _ rfl; refine blk_put (cs := #[.int .i64 t308, .int .i64 t309, .int .i64 0, .int .i64 0, .int .i64 0, .int .i64 0]) ?_ 2 _ rfl; refine blk_put (cs := #[.int .i64 t308, .int .i64 0, .int .i64 0, .int .i64 0, .int .i64 0, .int .i64 0]) ?_ 1 _ rfl; refine blk_put (cs := #[.int .i64 0, .int .i64 0, .int .i64 0, .int .i64 0, .int .i64 0, .int .i64 0]) ?_ 0 _ rfl; (with_reducible repeat (first | refine blk_drewN ?_ _ | refine blk_drew ?_ | refine blk_alloc ?_ _)); exact BK301.out) Tryd.underlying46 rfl (by kernel_rfl)) rfl ?_
  exact ⟨by first | rfl | (simp [errW_none, errW_some] <;> rfl) | (simp [*, errW_none, errW_some] <;> rfl), by repeat (first | (with_reducible first | exact HB.out | apply below_alloc | apply pw_below_drewN | apply below_drew1 | refine below_set ?_ GE301.out) | exact HB.out)⟩

end Go.Proofs.YtpjbfpheenamiaaDoor.PF
-- PRINTED by print.py (a twelfth state) out of the translation. Not trusted: Lean checks it.
namespace Go.Proofs.YtpjbfpheenamiaaDoor.PF
open Go.RowKit Go.Proofs.YtpjbfpheenamiaaDoorW.PrintWords Go.Proofs.YtpjbfpheenamiaaDoorW.PrintLast Go.Proofs.YtpjbfpheenamiaaDoorW.PrintMore
attribute [local go_sem] max2_int min2_int max_two min_two max_three min_three max_four min_four   -- for this text's walks alone
set_option linter.unusedVariables false
set_option linter.unusedSimpArgs false

/-! ### whirligigref06_late: function 44 -/
def whirligigref06_late.j0 : Nat → Int → ByteArray → ByteArray → Option (ByteArray)
 | 0, _, _, _ => none
 | k + 1, x0, x5, x6 => if x0 = 32 then (some (⟨#[68, 65, 65]⟩ : ByteArray)) else (if x0 = 33 then (some (⟨#[67, 80, 76]⟩ : ByteArray)) else (if x0 = 34 then (some (⟨#[83, 67, 70]⟩ : ByteArray)) else (if x0 = 35 then (some (⟨#[67, 67, 70]⟩ : ByteArray)) else (if x0 = 36 then (if 3 + x5.size ≤ 9223372036854775807 then (if ((⟨#[74, 82, 32]⟩ : ByteArray) ++ x5).size + 1 ≤ 9223372036854775807 then (some (((⟨#[74, 82, 32]⟩ : ByteArray) ++ x5) ++ (⟨#[98]⟩ : ByteArray))) else (none)) else (none)) else (if x0 = 37 then (if 3 + x5.size ≤ 9223372036854775807 then (if ((⟨#[74, 80, 32]⟩ : ByteArray) ++ x5).size + 1 ≤ 9223372036854775807 then (some (((⟨#[74, 80, 32]⟩ : ByteArray) ++ x5) ++ (⟨#[119]⟩ : ByteArray))) else (none)) else (none)) else (if x0 = 38 then (some (⟨#[74, 80, 32, 72, 76]⟩ : ByteArray)) else (if x0 = 39 then (if 5 + x5.size ≤ 9223372036854775807 then (if ((⟨#[67, 65, 76, 76, 32]⟩ : ByteArray) ++ x5).size + 1 ≤ 9223372036854775807 then (some (((⟨#[67, 65, 76, 76, 32]⟩ : ByteArray) ++ x5) ++ (⟨#[119]⟩ : ByteArray))) else (none)) else (none)) else (if x0 = 40 then (if 3 + x6.size ≤ 9223372036854775807 then (some ((⟨#[82, 69, 84]⟩ : ByteArray) ++ x6)) else (none)) else (if x0 = 41 then (some (⟨#[82, 69, 84, 73]⟩ : ByteArray)) else (if x0 = 42 then (some (⟨#[82, 83, 84, 32, 101]⟩ : ByteArray)) else (if x0 = 43 then (some (⟨#[104, 32, 115]⟩ : ByteArray)) else (if x0 = 44 then (some (⟨#[66, 73, 84, 32, 120, 44, 115]⟩ : ByteArray)) else (if x0 = 45 then (some (⟨#[82, 69, 83, 32, 120, 44, 115]⟩ : ByteArray)) else (some (⟨#[83, 69, 84, 32, 120, 44, 115]⟩ : ByteArray)))))))))))))))
def whirligigref06_late.f (k : Nat) (a0 : Int) (a1 : Bool) : Option (ByteArray) := if a1 = true then (whirligigref06_late.j0 k a0 (⟨#[]⟩ : ByteArray) (⟨#[]⟩ : ByteArray)) else (whirligigref06_late.j0 k a0 (⟨#[110, 44]⟩ : ByteArray) (⟨#[32, 110]⟩ : ByteArray))
theorem whirligigref06_late.mono_l : ∀ k, (∀ y0 y1 y2, LeO (whirligigref06_late.j0 k y0 y1 y2) (whirligigref06_late.j0 (k + 1) y0 y1 y2))
 | 0 => fun _ _ _ r h => by simp [whirligigref06_late.j0] at h
 | k + 1 => by
  have ih0 := whirligigref06_late.mono_l k
  ·intro y0 y1 y2
   unfold whirligigref06_late.j0
   repeat' first
   | (with_reducible exact ih0 _ _ _)
   | (with_reducible exact LeO.refl _)
   | (with_reducible exact LeO.none _)
   | (with_reducible refine LeO.ite ?_ ?_)
   | (with_reducible refine LeO.bind ?_ (fun _ => ?_))
   | exact ih0 _ _ _
   | exact LeO.none _
   | refine LeO.ite ?_ ?_
   | refine LeO.bind ?_ (fun _ => ?_)
theorem whirligigref06_late.mono : ∀ a0 a1 k, LeO (whirligigref06_late.f k a0 a1) (whirligigref06_late.f (k + 1) a0 a1) := by
 intro a0 a1 k
 have ih0 := whirligigref06_late.mono_l k
 unfold whirligigref06_late.f
 repeat' first
   | (with_reducible exact ih0 _ _ _)
   | (with_reducible exact LeO.refl _)
   | (with_reducible exact LeO.none _)
   | (with_reducible refine LeO.ite ?_ ?_)
   | (with_reducible refine LeO.bind ?_ (fun _ => ?_))
   | exact ih0 _ _ _
   | exact LeO.none _
   | refine LeO.ite ?_ ?_
   | refine LeO.bind ?_ (fun _ => ?_)
set_option maxHeartbeats 8000000 in
set_option maxRecDepth 100000 in
theorem whirligigref06_late.calls (k : Nat) (a0 : Int) (a1 : Bool) (r : ByteArray) (w : World) (h : whirligigref06_late.f k a0 a1 = some r) :
  Calls Tryd.prog 44 #[.int .i64 a0, .bool a1] w fun e w' => e = .returned (.string r) ∧ Drawn0 w w' := by
 have H : (if a1 = true then (whirligigref06_late.j0 k a0 (⟨#[]⟩ : ByteArray) (⟨#[]⟩ : ByteArray)) else (whirligigref06_late.j0 k a0 (⟨#[110, 44]⟩ : ByteArray) (⟨#[32, 110]⟩ : ByteArray))) = some r := h
 clear h
 have HC3 := Aside0.mk H
 clear H
 go_enter Tryd.func44, Tryd.ntmps44
 go_upto_if 7 with (fail)
 go_cut [5, 6] (fun v5 v6 wc => ∃ (kq : Nat) (x5_2 : ByteArray) (x6_2 : ByteArray), v5 = .string x5_2 ∧ v6 = .string x6_2 ∧ Aside0 (whirligigref06_late.j0 kq a0 x5_2 x6_2 = some r) ∧ Aside0 (kq ≤ k) ∧ Drawn0 w wc)
 case first =>
  have H := HC3.out
  clear HC3
  by_cases c4 : a1 = true
  ·subst c4
   rw [if_pos rfl] at H
   have H' := Aside0.mk H
   clear H
   go_wp2
   go_meet
   case rel => exact ⟨_, ((⟨#[]⟩ : ByteArray)), ((⟨#[]⟩ : ByteArray)), (by first | rfl | (simp; done) | (simp [*]; done)), (by first | rfl | (simp; done) | (simp [*]; done)), H', ⟨by first | omega | exact Nat.le_refl _⟩, by repeat (first | exact Drawn0.refl _ | apply Drawn0.step)⟩
  ·replace c4 := Bool.eq_false_iff.mpr c4
   subst c4
   have H1 : (whirligigref06_late.j0 k a0 (⟨#[110, 44]⟩ : ByteArray) (⟨#[32, 110]⟩ : ByteArray)) = some r := by rw [if_neg (show ¬ (false = true) by decide)] at H; exact H
   clear H
   have H := H1
   clear H1
   have H' := Aside0.mk H
   clear H
   go_wp2
   go_meet
   case rel => exact ⟨_, ((⟨#[110, 44]⟩ : ByteArray)), ((⟨#[32, 110]⟩ : ByteArray)), (by first | rfl | (simp; done) | (simp [*]; done)), (by first | rfl | (simp; done) | (simp [*]; done)), H', ⟨by first | omega | exact Nat.le_refl _⟩, by repeat (first | exact Drawn0.refl _ | apply Drawn0.step)⟩
 case rest =>
  clear HC3
  obtain ⟨kq, x5_2, x6_2, rfl, rfl, HA, HJ2, ⟨mc2, rfl⟩⟩ := hcut
  cases kq with
  | zero => exact absurd HA.out (by simp [whirligigref06_late.j0])
  | succ kj2 =>
   have H := HA.out
   clear HA
   simp only [whirligigref06_late.j0] at H
   by_cases c5 : a0 = 32
   ·rw [if_pos c5] at H
    have c5b0 : (a0 == 32) = true := beq_iff_eq.mpr c5
    have c5b1 : (a0 != 32) = false := bne_eq_false_iff_eq.mpr c5
    clear c5
    obtain rfl := Option.some.inj H
    go_wp2
    go_ret
    exact ⟨by first | rfl | (simp; done) | (simp [*]; done), by repeat (first | exact Drawn0.refl _ | apply Drawn0.step)⟩
   ·rw [if_neg c5] at H
    have c5b0 : (a0 == 32) = false := beq_eq_false_iff_ne.mpr c5
    have c5b1 : (a0 != 32) = true := bne_iff_ne.mpr c5
    by_cases c6 : a0 = 33
    ·rw [if_pos c6] at H
     have c6b0 : (a0 == 33) = true := beq_iff_eq.mpr c6
     have c6b1 : (a0 != 33) = false := bne_eq_false_iff_eq.mpr c6
     clear c6
     obtain rfl := Option.some.inj H
     go_wp2
     go_ret
     exact ⟨by first | rfl | (simp; done) | (simp [*]; done), by repeat (first | exact Drawn0.refl _ | apply Drawn0.step)⟩
    ·rw [if_neg c6] at H
     have c6b0 : (a0 == 33) = false := beq_eq_false_iff_ne.mpr c6
     have c6b1 : (a0 != 33) = true := bne_iff_ne.mpr c6
     by_cases c7 : a0 = 34
     ·rw [if_pos c7] at H
      have c7b0 : (a0 == 34) = true := beq_iff_eq.mpr c7
      have c7b1 : (a0 != 34) = false := bne_eq_false_iff_eq.mpr c7
      clear c7
      obtain rfl := Option.some.inj H
      go_wp2
      go_ret
      exact ⟨by first | rfl | (simp; done) | (simp [*]; done), by repeat (first | exact Drawn0.refl _ | apply Drawn0.step)⟩
     ·rw [if_neg c7] at H
      have c7b0 : (a0 == 34) = false := beq_eq_false_iff_ne.mpr c7
      have c7b1 : (a0 != 34) = true := bne_iff_ne.mpr c7
      by_cases c8 : a0 = 35
      ·rw [if_pos c8] at H
       have c8b0 : (a0 == 35) = true := beq_iff_eq.mpr c8
       have c8b1 : (a0 != 35) = false := bne_eq_false_iff_eq.mpr c8
       clear c8
       obtain rfl := Option.some.inj H
       go_wp2
       go_ret
       exact ⟨by first | rfl | (simp; done) | (simp [*]; done), by repeat (first | exact Drawn0.refl _ | apply Drawn0.step)⟩
      ·rw [if_neg c8] at H
       have c8b0 : (a0 == 35) = false := beq_eq_false_iff_ne.mpr c8
       have c8b1 : (a0 != 35) = true := bne_iff_ne.mpr c8
       by_cases c9 : a0 = 36
       ·rw [if_pos c9] at H
        have c9b0 : (a0 == 36) = true := beq_iff_eq.mpr c9
        have c9b1 : (a0 != 36) = false := bne_eq_false_iff_eq.mpr c9
        clear c9
        by_cases c10 : 3 + x5_2.size ≤ 9223372036854775807
        ·rw [if_pos c10] at H
         have c10b0 := eq_true c10
         have c10b1 : decide (3 + x5_2.size ≤ 9223372036854775807) = true := decide_eq_true c10
         try have c10b2 : (9223372036854775807 < 3 + x5_2.size) = False := eq_false (Nat.not_lt.2 c10)
         by_cases c11 : ((⟨#[74, 82, 32]⟩ : ByteArray) ++ x5_2).size + 1 ≤ 9223372036854775807
         ·rw [if_pos c11] at H
          have c11b0 := eq_true c11
          have c11b1 : decide (((⟨#[74, 82, 32]⟩ : ByteArray) ++ x5_2).size + 1 ≤ 9223372036854775807) = true := decide_eq_true c11
          try have c11b2 : (9223372036854775807 < ((⟨#[74, 82, 32]⟩ : ByteArray) ++ x5_2).size + 1) = False := eq_false (Nat.not_lt.2 c11)
          have c11e : ((⟨#[74, 82, 32]⟩ : ByteArray) ++ x5_2).size = 3 + x5_2.size := by simp [ByteArray.size_append]; rfl
          obtain rfl := Option.some.inj H
          go_wp2
          go_ret
          exact ⟨by first | rfl | (simp; done) | (simp [*]; done), by repeat (first | exact Drawn0.refl _ | apply Drawn0.step)⟩
         ·rw [if_neg c11] at H
          exact absurd H (by simp)
        ·rw [if_neg c10] at H
         exact absurd H (by simp)
       ·rw [if_neg c9] at H
        have c9b0 : (a0 == 36) = false := beq_eq_false_iff_ne.mpr c9
        have c9b1 : (a0 != 36) = true := bne_iff_ne.mpr c9
        by_cases c12 : a0 = 37
        ·rw [if_pos c12] at H
         have c12b0 : (a0 == 37) = true := beq_iff_eq.mpr c12
         have c12b1 : (a0 != 37) = false := bne_eq_false_iff_eq.mpr c12
         clear c12
         by_cases c13 : 3 + x5_2.size ≤ 9223372036854775807
         ·rw [if_pos c13] at H
          have c13b0 := eq_true c13
          have c13b1 : decide (3 + x5_2.size ≤ 9223372036854775807) = true := decide_eq_true c13
          try have c13b2 : (9223372036854775807 < 3 + x5_2.size) = False := eq_false (Nat.not_lt.2 c13)
          by_cases c14 : ((⟨#[74, 80, 32]⟩ : ByteArray) ++ x5_2).size + 1 ≤ 9223372036854775807
          ·rw [if_pos c14] at H
           have c14b0 := eq_true c14
           have c14b1 : decide (((⟨#[74, 80, 32]⟩ : ByteArray) ++ x5_2).size + 1 ≤ 9223372036854775807) = true := decide_eq_true c14
           try have c14b2 : (9223372036854775807 < ((⟨#[74, 80, 32]⟩ : ByteArray) ++ x5_2).size + 1) = False := eq_false (Nat.not_lt.2 c14)
           have c14e : ((⟨#[74, 80, 32]⟩ : ByteArray) ++ x5_2).size = 3 + x5_2.size := by simp [ByteArray.size_append]; rfl
           obtain rfl := Option.some.inj H
           go_wp2
           go_ret
           exact ⟨by first | rfl | (simp; done) | (simp [*]; done), by repeat (first | exact Drawn0.refl _ | apply Drawn0.step)⟩
          ·rw [if_neg c14] at H
           exact absurd H (by simp)
         ·rw [if_neg c13] at H
          exact absurd H (by simp)
        ·rw [if_neg c12] at H
         have c12b0 : (a0 == 37) = false := beq_eq_false_iff_ne.mpr c12
         have c12b1 : (a0 != 37) = true := bne_iff_ne.mpr c12
         by_cases c15 : a0 = 38
         ·rw [if_pos c15] at H
          have c15b0 : (a0 == 38) = true := beq_iff_eq.mpr c15
          have c15b1 : (a0 != 38) = false := bne_eq_false_iff_eq.mpr c15
          clear c15
          obtain rfl := Option.some.inj H
          go_wp2
          go_ret
          exact ⟨by first | rfl | (simp; done) | (simp [*]; done), by repeat (first | exact Drawn0.refl _ | apply Drawn0.step)⟩
         ·rw [if_neg c15] at H
          have c15b0 : (a0 == 38) = false := beq_eq_false_iff_ne.mpr c15
          have c15b1 : (a0 != 38) = true := bne_iff_ne.mpr c15
          by_cases c16 : a0 = 39
          ·rw [if_pos c16] at H
           have c16b0 : (a0 == 39) = true := beq_iff_eq.mpr c16
           have c16b1 : (a0 != 39) = false := bne_eq_false_iff_eq.mpr c16
           clear c16
           by_cases c17 : 5 + x5_2.size ≤ 9223372036854775807
           ·rw [if_pos c17] at H
            have c17b0 := eq_true c17
            have c17b1 : decide (5 + x5_2.size ≤ 9223372036854775807) = true := decide_eq_true c17
            try have c17b2 : (9223372036854775807 < 5 + x5_2.size) = False := eq_false (Nat.not_lt.2 c17)
            by_cases c18 : ((⟨#[67, 65, 76, 76, 32]⟩ : ByteArray) ++ x5_2).size + 1 ≤ 9223372036854775807
            ·rw [if_pos c18] at H
             have c18b0 := eq_true c18
             have c18b1 : decide (((⟨#[67, 65, 76, 76, 32]⟩ : ByteArray) ++ x5_2).size + 1 ≤ 9223372036854775807) = true := decide_eq_true c18
             try have c18b2 : (9223372036854775807 < ((⟨#[67, 65, 76, 76, 32]⟩ : ByteArray) ++ x5_2).size + 1) = False := eq_false (Nat.not_lt.2 c18)
             have c18e : ((⟨#[67, 65, 76, 76, 32]⟩ : ByteArray) ++ x5_2).size = 5 + x5_2.size := by simp [ByteArray.size_append]; rfl
             obtain rfl := Option.some.inj H
             go_wp2
             go_ret
             exact ⟨by first | rfl | (simp; done) | (simp [*]; done), by repeat (first | exact Drawn0.refl _ | apply Drawn0.step)⟩
            ·rw [if_neg c18] at H
             exact absurd H (by simp)
           ·rw [if_neg c17] at H
            exact absurd H (by simp)
          ·rw [if_neg c16] at H
           have c16b0 : (a0 == 39) = false := beq_eq_false_iff_ne.mpr c16
           have c16b1 : (a0 != 39) = true := bne_iff_ne.mpr c16
           by_cases c19 : a0 = 40
           ·rw [if_pos c19] at H
            have c19b0 : (a0 == 40) = true := beq_iff_eq.mpr c19
            have c19b1 : (a0 != 40) = false := bne_eq_false_iff_eq.mpr c19
            clear c19
            by_cases c20 : 3 + x6_2.size ≤ 9223372036854775807
            ·rw [if_pos c20] at H
             have c20b0 := eq_true c20
             have c20b1 : decide (3 + x6_2.size ≤ 9223372036854775807) = true := decide_eq_true c20
             try have c20b2 : (9223372036854775807 < 3 + x6_2.size) = False := eq_false (Nat.not_lt.2 c20)
             obtain rfl := Option.some.inj H
             go_wp2
             go_ret
             exact ⟨by first | rfl | (simp; done) | (simp [*]; done), by repeat (first | exact Drawn0.refl _ | apply Drawn0.step)⟩
            ·rw [if_neg c20] at H
             exact absurd H (by simp)
           ·rw [if_neg c19] at H
            have c19b0 : (a0 == 40) = false := beq_eq_false_iff_ne.mpr c19
            have c19b1 : (a0 != 40) = true := bne_iff_ne.mpr c19
            by_cases c21 : a0 = 41
            ·rw [if_pos c21] at H
             have c21b0 : (a0 == 41) = true := beq_iff_eq.mpr c21
             have c21b1 : (a0 != 41) = false := bne_eq_false_iff_eq.mpr c21
             clear c21
             obtain rfl := Option.some.inj H
             go_wp2
             go_ret
             exact ⟨by first | rfl | (simp; done) | (simp [*]; done), by repeat (first | exact Drawn0.refl _ | apply Drawn0.step)⟩
            ·rw [if_neg c21] at H
             have c21b0 : (a0 == 41) = false := beq_eq_false_iff_ne.mpr c21
             have c21b1 : (a0 != 41) = true := bne_iff_ne.mpr c21
             by_cases c22 : a0 = 42
             ·rw [if_pos c22] at H
              have c22b0 : (a0 == 42) = true := beq_iff_eq.mpr c22
              have c22b1 : (a0 != 42) = false := bne_eq_false_iff_eq.mpr c22
              clear c22
              obtain rfl := Option.some.inj H
              go_wp2
              go_ret
              exact ⟨by first | rfl | (simp; done) | (simp [*]; done), by repeat (first | exact Drawn0.refl _ | apply Drawn0.step)⟩
             ·rw [if_neg c22] at H
              have c22b0 : (a0 == 42) = false := beq_eq_false_iff_ne.mpr c22
              have c22b1 : (a0 != 42) = true := bne_iff_ne.mpr c22
              by_cases c23 : a0 = 43
              ·rw [if_pos c23] at H
               have c23b0 : (a0 == 43) = true := beq_iff_eq.mpr c23
               have c23b1 : (a0 != 43) = false := bne_eq_false_iff_eq.mpr c23
               clear c23
               obtain rfl := Option.some.inj H
               go_wp2
               go_ret
               exact ⟨by first | rfl | (simp; done) | (simp [*]; done), by repeat (first | exact Drawn0.refl _ | apply Drawn0.step)⟩
              ·rw [if_neg c23] at H
               have c23b0 : (a0 == 43) = false := beq_eq_false_iff_ne.mpr c23
               have c23b1 : (a0 != 43) = true := bne_iff_ne.mpr c23
               by_cases c24 : a0 = 44
               ·rw [if_pos c24] at H
                have c24b0 : (a0 == 44) = true := beq_iff_eq.mpr c24
                have c24b1 : (a0 != 44) = false := bne_eq_false_iff_eq.mpr c24
                clear c24
                obtain rfl := Option.some.inj H
                go_wp2
                go_ret
                exact ⟨by first | rfl | (simp; done) | (simp [*]; done), by repeat (first | exact Drawn0.refl _ | apply Drawn0.step)⟩
               ·rw [if_neg c24] at H
                have c24b0 : (a0 == 44) = false := beq_eq_false_iff_ne.mpr c24
                have c24b1 : (a0 != 44) = true := bne_iff_ne.mpr c24
                by_cases c25 : a0 = 45
                ·rw [if_pos c25] at H
                 have c25b0 : (a0 == 45) = true := beq_iff_eq.mpr c25
                 have c25b1 : (a0 != 45) = false := bne_eq_false_iff_eq.mpr c25
                 clear c25
                 obtain rfl := Option.some.inj H
                 go_wp2
                 go_ret
                 exact ⟨by first | rfl | (simp; done) | (simp [*]; done), by repeat (first | exact Drawn0.refl _ | apply Drawn0.step)⟩
                ·rw [if_neg c25] at H
                 have c25b0 : (a0 == 45) = false := beq_eq_false_iff_ne.mpr c25
                 have c25b1 : (a0 != 45) = true := bne_iff_ne.mpr c25
                 obtain rfl := Option.some.inj H
                 go_wp2
                 go_ret
                 exact ⟨by first | rfl | (simp; done) | (simp [*]; done), by repeat (first | exact Drawn0.refl _ | apply Drawn0.step)⟩

end Go.Proofs.YtpjbfpheenamiaaDoor.PF
