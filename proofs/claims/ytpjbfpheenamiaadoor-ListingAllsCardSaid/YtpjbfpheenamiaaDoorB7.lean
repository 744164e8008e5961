/- Texts of this claim, put together: PF22. -/
import Derived.Test.YtpjbfpheenamiaaDoorB1
import Derived.Test.YtpjbfpheenamiaaDoorB3
import Derived.Test.YtpjbfpheenamiaaDoorB5
import Derived.Test.YtpjbfpheenamiaaDoorB6
-- PRINTED by print.py (a twelfth state) out of the translation. Not trusted: Lean checks it.
namespace Go.Proofs.YtpjbfpheenamiaaDoor.PF
open Go.RowKit Go.Proofs.YtpjbfpheenamiaaDoorW.PrintWords Go.Proofs.YtpjbfpheenamiaaDoorW.PrintLast Go.Proofs.YtpjbfpheenamiaaDoorW.PrintMore
attribute [local go_sem] max2_int min2_int max_two min_two max_three min_three max_four min_four   -- for this text's walks alone
set_option linter.unusedVariables false
set_option linter.unusedSimpArgs false

/-! ### listing_text: function 22 -/
def listing_text.j0 : Nat → Int → ByteArray → ByteArray → Int → Bool → Int → Int → Int → Int → Int → Int → Option (ByteArray)
 | 0, _, _, _, _, _, _, _, _, _, _, _ => none
 | k + 1, x1, x2, x3, x10, x16, x120000, x120001, x120002, x120003, x120004, x120005 => if x16 = true then ((word_Hex8.f x1).bind fun t124 => ((listing_join.f (([(⟨#[68, 66, 32, 36]⟩ : ByteArray), t124] : List ByteArray))).bind fun t128 => (some t128))) else (if x10 = 36 then ((listing_if4.f k (⟨#[74, 82]⟩ : ByteArray) x120001 x2).bind fun t129 => (some t129)) else (if x10 = 37 then ((listing_if4.f k (⟨#[74, 80]⟩ : ByteArray) x120001 x3).bind fun t130 => (some t130)) else (if x10 = 39 then ((listing_if4.f k (⟨#[67, 65, 76, 76]⟩ : ByteArray) x120001 x3).bind fun t131 => (some t131)) else (if x10 = 40 then ((listing_if4.f k (⟨#[82, 69, 84]⟩ : ByteArray) x120001 (⟨#[]⟩ : ByteArray)).bind fun t132 => (some t132)) else (if x10 = 42 then ((word_Hex8.f ((wrap64 (8 * x120001)) % 256)).bind fun t133 => ((listing_join.f (([(⟨#[82, 83, 84, 32, 36]⟩ : ByteArray), t133] : List ByteArray))).bind fun t137 => (some t137))) else ((listing_plain.f x120000).bind fun t138 => ((listing_moves.f x120000 x120001 x120002 x120003 x120004 x120005 x2 x3).bind fun t139 => (if t138.size + t139.size ≤ 9223372036854775807 then ((listing_reckons.f k x120000 x120001 x120002 x120003 x120004 x120005 x2).bind fun t140 => (if (t138 ++ t139).size + t140.size ≤ 9223372036854775807 then (some ((t138 ++ t139) ++ t140)) else (none))) else (none)))))))))
def listing_text.f (k : Nat) (a0_0 : Int) (a0_1 : Int) (a0_2 : Int) (a0_3 : Int) (a0_4 : Int) (a0_5 : Int) (a1 : Int) (a2 : ByteArray) (a3 : ByteArray) : Option (ByteArray) := if a0_0 = 1 then ((listing_join.f (([(⟨#[83, 84, 79, 80, 32]⟩ : ByteArray), a2] : List ByteArray))).bind fun t123 => (some t123)) else (if a0_0 = 5 then (listing_text.j0 k a1 a2 a3 a0_0 (a0_0 == 5) a0_0 a0_1 a0_2 a0_3 a0_4 a0_5) else (listing_text.j0 k a1 a2 a3 a0_0 (a0_0 == 6) a0_0 a0_1 a0_2 a0_3 a0_4 a0_5))
theorem listing_text.mono_l : ∀ k, (∀ y0 y1 y2 y3 y4 y5 y6 y7 y8 y9 y10, LeO (listing_text.j0 k y0 y1 y2 y3 y4 y5 y6 y7 y8 y9 y10) (listing_text.j0 (k + 1) y0 y1 y2 y3 y4 y5 y6 y7 y8 y9 y10))
 | 0 => fun _ _ _ _ _ _ _ _ _ _ _ r h => by simp [listing_text.j0] at h
 | k + 1 => by
  have ih0 := listing_text.mono_l k
  ·intro y0 y1 y2 y3 y4 y5 y6 y7 y8 y9 y10
   unfold listing_text.j0
   repeat' first
   | (with_reducible exact ih0 _ _ _ _ _ _ _ _ _ _ _)
   | (with_reducible exact listing_if4.mono _ _ _ _)
   | (with_reducible exact listing_reckons.mono _ _ _ _ _ _ _ _)
   | (with_reducible exact LeO.refl _)
   | (with_reducible exact LeO.none _)
   | (with_reducible refine LeO.ite ?_ ?_)
   | (with_reducible refine LeO.bind ?_ (fun _ => ?_))
   | exact ih0 _ _ _ _ _ _ _ _ _ _ _
   | exact listing_if4.mono _ _ _ _
   | exact listing_reckons.mono _ _ _ _ _ _ _ _
   | exact LeO.none _
   | refine LeO.ite ?_ ?_
   | refine LeO.bind ?_ (fun _ => ?_)
theorem listing_text.mono : ∀ a0 a1 a2 a3 a4 a5 a6 a7 a8 k, LeO (listing_text.f k a0 a1 a2 a3 a4 a5 a6 a7 a8) (listing_text.f (k + 1) a0 a1 a2 a3 a4 a5 a6 a7 a8) := by
 intro a0 a1 a2 a3 a4 a5 a6 a7 a8 k
 have ih0 := listing_text.mono_l k
 unfold listing_text.f
 repeat' first
   | (with_reducible exact ih0 _ _ _ _ _ _ _ _ _ _ _)
   | (with_reducible exact listing_if4.mono _ _ _ _)
   | (with_reducible exact listing_reckons.mono _ _ _ _ _ _ _ _)
   | (with_reducible exact LeO.refl _)
   | (with_reducible exact LeO.none _)
   | (with_reducible refine LeO.ite ?_ ?_)
   | (with_reducible refine LeO.bind ?_ (fun _ => ?_))
   | exact ih0 _ _ _ _ _ _ _ _ _ _ _
   | exact listing_if4.mono _ _ _ _
   | exact listing_reckons.mono _ _ _ _ _ _ _ _
   | exact LeO.none _
   | refine LeO.ite ?_ ?_
   | refine LeO.bind ?_ (fun _ => ?_)
def listing_text.T17 : Bool × List (List Nat × List Nat) := (true, [([], []), ([0], [0]), ([1], [1]), ([], []), ([], []), ([], []), ([3, 4, 5, 2], [3, 4, 5]), ([2, 6], [2, 6]), ([], []), ([], []), ([8, 9, 6], [8, 9]), ([7, 10], [7, 10]), ([11, 10, 0, 1, 2, 3, 4, 5, 6, 7, 8, 9, 10, 11], [11])])
def listing_text.B17 : List Nat := [0, 1, 3, 0, 0, 0, 63, 127, 0, 0, 895, 2047, 4095]
theorem listing_text.tab17 : rtab .any (opsOf Tryd.f22 17) = listing_text.T17 := by kernel_rfl
theorem listing_text.bits17 : waitsOk listing_text.T17.2 listing_text.B17 = true := by kernel_rfl
set_option maxHeartbeats 8000000 in
set_option maxRecDepth 100000 in
theorem listing_text.calls (k : Nat) (a0_0 : Int) (a0_1 : Int) (a0_2 : Int) (a0_3 : Int) (a0_4 : Int) (a0_5 : Int) (a1 : Int) (a2 : ByteArray) (a3 : ByteArray) (r : ByteArray) (w : World) (h : listing_text.f k a0_0 a0_1 a0_2 a0_3 a0_4 a0_5 a1 a2 a3 = some r) :
  Calls Tryd.prog 22 #[.agg #[.int .i64 a0_0, .int .i64 a0_1, .int .i64 a0_2, .int .i64 a0_3, .int .i64 a0_4, .int .i64 a0_5], .int .u8 a1, .string a2, .string a3] w fun e w' => e = .returned (.string r) ∧ Below w.heap.size w w' := by
 have hu46 := Tryd.underlying46
 have HB := Aside0.mk (Below.refl w.heap.size w)
 have H : (if a0_0 = 1 then ((listing_join.f (([(⟨#[83, 84, 79, 80, 32]⟩ : ByteArray), a2] : List ByteArray))).bind fun t123 => (some t123)) else (if a0_0 = 5 then (listing_text.j0 k a1 a2 a3 a0_0 (a0_0 == 5) a0_0 a0_1 a0_2 a0_3 a0_4 a0_5) else (listing_text.j0 k a1 a2 a3 a0_0 (a0_0 == 6) a0_0 a0_1 a0_2 a0_3 a0_4 a0_5))) = some r := h
 clear h
 by_cases c5 : a0_0 = 1
 ·rw [if_pos c5] at H
  have c5b0 : (a0_0 == 1) = true := beq_iff_eq.mpr c5
  have c5b1 : (a0_0 != 1) = false := bne_eq_false_iff_eq.mpr c5
  clear c5
  obtain ⟨y120, hy120⟩ : ∃ y_ : List ByteArray, y_ = (([(⟨#[83, 84, 79, 80, 32]⟩ : ByteArray), a2] : List ByteArray)) := ⟨_, rfl⟩
  replace H : ((listing_join.f y120).bind fun t123 => (some t123)) = some r := by first | (rw [hy120]; with_reducible exact H) | (have H2_ := (Option.bind_some _ _).symm.trans H; rw [hy120]; with_reducible exact H2_) | (have H2_ := (Option.bind_some _ _).symm.trans H; with_reducible exact H2_) | with_reducible exact H | (rw [hy120]; exact H) | exact H
  have Ny120 := Aside0.mk hy120
  clear hy120
  replace H := Option.bind_eq_some_iff.mp H
  obtain ⟨t123, A60, H⟩ := H
  replace H : (some t123) = some r := H
  have A6 := Aside0.mk A60
  clear A60
  obtain rfl := Option.some.inj H
  go_enter Tryd.func22, Tryd.ntmps22
  go_wp2_with (first | ((with_reducible refine gate_dst (N := 4) rfl ?_); refine box_event ?hg (N := 4) ?hd (cs := #[.int .i64 a0_0, .int .i64 a0_1, .int .i64 a0_2, .int .i64 a0_3, .int .i64 a0_4, .int .i64 a0_5]) (t := 46) ?hr ?_; (case hd => rfl); (case hg => rfl); (case hr => first | (go_simp; done) | (go_simp; rfl)); intro gb119 hg w7 hbox hb; have n0_ := Aside0.mk (below_step (by repeat (first | (with_reducible first | exact HB.out | apply below_alloc | apply pw_below_drewN | apply below_drew1) | exact HB.out)) hb); have n1_ := Aside0.mk (hbox); have n2_ := Aside0.mk ((by rw [hg]; exact (below_size (by repeat (first | (with_reducible first | exact HB.out | apply below_alloc | apply pw_below_drewN | apply below_drew1) | exact HB.out))) : w.heap.size ≤ gb119)); have n3_ := Aside0.mk ((by rw [hg]; exact (below_size (by repeat (first | (with_reducible first | exact HB.out | apply below_alloc | apply pw_below_drewN | apply below_drew1) | exact HB.out))) : w.heap.size ≤ gb119)); clear HB; have HB := n0_; have BK119 := n1_; have GW119 := n2_; have GE119 := n3_; clear n0_ n1_ n2_ n3_; clear hb hbox hg; obtain ⟨hcz8_0, hcz8_1, hcz8_2, hcz8_3, hcz8_4, hcz8_5, hfz8_0, hfz8_1, hfz8_2, hfz8_3, hfz8_4, hfz8_5⟩ := blk6 BK119.out) | ((with_reducible refine gate_dst (N := 14) rfl ?_); refine Kd.R_lit Kd.string _ 9 ?hg (N := 14) ?hd (xs := ([(⟨#[83, 84, 79, 80, 32]⟩ : ByteArray), a2] : List ByteArray)) (inner := [.string (⟨#[83, 84, 79, 80, 32]⟩ : ByteArray), .string a2]) (ok := fun _ => True) (okp := fun _ => True) ?hr ?hp (fun _ hk => hk) trivial (Below.refl _ _) (Nat.le_refl _) (by simp) ?_; (case hd => rfl); (case hg => rfl); (case hr => first | (go_simp; done) | (go_simp; rfl)); (case hp => exact (Reps.one (show Kd.M Kd.string _ _ _ (⟨#[83, 84, 79, 80, 32]⟩ : ByteArray) [.string (⟨#[83, 84, 79, 80, 32]⟩ : ByteArray)] from rfl) (Reps.one (show Kd.M Kd.string _ _ _ a2 [.string a2] from rfl) (Reps.none _ _)))); intro v121 w9 ho10 hb hg_ hnew_; clear hg_ hnew_; (first | rw [← Ny120.out] at ho10 | (simp only [Int.reduceToNat] at ho10; rw [← Ny120.out] at ho10)); have n0_ := Aside0.mk (Kd.R_lower ho10 (below_size (by repeat (first | (with_reducible first | exact HB.out | apply below_alloc | apply pw_below_drewN | apply below_drew1 | refine below_set ?_ GE119.out) | exact HB.out)))); have n1_ := Aside0.mk (blk_below (g := gb119) (o := .cells #[.int .i64 a0_0, .int .i64 a0_1, .int .i64 a0_2, .int .i64 a0_3, .int .i64 a0_4, .int .i64 a0_5] 46 (0, 0)) (by (with_reducible repeat (first | refine blk_drewN ?_ _ | refine blk_drew ?_ | refine blk_alloc ?_ _)); exact BK119.out) hb); have n2_ := Aside0.mk (below_step (by repeat (first | (with_reducible first | exact HB.out | apply below_alloc | apply pw_below_drewN | apply below_drew1 | refine below_set ?_ GE119.out) | exact HB.out)) hb); clear BK119; clear HB; have HO122 := n0_; have BK119 := n1_; have HB := n2_; clear n0_ n1_ n2_; clear hb ho10; obtain ⟨Ao11, co11, eo11⟩ := Kd.R_slice HO122.out; subst eo11) | ((with_reducible refine gate_callee (f := 37) rfl ?_); refine goesL_ (some 15) rfl rfl Tryd.func37 (by kernel_rfl) rfl #[.slice Ao11 y120.length co11] rfl (by (try simp only [List.map_toArray, List.map_cons, List.map_nil]); first | done | rfl | (simp only [List.length_drop, List.length_take]; rfl)) ?_; (with_reducible refine (listing_join.calls _ _ y120 t123 _ ?side1 ?side2 A6.out).mono ?_); (case side1 => repeat (first | exact (Kd.R_reads' HO122.out).2.2 | (with_reducible refine Kd.C_alloc ?_ _) | (with_reducible refine Kd.C_drewN ?_ _) | (with_reducible refine Kd.C_drew ?_))); (case side2 => exact (Kd.R_reads' HO122.out).2.1); rintro e w12 ⟨rfl, hb⟩; refine ⟨_, rfl, ?_⟩; have n0_ := Aside0.mk (Kd.R_below (by (with_reducible repeat (first | apply Kd.R_alloc | apply Kd.R_drewN | apply Kd.R_drew)); exact HO122.out) hb); have n1_ := Aside0.mk (blk_below (g := gb119) (o := .cells #[.int .i64 a0_0, .int .i64 a0_1, .int .i64 a0_2, .int .i64 a0_3, .int .i64 a0_4, .int .i64 a0_5] 46 (0, 0)) (by (with_reducible repeat (first | refine blk_drewN ?_ _ | refine blk_drew ?_ | refine blk_alloc ?_ _)); exact BK119.out) hb); have n2_ := Aside0.mk (below_step (by repeat (first | (with_reducible first | exact HB.out | apply below_alloc | apply pw_below_drewN | apply below_drew1 | refine below_set ?_ GE119.out) | exact HB.out)) hb); clear HO122; clear BK119; clear HB; have HO122 := n0_; have BK119 := n1_; have HB := n2_; clear n0_ n1_ n2_; (try clear hb)))
  go_ret
  exact ⟨by first | rfl | (simp [errW_none, errW_some] <;> rfl) | (simp [*, errW_none, errW_some] <;> rfl), by repeat (first | (with_reducible first | exact HB.out | apply below_alloc | apply pw_below_drewN | apply below_drew1 | refine below_set ?_ GE119.out) | exact HB.out)⟩
 ·rw [if_neg c5] at H
  have c5b0 : (a0_0 == 1) = false := beq_eq_false_iff_ne.mpr c5
  have c5b1 : (a0_0 != 1) = true := bne_iff_ne.mpr c5
  have HC13 := Aside0.mk H
  clear H
  go_enter Tryd.func22, Tryd.ntmps22
  go_upto_if 16 with (first | ((with_reducible refine gate_dst (N := 4) rfl ?_); refine box_event ?hg (N := 4) ?hd (cs := #[.int .i64 a0_0, .int .i64 a0_1, .int .i64 a0_2, .int .i64 a0_3, .int .i64 a0_4, .int .i64 a0_5]) (t := 46) ?hr ?_; (case hd => rfl); (case hg => rfl); (case hr => first | (go_simp; done) | (go_simp; rfl)); intro gb119 hg w14 hbox hb; have n0_ := Aside0.mk (below_step (by repeat (first | (with_reducible first | exact HB.out | apply below_alloc | apply pw_below_drewN | apply below_drew1) | exact HB.out)) hb); have n1_ := Aside0.mk (hbox); have n2_ := Aside0.mk ((by rw [hg]; exact (below_size (by repeat (first | (with_reducible first | exact HB.out | apply below_alloc | apply pw_below_drewN | apply below_drew1) | exact HB.out))) : w.heap.size ≤ gb119)); have n3_ := Aside0.mk ((by rw [hg]; exact (below_size (by repeat (first | (with_reducible first | exact HB.out | apply below_alloc | apply pw_below_drewN | apply below_drew1) | exact HB.out))) : w.heap.size ≤ gb119)); clear HB; have HB := n0_; have BK119 := n1_; have GW119 := n2_; have GE119 := n3_; clear n0_ n1_ n2_ n3_; clear hb hbox hg; obtain ⟨hcz15_0, hcz15_1, hcz15_2, hcz15_3, hcz15_4, hcz15_5, hfz15_0, hfz15_1, hfz15_2, hfz15_3, hfz15_4, hfz15_5⟩ := blk6 BK119.out))
  (try simp only [Act.put, List.setIfInBounds_toArray, List.set_cons_zero, List.set_cons_succ])
  go_cut [16] (fun v16 wc => ∃ (kq : Nat) (x16_12 : Bool), v16 = .bool x16_12 ∧ Aside0 (listing_text.j0 kq a1 a2 a3 a0_0 x16_12 a0_0 a0_1 a0_2 a0_3 a0_4 a0_5 = some r) ∧ Aside0 (kq ≤ k) ∧ Aside0 (wc.heap[gb119]? = some (.cells #[.int .i64 a0_0, .int .i64 a0_1, .int .i64 a0_2, .int .i64 a0_3, .int .i64 a0_4, .int .i64 a0_5] 46 (0, 0))) ∧ Aside0 (Below w.heap.size w wc))
  case first =>
   have H := HC13.out
   clear HC13
   by_cases c16 : a0_0 = 5
   ·rw [if_pos c16] at H
    have c16b0 : (a0_0 == 5) = true := beq_iff_eq.mpr c16
    have c16b1 : (a0_0 != 5) = false := bne_eq_false_iff_eq.mpr c16
    clear c16
    (first | rw [c16b0] | (simp only [i64_w, i32_w]; rw [c16b0]) | skip)
    have H' := Aside0.mk H
    clear H
    go_wp2
    go_meet
    case rel => exact ⟨_, ((a0_0 == 5)), (by first | rfl | (simp; done) | (simp [*]; done)), H', ⟨by first | omega | exact Nat.le_refl _⟩, ⟨by (with_reducible repeat (first | refine blk_drewN ?_ _ | refine blk_drew ?_ | refine blk_alloc ?_ _)); exact BK119.out⟩, ⟨by repeat (first | (with_reducible first | exact HB.out | apply below_alloc | apply pw_below_drewN | apply below_drew1 | refine below_set ?_ GE119.out) | exact HB.out)⟩⟩
   ·rw [if_neg c16] at H
    have c16b0 : (a0_0 == 5) = false := beq_eq_false_iff_ne.mpr c16
    have c16b1 : (a0_0 != 5) = true := bne_iff_ne.mpr c16
    (first | rw [c16b0] | (simp only [i64_w, i32_w]; rw [c16b0]) | skip)
    have H' := Aside0.mk H
    clear H
    go_wp2
    go_meet
    case rel => exact ⟨_, ((a0_0 == 6)), (by first | rfl | (simp; done) | (simp [*]; done)), H', ⟨by first | omega | exact Nat.le_refl _⟩, ⟨by (with_reducible repeat (first | refine blk_drewN ?_ _ | refine blk_drew ?_ | refine blk_alloc ?_ _)); exact BK119.out⟩, ⟨by repeat (first | (with_reducible first | exact HB.out | apply below_alloc | apply pw_below_drewN | apply below_drew1 | refine below_set ?_ GE119.out) | exact HB.out)⟩⟩
  case rest =>
   clear HC13
   try clear c5
   try clear c5b0
   try clear c5b1
   try clear hcz15_0
   try clear hcz15_1
   try clear hcz15_2
   try clear hcz15_3
   try clear hcz15_4
   try clear hcz15_5
   try clear hfz15_0
   try clear hfz15_1
   try clear hfz15_2
   try clear hfz15_3
   try clear hfz15_4
   try clear hfz15_5
   obtain ⟨kq, x16_12, rfl, HA, HJ12, BK119, HB⟩ := hcut
   cases kq with
   | zero => exact absurd HA.out (by simp [listing_text.j0])
   | succ kj12 =>
    have H := HA.out
    clear HA
    simp only [listing_text.j0] at H
    by_cases c17 : x16_12 = true
    ·subst c17
     rw [if_pos rfl] at H
     replace H := Option.bind_eq_some_iff.mp H
     obtain ⟨t124, A180, H⟩ := H
     replace H : ((listing_join.f (([(⟨#[68, 66, 32, 36]⟩ : ByteArray), t124] : List ByteArray))).bind fun t128 => (some t128)) = some r := H
     have A18 := Aside0.mk A180
     clear A180
     obtain ⟨y125, hy125⟩ : ∃ y_ : List ByteArray, y_ = (([(⟨#[68, 66, 32, 36]⟩ : ByteArray), t124] : List ByteArray)) := ⟨_, rfl⟩
     replace H : ((listing_join.f y125).bind fun t128 => (some t128)) = some r := by first | (rw [hy125]; with_reducible exact H) | (have H2_ := (Option.bind_some _ _).symm.trans H; rw [hy125]; with_reducible exact H2_) | (have H2_ := (Option.bind_some _ _).symm.trans H; with_reducible exact H2_) | with_reducible exact H | (rw [hy125]; exact H) | exact H
     have Ny125 := Aside0.mk hy125
     clear hy125
     replace H := Option.bind_eq_some_iff.mp H
     obtain ⟨t128, A190, H⟩ := H
     replace H : (some t128) = some r := H
     have A19 := Aside0.mk A190
     clear A190
     obtain rfl := Option.some.inj H
     go_wp2_with (first | ((with_reducible refine gate_callee (f := 24) rfl ?_); refine goesL_ (some 20) rfl rfl Tryd.func24 (by kernel_rfl) rfl #[.int .u8 a1] rfl (by (try simp only [List.map_toArray, List.map_cons, List.map_nil]); first | done | rfl | (simp only [List.length_drop, List.length_take]; rfl)) ?_; (with_reducible refine (word_Hex8.calls a1 t124 _ A18.out).mono ?_); rintro e w20 ⟨rfl, hb⟩; refine ⟨_, rfl, ?_⟩; have n0_ := Aside0.mk (blk_below (g := gb119) (o := .cells #[.int .i64 a0_0, .int .i64 a0_1, .int .i64 a0_2, .int .i64 a0_3, .int .i64 a0_4, .int .i64 a0_5] 46 (0, 0)) (by (with_reducible repeat (first | refine blk_drewN ?_ _ | refine blk_drew ?_ | refine blk_alloc ?_ _)); exact BK119.out) hb); have n1_ := Aside0.mk (below_step (by repeat (first | (with_reducible first | exact HB.out | apply below_alloc | apply pw_below_drewN | apply below_drew1 | refine below_set ?_ GE119.out) | exact HB.out)) hb); clear BK119; clear HB; have BK119 := n0_; have HB := n1_; clear n0_ n1_; (try clear hb)) | ((with_reducible refine gate_dst (N := 21) rfl ?_); refine Kd.R_lit Kd.string _ 9 ?hg (N := 21) ?hd (xs := ([(⟨#[68, 66, 32, 36]⟩ : ByteArray), t124] : List ByteArray)) (inner := [.string (⟨#[68, 66, 32, 36]⟩ : ByteArray), .string t124]) (ok := fun _ => True) (okp := fun _ => True) ?hr ?hp (fun _ hk => hk) trivial (Below.refl _ _) (Nat.le_refl _) (by simp) ?_; (case hd => rfl); (case hg => rfl); (case hr => first | (go_simp; done) | (go_simp; rfl)); (case hp => exact (Reps.one (show Kd.M Kd.string _ _ _ (⟨#[68, 66, 32, 36]⟩ : ByteArray) [.string (⟨#[68, 66, 32, 36]⟩ : ByteArray)] from rfl) (Reps.one (show Kd.M Kd.string _ _ _ t124 [.string t124] from rfl) (Reps.none _ _)))); intro v126 w21 ho22 hb hg_ hnew_; clear hg_ hnew_; (first | rw [← Ny125.out] at ho22 | (simp only [Int.reduceToNat] at ho22; rw [← Ny125.out] at ho22)); have n0_ := Aside0.mk (Kd.R_lower ho22 (below_size (by repeat (first | (with_reducible first | exact HB.out | apply below_alloc | apply pw_below_drewN | apply below_drew1 | refine below_set ?_ GE119.out) | exact HB.out)))); have n1_ := Aside0.mk (blk_below (g := gb119) (o := .cells #[.int .i64 a0_0, .int .i64 a0_1, .int .i64 a0_2, .int .i64 a0_3, .int .i64 a0_4, .int .i64 a0_5] 46 (0, 0)) (by (with_reducible repeat (first | refine blk_drewN ?_ _ | refine blk_drew ?_ | refine blk_alloc ?_ _)); exact BK119.out) hb); have n2_ := Aside0.mk (below_step (by repeat (first | (with_reducible first | exact HB.out | apply below_alloc | apply pw_below_drewN | apply below_drew1 | refine below_set ?_ GE119.out) | exact HB.out)) hb); clear BK119; clear HB; have HO127 := n0_; have BK119 := n1_; have HB := n2_; clear n0_ n1_ n2_; clear hb ho22; obtain ⟨Ao23, co23, eo23⟩ := Kd.R_slice HO127.out; subst eo23) | ((with_reducible refine gate_callee (f := 37) rfl ?_); refine goesL_ (some 22) rfl rfl Tryd.func37 (by kernel_rfl) rfl #[.slice Ao23 y125.length co23] rfl (by (try simp only [List.map_toArray, List.map_cons, List.map_nil]); first | done | rfl | (simp only [List.length_drop, List.length_take]; rfl)) ?_; (with_reducible refine (listing_join.calls _ _ y125 t128 _ ?side1 ?side2 A19.out).mono ?_); (case side1 => repeat (first | exact (Kd.R_reads' HO127.out).2.2 | (with_reducible refine Kd.C_alloc ?_ _) | (with_reducible refine Kd.C_drewN ?_ _) | (with_reducible refine Kd.C_drew ?_))); (case side2 => exact (Kd.R_reads' HO127.out).2.1); rintro e w24 ⟨rfl, hb⟩; refine ⟨_, rfl, ?_⟩; have n0_ := Aside0.mk (Kd.R_below (by (with_reducible repeat (first | apply Kd.R_alloc | apply Kd.R_drewN | apply Kd.R_drew)); exact HO127.out) hb); have n1_ := Aside0.mk (blk_below (g := gb119) (o := .cells #[.int .i64 a0_0, .int .i64 a0_1, .int .i64 a0_2, .int .i64 a0_3, .int .i64 a0_4, .int .i64 a0_5] 46 (0, 0)) (by (with_reducible repeat (first | refine blk_drewN ?_ _ | refine blk_drew ?_ | refine blk_alloc ?_ _)); exact BK119.out) hb); have n2_ := Aside0.mk (below_step (by repeat (first | (with_reducible first | exact HB.out | apply below_alloc | apply pw_below_drewN | apply below_drew1 | refine below_set ?_ GE119.out) | exact HB.out)) hb); clear HO127; clear BK119; clear HB; have HO127 := n0_; have BK119 := n1_; have HB := n2_; clear n0_ n1_ n2_; (try clear hb)))
     go_ret
     exact ⟨by first | rfl | (simp [errW_none, errW_some] <;> rfl) | (simp [*, errW_none, errW_some] <;> rfl), by repeat (first | (with_reducible first | exact HB.out | apply below_alloc | apply pw_below_drewN | apply below_drew1 | refine below_set ?_ GE119.out) | exact HB.out)⟩
    ·replace c17 := Bool.eq_false_iff.mpr c17
     subst c17
     have H1 : (if a0_0 = 36 then ((listing_if4.f kj12 (⟨#[74, 82]⟩ : ByteArray) a0_1 a2).bind fun t129 => (some t129)) else (if a0_0 = 37 then ((listing_if4.f kj12 (⟨#[74, 80]⟩ : ByteArray) a0_1 a3).bind fun t130 => (some t130)) else (if a0_0 = 39 then ((listing_if4.f kj12 (⟨#[67, 65, 76, 76]⟩ : ByteArray) a0_1 a3).bind fun t131 => (some t131)) else (if a0_0 = 40 then ((listing_if4.f kj12 (⟨#[82, 69, 84]⟩ : ByteArray) a0_1 (⟨#[]⟩ : ByteArray)).bind fun t132 => (some t132)) else (if a0_0 = 42 then ((word_Hex8.f ((wrap64 (8 * a0_1)) % 256)).bind fun t133 => ((listing_join.f (([(⟨#[82, 83, 84, 32, 36]⟩ : ByteArray), t133] : List ByteArray))).bind fun t137 => (some t137))) else ((listing_plain.f a0_0).bind fun t138 => ((listing_moves.f a0_0 a0_1 a0_2 a0_3 a0_4 a0_5 a2 a3).bind fun t139 => (if t138.size + t139.size ≤ 9223372036854775807 then ((listing_reckons.f kj12 a0_0 a0_1 a0_2 a0_3 a0_4 a0_5 a2).bind fun t140 => (if (t138 ++ t139).size + t140.size ≤ 9223372036854775807 then (some ((t138 ++ t139) ++ t140)) else (none))) else (none))))))))) = some r := by rw [if_neg (show ¬ (false = true) by decide)] at H; exact H
     clear H
     have H := H1
     clear H1
     by_cases c25 : a0_0 = 36
     ·rw [if_pos c25] at H
      have c25b0 : (a0_0 == 36) = true := beq_iff_eq.mpr c25
      have c25b1 : (a0_0 != 36) = false := bne_eq_false_iff_eq.mpr c25
      clear c25
      replace H := Option.bind_eq_some_iff.mp H
      obtain ⟨t129, A260, H⟩ := H
      replace H : (some t129) = some r := H
      have A26 := Aside0.mk A260
      clear A260
      obtain rfl := Option.some.inj H
      obtain ⟨hcz27_0, hcz27_1, hcz27_2, hcz27_3, hcz27_4, hcz27_5, hfz27_0, hfz27_1, hfz27_2, hfz27_3, hfz27_4, hfz27_5⟩ := blk6 BK119.out
      go_wp2_with (first | ((with_reducible refine gate_callee (f := 38) rfl ?_); refine goesL_ (some 28) rfl rfl Tryd.func38 (by kernel_rfl) rfl #[.string (⟨#[74, 82]⟩ : ByteArray), .int .i64 a0_1, .string a2] rfl (by (try simp only [List.map_toArray, List.map_cons, List.map_nil]); first | done | rfl | (simp only [List.length_drop, List.length_take]; rfl)) ?_; (with_reducible refine (listing_if4.calls kj12 (⟨#[74, 82]⟩ : ByteArray) a0_1 a2 t129 _ A26.out).mono ?_); rintro e w28 ⟨rfl, hb⟩; refine ⟨_, rfl, ?_⟩; have n0_ := Aside0.mk (blk_below (g := gb119) (o := .cells #[.int .i64 a0_0, .int .i64 a0_1, .int .i64 a0_2, .int .i64 a0_3, .int .i64 a0_4, .int .i64 a0_5] 46 (0, 0)) (by (with_reducible repeat (first | refine blk_drewN ?_ _ | refine blk_drew ?_ | refine blk_alloc ?_ _)); exact BK119.out) hb); have n1_ := Aside0.mk (below_step (by repeat (first | (with_reducible first | exact HB.out | apply below_alloc | apply pw_below_drewN | apply below_drew1 | refine below_set ?_ GE119.out) | exact HB.out)) hb); clear BK119; clear HB; have BK119 := n0_; have HB := n1_; clear n0_ n1_; (try clear hb)))
      go_ret
      exact ⟨by first | rfl | (simp [errW_none, errW_some] <;> rfl) | (simp [*, errW_none, errW_some] <;> rfl), by repeat (first | (with_reducible first | exact HB.out | apply below_alloc | apply pw_below_drewN | apply below_drew1 | refine below_set ?_ GE119.out) | exact HB.out)⟩
     ·rw [if_neg c25] at H
      have c25b0 : (a0_0 == 36) = false := beq_eq_false_iff_ne.mpr c25
      have c25b1 : (a0_0 != 36) = true := bne_iff_ne.mpr c25
      by_cases c29 : a0_0 = 37
      ·rw [if_pos c29] at H
       have c29b0 : (a0_0 == 37) = true := beq_iff_eq.mpr c29
       have c29b1 : (a0_0 != 37) = false := bne_eq_false_iff_eq.mpr c29
       clear c29
       replace H := Option.bind_eq_some_iff.mp H
       obtain ⟨t130, A300, H⟩ := H
       replace H : (some t130) = some r := H
       have A30 := Aside0.mk A300
       clear A300
       obtain rfl := Option.some.inj H
       obtain ⟨hcz31_0, hcz31_1, hcz31_2, hcz31_3, hcz31_4, hcz31_5, hfz31_0, hfz31_1, hfz31_2, hfz31_3, hfz31_4, hfz31_5⟩ := blk6 BK119.out
       go_wp2_with (first | ((with_reducible refine gate_callee (f := 38) rfl ?_); refine goesL_ (some 34) rfl rfl Tryd.func38 (by kernel_rfl) rfl #[.string (⟨#[74, 80]⟩ : ByteArray), .int .i64 a0_1, .string a3] rfl (by (try simp only [List.map_toArray, List.map_cons, List.map_nil]); first | done | rfl | (simp only [List.length_drop, List.length_take]; rfl)) ?_; (with_reducible refine (listing_if4.calls kj12 (⟨#[74, 80]⟩ : ByteArray) a0_1 a3 t130 _ A30.out).mono ?_); rintro e w32 ⟨rfl, hb⟩; refine ⟨_, rfl, ?_⟩; have n0_ := Aside0.mk (blk_below (g := gb119) (o := .cells #[.int .i64 a0_0, .int .i64 a0_1, .int .i64 a0_2, .int .i64 a0_3, .int .i64 a0_4, .int .i64 a0_5] 46 (0, 0)) (by (with_reducible repeat (first | refine blk_drewN ?_ _ | refine blk_drew ?_ | refine blk_alloc ?_ _)); exact BK119.out) hb); have n1_ := Aside0.mk (below_step (by repeat (first | (with_reducible first | exact HB.out | apply below_alloc | apply pw_below_drewN | apply below_drew1 | refine below_set ?_ GE119.out) | exact HB.out)) hb); clear BK119; clear HB; have BK119 := n0_; have HB := n1_; clear n0_ n1_; (try clear hb)))
       go_ret
       exact ⟨by first | rfl | (simp [errW_none, errW_some] <;> rfl) | (simp [*, errW_none, errW_some] <;> rfl), by repeat (first | (with_reducible first | exact HB.out | apply below_alloc | apply pw_below_drewN | apply below_drew1 | refine below_set ?_ GE119.out) | exact HB.out)⟩
      ·rw [if_neg c29] at H
       have c29b0 : (a0_0 == 37) = false := beq_eq_false_iff_ne.mpr c29
       have c29b1 : (a0_0 != 37) = true := bne_iff_ne.mpr c29
       by_cases c33 : a0_0 = 39
       ·rw [if_pos c33] at H
        have c33b0 : (a0_0 == 39) = true := beq_iff_eq.mpr c33
        have c33b1 : (a0_0 != 39) = false := bne_eq_false_iff_eq.mpr c33
        clear c33
        replace H := Option.bind_eq_some_iff.mp H
        obtain ⟨t131, A340, H⟩ := H
        replace H : (some t131) = some r := H
        have A34 := Aside0.mk A340
        clear A340
        obtain rfl := Option.some.inj H
        obtain ⟨hcz35_0, hcz35_1, hcz35_2, hcz35_3, hcz35_4, hcz35_5, hfz35_0, hfz35_1, hfz35_2, hfz35_3, hfz35_4, hfz35_5⟩ := blk6 BK119.out
        go_wp2_with (first | ((with_reducible refine gate_callee (f := 38) rfl ?_); refine goesL_ (some 40) rfl rfl Tryd.func38 (by kernel_rfl) rfl #[.string (⟨#[67, 65, 76, 76]⟩ : ByteArray), .int .i64 a0_1, .string a3] rfl (by (try simp only [List.map_toArray, List.map_cons, List.map_nil]); first | done | rfl | (simp only [List.length_drop, List.length_take]; rfl)) ?_; (with_reducible refine (listing_if4.calls kj12 (⟨#[67, 65, 76, 76]⟩ : ByteArray) a0_1 a3 t131 _ A34.out).mono ?_); rintro e w36 ⟨rfl, hb⟩; refine ⟨_, rfl, ?_⟩; have n0_ := Aside0.mk (blk_below (g := gb119) (o := .cells #[.int .i64 a0_0, .int .i64 a0_1, .int .i64 a0_2, .int .i64 a0_3, .int .i64 a0_4, .int .i64 a0_5] 46 (0, 0)) (by (with_reducible repeat (first | refine blk_drewN ?_ _ | refine blk_drew ?_ | refine blk_alloc ?_ _)); exact BK119.out) hb); have n1_ := Aside0.mk (below_step (by repeat (first | (with_reducible first | exact HB.out | apply below_alloc | apply pw_below_drewN | apply below_drew1 | refine below_set ?_ GE119.out) | exact HB.out)) hb); clear BK119; clear HB; have BK119 := n0_; have HB := n1_; clear n0_ n1_; (try clear hb)))
        go_ret
        exact ⟨by first | rfl | (simp [errW_none, errW_some] <;> rfl) | (simp [*, errW_none, errW_some] <;> rfl), by repeat (first | (with_reducible first | exact HB.out | apply below_alloc | apply pw_below_drewN | apply below_drew1 | refine below_set ?_ GE119.out) | exact HB.out)⟩
       ·rw [if_neg c33] at H
        have c33b0 : (a0_0 == 39) = false := beq_eq_false_iff_ne.mpr c33
        have c33b1 : (a0_0 != 39) = true := bne_iff_ne.mpr c33
        by_cases c37 : a0_0 = 40
        ·rw [if_pos c37] at H
         have c37b0 : (a0_0 == 40) = true := beq_iff_eq.mpr c37
         have c37b1 : (a0_0 != 40) = false := bne_eq_false_iff_eq.mpr c37
         clear c37
         replace H := Option.bind_eq_some_iff.mp H
         obtain ⟨t132, A380, H⟩ := H
         replace H : (some t132) = some r := H
         have A38 := Aside0.mk A380
         clear A380
         obtain rfl := Option.some.inj H
         obtain ⟨hcz39_0, hcz39_1, hcz39_2, hcz39_3, hcz39_4, hcz39_5, hfz39_0, hfz39_1, hfz39_2, hfz39_3, hfz39_4, hfz39_5⟩ := blk6 BK119.out
         go_wp2_with (first | ((with_reducible refine gate_callee (f := 38) rfl ?_); refine goesL_ (some 45) rfl rfl Tryd.func38 (by kernel_rfl) rfl #[.string (⟨#[82, 69, 84]⟩ : ByteArray), .int .i64 a0_1, .string (⟨#[]⟩ : ByteArray)] rfl (by (try simp only [List.map_toArray, List.map_cons, List.map_nil]); first | done | rfl | (simp only [List.length_drop, List.length_take]; rfl)) ?_; (with_reducible refine (listing_if4.calls kj12 (⟨#[82, 69, 84]⟩ : ByteArray) a0_1 (⟨#[]⟩ : ByteArray) t132 _ A38.out).mono ?_); rintro e w40 ⟨rfl, hb⟩; refine ⟨_, rfl, ?_⟩; have n0_ := Aside0.mk (blk_below (g := gb119) (o := .cells #[.int .i64 a0_0, .int .i64 a0_1, .int .i64 a0_2, .int .i64 a0_3, .int .i64 a0_4, .int .i64 a0_5] 46 (0, 0)) (by (with_reducible repeat (first | refine blk_drewN ?_ _ | refine blk_drew ?_ | refine blk_alloc ?_ _)); exact BK119.out) hb); have n1_ := Aside0.mk (below_step (by repeat (first | (with_reducible first | exact HB.out | apply below_alloc | apply pw_below_drewN | apply below_drew1 | refine below_set ?_ GE119.out) | exact HB.out)) hb); clear BK119; clear HB; have BK119 := n0_; have HB := n1_; clear n0_ n1_; (try clear hb)))
         go_ret
         exact ⟨by first | rfl | (simp [errW_none, errW_some] <;> rfl) | (simp [*, errW_none, errW_some] <;> rfl), by repeat (first | (with_reducible first | exact HB.out | apply below_alloc | apply pw_below_drewN | apply below_drew1 | refine below_set ?_ GE119.out) | exact HB.out)⟩
        ·rw [if_neg c37] at H
         have c37b0 : (a0_0 == 40) = false := beq_eq_false_iff_ne.mpr c37
         have c37b1 : (a0_0 != 40) = true := bne_iff_ne.mpr c37
         by_cases c41 : a0_0 = 42
         ·rw [if_pos c41] at H
          have c41b0 : (a0_0 == 42) = true := beq_iff_eq.mpr c41
          have c41b1 : (a0_0 != 42) = false := bne_eq_false_iff_eq.mpr c41
          clear c41
          replace H := Option.bind_eq_some_iff.mp H
          obtain ⟨t133, A420, H⟩ := H
          replace H : ((listing_join.f (([(⟨#[82, 83, 84, 32, 36]⟩ : ByteArray), t133] : List ByteArray))).bind fun t137 => (some t137)) = some r := H
          have A42 := Aside0.mk A420
          clear A420
          obtain ⟨y134, hy134⟩ : ∃ y_ : List ByteArray, y_ = (([(⟨#[82, 83, 84, 32, 36]⟩ : ByteArray), t133] : List ByteArray)) := ⟨_, rfl⟩
          replace H : ((listing_join.f y134).bind fun t137 => (some t137)) = some r := by first | (rw [hy134]; with_reducible exact H) | (have H2_ := (Option.bind_some _ _).symm.trans H; rw [hy134]; with_reducible exact H2_) | (have H2_ := (Option.bind_some _ _).symm.trans H; with_reducible exact H2_) | with_reducible exact H | (rw [hy134]; exact H) | exact H
          have Ny134 := Aside0.mk hy134
          clear hy134
          replace H := Option.bind_eq_some_iff.mp H
          obtain ⟨t137, A430, H⟩ := H
          replace H : (some t137) = some r := H
          have A43 := Aside0.mk A430
          clear A430
          obtain rfl := Option.some.inj H
          obtain ⟨hcz44_0, hcz44_1, hcz44_2, hcz44_3, hcz44_4, hcz44_5, hfz44_0, hfz44_1, hfz44_2, hfz44_3, hfz44_4, hfz44_5⟩ := blk6 BK119.out
          go_wp2_with (first | ((with_reducible refine gate_callee (f := 24) rfl ?_); refine goesL_ (some 52) rfl rfl Tryd.func24 (by kernel_rfl) rfl #[.int .u8 ((wrap64 (8 * a0_1)) % 256)] rfl (by (try simp only [List.map_toArray, List.map_cons, List.map_nil]); first | done | rfl | (simp only [List.length_drop, List.length_take]; rfl)) ?_; (with_reducible refine (word_Hex8.calls ((wrap64 (8 * a0_1)) % 256) t133 _ A42.out).mono ?_); rintro e w45 ⟨rfl, hb⟩; refine ⟨_, rfl, ?_⟩; have n0_ := Aside0.mk (blk_below (g := gb119) (o := .cells #[.int .i64 a0_0, .int .i64 a0_1, .int .i64 a0_2, .int .i64 a0_3, .int .i64 a0_4, .int .i64 a0_5] 46 (0, 0)) (by (with_reducible repeat (first | refine blk_drewN ?_ _ | refine blk_drew ?_ | refine blk_alloc ?_ _)); exact BK119.out) hb); have n1_ := Aside0.mk (below_step (by repeat (first | (with_reducible first | exact HB.out | apply below_alloc | apply pw_below_drewN | apply below_drew1 | refine below_set ?_ GE119.out) | exact HB.out)) hb); clear BK119; clear HB; have BK119 := n0_; have HB := n1_; clear n0_ n1_; (try clear hb)) | ((with_reducible refine gate_dst (N := 53) rfl ?_); refine Kd.R_lit Kd.string _ 9 ?hg (N := 53) ?hd (xs := ([(⟨#[82, 83, 84, 32, 36]⟩ : ByteArray), t133] : List ByteArray)) (inner := [.string (⟨#[82, 83, 84, 32, 36]⟩ : ByteArray), .string t133]) (ok := fun _ => True) (okp := fun _ => True) ?hr ?hp (fun _ hk => hk) trivial (Below.refl _ _) (Nat.le_refl _) (by simp) ?_; (case hd => rfl); (case hg => rfl); (case hr => first | (go_simp; done) | (go_simp; rfl)); (case hp => exact (Reps.one (show Kd.M Kd.string _ _ _ (⟨#[82, 83, 84, 32, 36]⟩ : ByteArray) [.string (⟨#[82, 83, 84, 32, 36]⟩ : ByteArray)] from rfl) (Reps.one (show Kd.M Kd.string _ _ _ t133 [.string t133] from rfl) (Reps.none _ _)))); intro v135 w46 ho47 hb hg_ hnew_; clear hg_ hnew_; (first | rw [← Ny134.out] at ho47 | (simp only [Int.reduceToNat] at ho47; rw [← Ny134.out] at ho47)); have n0_ := Aside0.mk (Kd.R_lower ho47 (below_size (by repeat (first | (with_reducible first | exact HB.out | apply below_alloc | apply pw_below_drewN | apply below_drew1 | refine below_set ?_ GE119.out) | exact HB.out)))); have n1_ := Aside0.mk (blk_below (g := gb119) (o := .cells #[.int .i64 a0_0, .int .i64 a0_1, .int .i64 a0_2, .int .i64 a0_3, .int .i64 a0_4, .int .i64 a0_5] 46 (0, 0)) (by (with_reducible repeat (first | refine blk_drewN ?_ _ | refine blk_drew ?_ | refine blk_alloc ?_ _)); exact BK119.out) hb); have n2_ := Aside0.mk (below_step (by repeat (first | (with_reducible first | exact HB.out | apply below_alloc | apply pw_below_drewN | apply below_drew1 | refine below_set ?_ GE119.out) | exact HB.out)) hb); clear BK119; clear HB; have HO136 := n0_; have BK119 := n1_; have HB := n2_; clear n0_ n1_ n2_; clear hb ho47; obtain ⟨Ao48, co48, eo48⟩ := Kd.R_slice HO136.out; subst eo48) | ((with_reducible refine gate_callee (f := 37) rfl ?_); refine goesL_ (some 54) rfl rfl Tryd.func37 (by kernel_rfl) rfl #[.slice Ao48 y134.length co48] rfl (by (try simp only [List.map_toArray, List.map_cons, List.map_nil]); first | done | rfl | (simp only [List.length_drop, List.length_take]; rfl)) ?_; (with_reducible refine (listing_join.calls _ _ y134 t137 _ ?side1 ?side2 A43.out).mono ?_); (case side1 => repeat (first | exact (Kd.R_reads' HO136.out).2.2 | (with_reducible refine Kd.C_alloc ?_ _) | (with_reducible refine Kd.C_drewN ?_ _) | (with_reducible refine Kd.C_drew ?_))); (case side2 => exact (Kd.R_reads' HO136.out).2.1); rintro e w49 ⟨rfl, hb⟩; refine ⟨_, rfl, ?_⟩; have n0_ := Aside0.mk (Kd.R_below (by (with_reducible repeat (first | apply Kd.R_alloc | apply Kd.R_drewN | apply Kd.R_drew)); exact HO136.out) hb); have n1_ := Aside0.mk (blk_below (g := gb119) (o := .cells #[.int .i64 a0_0, .int .i64 a0_1, .int .i64 a0_2, .int .i64 a0_3, .int .i64 a0_4, .int .i64 a0_5] 46 (0, 0)) (by (with_reducible repeat (first | refine blk_drewN ?_ _ | refine blk_drew ?_ | refine blk_alloc ?_ _)); exact BK119.out) hb); have n2_ := Aside0.mk (below_step (by repeat (first | (with_reducible first | exact HB.out | apply below_alloc | apply pw_below_drewN | apply below_drew1 | refine below_set ?_ GE119.out) | exact HB.out)) hb); clear HO136; clear BK119; clear HB; have HO136 := n0_; have BK119 := n1_; have HB := n2_; clear n0_ n1_ n2_; (try clear hb)))
          go_ret
          exact ⟨by first | rfl | (simp [errW_none, errW_some] <;> rfl) | (simp [*, errW_none, errW_some] <;> rfl), by repeat (first | (with_reducible first | exact HB.out | apply below_alloc | apply pw_below_drewN | apply below_drew1 | refine below_set ?_ GE119.out) | exact HB.out)⟩
         ·rw [if_neg c41] at H
          have c41b0 : (a0_0 == 42) = false := beq_eq_false_iff_ne.mpr c41
          have c41b1 : (a0_0 != 42) = true := bne_iff_ne.mpr c41
          replace H := Option.bind_eq_some_iff.mp H
          obtain ⟨t138, A500, H⟩ := H
          replace H : ((listing_moves.f a0_0 a0_1 a0_2 a0_3 a0_4 a0_5 a2 a3).bind fun t139 => (if t138.size + t139.size ≤ 9223372036854775807 then ((listing_reckons.f kj12 a0_0 a0_1 a0_2 a0_3 a0_4 a0_5 a2).bind fun t140 => (if (t138 ++ t139).size + t140.size ≤ 9223372036854775807 then (some ((t138 ++ t139) ++ t140)) else (none))) else (none))) = some r := H
          have A50 := Aside0.mk A500
          clear A500
          replace H := Option.bind_eq_some_iff.mp H
          obtain ⟨t139, A510, H⟩ := H
          replace H : (if t138.size + t139.size ≤ 9223372036854775807 then ((listing_reckons.f kj12 a0_0 a0_1 a0_2 a0_3 a0_4 a0_5 a2).bind fun t140 => (if (t138 ++ t139).size + t140.size ≤ 9223372036854775807 then (some ((t138 ++ t139) ++ t140)) else (none))) else (none)) = some r := H
          have A51 := Aside0.mk A510
          clear A510
          by_cases c52 : t138.size + t139.size ≤ 9223372036854775807
          ·rw [if_pos c52] at H
           have c52b0 := eq_true c52
           have c52b1 : decide (t138.size + t139.size ≤ 9223372036854775807) = true := decide_eq_true c52
           try have c52b2 : (9223372036854775807 < t138.size + t139.size) = False := eq_false (Nat.not_lt.2 c52)
           replace H := Option.bind_eq_some_iff.mp H
           obtain ⟨t140, A530, H⟩ := H
           replace H : (if (t138 ++ t139).size + t140.size ≤ 9223372036854775807 then (some ((t138 ++ t139) ++ t140)) else (none)) = some r := H
           have A53 := Aside0.mk A530
           clear A530
           by_cases c54 : (t138 ++ t139).size + t140.size ≤ 9223372036854775807
           ·rw [if_pos c54] at H
            have c54b0 := eq_true c54
            have c54b1 : decide ((t138 ++ t139).size + t140.size ≤ 9223372036854775807) = true := decide_eq_true c54
            try have c54b2 : (9223372036854775807 < (t138 ++ t139).size + t140.size) = False := eq_false (Nat.not_lt.2 c54)
            have c54b3 : (9223372036854775807 < t138.size + t139.size + t140.size) = False := by rw [← ByteArray.size_append]; exact c54b2
            obtain rfl := Option.some.inj H
            try go_wp2
            have n0_ := Aside0.mk (blk_drew BK119.out)
            have n1_ := Aside0.mk (below_drew1 HB.out)
            clear BK119
            clear HB
            have BK119 := n0_
            have HB := n1_
            clear n0_ n1_
            refine start_ (n := 13) (S := fun w' => w'.cell? ⟨gb119, 0, none⟩ = some (.int .i64 a0_0) ∧ w'.cell? ⟨gb119, 1, none⟩ = some (.int .i64 a0_1) ∧ w'.cell? ⟨gb119, 2, none⟩ = some (.int .i64 a0_2) ∧ w'.cell? ⟨gb119, 3, none⟩ = some (.int .i64 a0_3) ∧ w'.cell? ⟨gb119, 4, none⟩ = some (.int .i64 a0_4) ∧ w'.cell? ⟨gb119, 5, none⟩ = some (.int .i64 a0_5)) (ds := []) #[false, false, false, false, false, false, false, false, false, false, false, false, false] (by kernel_rfl) rfl rfl ⟨(blk_cell BK119.out 0).trans rfl, (blk_cell BK119.out 1).trans rfl, (blk_cell BK119.out 2).trans rfl, (blk_cell BK119.out 3).trans rfl, (blk_cell BK119.out 4).trans rfl, (blk_cell BK119.out 5).trans rfl⟩ (fun hHeld => ?_); refine with_tabW listing_text.tab17 listing_text.bits17 (fun HT_ HW_ => ?_)
            generalize wc.drew = w55 at BK119 HB hHeld ⊢
            refine pure_ (i := 0) (N := some 55) (v := ?_) (a' := ?_) #[true, false, false, false, false, false, false, false, false, false, false, false, false] rfl rfl (any_of HT_.out (by kernel_rfl)) (fun _ _ _ h => h) (Or.inl ⟨by rfl, ?_⟩) ?_ ?_
            rotate_left
            ·intro w'
             go_simp
             with_reducible rfl
            rotate_left
            ·simp only [Act.put, List.setIfInBounds_toArray, List.set_cons_zero, List.set_cons_succ, i64_w, i32_w]
             rfl
            refine pure_ (i := 4) (N := some 59) (v := ?_) (a' := ?_) #[true, false, false, false, true, false, false, false, false, false, false, false, false] rfl rfl (any_of HT_.out (by kernel_rfl)) (fun _ _ _ h => h) (Or.inl ⟨by rfl, ?_⟩) ?_ ?_
            rotate_left
            ·intro w'
             go_simp
             with_reducible rfl
            rotate_left
            ·simp only [Act.put, List.setIfInBounds_toArray, List.set_cons_zero, List.set_cons_succ, i64_w, i32_w]
             rfl
            refine pure_ (i := 5) (N := some 60) (v := ?_) (a' := ?_) #[true, false, false, false, true, true, false, false, false, false, false, false, false] rfl rfl (any_of HT_.out (by kernel_rfl)) (fun _ _ _ h => h) (Or.inl ⟨by rfl, ?_⟩) ?_ ?_
            rotate_left
            ·intro w'
             go_simp
             with_reducible rfl
            rotate_left
            ·simp only [Act.put, List.setIfInBounds_toArray, List.set_cons_zero, List.set_cons_succ, i64_w, i32_w]
             rfl
            refine pure_ (i := 9) (N := some 64) (v := ?_) (a' := ?_) #[true, false, false, false, true, true, false, false, false, true, false, false, false] rfl rfl (any_of HT_.out (by kernel_rfl)) (fun _ _ _ h => h) (Or.inl ⟨by rfl, ?_⟩) ?_ ?_
            rotate_left
            ·intro w'
             go_simp
             with_reducible rfl
            rotate_left
            ·simp only [Act.put, List.setIfInBounds_toArray, List.set_cons_zero, List.set_cons_succ, i64_w, i32_w]
             rfl
            refine take_ (i := 1) (N := some 56) (v := ?_) (a' := ?_) #[true, true, false, false, true, true, false, false, false, true, false, false, false] rfl rfl (take_ofW HT_.out HW_.out (by kernel_rfl)) (fun _ _ _ h => h) (Or.inl ⟨by rfl, ?_⟩) hHeld ?_ ?_
            rotate_left
            ·rintro w' ⟨s0, s1, s2, s3, s4, s5⟩
             go_simp
             with_reducible rfl
            rotate_left
            ·simp only [Act.put, List.setIfInBounds_toArray, List.set_cons_zero, List.set_cons_succ, i64_w, i32_w]
             rfl
            refine take_ (i := 3) (N := some 58) (v := ?_) (a' := ?_) #[true, true, false, true, true, true, false, false, false, true, false, false, false] rfl rfl (take_ofW HT_.out HW_.out (by kernel_rfl)) (fun _ _ _ h => h) (Or.inl ⟨by rfl, ?_⟩) hHeld ?_ ?_
            rotate_left
            ·rintro w' ⟨s0, s1, s2, s3, s4, s5⟩
             go_simp
             with_reducible rfl
            rotate_left
            ·simp only [Act.put, List.setIfInBounds_toArray, List.set_cons_zero, List.set_cons_succ, i64_w, i32_w]
             rfl
            refine take_ (i := 8) (N := some 63) (v := ?_) (a' := ?_) #[true, true, false, true, true, true, false, false, true, true, false, false, false] rfl rfl (take_ofW HT_.out HW_.out (by kernel_rfl)) (fun _ _ _ h => h) (Or.inl ⟨by rfl, ?_⟩) hHeld ?_ ?_
            rotate_left
            ·rintro w' ⟨s0, s1, s2, s3, s4, s5⟩
             go_simp
             with_reducible rfl
            rotate_left
            ·simp only [Act.put, List.setIfInBounds_toArray, List.set_cons_zero, List.set_cons_succ, i64_w, i32_w]
             rfl
            refine one_ (i := 2) (N := some 57) #[true, true, true, true, true, true, false, false, true, true, false, false, false] rfl rfl (one_of HT_.out (by kernel_rfl)) (by decide) (fun K hK => ?_)
            refine goes_ Tryd.func39 (by kernel_rfl) rfl #[.int .i64 a0_0] (by rfl) rfl rfl (by (try simp only [List.map_toArray, List.map_cons, List.map_nil]); first | done | rfl | (simp only [List.length_drop, List.length_take]; rfl)) ?_
            with_reducible refine (listing_plain.calls a0_0 t138 _ A50.out).mono ?_
            rintro e w' ⟨rfl, ⟨nd, rfl⟩⟩
            refine ⟨_, rfl, ?_⟩
            refine hK.out _ _ ⟨(blk_cell BK119.out 0).trans rfl, (blk_cell BK119.out 1).trans rfl, (blk_cell BK119.out 2).trans rfl, (blk_cell BK119.out 3).trans rfl, (blk_cell BK119.out 4).trans rfl, (blk_cell BK119.out 5).trans rfl⟩ (fun hHeld => ?_)
            clear hK K
            refine norm_ (a' := ?_) ?_ ?_
            rotate_left
            ·show Act.put _ (some 57) _ = _
             simp only [Act.put, List.setIfInBounds_toArray, List.set_cons_zero, List.set_cons_succ, i64_w, i32_w]
             rfl
            refine one_ (i := 6) (N := some 61) #[true, true, true, true, true, true, true, false, true, true, false, false, false] rfl rfl (one_of HT_.out (by kernel_rfl)) (by decide) (fun K hK => ?_)
            refine goes_ Tryd.func40 (by kernel_rfl) rfl #[.agg #[.int .i64 a0_0, .int .i64 a0_1, .int .i64 a0_2, .int .i64 a0_3, .int .i64 a0_4, .int .i64 a0_5], .string a2, .string a3] (by rfl) rfl rfl (by (try simp only [List.map_toArray, List.map_cons, List.map_nil]); first | done | rfl | (simp only [List.length_drop, List.length_take]; rfl)) ?_
            with_reducible refine (listing_moves.calls a0_0 a0_1 a0_2 a0_3 a0_4 a0_5 a2 a3 t139 _ A51.out).mono ?_
            rintro e w56 ⟨rfl, hb⟩
            refine ⟨_, rfl, ?_⟩
            have n0_ := Aside0.mk (blk_below (g := gb119) (o := .cells #[.int .i64 a0_0, .int .i64 a0_1, .int .i64 a0_2, .int .i64 a0_3, .int .i64 a0_4, .int .i64 a0_5] 46 (0, 0)) (by (with_reducible repeat (first | refine blk_drewN ?_ _ | refine blk_drew ?_ | refine blk_alloc ?_ _)); exact BK119.out) hb)
            have n1_ := Aside0.mk (below_step (by repeat (first | (with_reducible first | exact HB.out | apply below_alloc | apply pw_below_drewN | apply below_drew1 | refine below_set ?_ GE119.out) | exact HB.out)) hb)
            clear BK119
            clear HB
            have BK119 := n0_
            have HB := n1_
            clear n0_ n1_
            (try clear hb)
            (try clear hb2)
            (try clear hk)
            (try clear hi)
            refine hK.out _ _ ⟨(blk_cell BK119.out 0).trans rfl, (blk_cell BK119.out 1).trans rfl, (blk_cell BK119.out 2).trans rfl, (blk_cell BK119.out 3).trans rfl, (blk_cell BK119.out 4).trans rfl, (blk_cell BK119.out 5).trans rfl⟩ (fun hHeld => ?_)
            clear hK K
            refine norm_ (a' := ?_) ?_ ?_
            rotate_left
            ·show Act.put _ (some 61) _ = _
             simp only [Act.put, List.setIfInBounds_toArray, List.set_cons_zero, List.set_cons_succ, i64_w, i32_w]
             rfl
            refine pure_ (i := 7) (N := some 62) (v := ?_) (a' := ?_) #[true, true, true, true, true, true, true, true, true, true, false, false, false] rfl rfl (any_of HT_.out (by kernel_rfl)) (fun _ _ _ h => h) (Or.inl ⟨by rfl, ?_⟩) ?_ ?_
            rotate_left
            ·intro w'
             go_simp
             with_reducible rfl
            rotate_left
            ·simp only [Act.put, List.setIfInBounds_toArray, List.set_cons_zero, List.set_cons_succ, i64_w, i32_w]
             rfl
            refine one_ (i := 10) (N := some 65) #[true, true, true, true, true, true, true, true, true, true, true, false, false] rfl rfl (one_of HT_.out (by kernel_rfl)) (by decide) (fun K hK => ?_)
            refine goes_ Tryd.func41 (by kernel_rfl) rfl #[.agg #[.int .i64 a0_0, .int .i64 a0_1, .int .i64 a0_2, .int .i64 a0_3, .int .i64 a0_4, .int .i64 a0_5], .string a2] (by rfl) rfl rfl (by (try simp only [List.map_toArray, List.map_cons, List.map_nil]); first | done | rfl | (simp only [List.length_drop, List.length_take]; rfl)) ?_
            with_reducible refine (listing_reckons.calls kj12 a0_0 a0_1 a0_2 a0_3 a0_4 a0_5 a2 t140 _ A53.out).mono ?_
            rintro e w57 ⟨rfl, hb⟩
            refine ⟨_, rfl, ?_⟩
            have n0_ := Aside0.mk (blk_below (g := gb119) (o := .cells #[.int .i64 a0_0, .int .i64 a0_1, .int .i64 a0_2, .int .i64 a0_3, .int .i64 a0_4, .int .i64 a0_5] 46 (0, 0)) (by (with_reducible repeat (first | refine blk_drewN ?_ _ | refine blk_drew ?_ | refine blk_alloc ?_ _)); exact BK119.out) hb)
            have n1_ := Aside0.mk (below_step (by repeat (first | (with_reducible first | exact HB.out | apply below_alloc | apply pw_below_drewN | apply below_drew1 | refine below_set ?_ GE119.out) | exact HB.out)) hb)
            clear BK119
            clear HB
            have BK119 := n0_
            have HB := n1_
            clear n0_ n1_
            (try clear hb)
            (try clear hb2)
            (try clear hk)
            (try clear hi)
            refine hK.out _ _ ⟨(blk_cell BK119.out 0).trans rfl, (blk_cell BK119.out 1).trans rfl, (blk_cell BK119.out 2).trans rfl, (blk_cell BK119.out 3).trans rfl, (blk_cell BK119.out 4).trans rfl, (blk_cell BK119.out 5).trans rfl⟩ (fun hHeld => ?_)
            clear hK K
            refine norm_ (a' := ?_) ?_ ?_
            rotate_left
            ·show Act.put _ (some 65) _ = _
             simp only [Act.put, List.setIfInBounds_toArray, List.set_cons_zero, List.set_cons_succ, i64_w, i32_w]
             rfl
            refine pure_ (i := 11) (N := some 66) (v := ?_) (a' := ?_) #[true, true, true, true, true, true, true, true, true, true, true, true, false] rfl rfl (any_of HT_.out (by kernel_rfl)) (fun _ _ _ h => h) (Or.inl ⟨by rfl, ?_⟩) ?_ ?_
            rotate_left
            ·intro w'
             go_simp
             with_reducible rfl
            rotate_left
            ·simp only [Act.put, List.setIfInBounds_toArray, List.set_cons_zero, List.set_cons_succ, i64_w, i32_w]
             rfl
            refine pure_ (i := 12) (N := some 8) (v := ?_) (a' := ?_) #[true, true, true, true, true, true, true, true, true, true, true, true, true] rfl rfl (any_of HT_.out (by kernel_rfl)) (fun _ _ _ h => h) (Or.inl ⟨by rfl, ?_⟩) ?_ ?_
            rotate_left
            ·intro w'
             go_simp
             with_reducible rfl
            rotate_left
            ·simp only [Act.put, List.setIfInBounds_toArray, List.set_cons_zero, List.set_cons_succ, i64_w, i32_w]
             rfl
            refine done_ (done_of HT_.out (by kernel_rfl)) ?_
            try go_wp2
            go_ret
            exact ⟨by first | rfl | (simp [errW_none, errW_some] <;> rfl) | (simp [*, errW_none, errW_some] <;> rfl), by repeat (first | (with_reducible first | exact HB.out | apply below_alloc | apply pw_below_drewN | apply below_drew1 | refine below_set ?_ GE119.out) | exact HB.out)⟩
           ·rw [if_neg c54] at H
            exact absurd H (by simp)
          ·rw [if_neg c52] at H
           exact absurd H (by simp)

end Go.Proofs.YtpjbfpheenamiaaDoor.PF
