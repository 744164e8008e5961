/- Texts of this claim, put together: PF43. -/
import Derived.Test.YtpjbfpheenamiaaDoorB1
import Derived.Test.YtpjbfpheenamiaaDoorB16
import Derived.Test.YtpjbfpheenamiaaDoorB17
import Derived.Test.YtpjbfpheenamiaaDoorB18
-- PRINTED by print.py (a twelfth state) out of the translation. Not trusted: Lean checks it.
namespace Go.Proofs.YtpjbfpheenamiaaDoor.PF
open Go.RowKit Go.Proofs.YtpjbfpheenamiaaDoorW.PrintWords Go.Proofs.YtpjbfpheenamiaaDoorW.PrintLast Go.Proofs.YtpjbfpheenamiaaDoorW.PrintMore
attribute [local go_sem] max2_int min2_int max_two min_two max_three min_three max_four min_four   -- for this text's walks alone
set_option linter.unusedVariables false
set_option linter.unusedSimpArgs false

/-! ### whirligigref05_Decode: function 43 -/
def whirligigref05_Decode.l0 : Nat → Int → List (S85) → Int → Option (Int × Int × Int × Int × Int × Int)
 | 0, _, _, _ => none
 | k + 1, x0, x3, x4 => if x4 < (x3.length : Int) then (if 0 ≤ x4 then ((whirligigref05_Fits.f k ((rd_T85 x3 x4).f0) x0).bind fun bt291 => (if bt291.1 = true then ((whirligigref05_told.f k ((rd_T85 x3 x4).f0) ((rd_T85 x3 x4).f1) ((rd_T85 x3 x4).f2) ((rd_T85 x3 x4).f3) ((rd_T85 x3 x4).f4) ((rd_T85 x3 x4).f5) bt291.2.1 bt291.2.2).bind fun bt295 => (some (bt295.1, bt295.2.1, bt295.2.2.1, bt295.2.2.2.1, bt295.2.2.2.2.1, bt295.2.2.2.2.2))) else (whirligigref05_Decode.l0 k x0 x3 (wrap64 (x4 + 1))))) else (none)) else (some (5, 0, 0, 1, 1, 1))
def whirligigref05_Decode.f (k : Nat) (a0 : Int) : Option (Int × Int × Int × Int × Int × Int) := (whirligigref05_Rows.f).bind fun t287 => (whirligigref05_Decode.l0 k a0 t287 0)
theorem whirligigref05_Decode.mono_l : ∀ k, (∀ y0 y1 y2, LeO (whirligigref05_Decode.l0 k y0 y1 y2) (whirligigref05_Decode.l0 (k + 1) y0 y1 y2))
 | 0 => fun _ _ _ r h => by simp [whirligigref05_Decode.l0] at h
 | k + 1 => by
  have ih0 := whirligigref05_Decode.mono_l k
  ·intro y0 y1 y2
   unfold whirligigref05_Decode.l0
   repeat' first
   | (with_reducible exact ih0 _ _ _)
   | (with_reducible exact whirligigref05_Fits.mono _ _ _)
   | (with_reducible exact whirligigref05_told.mono _ _ _ _ _ _ _ _ _)
   | (with_reducible exact LeO.refl _)
   | (with_reducible exact LeO.none _)
   | (with_reducible refine LeO.ite ?_ ?_)
   | (with_reducible refine LeO.bind ?_ (fun _ => ?_))
   | exact ih0 _ _ _
   | exact whirligigref05_Fits.mono _ _ _
   | exact whirligigref05_told.mono _ _ _ _ _ _ _ _ _
   | exact LeO.none _
   | refine LeO.ite ?_ ?_
   | refine LeO.bind ?_ (fun _ => ?_)
theorem whirligigref05_Decode.mono : ∀ a0 k, LeO (whirligigref05_Decode.f k a0) (whirligigref05_Decode.f (k + 1) a0) := by
 intro a0 k
 have ih0 := whirligigref05_Decode.mono_l k
 unfold whirligigref05_Decode.f
 repeat' first
   | (with_reducible exact ih0 _ _ _)
   | (with_reducible exact whirligigref05_Fits.mono _ _ _)
   | (with_reducible exact whirligigref05_told.mono _ _ _ _ _ _ _ _ _)
   | (with_reducible exact LeO.refl _)
   | (with_reducible exact LeO.none _)
   | (with_reducible refine LeO.ite ?_ ?_)
   | (with_reducible refine LeO.bind ?_ (fun _ => ?_))
   | exact ih0 _ _ _
   | exact whirligigref05_Fits.mono _ _ _
   | exact whirligigref05_told.mono _ _ _ _ _ _ _ _ _
   | exact LeO.none _
   | refine LeO.ite ?_ ?_
   | refine LeO.bind ?_ (fun _ => ?_)
set_option maxHeartbeats 8000000 in
set_option maxRecDepth 100000 in
theorem whirligigref05_Decode.calls (k : Nat) (a0 : Int) (r1 : Int) (r2 : Int) (r3 : Int) (r4 : Int) (r5 : Int) (r6 : Int) (w : World) (h : whirligigref05_Decode.f k a0 = some (r1, r2, r3, r4, r5, r6)) :
  Calls Tryd.prog 43 #[.int .u8 a0] w fun e w' => e = .returned (.agg #[.int .i64 r1, .int .i64 r2, .int .i64 r3, .int .i64 r4, .int .i64 r5, .int .i64 r6]) ∧ Below w.heap.size w w' := by
 have hu46 := Tryd.underlying46
 have hu85 := Tryd.underlying85
 have HB := Aside0.mk (Below.refl w.heap.size w)
 have H : ((whirligigref05_Rows.f).bind fun t287 => (whirligigref05_Decode.l0 k a0 t287 0)) = some (r1, r2, r3, r4, r5, r6) := h
 clear h
 replace H := Option.bind_eq_some_iff.mp H
 obtain ⟨t287, A20, H⟩ := H
 replace H : (whirligigref05_Decode.l0 k a0 t287 0) = some (r1, r2, r3, r4, r5, r6) := H
 have A2 := Aside0.mk A20
 clear A20
 have H' := Aside0.mk H
 clear H
 go_enter Tryd.func43, Tryd.ntmps43
 go_wp2_with (first | ((with_reducible refine gate_dst (N := 2) rfl ?_); refine box_event ?hg (N := 2) ?hd (cs := #[.int .i64 0, .int .i64 0, .int .i64 0, .int .i64 0, .int .i64 0, .int .i64 0]) (t := 46) ?hr ?_; (case hd => rfl); (case hg => rfl); (case hr => first | (go_simp; done) | (go_simp; rfl)); intro gb286 hg w3 hbox hb; have n0_ := Aside0.mk (below_step (by repeat (first | (with_reducible first | exact HB.out | apply below_alloc | apply pw_below_drewN | apply below_drew1) | exact HB.out)) hb); have n1_ := Aside0.mk (hbox); have n2_ := Aside0.mk ((by rw [hg]; exact (below_size (by repeat (first | (with_reducible first | exact HB.out | apply below_alloc | apply pw_below_drewN | apply below_drew1) | exact HB.out))) : w.heap.size ≤ gb286)); have n3_ := Aside0.mk ((by rw [hg]; exact (below_size (by repeat (first | (with_reducible first | exact HB.out | apply below_alloc | apply pw_below_drewN | apply below_drew1) | exact HB.out))) : w.heap.size ≤ gb286)); clear HB; have HB := n0_; have BK286 := n1_; have GW286 := n2_; have GE286 := n3_; clear n0_ n1_ n2_ n3_; clear hb hbox hg) | ((with_reducible refine gate_callee (f := 71) rfl ?_); refine goesL_ (some 8) rfl rfl Tryd.func71 (by kernel_rfl) rfl #[] rfl (by (try simp only [List.map_toArray, List.map_cons, List.map_nil]); first | done | rfl | (simp only [List.length_drop, List.length_take]; rfl)) ?_; (with_reducible refine (whirligigref05_Rows.calls  t287 _ A2.out).mono ?_); rintro e w4 ⟨v288, rfl, ho0, hb⟩; refine ⟨_, rfl, ?_⟩; have n0_ := Aside0.mk (Kd.R_lower ho0 (below_size (by repeat (first | (with_reducible first | exact HB.out | apply below_alloc | apply pw_below_drewN | apply below_drew1 | refine below_set ?_ GE286.out) | exact HB.out)))); have n1_ := Aside0.mk (blk_below (g := gb286) (o := .cells #[.int .i64 0, .int .i64 0, .int .i64 0, .int .i64 0, .int .i64 0, .int .i64 0] 46 (0, 0)) (by (with_reducible repeat (first | refine blk_drewN ?_ _ | refine blk_drew ?_ | refine blk_alloc ?_ _)); exact BK286.out) hb); have n2_ := Aside0.mk (below_step (by repeat (first | (with_reducible first | exact HB.out | apply below_alloc | apply pw_below_drewN | apply below_drew1 | refine below_set ?_ GE286.out) | exact HB.out)) hb); clear BK286; clear HB; have HO289 := n0_; have BK286 := n1_; have HB := n2_; clear n0_ n1_ n2_; (try clear hb); (try clear ho0)))
 go_loopg [4] k (fun kq v4 w' => ∃ (x4_1 : Int) (x287000_1 : Int) (x287001_1 : Int) (x287002_1 : Int) (x287003_1 : Int) (x287004_1 : Int) (x287005_1 : Int), v4 = .int .i64 x4_1 ∧ Aside0 (whirligigref05_Decode.l0 kq a0 t287 x4_1 = some (r1, r2, r3, r4, r5, r6)) ∧ Aside0 (kq ≤ k) ∧ Aside0 (Kd.R k85 85 w' w.heap.size (fun _ => True) v288 t287) ∧ Aside0 (w'.heap[gb286]? = some (.cells #[.int .i64 x287000_1, .int .i64 x287001_1, .int .i64 x287002_1, .int .i64 x287003_1, .int .i64 x287004_1, .int .i64 x287005_1] 46 (0, 0))) ∧ Aside0 (Below w.heap.size w w'))
 case atStart => exact ⟨(0), (0), (0), (0), (0), (0), (0), (by first | rfl | (simp; done) | (simp [*]; done)), H', ⟨Nat.le_refl _⟩, ⟨by (with_reducible repeat (first | apply Kd.R_alloc | apply Kd.R_drewN | apply Kd.R_drew)); exact HO289.out⟩, ⟨by (with_reducible repeat (first | refine blk_drewN ?_ _ | refine blk_drew ?_ | refine blk_alloc ?_ _)); exact BK286.out⟩, ⟨by repeat (first | (with_reducible first | exact HB.out | apply below_alloc | apply pw_below_drewN | apply below_drew1 | refine below_set ?_ GE286.out) | exact HB.out)⟩⟩
 case round =>
  clear H'
  obtain ⟨x4_1, x287000_1, x287001_1, x287002_1, x287003_1, x287004_1, x287005_1, rfl, HA, HK1, HO_3, BK286, HB⟩ := hrel
  cases gk with
  | zero => exact absurd HA.out (by simp [whirligigref05_Decode.l0])
  | succ k1 =>
   have H := HA.out
   clear HA
   simp only [whirligigref05_Decode.l0] at H
   by_cases c5 : x4_1 < (t287.length : Int)
   ·rw [if_pos c5] at H
    have c5b0 : decide (x4_1 < (t287.length : Int)) = true := decide_eq_true c5
    clear c5
    by_cases c6 : 0 ≤ x4_1
    ·rw [if_pos c6] at H
     have c6b0 : decide (0 ≤ x4_1) = true := decide_eq_true c6
     clear c6
     replace H := Option.bind_eq_some_iff.mp H
     obtain ⟨⟨t291, t292, t293⟩, A70, H⟩ := H
     replace H : (if t291 = true then ((whirligigref05_told.f k1 ((rd_T85 t287 x4_1).f0) ((rd_T85 t287 x4_1).f1) ((rd_T85 t287 x4_1).f2) ((rd_T85 t287 x4_1).f3) ((rd_T85 t287 x4_1).f4) ((rd_T85 t287 x4_1).f5) t292 t293).bind fun bt295 => (some (bt295.1, bt295.2.1, bt295.2.2.1, bt295.2.2.2.1, bt295.2.2.2.2.1, bt295.2.2.2.2.2))) else (whirligigref05_Decode.l0 k1 a0 t287 (wrap64 (x4_1 + 1)))) = some (r1, r2, r3, r4, r5, r6) := H
     have A7 := Aside0.mk A70
     clear A70
     by_cases c8 : t291 = true
     ·subst c8
      rw [if_pos rfl] at H
      replace H := Option.bind_eq_some_iff.mp H
      obtain ⟨⟨t295, t296, t297, t298, t299, t300⟩, A90, H⟩ := H
      replace H : (some (t295, t296, t297, t298, t299, t300)) = some (r1, r2, r3, r4, r5, r6) := H
      have A9 := Aside0.mk A90
      clear A90
      simp only [Option.some.injEq, Prod.mk.injEq] at H
      obtain ⟨rfl, rfl, rfl, rfl, rfl, rfl⟩ := H
      obtain ⟨Ao10, co10, eo10⟩ := Kd.R_slice HO_3.out
      subst eo10
      have p290 : 0 ≤ (x4_1 : Int) := of_decide_eq_true (by first | (with_reducible assumption) | assumption)
      have q290 : x4_1 < (t287.length : Int) := of_decide_eq_true (by first | (with_reducible assumption) | assumption)
      obtain ⟨ad290, e290, hx290_0, hx290_1, hx290_2, hx290_3, hx290_4, hx290_5⟩ := at_T85 (Kd.R_reads' HO_3.out).2.2 x4_1 p290 q290
      cases e290
      replace p290 := eq_true p290
      replace q290 := eq_true q290
      go_wp2_with (first | ((with_reducible refine gate_callee (f := 70) rfl ?_); refine goesL_ (some 22) rfl rfl Tryd.func70 (by kernel_rfl) rfl #[.string ((rd_T85 t287 x4_1).f0), .int .u8 a0] rfl (by (try simp only [List.map_toArray, List.map_cons, List.map_nil]); first | done | rfl | (simp only [List.length_drop, List.length_take]; rfl)) ?_; (with_reducible refine (whirligigref05_Fits.calls k1 ((rd_T85 t287 x4_1).f0) a0 true t292 t293 _ A7.out).mono ?_); rintro e w' ⟨rfl, ⟨nd, rfl⟩⟩; refine ⟨_, rfl, ?_⟩; (try (rw [drewN_self wr]; generalize hq_ : World.drewN wr _ = wr; have n0_ : Aside0 (Kd.R k85 85 wr w.heap.size (fun _ => True) (.slice (some ad290) t287.length co10) t287) := ⟨by rw [← hq_]; exact (by (with_reducible repeat (first | apply Kd.R_alloc | apply Kd.R_drewN | apply Kd.R_drew)); exact HO_3.out)⟩; have n1_ : Aside0 (wr.heap[gb286]? = some (.cells #[.int .i64 x287000_1, .int .i64 x287001_1, .int .i64 x287002_1, .int .i64 x287003_1, .int .i64 x287004_1, .int .i64 x287005_1] 46 (0, 0))) := ⟨by rw [← hq_]; exact (by (with_reducible repeat (first | refine blk_drewN ?_ _ | refine blk_drew ?_ | refine blk_alloc ?_ _)); exact BK286.out)⟩; have n2_ : Aside0 (Below w.heap.size w wr) := ⟨by rw [← hq_]; exact (by repeat (first | (with_reducible first | exact HB.out | apply below_alloc | apply pw_below_drewN | apply below_drew1 | refine below_set ?_ GE286.out) | exact HB.out))⟩; clear HO_3 BK286 HB hq_; have HO_3 := n0_; have BK286 := n1_; have HB := n2_; clear n0_ n1_ n2_)); have p294 : 0 ≤ (x4_1 : Int) := of_decide_eq_true (by first | (with_reducible assumption) | assumption); have q294 : x4_1 < (t287.length : Int) := of_decide_eq_true (by first | (with_reducible assumption) | assumption); obtain ⟨ad294, e294, hx294_0, hx294_1, hx294_2, hx294_3, hx294_4, hx294_5⟩ := at_T85 (Kd.R_reads' HO_3.out).2.2 x4_1 p294 q294; obtain rfl : ad290 = ad294 := (by injection e294); replace p294 := eq_true p294; replace q294 := eq_true q294) | ((with_reducible refine gate_callee (f := 72) rfl ?_); refine goesL_ (some 33) rfl rfl Tryd.func72 (by kernel_rfl) rfl #[.agg #[.string ((rd_T85 t287 x4_1).f0), .int .i64 ((rd_T85 t287 x4_1).f1), .int .i64 ((rd_T85 t287 x4_1).f2), .int .i64 ((rd_T85 t287 x4_1).f3), .int .i64 ((rd_T85 t287 x4_1).f4), .int .i64 ((rd_T85 t287 x4_1).f5)], .int .i64 t292, .int .i64 t293] rfl (by (try simp only [List.map_toArray, List.map_cons, List.map_nil]); first | done | rfl | (simp only [List.length_drop, List.length_take]; rfl)) ?_; (with_reducible refine (whirligigref05_told.calls k1 ((rd_T85 t287 x4_1).f0) ((rd_T85 t287 x4_1).f1) ((rd_T85 t287 x4_1).f2) ((rd_T85 t287 x4_1).f3) ((rd_T85 t287 x4_1).f4) ((rd_T85 t287 x4_1).f5) t292 t293 t295 t296 t297 t298 t299 t300 _ A9.out).mono ?_); rintro e w11 ⟨rfl, hb⟩; refine ⟨_, rfl, ?_⟩; have n0_ := Aside0.mk (Kd.R_below (by (with_reducible repeat (first | apply Kd.R_alloc | apply Kd.R_drewN | apply Kd.R_drew)); exact HO_3.out) hb); have n1_ := Aside0.mk (blk_below (g := gb286) (o := .cells #[.int .i64 x287000_1, .int .i64 x287001_1, .int .i64 x287002_1, .int .i64 x287003_1, .int .i64 x287004_1, .int .i64 x287005_1] 46 (0, 0)) (by (with_reducible repeat (first | refine blk_drewN ?_ _ | refine blk_drew ?_ | refine blk_alloc ?_ _)); exact BK286.out) hb); have n2_ := Aside0.mk (below_step (by repeat (first | (with_reducible first | exact HB.out | apply below_alloc | apply pw_below_drewN | apply below_drew1 | refine below_set ?_ GE286.out) | exact HB.out)) hb); clear HO_3; clear BK286; clear HB; have HO_3 := n0_; have BK286 := n1_; have HB := n2_; clear n0_ n1_ n2_; (try clear hb); obtain ⟨hcz12_0, hcz12_1, hcz12_2, hcz12_3, hcz12_4, hcz12_5, hfz12_0, hfz12_1, hfz12_2, hfz12_3, hfz12_4, hfz12_5⟩ := blk6 BK286.out))
      refine bodyPost_ret (results_cell_row rfl _ _ gb286 46 #[.int .i64 t295, .int .i64 t296, .int .i64 t297, .int .i64 t298, .int .i64 t299, .int .i64 t300] (0, 0) _ rfl (by (with_reducible repeat (first | refine blk_drewN ?_ _ | refine blk_drew ?_ | refine blk_alloc ?_ _)); refine blk_put (cs := #[.int .i64 t295, .int .i64 t296, .int .i64 t297, .int .i64 t298, .int .i64 t299, .int .i64 x287005_1]) ?_ 5 _ rfl; refine blk_put (cs := #[.int .i64 t295, .int .i64 t296, .int .i64 t297, .int .i64 t298, .int .i64 x287004_1, .int .i64 x287005_1]) ?_ 4 _ rfl; refine blk_put (cs := #[.int .i64 t295, .int .i64 t296, .int .i64 t297, .int .i64 x287003_1, .int .i64 x287004_1, .int .i64 x287005_1]) ?_ 3 _ rfl; refine blk_put (cs := #[.int .i64 t295, .int .i64 t296, .int .i64 x287002_1, .int .i64 x287003_1, .int .i64 x287004_1, .int .i64 x287005_1]) ?_ 2 _ rfl; refine blk_put (cs := #[.int .i64 t295, .int .i64 x287001_1, .int .i64 x287002_1, .int .i64 x287003_1, .int .i64 x287004_1, .int .i64 x287005_1]) ?_ 1 _ rfl; refine blk_put (cs := #[.int .i64 x287000_1, .int .i64 x287001_1, .int .i64 x287002_1, .int .i64 x287003_1, .int .i64 x287004_1, .int .i64 x287005_1]) ?_ 0 _ rfl; (with_reducible repeat (first | refine blk_drewN ?_ _ | refine blk_drew ?_ | refine blk_alloc ?_ _)); exact BK286.out) Tryd.underlying46 rfl (by kernel_rfl)) rfl ?_
      exact ⟨by first | rfl | (simp [errW_none, errW_some] <;> rfl) | (simp [*, errW_none, errW_some] <;> rfl), by repeat (first | (with_reducible first | exact HB.out | apply below_alloc | apply pw_below_drewN | apply below_drew1 | refine below_set ?_ GE286.out) | exact HB.out)⟩
     ·replace c8 := Bool.eq_false_iff.mpr c8
      subst c8
      have H1 : (whirligigref05_Decode.l0 k1 a0 t287 (wrap64 (x4_1 + 1))) = some (r1, r2, r3, r4, r5, r6) := by rw [if_neg (show ¬ (false = true) by decide)] at H; exact H
      clear H
      have H := H1
      clear H1
      have H' := Aside0.mk H
      clear H
      obtain ⟨Ao13, co13, eo13⟩ := Kd.R_slice HO_3.out
      subst eo13
      have p290 : 0 ≤ (x4_1 : Int) := of_decide_eq_true (by first | (with_reducible assumption) | assumption)
      have q290 : x4_1 < (t287.length : Int) := of_decide_eq_true (by first | (with_reducible assumption) | assumption)
      obtain ⟨ad290, e290, hx290_0, hx290_1, hx290_2, hx290_3, hx290_4, hx290_5⟩ := at_T85 (Kd.R_reads' HO_3.out).2.2 x4_1 p290 q290
      cases e290
      replace p290 := eq_true p290
      replace q290 := eq_true q290
      go_wp2_with (first | ((with_reducible refine gate_callee (f := 70) rfl ?_); refine goesL_ (some 22) rfl rfl Tryd.func70 (by kernel_rfl) rfl #[.string ((rd_T85 t287 x4_1).f0), .int .u8 a0] rfl (by (try simp only [List.map_toArray, List.map_cons, List.map_nil]); first | done | rfl | (simp only [List.length_drop, List.length_take]; rfl)) ?_; (with_reducible refine (whirligigref05_Fits.calls k1 ((rd_T85 t287 x4_1).f0) a0 false t292 t293 _ A7.out).mono ?_); rintro e w' ⟨rfl, ⟨nd, rfl⟩⟩; refine ⟨_, rfl, ?_⟩))
      go_roundg k1
      case measure => have := HK1.out; omega
      case rel => exact ⟨(wrap64 (x4_1 + 1)), (x287000_1), (x287001_1), (x287002_1), (x287003_1), (x287004_1), (x287005_1), (by first | rfl | (simp; done) | (simp [*]; done)), H', ⟨by have := HK1.out; omega⟩, ⟨by (with_reducible repeat (first | apply Kd.R_alloc | apply Kd.R_drewN | apply Kd.R_drew)); exact HO_3.out⟩, ⟨by (with_reducible repeat (first | refine blk_drewN ?_ _ | refine blk_drew ?_ | refine blk_alloc ?_ _)); exact BK286.out⟩, ⟨by repeat (first | (with_reducible first | exact HB.out | apply below_alloc | apply pw_below_drewN | apply below_drew1 | refine below_set ?_ GE286.out) | exact HB.out)⟩⟩
    ·rw [if_neg c6] at H
     exact absurd H (by simp)
   ·rw [if_neg c5] at H
    have c5b0 : decide (x4_1 < (t287.length : Int)) = false := decide_eq_false c5
    clear c5
    simp only [Option.some.injEq, Prod.mk.injEq] at H
    obtain ⟨rfl, rfl, rfl, rfl, rfl, rfl⟩ := H
    obtain ⟨Ao14, co14, eo14⟩ := Kd.R_slice HO_3.out
    subst eo14
    obtain ⟨hcz15_0, hcz15_1, hcz15_2, hcz15_3, hcz15_4, hcz15_5, hfz15_0, hfz15_1, hfz15_2, hfz15_3, hfz15_4, hfz15_5⟩ := blk6 BK286.out
    go_wp2
    refine bodyPost_ret (results_cell_row rfl _ _ gb286 46 #[.int .i64 5, .int .i64 0, .int .i64 0, .int .i64 1, .int .i64 1, .int .i64 1] (0, 0) _ rfl (by (with_reducible repeat (first | refine blk_drewN ?_ _ | refine blk_drew ?_ | refine blk_alloc ?_ _)); refine blk_put (cs := #[.int .i64 5, .int .i64 0, .int .i64 0, .int .i64 1, .int .i64 1, .int .i64 x287005_1]) ?_ 5 _ rfl; refine blk_put (cs := #[.int .i64 5, .int .i64 0, .int .i64 0, .int .i64 1, .int .i64 x287004_1, .int .i64 x287005_1]) ?_ 4 _ rfl; refine blk_put (cs := #[.int .i64 5, .int .i64 0, .int .i64 0, .int .i64 x287003_1, .int .i64 x287004_1, .int .i64 x287005_1]) ?_ 3 _ rfl; refine blk_put (cs := #[.int .i64 5, .int .i64 0, .int .i64 x287002_1, .int .i64 x287003_1, .int .i64 x287004_1, .int .i64 x287005_1]) ?_ 2 _ rfl; refine blk_put (cs := #[.int .i64 5, .int .i64 x287001_1, .int .i64 x287002_1, .int .i64 x287003_1, .int .i64 x287004_1, .int .i64 x287005_1]) ?_ 1 _ rfl; refine blk_put (cs := #[.int .i64 x287000_1, .int .i64 x287001_1, .int .i64 x287002_1, .int .i64 x287003_1, .int .i64 x287004_1, .int .i64 x287005_1]) ?_ 0 _ rfl; (with_reducible repeat (first | refine blk_drewN ?_ _ | refine blk_drew ?_ | refine blk_alloc ?_ _)); exact BK286.out) Tryd.underlying46 rfl (by kernel_rfl)) rfl ?_
    exact ⟨by first | rfl | (simp [errW_none, errW_some] <;> rfl) | (simp [*, errW_none, errW_some] <;> rfl), by repeat (first | (with_reducible first | exact HB.out | apply below_alloc | apply pw_below_drewN | apply below_drew1 | refine below_set ?_ GE286.out) | exact HB.out)⟩

end Go.Proofs.YtpjbfpheenamiaaDoor.PF
