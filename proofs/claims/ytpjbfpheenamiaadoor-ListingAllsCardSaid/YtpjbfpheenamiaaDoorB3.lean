/- Texts of this claim, put together: PF38, PF39. -/
import Derived.Test.YtpjbfpheenamiaaDoorB1
import Derived.Test.YtpjbfpheenamiaaDoorB2
-- PRINTED by print.py (a twelfth state) out of the translation. Not trusted: Lean checks it.
namespace Go.Proofs.YtpjbfpheenamiaaDoor.PF
open Go.RowKit Go.Proofs.YtpjbfpheenamiaaDoorW.PrintWords Go.Proofs.YtpjbfpheenamiaaDoorW.PrintLast Go.Proofs.YtpjbfpheenamiaaDoorW.PrintMore
attribute [local go_sem] max2_int min2_int max_two min_two max_three min_three max_four min_four   -- for this text's walks alone
set_option linter.unusedVariables false
set_option linter.unusedSimpArgs false

/-! ### listing_if4: function 38 -/
def listing_if4.j0 : Nat → ByteArray → Int → ByteArray → Bool → Option (ByteArray)
 | 0, _, _, _, _ => none
 | k + 1, x0, x1, x2, x7 => if x7 = true then (some x0) else (if x1 = 4 then ((listing_join.f (([x0, (⟨#[32]⟩ : ByteArray), x2] : List ByteArray))).bind fun t108 => (some t108)) else (if x2.toList = ([] : List UInt8) then ((listing_condition.f x1).bind fun t109 => ((listing_join.f (([x0, (⟨#[32]⟩ : ByteArray), t109] : List ByteArray))).bind fun t113 => (some t113))) else ((listing_condition.f x1).bind fun t114 => ((listing_join.f (([x0, (⟨#[32]⟩ : ByteArray), t114, (⟨#[44]⟩ : ByteArray), x2] : List ByteArray))).bind fun t118 => (some t118)))))
def listing_if4.f (k : Nat) (a0 : ByteArray) (a1 : Int) (a2 : ByteArray) : Option (ByteArray) := if a1 = 4 then (listing_if4.j0 k a0 a1 a2 (a2.toList == ([] : List UInt8))) else (listing_if4.j0 k a0 a1 a2 false)
theorem listing_if4.mono_l : ∀ k, (∀ y0 y1 y2 y3, LeO (listing_if4.j0 k y0 y1 y2 y3) (listing_if4.j0 (k + 1) y0 y1 y2 y3))
 | 0 => fun _ _ _ _ r h => by simp [listing_if4.j0] at h
 | k + 1 => by
  have ih0 := listing_if4.mono_l k
  ·intro y0 y1 y2 y3
   unfold listing_if4.j0
   repeat' first
   | (with_reducible exact ih0 _ _ _ _)
   | (with_reducible exact LeO.refl _)
   | (with_reducible exact LeO.none _)
   | (with_reducible refine LeO.ite ?_ ?_)
   | (with_reducible refine LeO.bind ?_ (fun _ => ?_))
   | exact ih0 _ _ _ _
   | exact LeO.none _
   | refine LeO.ite ?_ ?_
   | refine LeO.bind ?_ (fun _ => ?_)
theorem listing_if4.mono : ∀ a0 a1 a2 k, LeO (listing_if4.f k a0 a1 a2) (listing_if4.f (k + 1) a0 a1 a2) := by
 intro a0 a1 a2 k
 have ih0 := listing_if4.mono_l k
 unfold listing_if4.f
 repeat' first
   | (with_reducible exact ih0 _ _ _ _)
   | (with_reducible exact LeO.refl _)
   | (with_reducible exact LeO.none _)
   | (with_reducible refine LeO.ite ?_ ?_)
   | (with_reducible refine LeO.bind ?_ (fun _ => ?_))
   | exact ih0 _ _ _ _
   | exact LeO.none _
   | refine LeO.ite ?_ ?_
   | refine LeO.bind ?_ (fun _ => ?_)
set_option maxHeartbeats 8000000 in
set_option maxRecDepth 100000 in
theorem listing_if4.calls (k : Nat) (a0 : ByteArray) (a1 : Int) (a2 : ByteArray) (r : ByteArray) (w : World) (h : listing_if4.f k a0 a1 a2 = some r) :
  Calls Tryd.prog 38 #[.string a0, .int .i64 a1, .string a2] w fun e w' => e = .returned (.string r) ∧ Below w.heap.size w w' := by
 have HB := Aside0.mk (Below.refl w.heap.size w)
 have H : (if a1 = 4 then (listing_if4.j0 k a0 a1 a2 (a2.toList == ([] : List UInt8))) else (listing_if4.j0 k a0 a1 a2 false)) = some r := h
 clear h
 have HC4 := Aside0.mk H
 clear H
 go_enter Tryd.func38, Tryd.ntmps38
 go_upto_region 1 with (fail)
 go_cut [7] (fun v7 wc => ∃ (kq : Nat) (x7_3 : Bool), v7 = .bool x7_3 ∧ Aside0 (listing_if4.j0 kq a0 a1 a2 x7_3 = some r) ∧ Aside0 (kq ≤ k) ∧ Aside0 (Below w.heap.size w wc))
 case first =>
  have H := HC4.out
  clear HC4
  by_cases c5 : a1 = 4
  ·rw [if_pos c5] at H
   have c5b0 : (a1 == 4) = true := beq_iff_eq.mpr c5
   have c5b1 : (a1 != 4) = false := bne_eq_false_iff_eq.mpr c5
   clear c5
   (first | rw [c5b0] | (simp only [i64_w, i32_w]; rw [c5b0]) | skip)
   have H' := Aside0.mk H
   clear H
   go_wp2
   go_meet
   case rel => exact ⟨_, ((a2.toList == ([] : List UInt8))), (by first | rfl | (simp; done) | (simp [*]; done)), H', ⟨by first | omega | exact Nat.le_refl _⟩, ⟨by repeat (first | (with_reducible first | exact HB.out | apply below_alloc | apply pw_below_drewN | apply below_drew1) | exact HB.out)⟩⟩
  ·rw [if_neg c5] at H
   have c5b0 : (a1 == 4) = false := beq_eq_false_iff_ne.mpr c5
   have c5b1 : (a1 != 4) = true := bne_iff_ne.mpr c5
   (first | rw [c5b0] | (simp only [i64_w, i32_w]; rw [c5b0]) | skip)
   have H' := Aside0.mk H
   clear H
   go_wp2
   go_meet
   case rel => exact ⟨_, (false), (by first | rfl | (simp; done) | (simp [*]; done)), H', ⟨by first | omega | exact Nat.le_refl _⟩, ⟨by repeat (first | (with_reducible first | exact HB.out | apply below_alloc | apply pw_below_drewN | apply below_drew1) | exact HB.out)⟩⟩
 case rest =>
  clear HC4
  obtain ⟨kq, x7_3, rfl, HA, HJ3, HB⟩ := hcut
  cases kq with
  | zero => exact absurd HA.out (by simp [listing_if4.j0])
  | succ kj3 =>
   have H := HA.out
   clear HA
   simp only [listing_if4.j0] at H
   by_cases c6 : x7_3 = true
   ·subst c6
    rw [if_pos rfl] at H
    obtain rfl := Option.some.inj H
    go_wp2
    go_ret
    exact ⟨by first | rfl | (simp [errW_none, errW_some] <;> rfl) | (simp [*, errW_none, errW_some] <;> rfl), by repeat (first | (with_reducible first | exact HB.out | apply below_alloc | apply pw_below_drewN | apply below_drew1) | exact HB.out)⟩
   ·replace c6 := Bool.eq_false_iff.mpr c6
    subst c6
    have H1 : (if a1 = 4 then ((listing_join.f (([a0, (⟨#[32]⟩ : ByteArray), a2] : List ByteArray))).bind fun t108 => (some t108)) else (if a2.toList = ([] : List UInt8) then ((listing_condition.f a1).bind fun t109 => ((listing_join.f (([a0, (⟨#[32]⟩ : ByteArray), t109] : List ByteArray))).bind fun t113 => (some t113))) else ((listing_condition.f a1).bind fun t114 => ((listing_join.f (([a0, (⟨#[32]⟩ : ByteArray), t114, (⟨#[44]⟩ : ByteArray), a2] : List ByteArray))).bind fun t118 => (some t118))))) = some r := by rw [if_neg (show ¬ (false = true) by decide)] at H; exact H
    clear H
    have H := H1
    clear H1
    by_cases c7 : a1 = 4
    ·rw [if_pos c7] at H
     have c7b0 : (a1 == 4) = true := beq_iff_eq.mpr c7
     have c7b1 : (a1 != 4) = false := bne_eq_false_iff_eq.mpr c7
     clear c7
     obtain ⟨y105, hy105⟩ : ∃ y_ : List ByteArray, y_ = (([a0, (⟨#[32]⟩ : ByteArray), a2] : List ByteArray)) := ⟨_, rfl⟩
     replace H : ((listing_join.f y105).bind fun t108 => (some t108)) = some r := by first | (rw [hy105]; with_reducible exact H) | (have H2_ := (Option.bind_some _ _).symm.trans H; rw [hy105]; with_reducible exact H2_) | (have H2_ := (Option.bind_some _ _).symm.trans H; with_reducible exact H2_) | with_reducible exact H | (rw [hy105]; exact H) | exact H
     have Ny105 := Aside0.mk hy105
     clear hy105
     replace H := Option.bind_eq_some_iff.mp H
     obtain ⟨t108, A80, H⟩ := H
     replace H : (some t108) = some r := H
     have A8 := Aside0.mk A80
     clear A80
     obtain rfl := Option.some.inj H
     go_wp2_with (first | ((with_reducible refine gate_dst (N := 20) rfl ?_); refine Kd.R_lit Kd.string _ 9 ?hg (N := 20) ?hd (xs := ([a0, (⟨#[32]⟩ : ByteArray), a2] : List ByteArray)) (inner := [.string a0, .string (⟨#[32]⟩ : ByteArray), .string a2]) (ok := fun _ => True) (okp := fun _ => True) ?hr ?hp (fun _ hk => hk) trivial (Below.refl _ _) (Nat.le_refl _) (by simp) ?_; (case hd => rfl); (case hg => rfl); (case hr => first | (go_simp; done) | (go_simp; rfl)); (case hp => exact (Reps.one (show Kd.M Kd.string _ _ _ a0 [.string a0] from rfl) (Reps.one (show Kd.M Kd.string _ _ _ (⟨#[32]⟩ : ByteArray) [.string (⟨#[32]⟩ : ByteArray)] from rfl) (Reps.one (show Kd.M Kd.string _ _ _ a2 [.string a2] from rfl) (Reps.none _ _))))); intro v106 w9 ho10 hb hg_ hnew_; clear hg_ hnew_; (first | rw [← Ny105.out] at ho10 | (simp only [Int.reduceToNat] at ho10; rw [← Ny105.out] at ho10)); have n0_ := Aside0.mk (Kd.R_lower ho10 (below_size (by repeat (first | (with_reducible first | exact HB.out | apply below_alloc | apply pw_below_drewN | apply below_drew1) | exact HB.out)))); have n1_ := Aside0.mk (below_step (by repeat (first | (with_reducible first | exact HB.out | apply below_alloc | apply pw_below_drewN | apply below_drew1) | exact HB.out)) hb); clear HB; have HO107 := n0_; have HB := n1_; clear n0_ n1_; clear hb ho10; obtain ⟨Ao11, co11, eo11⟩ := Kd.R_slice HO107.out; subst eo11) | ((with_reducible refine gate_callee (f := 37) rfl ?_); refine goesL_ (some 21) rfl rfl Tryd.func37 (by kernel_rfl) rfl #[.slice Ao11 y105.length co11] rfl (by (try simp only [List.map_toArray, List.map_cons, List.map_nil]); first | done | rfl | (simp only [List.length_drop, List.length_take]; rfl)) ?_; (with_reducible refine (listing_join.calls _ _ y105 t108 _ ?side1 ?side2 A8.out).mono ?_); (case side1 => repeat (first | exact (Kd.R_reads' HO107.out).2.2 | (with_reducible refine Kd.C_alloc ?_ _) | (with_reducible refine Kd.C_drewN ?_ _) | (with_reducible refine Kd.C_drew ?_))); (case side2 => exact (Kd.R_reads' HO107.out).2.1); rintro e w12 ⟨rfl, hb⟩; refine ⟨_, rfl, ?_⟩; have n0_ := Aside0.mk (Kd.R_below (by (with_reducible repeat (first | apply Kd.R_alloc | apply Kd.R_drewN | apply Kd.R_drew)); exact HO107.out) hb); have n1_ := Aside0.mk (below_step (by repeat (first | (with_reducible first | exact HB.out | apply below_alloc | apply pw_below_drewN | apply below_drew1) | exact HB.out)) hb); clear HO107; clear HB; have HO107 := n0_; have HB := n1_; clear n0_ n1_; (try clear hb)))
     go_ret
     exact ⟨by first | rfl | (simp [errW_none, errW_some] <;> rfl) | (simp [*, errW_none, errW_some] <;> rfl), by repeat (first | (with_reducible first | exact HB.out | apply below_alloc | apply pw_below_drewN | apply below_drew1) | exact HB.out)⟩
    ·rw [if_neg c7] at H
     have c7b0 : (a1 == 4) = false := beq_eq_false_iff_ne.mpr c7
     have c7b1 : (a1 != 4) = true := bne_iff_ne.mpr c7
     by_cases c13 : a2.toList = ([] : List UInt8)
     ·rw [if_pos c13] at H
      have c13b0 : (a2.toList == ([] : List UInt8)) = true := beq_iff_eq.mpr c13
      have c13b1 : (a2.toList != ([] : List UInt8)) = false := bne_eq_false_iff_eq.mpr c13
      clear c13
      replace H := Option.bind_eq_some_iff.mp H
      obtain ⟨t109, A140, H⟩ := H
      replace H : ((listing_join.f (([a0, (⟨#[32]⟩ : ByteArray), t109] : List ByteArray))).bind fun t113 => (some t113)) = some r := H
      have A14 := Aside0.mk A140
      clear A140
      obtain ⟨y110, hy110⟩ : ∃ y_ : List ByteArray, y_ = (([a0, (⟨#[32]⟩ : ByteArray), t109] : List ByteArray)) := ⟨_, rfl⟩
      replace H : ((listing_join.f y110).bind fun t113 => (some t113)) = some r := by first | (rw [hy110]; with_reducible exact H) | (have H2_ := (Option.bind_some _ _).symm.trans H; rw [hy110]; with_reducible exact H2_) | (have H2_ := (Option.bind_some _ _).symm.trans H; with_reducible exact H2_) | with_reducible exact H | (rw [hy110]; exact H) | exact H
      have Ny110 := Aside0.mk hy110
      clear hy110
      replace H := Option.bind_eq_some_iff.mp H
      obtain ⟨t113, A150, H⟩ := H
      replace H : (some t113) = some r := H
      have A15 := Aside0.mk A150
      clear A150
      obtain rfl := Option.some.inj H
      go_wp2_with (first | ((with_reducible refine gate_callee (f := 64) rfl ?_); refine goesL_ (some 27) rfl rfl Tryd.func64 (by kernel_rfl) rfl #[.int .i64 a1] rfl (by (try simp only [List.map_toArray, List.map_cons, List.map_nil]); first | done | rfl | (simp only [List.length_drop, List.length_take]; rfl)) ?_; (with_reducible refine (listing_condition.calls a1 t109 _ A14.out).mono ?_); rintro e w' ⟨rfl, ⟨nd, rfl⟩⟩; refine ⟨_, rfl, ?_⟩) | ((with_reducible refine gate_dst (N := 28) rfl ?_); refine Kd.R_lit Kd.string _ 9 ?hg (N := 28) ?hd (xs := ([a0, (⟨#[32]⟩ : ByteArray), t109] : List ByteArray)) (inner := [.string a0, .string (⟨#[32]⟩ : ByteArray), .string t109]) (ok := fun _ => True) (okp := fun _ => True) ?hr ?hp (fun _ hk => hk) trivial (Below.refl _ _) (Nat.le_refl _) (by simp) ?_; (case hd => rfl); (case hg => rfl); (case hr => first | (go_simp; done) | (go_simp; rfl)); (case hp => exact (Reps.one (show Kd.M Kd.string _ _ _ a0 [.string a0] from rfl) (Reps.one (show Kd.M Kd.string _ _ _ (⟨#[32]⟩ : ByteArray) [.string (⟨#[32]⟩ : ByteArray)] from rfl) (Reps.one (show Kd.M Kd.string _ _ _ t109 [.string t109] from rfl) (Reps.none _ _))))); intro v111 w16 ho17 hb hg_ hnew_; clear hg_ hnew_; (first | rw [← Ny110.out] at ho17 | (simp only [Int.reduceToNat] at ho17; rw [← Ny110.out] at ho17)); have n0_ := Aside0.mk (Kd.R_lower ho17 (below_size (by repeat (first | (with_reducible first | exact HB.out | apply below_alloc | apply pw_below_drewN | apply below_drew1) | exact HB.out)))); have n1_ := Aside0.mk (below_step (by repeat (first | (with_reducible first | exact HB.out | apply below_alloc | apply pw_below_drewN | apply below_drew1) | exact HB.out)) hb); clear HB; have HO112 := n0_; have HB := n1_; clear n0_ n1_; clear hb ho17; obtain ⟨Ao18, co18, eo18⟩ := Kd.R_slice HO112.out; subst eo18) | ((with_reducible refine gate_callee (f := 37) rfl ?_); refine goesL_ (some 29) rfl rfl Tryd.func37 (by kernel_rfl) rfl #[.slice Ao18 y110.length co18] rfl (by (try simp only [List.map_toArray, List.map_cons, List.map_nil]); first | done | rfl | (simp only [List.length_drop, List.length_take]; rfl)) ?_; (with_reducible refine (listing_join.calls _ _ y110 t113 _ ?side1 ?side2 A15.out).mono ?_); (case side1 => repeat (first | exact (Kd.R_reads' HO112.out).2.2 | (with_reducible refine Kd.C_alloc ?_ _) | (with_reducible refine Kd.C_drewN ?_ _) | (with_reducible refine Kd.C_drew ?_))); (case side2 => exact (Kd.R_reads' HO112.out).2.1); rintro e w19 ⟨rfl, hb⟩; refine ⟨_, rfl, ?_⟩; have n0_ := Aside0.mk (Kd.R_below (by (with_reducible repeat (first | apply Kd.R_alloc | apply Kd.R_drewN | apply Kd.R_drew)); exact HO112.out) hb); have n1_ := Aside0.mk (below_step (by repeat (first | (with_reducible first | exact HB.out | apply below_alloc | apply pw_below_drewN | apply below_drew1) | exact HB.out)) hb); clear HO112; clear HB; have HO112 := n0_; have HB := n1_; clear n0_ n1_; (try clear hb)))
      go_ret
      exact ⟨by first | rfl | (simp [errW_none, errW_some] <;> rfl) | (simp [*, errW_none, errW_some] <;> rfl), by repeat (first | (with_reducible first | exact HB.out | apply below_alloc | apply pw_below_drewN | apply below_drew1) | exact HB.out)⟩
     ·rw [if_neg c13] at H
      have c13b0 : (a2.toList == ([] : List UInt8)) = false := beq_eq_false_iff_ne.mpr c13
      have c13b1 : (a2.toList != ([] : List UInt8)) = true := bne_iff_ne.mpr c13
      replace H := Option.bind_eq_some_iff.mp H
      obtain ⟨t114, A200, H⟩ := H
      replace H : ((listing_join.f (([a0, (⟨#[32]⟩ : ByteArray), t114, (⟨#[44]⟩ : ByteArray), a2] : List ByteArray))).bind fun t118 => (some t118)) = some r := H
      have A20 := Aside0.mk A200
      clear A200
      obtain ⟨y115, hy115⟩ : ∃ y_ : List ByteArray, y_ = (([a0, (⟨#[32]⟩ : ByteArray), t114, (⟨#[44]⟩ : ByteArray), a2] : List ByteArray)) := ⟨_, rfl⟩
      replace H : ((listing_join.f y115).bind fun t118 => (some t118)) = some r := by first | (rw [hy115]; with_reducible exact H) | (have H2_ := (Option.bind_some _ _).symm.trans H; rw [hy115]; with_reducible exact H2_) | (have H2_ := (Option.bind_some _ _).symm.trans H; with_reducible exact H2_) | with_reducible exact H | (rw [hy115]; exact H) | exact H
      have Ny115 := Aside0.mk hy115
      clear hy115
      replace H := Option.bind_eq_some_iff.mp H
      obtain ⟨t118, A210, H⟩ := H
      replace H : (some t118) = some r := H
      have A21 := Aside0.mk A210
      clear A210
      obtain rfl := Option.some.inj H
      go_wp2_with (first | ((with_reducible refine gate_callee (f := 64) rfl ?_); refine goesL_ (some 32) rfl rfl Tryd.func64 (by kernel_rfl) rfl #[.int .i64 a1] rfl (by (try simp only [List.map_toArray, List.map_cons, List.map_nil]); first | done | rfl | (simp only [List.length_drop, List.length_take]; rfl)) ?_; (with_reducible refine (listing_condition.calls a1 t114 _ A20.out).mono ?_); rintro e w' ⟨rfl, ⟨nd, rfl⟩⟩; refine ⟨_, rfl, ?_⟩) | ((with_reducible refine gate_dst (N := 34) rfl ?_); refine Kd.R_lit Kd.string _ 9 ?hg (N := 34) ?hd (xs := ([a0, (⟨#[32]⟩ : ByteArray), t114, (⟨#[44]⟩ : ByteArray), a2] : List ByteArray)) (inner := [.string a0, .string (⟨#[32]⟩ : ByteArray), .string t114, .string (⟨#[44]⟩ : ByteArray), .string a2]) (ok := fun _ => True) (okp := fun _ => True) ?hr ?hp (fun _ hk => hk) trivial (Below.refl _ _) (Nat.le_refl _) (by simp) ?_; (case hd => rfl); (case hg => rfl); (case hr => first | (go_simp; done) | (go_simp; rfl)); (case hp => exact (Reps.one (show Kd.M Kd.string _ _ _ a0 [.string a0] from rfl) (Reps.one (show Kd.M Kd.string _ _ _ (⟨#[32]⟩ : ByteArray) [.string (⟨#[32]⟩ : ByteArray)] from rfl) (Reps.one (show Kd.M Kd.string _ _ _ t114 [.string t114] from rfl) (Reps.one (show Kd.M Kd.string _ _ _ (⟨#[44]⟩ : ByteArray) [.string (⟨#[44]⟩ : ByteArray)] from rfl) (Reps.one (show Kd.M Kd.string _ _ _ a2 [.string a2] from rfl) (Reps.none _ _))))))); intro v116 w22 ho23 hb hg_ hnew_; clear hg_ hnew_; (first | rw [← Ny115.out] at ho23 | (simp only [Int.reduceToNat] at ho23; rw [← Ny115.out] at ho23)); have n0_ := Aside0.mk (Kd.R_lower ho23 (below_size (by repeat (first | (with_reducible first | exact HB.out | apply below_alloc | apply pw_below_drewN | apply below_drew1) | exact HB.out)))); have n1_ := Aside0.mk (below_step (by repeat (first | (with_reducible first | exact HB.out | apply below_alloc | apply pw_below_drewN | apply below_drew1) | exact HB.out)) hb); clear HB; have HO117 := n0_; have HB := n1_; clear n0_ n1_; clear hb ho23; obtain ⟨Ao24, co24, eo24⟩ := Kd.R_slice HO117.out; subst eo24) | ((with_reducible refine gate_callee (f := 37) rfl ?_); refine goesL_ (some 35) rfl rfl Tryd.func37 (by kernel_rfl) rfl #[.slice Ao24 y115.length co24] rfl (by (try simp only [List.map_toArray, List.map_cons, List.map_nil]); first | done | rfl | (simp only [List.length_drop, List.length_take]; rfl)) ?_; (with_reducible refine (listing_join.calls _ _ y115 t118 _ ?side1 ?side2 A21.out).mono ?_); (case side1 => repeat (first | exact (Kd.R_reads' HO117.out).2.2 | (with_reducible refine Kd.C_alloc ?_ _) | (with_reducible refine Kd.C_drewN ?_ _) | (with_reducible refine Kd.C_drew ?_))); (case side2 => exact (Kd.R_reads' HO117.out).2.1); rintro e w25 ⟨rfl, hb⟩; refine ⟨_, rfl, ?_⟩; have n0_ := Aside0.mk (Kd.R_below (by (with_reducible repeat (first | apply Kd.R_alloc | apply Kd.R_drewN | apply Kd.R_drew)); exact HO117.out) hb); have n1_ := Aside0.mk (below_step (by repeat (first | (with_reducible first | exact HB.out | apply below_alloc | apply pw_below_drewN | apply below_drew1) | exact HB.out)) hb); clear HO117; clear HB; have HO117 := n0_; have HB := n1_; clear n0_ n1_; (try clear hb)))
      go_ret
      exact ⟨by first | rfl | (simp [errW_none, errW_some] <;> rfl) | (simp [*, errW_none, errW_some] <;> rfl), by repeat (first | (with_reducible first | exact HB.out | apply below_alloc | apply pw_below_drewN | apply below_drew1) | exact HB.out)⟩

end Go.Proofs.YtpjbfpheenamiaaDoor.PF
-- PRINTED by print.py (a twelfth state) out of the translation. Not trusted: Lean checks it.
namespace Go.Proofs.YtpjbfpheenamiaaDoor.PF
open Go.RowKit Go.Proofs.YtpjbfpheenamiaaDoorW.PrintWords Go.Proofs.YtpjbfpheenamiaaDoorW.PrintLast Go.Proofs.YtpjbfpheenamiaaDoorW.PrintMore
attribute [local go_sem] max2_int min2_int max_two min_two max_three min_three max_four min_four   -- for this text's walks alone
set_option linter.unusedVariables false
set_option linter.unusedSimpArgs false

/-! ### listing_plain: function 39 -/
def listing_plain.f (a0 : Int) : Option (ByteArray) := if a0 = 0 then (some (⟨#[78, 79, 80]⟩ : ByteArray)) else (if a0 = 2 then (some (⟨#[72, 65, 76, 84]⟩ : ByteArray)) else (if a0 = 3 then (some (⟨#[68, 73]⟩ : ByteArray)) else (if a0 = 4 then (some (⟨#[69, 73]⟩ : ByteArray)) else (if a0 = 32 then (some (⟨#[68, 65, 65]⟩ : ByteArray)) else (if a0 = 33 then (some (⟨#[67, 80, 76]⟩ : ByteArray)) else (if a0 = 34 then (some (⟨#[83, 67, 70]⟩ : ByteArray)) else (if a0 = 35 then (some (⟨#[67, 67, 70]⟩ : ByteArray)) else (if a0 = 13 then (some (⟨#[76, 68, 72, 32, 65, 44, 40, 67, 41]⟩ : ByteArray)) else (if a0 = 14 then (some (⟨#[76, 68, 72, 32, 40, 67, 41, 44, 65]⟩ : ByteArray)) else (if a0 = 19 then (some (⟨#[76, 68, 32, 83, 80, 44, 72, 76]⟩ : ByteArray)) else (if a0 = 38 then (some (⟨#[74, 80, 32, 72, 76]⟩ : ByteArray)) else (if a0 = 41 then (some (⟨#[82, 69, 84, 73]⟩ : ByteArray)) else (some (⟨#[]⟩ : ByteArray))))))))))))))
set_option maxHeartbeats 8000000 in
set_option maxRecDepth 100000 in
theorem listing_plain.calls (a0 : Int) (r : ByteArray) (w : World) (h : listing_plain.f a0 = some r) :
  Calls Tryd.prog 39 #[.int .i64 a0] w fun e w' => e = .returned (.string r) ∧ Drawn0 w w' := by
 have H : (if a0 = 0 then (some (⟨#[78, 79, 80]⟩ : ByteArray)) else (if a0 = 2 then (some (⟨#[72, 65, 76, 84]⟩ : ByteArray)) else (if a0 = 3 then (some (⟨#[68, 73]⟩ : ByteArray)) else (if a0 = 4 then (some (⟨#[69, 73]⟩ : ByteArray)) else (if a0 = 32 then (some (⟨#[68, 65, 65]⟩ : ByteArray)) else (if a0 = 33 then (some (⟨#[67, 80, 76]⟩ : ByteArray)) else (if a0 = 34 then (some (⟨#[83, 67, 70]⟩ : ByteArray)) else (if a0 = 35 then (some (⟨#[67, 67, 70]⟩ : ByteArray)) else (if a0 = 13 then (some (⟨#[76, 68, 72, 32, 65, 44, 40, 67, 41]⟩ : ByteArray)) else (if a0 = 14 then (some (⟨#[76, 68, 72, 32, 40, 67, 41, 44, 65]⟩ : ByteArray)) else (if a0 = 19 then (some (⟨#[76, 68, 32, 83, 80, 44, 72, 76]⟩ : ByteArray)) else (if a0 = 38 then (some (⟨#[74, 80, 32, 72, 76]⟩ : ByteArray)) else (if a0 = 41 then (some (⟨#[82, 69, 84, 73]⟩ : ByteArray)) else (some (⟨#[]⟩ : ByteArray))))))))))))))) = some r := h
 clear h
 by_cases c2 : a0 = 0
 ·rw [if_pos c2] at H
  have c2b0 : (a0 == 0) = true := beq_iff_eq.mpr c2
  have c2b1 : (a0 != 0) = false := bne_eq_false_iff_eq.mpr c2
  clear c2
  obtain rfl := Option.some.inj H
  go_enter Tryd.func39, Tryd.ntmps39
  go_wp2
  go_ret
  exact ⟨by first | rfl | (simp; done) | (simp [*]; done), by repeat (first | exact Drawn0.refl _ | apply Drawn0.step)⟩
 ·rw [if_neg c2] at H
  have c2b0 : (a0 == 0) = false := beq_eq_false_iff_ne.mpr c2
  have c2b1 : (a0 != 0) = true := bne_iff_ne.mpr c2
  by_cases c3 : a0 = 2
  ·rw [if_pos c3] at H
   have c3b0 : (a0 == 2) = true := beq_iff_eq.mpr c3
   have c3b1 : (a0 != 2) = false := bne_eq_false_iff_eq.mpr c3
   clear c3
   obtain rfl := Option.some.inj H
   go_enter Tryd.func39, Tryd.ntmps39
   go_wp2
   go_ret
   exact ⟨by first | rfl | (simp; done) | (simp [*]; done), by repeat (first | exact Drawn0.refl _ | apply Drawn0.step)⟩
  ·rw [if_neg c3] at H
   have c3b0 : (a0 == 2) = false := beq_eq_false_iff_ne.mpr c3
   have c3b1 : (a0 != 2) = true := bne_iff_ne.mpr c3
   by_cases c4 : a0 = 3
   ·rw [if_pos c4] at H
    have c4b0 : (a0 == 3) = true := beq_iff_eq.mpr c4
    have c4b1 : (a0 != 3) = false := bne_eq_false_iff_eq.mpr c4
    clear c4
    obtain rfl := Option.some.inj H
    go_enter Tryd.func39, Tryd.ntmps39
    go_wp2
    go_ret
    exact ⟨by first | rfl | (simp; done) | (simp [*]; done), by repeat (first | exact Drawn0.refl _ | apply Drawn0.step)⟩
   ·rw [if_neg c4] at H
    have c4b0 : (a0 == 3) = false := beq_eq_false_iff_ne.mpr c4
    have c4b1 : (a0 != 3) = true := bne_iff_ne.mpr c4
    by_cases c5 : a0 = 4
    ·rw [if_pos c5] at H
     have c5b0 : (a0 == 4) = true := beq_iff_eq.mpr c5
     have c5b1 : (a0 != 4) = false := bne_eq_false_iff_eq.mpr c5
     clear c5
     obtain rfl := Option.some.inj H
     go_enter Tryd.func39, Tryd.ntmps39
     go_wp2
     go_ret
     exact ⟨by first | rfl | (simp; done) | (simp [*]; done), by repeat (first | exact Drawn0.refl _ | apply Drawn0.step)⟩
    ·rw [if_neg c5] at H
     have c5b0 : (a0 == 4) = false := beq_eq_false_iff_ne.mpr c5
     have c5b1 : (a0 != 4) = true := bne_iff_ne.mpr c5
     by_cases c6 : a0 = 32
     ·rw [if_pos c6] at H
      have c6b0 : (a0 == 32) = true := beq_iff_eq.mpr c6
      have c6b1 : (a0 != 32) = false := bne_eq_false_iff_eq.mpr c6
      clear c6
      obtain rfl := Option.some.inj H
      go_enter Tryd.func39, Tryd.ntmps39
      go_wp2
      go_ret
      exact ⟨by first | rfl | (simp; done) | (simp [*]; done), by repeat (first | exact Drawn0.refl _ | apply Drawn0.step)⟩
     ·rw [if_neg c6] at H
      have c6b0 : (a0 == 32) = false := beq_eq_false_iff_ne.mpr c6
      have c6b1 : (a0 != 32) = true := bne_iff_ne.mpr c6
      by_cases c7 : a0 = 33
      ·rw [if_pos c7] at H
       have c7b0 : (a0 == 33) = true := beq_iff_eq.mpr c7
       have c7b1 : (a0 != 33) = false := bne_eq_false_iff_eq.mpr c7
       clear c7
       obtain rfl := Option.some.inj H
       go_enter Tryd.func39, Tryd.ntmps39
       go_wp2
       go_ret
       exact ⟨by first | rfl | (simp; done) | (simp [*]; done), by repeat (first | exact Drawn0.refl _ | apply Drawn0.step)⟩
      ·rw [if_neg c7] at H
       have c7b0 : (a0 == 33) = false := beq_eq_false_iff_ne.mpr c7
       have c7b1 : (a0 != 33) = true := bne_iff_ne.mpr c7
       by_cases c8 : a0 = 34
       ·rw [if_pos c8] at H
        have c8b0 : (a0 == 34) = true := beq_iff_eq.mpr c8
        have c8b1 : (a0 != 34) = false := bne_eq_false_iff_eq.mpr c8
        clear c8
        obtain rfl := Option.some.inj H
        go_enter Tryd.func39, Tryd.ntmps39
        go_wp2
        go_ret
        exact ⟨by first | rfl | (simp; done) | (simp [*]; done), by repeat (first | exact Drawn0.refl _ | apply Drawn0.step)⟩
       ·rw [if_neg c8] at H
        have c8b0 : (a0 == 34) = false := beq_eq_false_iff_ne.mpr c8
        have c8b1 : (a0 != 34) = true := bne_iff_ne.mpr c8
        by_cases c9 : a0 = 35
        ·rw [if_pos c9] at H
         have c9b0 : (a0 == 35) = true := beq_iff_eq.mpr c9
         have c9b1 : (a0 != 35) = false := bne_eq_false_iff_eq.mpr c9
         clear c9
         obtain rfl := Option.some.inj H
         go_enter Tryd.func39, Tryd.ntmps39
         go_wp2
         go_ret
         exact ⟨by first | rfl | (simp; done) | (simp [*]; done), by repeat (first | exact Drawn0.refl _ | apply Drawn0.step)⟩
        ·rw [if_neg c9] at H
         have c9b0 : (a0 == 35) = false := beq_eq_false_iff_ne.mpr c9
         have c9b1 : (a0 != 35) = true := bne_iff_ne.mpr c9
         by_cases c10 : a0 = 13
         ·rw [if_pos c10] at H
          have c10b0 : (a0 == 13) = true := beq_iff_eq.mpr c10
          have c10b1 : (a0 != 13) = false := bne_eq_false_iff_eq.mpr c10
          clear c10
          obtain rfl := Option.some.inj H
          go_enter Tryd.func39, Tryd.ntmps39
          go_wp2
          go_ret
          exact ⟨by first | rfl | (simp; done) | (simp [*]; done), by repeat (first | exact Drawn0.refl _ | apply Drawn0.step)⟩
         ·rw [if_neg c10] at H
          have c10b0 : (a0 == 13) = false := beq_eq_false_iff_ne.mpr c10
          have c10b1 : (a0 != 13) = true := bne_iff_ne.mpr c10
          by_cases c11 : a0 = 14
          ·rw [if_pos c11] at H
           have c11b0 : (a0 == 14) = true := beq_iff_eq.mpr c11
           have c11b1 : (a0 != 14) = false := bne_eq_false_iff_eq.mpr c11
           clear c11
           obtain rfl := Option.some.inj H
           go_enter Tryd.func39, Tryd.ntmps39
           go_wp2
           go_ret
           exact ⟨by first | rfl | (simp; done) | (simp [*]; done), by repeat (first | exact Drawn0.refl _ | apply Drawn0.step)⟩
          ·rw [if_neg c11] at H
           have c11b0 : (a0 == 14) = false := beq_eq_false_iff_ne.mpr c11
           have c11b1 : (a0 != 14) = true := bne_iff_ne.mpr c11
           by_cases c12 : a0 = 19
           ·rw [if_pos c12] at H
            have c12b0 : (a0 == 19) = true := beq_iff_eq.mpr c12
            have c12b1 : (a0 != 19) = false := bne_eq_false_iff_eq.mpr c12
            clear c12
            obtain rfl := Option.some.inj H
            go_enter Tryd.func39, Tryd.ntmps39
            go_wp2
            go_ret
            exact ⟨by first | rfl | (simp; done) | (simp [*]; done), by repeat (first | exact Drawn0.refl _ | apply Drawn0.step)⟩
           ·rw [if_neg c12] at H
            have c12b0 : (a0 == 19) = false := beq_eq_false_iff_ne.mpr c12
            have c12b1 : (a0 != 19) = true := bne_iff_ne.mpr c12
            by_cases c13 : a0 = 38
            ·rw [if_pos c13] at H
             have c13b0 : (a0 == 38) = true := beq_iff_eq.mpr c13
             have c13b1 : (a0 != 38) = false := bne_eq_false_iff_eq.mpr c13
             clear c13
             obtain rfl := Option.some.inj H
             go_enter Tryd.func39, Tryd.ntmps39
             go_wp2
             go_ret
             exact ⟨by first | rfl | (simp; done) | (simp [*]; done), by repeat (first | exact Drawn0.refl _ | apply Drawn0.step)⟩
            ·rw [if_neg c13] at H
             have c13b0 : (a0 == 38) = false := beq_eq_false_iff_ne.mpr c13
             have c13b1 : (a0 != 38) = true := bne_iff_ne.mpr c13
             by_cases c14 : a0 = 41
             ·rw [if_pos c14] at H
              have c14b0 : (a0 == 41) = true := beq_iff_eq.mpr c14
              have c14b1 : (a0 != 41) = false := bne_eq_false_iff_eq.mpr c14
              clear c14
              obtain rfl := Option.some.inj H
              go_enter Tryd.func39, Tryd.ntmps39
              go_wp2
              go_ret
              exact ⟨by first | rfl | (simp; done) | (simp [*]; done), by repeat (first | exact Drawn0.refl _ | apply Drawn0.step)⟩
             ·rw [if_neg c14] at H
              have c14b0 : (a0 == 41) = false := beq_eq_false_iff_ne.mpr c14
              have c14b1 : (a0 != 41) = true := bne_iff_ne.mpr c14
              obtain rfl := Option.some.inj H
              go_enter Tryd.func39, Tryd.ntmps39
              go_wp2
              go_ret
              exact ⟨by first | rfl | (simp; done) | (simp [*]; done), by repeat (first | exact Drawn0.refl _ | apply Drawn0.step)⟩

end Go.Proofs.YtpjbfpheenamiaaDoor.PF
